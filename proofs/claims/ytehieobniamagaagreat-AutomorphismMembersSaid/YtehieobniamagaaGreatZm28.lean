/- What automorphism.Certify gathers: frames, excluded goals. -/
import Derived.Test.YtehieobniamagaaGreatZm27
namespace Go.Proofs.YtehieobniamagaaGreat
open Go.RowKit
set_option linter.all false
set_option maxRecDepth 100000
set_option maxHeartbeats 8000000
def CY(Q:Nat->Prop)(w w':World):Prop:=∀X,¬Q X->X<w.heap.size->w'.heap[X]?=w.heap[X]?
theorem CY.refl(Q:Nat->Prop)(w:World):CY Q w w:=fun _ _ _=>rfl
theorem CY.ex{Q:Nat->Prop}{w w':World}(h:Ex w w'):CY Q w w':=fun X _ hX=>h.block X hX
theorem CY.trans{Q:Nat->Prop}{a b c:World}(h:CY Q a b)(k:CY Q b c)(hs:a.heap.size<=b.heap.size):CY Q a c:=fun X hq hX=>(k X hq (Nat.lt_of_lt_of_le hX hs)).trans (h X hq hX)
theorem CY.mono{Q Q':Nat->Prop}{a b:World}(h:CY Q a b)(hq:∀X,X<a.heap.size->Q X->Q' X):CY Q' a b:=fun X hn hX=>h X (fun hx=>hn (hq X hX hx)) hX
theorem CY.set{Q:Nat->Prop}{a b:World}(h:CY Q a b){p:Addr}(hp:Q p.block)(u:Value):CY Q a (b.setCell p u):=fun X hn hX=>by
 rw[<-h X hn hX];exact Below.heap_setCell _ _ _ _ (fun e=>hn (by rw[e];exact hp))
theorem CY.appd{w w':World}{base:Nat}{e:TypeId}{size n:Nat}{v v':Value}{xs news:List Value}(h:Bt w w' base e size v v' n xs news):CY (fun X=>v.ownBlock=some X) w w':=fun X hn hX=>by
 obtain⟨o,hg⟩:=h.gr;rw[hg.block X aq (fun e=>hn e.symm)];exact Below.heap_alloc _ _ _ hX
theorem CY.cell{Q:Nat->Prop}{w w':World}(h:CY Q w w'){p:Addr}{u:Value}(hc:w.cell? p=some u)(hq:¬Q p.block):w'.cell? p=some u:=by
 rw[World.cell?_of_block (w:=w) (w':=w') (h _ hq (World.block_lt_of_cell? _ _ hc))];exact hc
theorem Sl.offQ{Q:Nat->Prop}{w w':World}{v:Value}{n size:Nat}{xs:List Value}(h:Sl w v n size xs)(hv:0<n->∀q,Q q->v.ownBlock≠some q)(hw:CY Q w w'):Sl w' v n size xs:=by
 obtain⟨k1,a,cap,rfl,k3,k4,k5⟩:=h;refine⟨k1,a,cap,rfl,k3,k4,fun hn=>?_⟩;obtain⟨b,o,rfl,k6⟩:=k5 hn;exact⟨b,o,rfl,fun j x hx=>hw.cell (k6 j x hx) (fun hq=>hv hn b hq rfl)⟩
structure XA(w:World)(q:Nat):Prop where
 c0:w.cell? ⟨q,0,none⟩=some (.int .i64 0)
 c1:w.cell? ⟨q,1,none⟩=some (.slice none 0 0)
 c2:w.cell? ⟨q,2,none⟩=some (.slice none 0 0)
 c3:∀j,3<=j->w.cell? ⟨q,j,none⟩=none
 f0:w.frozen? ⟨q,0,none⟩=false
 f1:w.frozen? ⟨q,1,none⟩=false
 f2:w.frozen? ⟨q,2,none⟩=false
theorem XA.new(w:World):XA (w.alloc (.cells #[.int .i64 0,.slice none 0 0,.slice none 0 0] 53)) w.heap.size:=
 ⟨ag,ag,ag,fun j hj=>by
  obtain⟨i,rfl⟩:∃i,j=i+3:=⟨j-3,ac⟩;simp,ag,ag,ag⟩
theorem XA.ex{w w':World}{b:Nat}(h:XA w b)(hx:Ex w w'):XA w' b:=
 ⟨hx.cell h.c0,hx.cell h.c1,hx.cell h.c2,fun j hj=>(Below.cell hx (show(⟨b,j,none⟩:Addr).block<w.heap.size from(World.block_lt_of_cell? _ (⟨b,0,none⟩:Addr) h.c0:b<w.heap.size))).trans (h.c3 j hj),hx.frz h.c0 h.f0,hx.frz h.c1 h.f1,hx.frz h.c2 h.f2⟩
theorem Kz{w:World}{q:Nat}(hb:XA w q){v:Value}{n size:Nat}{xs:List Value}(h:Sl w v n size xs)(hl:2<=xs.length)(hx:xs[1]?≠some (.slice none 0 0)):v.ownBlock≠some q:=by
 intro e;obtain⟨k1,a,cap,rfl,_,_,k5⟩:=h;have hn:0<n:=by
  exact zcH
 obtain⟨b,o,rfl,k6⟩:=k5 hn;injection e with e;have e:b=q:=e;subst e;have x1:=k6 1 _ (List.getElem?_eq_getElem ac);have h1:xs[1]?=some (xs[1]'ac):=List.getElem?_eq_getElem _;rcases o with _ | _|o
 .rw[show(0:Nat)+1=1 from rfl,hb.c1]at x1;injection x1 with x1;exact hx (by rw[h1,<-x1])
 .rw[show(0:Nat)+1+1=2 from rfl,hb.c2]at x1;injection x1 with x1;exact hx (by rw[h1,<-x1])
 .rw[hb.c3 (o+1+1+1) ac]at x1;cases x1
theorem Er.offQ{Q:Nat->Prop}{w:World}(hQ:∀q,Q q->XA w q){v:Value}{L:List Lv}(h:Er w v L)(hL:∀l∈L,2<=l.orb.length/\2<=l.reps.length/\∀r∈l.reps,2<=r.length){w':World}(hw:CY Q w w'):Er w' v L:=by
 obtain⟨os,k1,k2,k3⟩:=h;have aA:∀ {y:Value} {l:List Int},Aj w y l->2<=l.length->Aj w' y l:=fun {y l} hy hl=>
  Sl.offQ hy (fun _ q hq=>Kz (hQ q hq) hy (by rw[Bb];exact hl) (by
   unfold An;rw[List.getElem?_map]
   cases l[1]? with
   | none=>simp
   | some x=>simp)) hw
 refine⟨os,k1,?_,fun i l o a c=>?_⟩
 .refine Sl.offQ k2 (fun hn q hq=>?_) hw;have hl3:=NG L os k1;refine Kz (hQ q hq) k2 ac (fun e=>?_);have aC:L[0]?=some (L[0]'hn):=List.getElem?_eq_getElem _;have aB:os[0]?=some (os[0]'ac):=List.getElem?_eq_getElem _;obtain⟨-,g1,-⟩:=NH L os 0 _ _ aC aB;rw[show 3*0+1=1 from rfl,e]at g1;injection g1 with g1;obtain⟨b1,-,-⟩:=hL _ (List.getElem_mem hn);obtain⟨-,a,cap,ha,-⟩:=(k3 0 _ _ aC aB).1;rw[<-g1]at ha;injection ha with _ ha;omega
 .obtain⟨g1,vals,g2,g3⟩:=k3 i l o a c;obtain⟨b1,b2,b3⟩:=hL l (List.mem_of_getElem? a);refine⟨aA g1 b1,vals,?_,fun j r y hr hy=>aA (g3 j r y hr hy) (b3 r (List.mem_of_getElem? hr))⟩;have hvl:vals.length=l.reps.length:=by have:=g2.1;omega
  refine Sl.offQ g2 (fun hn q hq=>Kz (hQ q hq) g2 ac (fun e=>?_)) hw;have aD:l.reps[1]?=some (l.reps[1]'ac):=List.getElem?_eq_getElem _;obtain⟨-,a2,c2,h2,-⟩:=g3 1 _ _ aD e;injection h2 with _ h2;have:=b3 _ (List.getElem_mem (show 1<l.reps.length by omega));omega
structure GQ where
 i:Int
 j:Int
 a:Int
 pf:List Rf
def N8:List GQ->List Value->List Value
 | x :: xs,v :: vs=> .int .i64 x.i :: .int .i64 x.j :: .int .i64 x.a :: v :: N8 xs vs
 | _,_=> []
theorem S6:∀(L:List GQ) (os:List Value) (i:Nat) (l:GQ) (o:Value),L[i]?=some l->os[i]?=some o->(N8 L os)[4*i]?=some (.int .i64 l.i)/\(N8 L os)[4*i+1]?=some (.int .i64 l.j)/\(N8 L os)[4*i+2]?=some (.int .i64 l.a)/\(N8 L os)[4*i+3]?=some o
 | l' :: L,o' :: os,0,l,o,h,k=>by
  simp at h k;subst h k;exact⟨rfl,rfl,rfl,rfl⟩
 | l' :: L,o' :: os,i+1,l,o,h,k=>by
  have:=S6 L os i l o az (by simpa using k);rw[show 4*(i+1)=4*i+4 by omega,show 4*i+4+1=4*i+1+4 by omega,show 4*i+4+2=4*i+2+4 by omega,show 4*i+4+3=4*i+3+4 by omega];simpa[N8]using this
 | [],os,i,l,o,h,k=>by simp at h
 | l' :: L, [],i,l,o,h,k=>by simp at k
theorem S7:∀(L:List GQ) (os:List Value) (l:GQ) (o:Value),os.length=L.length->N8 (L ++ [l]) (os ++ [o])=N8 L os ++ [.int .i64 l.i,.int .i64 l.j,.int .i64 l.a,o]
 | [], [],l,o,_=>rfl
 | l' :: L,o' :: os,l,o,h=>by
  have:=S7 L os l o az;simp only[List.cons_append,N8,this]
 | [],o' :: os,l,o,h=>by simp at h
 | l' :: L, [],l,o,h=>by simp at h
def LC(w:World)(v:Value)(xs:List GQ):Prop:=∃evs:List Value,evs.length=xs.length/\Sl w v xs.length 4 (N8 xs evs)/\∀(i:Nat) (x:GQ) (ev:Value),xs[i]?=some x->evs[i]?=some ev->Qy w ev x.pf
theorem LC.ex{w w':World}{v:Value}{L:List GQ}(h:LC w v L)(hx:Ex w w'):LC w' v L:=by
 obtain⟨os,h1,h2,h3⟩:=h;exact⟨os,h1,h2.ex hx,fun i l o a b=>(h3 i l o a b).ex hx⟩
theorem LC.open{w:World}{v:Value}{L:List GQ}(h:LC w v L):∃a cap,v= .slice a L.length cap/\L.length<=cap/\cap<=maxLen/\
  (0<L.length->∃b o,a=some ⟨b,o,none⟩/\∀(i:Nat) (l:GQ),L[i]?=some l->∃u,w.cell? ⟨b,o+4*i,none⟩=some (.int .i64 l.i)/\w.cell? ⟨b,o+(4*i+1),none⟩=some (.int .i64 l.j)/\w.cell? ⟨b,o+(4*i+2),none⟩=some (.int .i64 l.a)/\w.cell? ⟨b,o+(4*i+3),none⟩=some u/\Qy w u l.pf):=by
 obtain⟨os,h1,⟨h2,a,cap,h3,h4,h5,h6⟩,h7⟩:=h;refine⟨a,cap,h3,h4,h5,fun hn=>?_⟩;obtain⟨b,o,h8,h9⟩:=h6 hn;refine⟨b,o,h8,fun i l hl=>?_⟩;have hi:=(List.getElem?_eq_some_iff.1 hl).1;have ho:os[i]?=some (os[i]'ac):=List.getElem?_eq_getElem _;obtain⟨g1,g2,g3,g4⟩:=S6 L os i l _ hl ho;exact⟨_,h9 _ _ g1,h9 _ _ g2,h9 _ _ g3,h9 _ _ g4,h7 i l _ hl ho⟩
def L6(FB:Nat->Prop)(w:World)(v:Value)(es:List Rf):Prop:=∃mvs:List Value,mvs.length=es.length/\Sl w v es.length 4 (Mu es mvs)/\(∀(i:Nat) (e:Rf) (mv:Value),es[i]?=some e->mvs[i]?=some mv->Aj w mv e.msg/\(e.msg≠ []->∀X,mv.ownBlock=some X->¬FB X))/\(es≠ []->∀X,v.ownBlock=some X->¬FB X)
theorem Qu.g{FB:Nat->Prop}{w:World}{v:Value}{es:List Rf}(h:Qu FB w v es):L6 FB w v es:=by
 obtain⟨m,h1,h2,h3,h4⟩:=h;exact⟨m,h1,h2,h3,fun _=>h4⟩
theorem L6.rsl{FB:Nat->Prop}{w:World}{v:Value}{es:List Rf}(h:L6 FB w v es):Qy w v es:=by
 obtain⟨m,h1,h2,h3,_⟩:=h;exact⟨m,h1,h2,fun i e mv a b=>(h3 i e mv a b).1⟩
theorem Sl.blk{w:World}{v:Value}{n size:Nat}{xs:List Value}(h:Sl w v n size xs)(hn:0<xs.length){X:Nat}(hX:v.ownBlock=some X):X<w.heap.size:=by
 obtain⟨k1,a,cap,rfl,_,_,k5⟩:=h;have aA:0<n:=by
  apply Classical.byContradiction;intro h0;have:n=0:=ac;subst this;omega
 obtain⟨b,o,rfl,k6⟩:=k5 aA;injection hX with hX;have hX:b=X:=hX;subst hX;exact(World.block_lt_of_cell? _ _ (k6 0 _ (List.getElem?_eq_getElem hn)):b<w.heap.size)
theorem L6.off{FB FB':Nat->Prop}{w w':World}{v:Value}{es:List Rf}(h:L6 FB w v es)(hw:CY FB w w')(hf:∀X,X<w.heap.size->FB' X->FB X):L6 FB' w' v es:=by
 obtain⟨m,h1,h2,h3,h4⟩:=h;have h2l:=Nr es m h1;refine⟨m,h1,Sl.offQ h2 (fun hn q hq e=>h4 (by intro e2;subst e2;simp at hn) q e hq) hw,fun i e mv a b=>?_,fun aA X hX hF=>?_⟩
 .obtain⟨g1,g2⟩:=h3 i e mv a b;refine⟨Sl.offQ g1 (fun hn q hq e2=>g2 (by intro e3;rw[e3]at hn;simp at hn) q e2 hq) hw,fun aA X hX hF=>?_⟩;exact g2 aA X hX (hf X (Sl.blk g1 (by rw[Bb];exact List.length_pos_iff.2 aA) hX) hF)
 .exact h4 aA X hX (hf X (Sl.blk h2 (by have:=List.length_pos_iff.2 aA;omega) hX) hF)
def Uq(c:AR)(g:Ca):GQ:=⟨g.i,g.j,g.a,IS 0 (gF c g)⟩
def I8(c:AR)(gs:List Ca):List GQ:=gs.map (Uq c)
theorem YU:(Tryz.prog.info? 96).map (fun i=>(i.zero,i.size,i.bytes))=some (some (.agg #[.int .i64 0,.int .i64 0,.int .i64 0,.slice none 0 0]),4,48):=ah
structure Tz(w6 wr:World)(OB RB:Nat)(d:Int)(lv rv:Value)(xs:List GQ)(evs:List Value):Prop where
 off:CY (fun X=>X=OB) w6 wr
 size:w6.heap.size<=wr.heap.size
 ob:OB<w6.heap.size
 rb:RB<w6.heap.size
 b0:wr.cell? ⟨OB,0,none⟩=some (.int .i64 d)
 b1:wr.cell? ⟨OB,1,none⟩=some lv
 b2:wr.cell? ⟨OB,2,none⟩=some rv
 f2:wr.frozen? ⟨OB,2,none⟩=false
 own:wr.ownsRow w6.heap.size 96 4 rv xs.length (N8 xs evs)
 len:evs.length=xs.length
 at_:∀(i:Nat) (x:GQ) (ev:Value),xs[i]?=some x->evs[i]?=some ev->L6 (fun X=>X=OB∨X=RB∨rv.ownBlock=some X) wr ev x.pf
section
variable {w6 wr w':World} {OB RB:Nat} {d:Int} {lv rv v' ev:Value} {xs:List GQ} {evs:List Value}
theorem Tz.later(h:Tz w6 wr OB RB d lv rv xs evs)(hx:Ex wr w'):Tz w6 w' OB RB d lv rv xs evs:=
 ⟨h.off.trans (.ex hx) h.size,Nat.le_trans h.size hx.size,h.ob,h.rb,hx.cell h.b0,hx.cell h.b1,hx.cell h.b2,hx.frz h.b2 h.f2,Ai h.own hx,h.len,fun i x e a b=>(h.at_ i x e a b).off (.ex hx) fun X _ hX=>hX⟩
theorem Tz.no(h:Tz w6 wr OB RB d lv rv xs evs):some OB≠rv.ownBlock/\some RB≠rv.ownBlock:=⟨fun e=>by have:=(h.own.lt OB e.symm).1;have:=h.ob;omega,fun e=>by have:=(h.own.lt RB e.symm).1;have:=h.rb;omega⟩
theorem Tz.app(h:Tz w6 wr OB RB d lv rv xs evs){x:GQ}(he:L6 (fun X=>X=OB∨X=RB∨rv.ownBlock=some X) wr ev x.pf)
  (ha:Bt wr w' w6.heap.size 96 4 rv v' xs.length (N8 xs evs) [.int .i64 x.i,.int .i64 x.j,.int .i64 x.a,ev]):w'.cell? ⟨OB,2,none⟩=some rv/\w'.frozen? ⟨OB,2,none⟩=false/\Tz w6 (w'.setCell ⟨OB,2,none⟩ v') OB RB d lv v' (xs ++ [x]) (evs ++ [ev]):=by
 have aD:=ha.cell h.b2 h.no.1;have aC:=CY.appd ha;have hsz:=ha.grow;have aB:∀X,v'.ownBlock=some X->rv.ownBlock=some X∨wr.heap.size<=X:=fun X hX=>by
  rcases ha.at_ with h1|h1
  .left;rw[<-h1];exact hX
  .right;rw[h1]at hX;injection hX with hX;omega
 have aE:v'.ownBlock≠some OB:=fun e=>by
  rcases aB OB e with h1|h1
  .exact h.no.1 h1.symm
  .have:=h.ob;have:=h.size;omega
 have aA:∀ {e:Value} {es:List Rf},L6 (fun X=>X=OB∨X=RB∨rv.ownBlock=some X) wr e es->L6 (fun X=>X=OB∨X=RB∨v'.ownBlock=some X) (w'.setCell ⟨OB,2,none⟩ v') e es:=fun {e es} hr=>
  hr.off ((aC.mono fun X _ hX=> .inr (.inr hX)).set (p:=⟨OB,2,none⟩) (.inl rfl) _) fun X hX hF=>by
   rcases hF with hF|hF|hF
   .exact .inl hF
   .exact .inr (.inl hF)
   .rcases aB X hF with h1|h1
    .exact .inr (.inr h1)
    .omega
 refine⟨aD,ha.frz h.b2 h.f2 h.no.1,?_,?_,h.ob,h.rb,?_,?_,World.cell?_setCell_same _ _ _ aD,?_,?_,by simp[h.len],fun i y e a b=>?_⟩
 .refine CY.set (Q:=fun X=>X=OB) ?_ (p:=⟨OB,2,none⟩) rfl _;intro X hn hX;rw[aC X (fun e=>by have:=(h.own.lt X e).1;omega) (Nat.lt_of_lt_of_le hX h.size)];exact h.off X hn hX
 .have:=h.size;simp;omega
 .rw[Ag ae];exact ha.cell h.b0 h.no.1
 .rw[Ag ae];exact ha.cell h.b1 h.no.1
 .rw[Ax];exact ha.frz h.b2 h.f2 h.no.1
 .have:=Ac (a:=⟨OB,2,none⟩) ha.own aE v';rw[S7 xs evs x ev h.len,List.length_append];exact this
 .by_cases hi:i<xs.length
  .rw[List.getElem?_append_left hi]at a;rw[List.getElem?_append_left ee]at b;exact aA (h.at_ i y e a b)
  .have aF:i=xs.length:=by
    exact zc4
   subst aF;rw[List.getElem?_append_right (Nat.le_refl _)]at a;rw[List.getElem?_append_right (by rw[h.len];exact Nat.le_refl _),h.len]at b;simp at a b;subst a b;exact aA he
end
theorem Tz.start{w4:World}{OB RB:Nat}{d:Int}{lv:Value}(ho:XA w4 OB)(hr:RB<w4.heap.size):Tz w4 ((w4.setCell ⟨OB,0,none⟩ (.int .i64 d)).setCell ⟨OB,1,none⟩ lv) OB RB d lv (.slice none 0 0) [] []:=
 ⟨CY.set (Q:=fun X=>X=OB) (CY.set (Q:=fun X=>X=OB) (CY.refl _ _) (p:=⟨OB,0,none⟩) rfl _) (p:=⟨OB,1,none⟩) rfl _,ag,(World.block_lt_of_cell? _ (⟨OB,0,none⟩:Addr) ho.c0:OB<w4.heap.size),hr,
  by rw[Ag ae];exact World.cell?_setCell_same _ _ _ ho.c0,World.cell?_setCell_same _ _ _ ((Ag ae).trans ho.c1),by rw[Ag ae,Ag ae];exact ho.c2,by rw[Ax,Ax];exact ho.f2,
  World.ownsRow_nil _ _ _ _,rfl,fun i x e h=>by simp at h⟩
theorem Kf{w:World}{q:Nat}(u v z:Value):CY (fun X=>X=q) w (((w.setCell ⟨q,0,none⟩ u).setCell ⟨q,1,none⟩ v).setCell ⟨q,2,none⟩ z):=
 CY.set (Q:=fun X=>X=q) (CY.set (Q:=fun X=>X=q) (CY.set (Q:=fun X=>X=q) (CY.refl _ _) (p:=⟨q,0,none⟩) rfl _) (p:=⟨q,1,none⟩) rfl _) (p:=⟨q,2,none⟩) rfl _
theorem Tz.fin{w6 wr:World}{OB RB:Nat}{d:Int}{lv rv:Value}{xs:List GQ}{evs:List Value}(h:Tz w6 wr OB RB d lv rv xs evs)(u v z:Value):LC (((wr.setCell ⟨RB,0,none⟩ u).setCell ⟨RB,1,none⟩ v).setCell ⟨RB,2,none⟩ z) rv xs:=
 ⟨evs,h.len,Sl.offQ (Q:=fun X=>X=RB) (Sl.own h.own) (fun _ q hq e=>by subst hq;exact h.no.2 e.symm) (Kf u v z),fun i x e a b=>
  ((h.at_ i x e a b).off (FB':=fun _=>False) ((Kf u v z).mono fun X _ hX=> .inr (.inl hX)) fun X _ hX=>hX.elim).rsl⟩
noncomputable def Ll(c:AR):Chn × Int:=Da (ED c:Int) (Ek c.p.toNat c.m.toNat c.ml (CZ c (AD c)))
noncomputable def Xw(c:AR)(e0:Int):Int:=if JF c e0≠0 then JF c e0 else(Ll c).2
def CeO(c:AR)(r:Ending)(w':World):Prop:=∃e0:Int,BL c.p c.m c.ml c.n c.rows e0/\
 ((Xw c e0≠0/\r= .returned (.tuple #[.agg #[.int .i64 0,.slice none 0 0,.slice none 0 0],.int .i64 (Xw c e0)]))∨
 (Xw c e0=0/\∃lv rv,r= .returned (.tuple #[.agg #[.int .i64 (Ll c).1.deg,lv,rv],.int .i64 0])/\Er w' lv (Ll c).1.lev/\LC w' rv (I8 c (Js c (AD c)))))
theorem di{P:Prop}(h:P:=by simp[results,Tryz.results32,go_sem,q0,q1,q2]):P:=h
theorem Ml(w:World)(c:AR)(m1 v1:Value)(hc:c.at w m1 v1)(aJ:(CZ c (AD c)).length<=1000)(cP:(Js c (AD c)).length<=1000)(cQ:∀M∈CZ c (AD c),L9 c.n.toNat M)(cO:∀g∈Js c (AD c),IT 0 (gF c g)=0):
  Calls Tryz.prog 32 #[c.arg m1 v1] w fun r w'=>CeO c r w'/\Ex w w':=by
 obtain⟨c0,c1,c2,c3,c4⟩:=CH w c m1 v1;have aX:=AH w (c.obj m1 v1);have bO:=Aa (hc.ex aX);have bE:=Aa aX;obtain⟨x1,y1,cL,-,z1,-⟩:=hc.g.open;obtain⟨x3,y3,cK,-,z3,-⟩:=hc.m.open;unfold maxLen at z1 z3;obtain⟨B,hB⟩:=nA w.heap.size;have cM:(w.alloc (c.obj m1 v1)).heap.size=B+1:=by simp[hB]
 have bC:=XA.new (w.alloc (c.obj m1 v1));have aF:Ex (w.alloc (c.obj m1 v1)) ((w.alloc (c.obj m1 v1)).alloc (.cells #[.int .i64 0,.slice none 0 0,.slice none 0 0] 53)):=(Ex.refl _).alloc _;have aO:=Aa (IM ((w.alloc (c.obj m1 v1)).alloc (.cells #[.int .i64 0,.slice none 0 0,.slice none 0 0] 53)) c m1 v1 (hc.ex (aX.trans aF)));have aP:=Aa (fun (w5:World) (h5:Ex (w.alloc (c.obj m1 v1)) w5) (g:Ca) (u r:Value) (hu:Aj w5 u g.tl) (hr:Aj w5 r g.sl) (FB:Nat->Prop) (h1:∀X,FB X->X<w5.heap.size) (h2:∀X,u.ownBlock=some X->¬FB X) (h3:∀X,r.ownBlock=some X->¬FB X)=>Qs w5 c c m1 m1 v1 v1 (bO.o.ex h5) (bO.o.ex h5) g.tl g.sl u r hu hr FB h1 (fun _=>h2) (fun _=>h3));rw[cM]at bC;rw[hB]at c0 c1 c2 c3 c4;replace c0:=aF.cell c0;replace c1:=aF.cell c1;replace c2:=aF.cell c2;replace c3:=aF.cell c3;replace c4:=aF.cell c4;obtain⟨bX,aC,bW,bP,aB⟩:=Of aF cM (aX.trans aF) bC (show((w.alloc (c.obj m1 v1)).alloc (.cells #[.int .i64 0,.slice none 0 0,.slice none 0 0] 53)).heap.size=B+1+1 from by simp[hB]);obtain⟨C,hC⟩:∃C:AR,C=c:=⟨_,rfl⟩;have dF:=Aa hC;have cY:=Aa (show ∀r w',CeO C r w'->CeO c r w' from fun r w' h=>by rw[<-hC];exact h);rw[<-hC]at aJ cQ cP cO;obtain⟨cp,cm,aR,cn,bV⟩:=c;unfold AR.arg at aO aP ⊢;unfold AR.obj at bE aC bW bX aO aP bP aB bO c0 c1 c2 c3 c4;dsimp only at bE aC bW bX aO aP bP aB bO c0 c1 c2 c3 c4 cL cK ⊢;rw[cL,cK]at bE aC bW bX aO aP bP aB c0 c1 c2 c3 c4 ⊢;rw[<-hC]at aO aP;obtain⟨eS,bZ,eR,dX⟩:=Eq aJ cP cQ cO;clear hc aX hC cL cK aF bC cM aJ cP cQ cO bO;have dB:=Aa (show w.heap.size<=B+1 from ac);go_enter Tryz.func32,Tryz.ntmps32
 go_upto_region 1 with fail
 try simp only[hB]
 clear hB;generalize w.alloc (.cells #[.int .i64 cp,.int .i64 cm,.slice x3 aR.length y3,.int .i64 cn,.slice x1 bV.length y1] 39)=wa at *;generalize wa.alloc (.cells #[.int .i64 0,.slice none 0 0,.slice none 0 0] 53)=w1 at *;go_wp2_with fail
 refine aO.o.mono ?_;rintro e w2⟨aZ,aD⟩;have bY:=Aa aD;obtain⟨e0,dN,ho⟩:=QP aZ;have cA:=Aa dN;replace c0:=aD.cell c0;replace c1:=aD.cell c1;replace c2:=aD.cell c2;replace c3:=aD.cell c3;replace c4:=aD.cell c4;obtain⟨q0,q1,q2,q3,cH,cG,cF⟩:=bP.o.ex aD;obtain⟨GE,cV⟩:∃x,JF C e0=x:=⟨_,rfl⟩;rw[cV]at ho;have dC:=Aa cV;clear aZ aD dN aO cV;rcases ho with⟨h0,rfl⟩|⟨h0,bC,pn,mn,N,b,x0,mv,nv,hp,hm,hn,hN1,hN64,hD,rfl,hg,hx1,aD,hms,hns⟩
 .have hb:(GE !=0)=true:=by simpa using h0
  have HZ:=Aa (show Xw C e0=GE/\GE≠0 from by unfold Xw;rw[dC.o,if_pos h0];exact⟨rfl,h0⟩);clear h0;go_wp2_with fail
  exact bodyPost_ret (v:= .tuple #[.agg #[.int .i64 0,.slice none 0 0,.slice none 0 0],.int .i64 GE]) di rfl ⟨cY.o _ _ ⟨e0,cA.o,.inl ⟨by rw[HZ.o.1];exact HZ.o.2,by rw[HZ.o.1]⟩⟩,Ch (bW.o.trans bY.o) dB.o _ _ _⟩
 .subst h0;have eM:cn=(N:Int):=by have:=dF.o;rw[this]at hn;exact hn
  subst eM;have eX:=Aa (show e0=0 from by
   have h1:=dC.o;unfold JF at h1;split at h1
   .rename_i h2;exact absurd h1 h2
   .rename_i h2;have h3:IE C e0=0:=by simpa using h2
    unfold IE at h3;split at h3
    .exact h3
    .rename_i h4;simpa using h4)
  have bI:=Aa (show C.p=pn/\C.m=mn/\C.n=N from⟨hp,hm,hn⟩);have eQ:=Aa (show C.n.toNat=N from by rw[hn];rfl);have dI:=Aa (show Ll C=Da ((N*(pn^mn-1):Nat):Int) (Ek pn mn C.ml (CZ C (AD C))) from by unfold Ll ED;rw[hp,hm,hn];rfl);have eA:=Aa (fun (w5:World) (h5:Ex w2 w5)=>Jy w5 (hg.ex h5) N hN64 hD (CZ C (AD C)) mv (hms.ex h5) (fun M hM=>by have:=eR.o M hM;rwa[eQ.o]at this) eS.o);have cX:=Aa (show Xw C e0=(Ll C).2 from by unfold Xw;rw[dC.o,if_neg ag]);obtain⟨ma,mc,rfl,-,-,-⟩:=hms.open;obtain⟨na,nc,rfl,-,zn,n3⟩:=hns.open;unfold maxLen at zn;obtain⟨BS,cW⟩:∃x,Ll C=x:=⟨_,rfl⟩;have eF:=Aa cW;rw[cW]at cX dI;obtain⟨⟨bd,bl⟩,be⟩:=BS;obtain⟨LM,cU⟩:∃x,(CZ C (AD C)).length=x:=⟨_,rfl⟩;have dH:=Aa (show ∀w5,Ex w2 w5->Calls Tryz.prog 64 #[.pointer (some ⟨b,0,none⟩),.int .i64 (N:Int),.slice ma LM mc] w5 fun r w'=>(∃v,r= .returned (.tuple #[.agg #[.int .i64 bd,v],.int .i64 be])/\Er w' v bl)/\Ex w5 w' from fun w5 h5=>by
   rw[<-cU];exact(eA.o w5 h5).mono (by
    rintro r w'⟨⟨v,h1,h2⟩,h3⟩;rw[<-dI.o]at h1 h2;exact⟨⟨v,h1,h2⟩,h3⟩))
  have eH:=Aa (show ∀l∈bl,2<=l.orb.length/\2<=l.reps.length/\∀r∈l.reps,2<=r.length from fun l hl=>Lk (n:=((N*(pn^mn-1):Nat):Int)) (rows:=Ek pn mn C.ml (CZ C (AD C))) (by rw[<-dI.o];exact hl));obtain⟨NS,cS⟩:∃x,Js C (AD C)=x:=⟨_,rfl⟩;have dY:=Aa cS;rw[cS]at n3 bZ dX ⊢;obtain⟨LN,cT⟩:∃x,NS.length=x:=⟨_,rfl⟩;have dZ:=Aa cT;rw[cT]at n3 bZ ⊢;have N3:=Aa n3;rw[cU];have cZ:=Aa (show ∀(w5:World) (h5:Ex wa w5) (g:Ca) (u r:Value),g∈NS->Aj w5 u g.tl->Aj w5 r g.sl->∀(FB:Nat->Prop),(∀X,FB X->X<w5.heap.size)->(∀X,u.ownBlock=some X->¬FB X)->(∀X,r.ownBlock=some X->¬FB X)->Calls Tryz.prog 83 #[.agg #[.int .i64 cp,.int .i64 cm,.slice x3 aR.length y3,.int .i64 N,.slice x1 bV.length y1],.agg #[.int .i64 cp,.int .i64 cm,.slice x3 aR.length y3,.int .i64 N,.slice x1 bV.length y1],.agg #[u,r]] w5 fun r' w'=>RfF FB (IS 0 (gF C g)) 0 r' w'/\Ex w5 w' from fun w5 h5 g u r bA hu hr FB h1 h2 h3=>by
   refine(aP.o w5 h5 g u r hu hr FB h1 h2 h3).mono ?_;rintro r' w'⟨⟨e1,e2,k1,k2,k3⟩,k4⟩;refine⟨?_,k4⟩;have hz:=eX.o;have bB:BL cp cm aR N bV 0:=by have h1:=cA.o;rw[dF.o,hz]at h1;exact h1
   obtain rfl:e1=0:=Cc k1 bB;obtain rfl:e2=0:=Cc (k2 rfl) bB;have dK:=bI.o.1;have dL:=bI.o.2.1;rw[dF.o]at dK dL;have eK:g∈Ds N (pn^mn):=by
    rw[<-dY.o]at bA;unfold Js AD at bA;rw[bI.o.1,bI.o.2.1,bI.o.2.2]at bA;exact(List.mem_filter.1 bA).1
   have BA:F4 0 0 (Cz cp cm aR cp cm aR) N N g.tl g.sl (cp.toNat^cm.toNat)=0:=Rt (N:=N) rfl (q:=cp.toNat^cm.toNat) (by
    have h1:cp=pn:=dK;have h2:cm=mn:=dL;rw[h1,h2];exact Io eK)
   rw[BA]at k3;have eI:=dX.o g bA;have:Gs C C g.tl g.sl=gF C g:=rfl;rw[this,eI]at k3;exact k3)
  clear bC hp hm hn hN1 hN64 hD hg hx1 aD hms hns cW cU eA n3 cS cT aP;obtain⟨OB,bU⟩:∃x,w2.heap.size=x:=⟨_,rfl⟩;have bg:=XA.new w2;rw[bU]at bg;have bN:=Aa (show Ex w2 (w2.alloc (.cells #[.int .i64 0,.slice none 0 0,.slice none 0 0] 53)) from(Ex.refl w2).alloc _);have dG:=Aa bg;go_upto_region 5 with fail
  try simp only[bU]
  have bJ:=Aa bU;clear bU bg;generalize w2.alloc (.cells #[.int .i64 0,.slice none 0 0,.slice none 0 0] 53)=w3 at *;replace c3:=bN.o.cell c3;obtain⟨t0,t1,t2,t3,cE,cD,cC⟩:=dG.o;go_upto_region 6 with (go_at_call 64;refine(dH.o w3 bN.o).mono ?_;rintro e w6⟨⟨v6,rfl,cJ⟩,cI⟩;obtain⟨la,lc,eJ,_,_,_⟩:=cJ.open;subst eJ;clear t0 t1 t2 t3 cE cD cC;obtain⟨t0,t1,t2,t3,cE,cD,cC⟩:=dG.o.ex cI;have dT:=Aa cJ;have bG:=Aa cI;clear cJ cI)
  have dD:=Aa (dG.o.ex bG.o);have aI:=Aa (bP.o.ex (bY.o.trans (bN.o.trans bG.o)));have dJ:B+1<w6.heap.size:=(World.block_lt_of_cell? _ (⟨B+1,0,none⟩:Addr) aI.o.c0);have cB:=Aa (Tz.start (RB:=B+1) (d:=bd) (lv:= .slice la bl.length lc) dD.o dJ);have aT:=Aa (show B+1<OB from by have:=bY.o.size;have:=aB.o;have:=bJ.o;omega);have aS:=Aa (show Ex wa ((w6.setCell ⟨OB,0,none⟩ (.int .i64 bd)).setCell ⟨OB,1,none⟩ (.slice la bl.length lc)) from JK (bX.o.trans (bY.o.trans (bN.o.trans bG.o))) (by have:=aT.o;have:=aC.o;omega) _ _);have bH:=Aa (bN.o.trans bG.o);clear t0 t1 t2 t3 cE cD cC q0 q1 q2 q3 cH cG cF dJ;obtain⟨w7,bR⟩:∃x,(w6.setCell ⟨OB,0,none⟩ (.int .i64 bd)).setCell ⟨OB,1,none⟩ (.slice la bl.length lc)=x:=⟨_,rfl⟩;rw[bR]at cB aS;have dE:=Aa (show w7.frozen? ⟨B+1,0,none⟩=false/\w7.frozen? ⟨B+1,1,none⟩=false/\w7.frozen? ⟨B+1,2,none⟩=false from by rw[<-bR];exact⟨by rw[Ax,Ax];exact aI.o.f0,by rw[Ax,Ax];exact aI.o.f1,by rw[Ax,Ax];exact aI.o.f2⟩)
  try simp only[bR]
  clear bR;have dA:=Aa (show ∀w',CY (fun X=>X=OB) w6 w'->w'.cell? ⟨B+1,0,none⟩=some (.int .i64 0)/\w'.cell? ⟨B+1,1,none⟩=some (.slice none 0 0)/\w'.cell? ⟨B+1,2,none⟩=some (.slice none 0 0) from fun w' h=>
   ⟨h.cell aI.o.c0 (by show ¬B+1=OB;have:=aT.o;omega),h.cell aI.o.c1 (by show ¬B+1=OB;have:=aT.o;omega),h.cell aI.o.c2 (by show ¬B+1=OB;have:=aT.o;omega)⟩)
  by_cases hbe:be=0
  rotate_left
  .have hb:(be !=0)=true:=by simpa using hbe
   have HZ:=Aa (show Xw C e0=be/\be≠0 from⟨cX.o,hbe⟩);obtain⟨q0,q1,q2⟩:=dA.o w7 cB.o.off;obtain⟨cH,cG,cF⟩:=dE.o;clear hbe;go_wp2_with fail
   exact bodyPost_ret (v:= .tuple #[.agg #[.int .i64 0,.slice none 0 0,.slice none 0 0],.int .i64 be]) di rfl ⟨cY.o _ _ ⟨e0,cA.o,.inl ⟨by rw[HZ.o.1];exact HZ.o.2,by rw[HZ.o.1]⟩⟩,Ch (bE.o.trans aS.o) dB.o _ _ _⟩
  .subst hbe;go_wp2_with fail
   go_loopw [39] (fun k' wr=>∃(k:Nat) (rv:Value) (evs:List Value),k<=LN/\k'= .int .i64 k/\Hia (Tz w6 wr OB (B+1) bd (.slice la bl.length lc) rv (I8 C (NS.take k)) evs)/\Hia (Ex wa wr)/\Hia (wr.frozen? ⟨B+1,0,none⟩=false/\wr.frozen? ⟨B+1,1,none⟩=false/\wr.frozen? ⟨B+1,2,none⟩=false)) (fun k' _=>LN-(intOf k').toNat)
   case atStart=>exact⟨0,_, [],ac,rfl,cB,aS,dE⟩
   case round=>
    clear cB aS dE;obtain⟨k,rv,evs,hk,rfl,aK,bQ,bT⟩:=hrel;obtain⟨ra,rc,rfl⟩:=Ae aK.o.own;by_cases hkl:k<LN
    .have aA:=Aa aK.o;have dR:=Aa bQ.o;have eW:=Aa bT.o;have aG:=Aa (show ∀(q:Addr) (u:Value),w2.cell? q=some u->wr.cell? q=some u from fun q u h=>aA.o.off.cell (bH.o.cell h) (fun e=>by
      have h1:q.block<w2.heap.size:=World.block_lt_of_cell? _ _ h;have h2:q.block=OB:=e;have:=bJ.o;omega))
     have eB:=Aa (show ∀(v:Value) (l:List Int),Aj w2 v l->0<l.length->Aj wr v l from fun v l h hl=>Sl.offQ (h.ex bH.o) (fun _ q hq e=>by
      have h1:=Sl.blk h (by rw[Bb];exact hl) e;have h2:q=OB:=hq;have:=bJ.o;omega) aA.o.off)
     obtain⟨gb,go,rfl,dM⟩:=N3.o ac;obtain⟨g,hg⟩:∃g,NS[k]?=some g:=⟨_,List.getElem?_eq_getElem (by rw[dZ.o];exact hkl)⟩;obtain⟨u,r,d0,d1,d2,d3,d4,hu,bS,dO,dP⟩:=dM k g hg;obtain⟨eV,eU,eE,eG,HU,dW⟩:=To hg (List.mem_of_getElem? hg) (show ∀X,u.ownBlock=some X->B+1<X/\X<OB from fun X e=>⟨by have:=dO X e;have:=aB.o;omega,by have:=Sl.blk hu (by rw[Bb,AK];omega) e;have:=bJ.o;omega⟩) (show ∀X,r.ownBlock=some X->B+1<X/\X<OB from fun X e=>⟨by have:=dP X e;have:=aB.o;omega,by have:=Sl.blk bS (by rw[Bb,BG];omega) e;have:=bJ.o;omega⟩) (eB.o _ _ hu (by rw[AK];omega)) (eB.o _ _ bS (by rw[BG];omega));obtain⟨ua,uc,rfl,-,-,-⟩:=hu.open;obtain⟨qa,qc,rfl,-,-,-⟩:=bS.open;rw[AK]at d3 HU eE;rw[BG]at d4 dW eG;replace d0:=aG.o _ _ d0;replace d1:=aG.o _ _ d1;replace d2:=aG.o _ _ d2;replace d3:=aG.o _ _ d3;replace d4:=aG.o _ _ d4;rw[show go+5*k=go+k*5 from ac]at d0;rw[show go+(5*k+1)=go+k*5+1 from ac]at d1;rw[show go+(5*k+2)=go+k*5+2 from ac]at d2;rw[show go+(5*k+3)=go+k*5+3 from ac]at d3;rw[show go+(5*k+4)=go+k*5+4 from ac]at d4;have k0:=aG.o _ _ c0;have k1:=aG.o _ _ c1;have k2:=aG.o _ _ c2;have k4:=aG.o _ _ c4;have k3:=aA.o.off.cell ((bG.o).cell c3) (show ¬B=OB from by have:=aT.o;omega);have i1:(0:Int)<=(k:Int):=by omega
     have i2:(k:Int)<(LN:Int):=ac;have bM:=Aa hkl;clear aK bQ bT hg dM hu bS dO dP hkl;go_upto_region 11 with fail
     obtain⟨XB,aM⟩:∃x,wr.heap.size=x:=⟨_,rfl⟩;have x3:(wr.alloc (.cells #[.int .i64 g.i,.int .i64 g.j,.int .i64 g.a,.slice ua (g.i+1) uc,.slice qa (g.i+1) qc] 129)).cell? ⟨XB,3,none⟩=some (.slice ua (g.i+1) uc):=by rw[<-aM];simp
     have x4:(wr.alloc (.cells #[.int .i64 g.i,.int .i64 g.j,.int .i64 g.a,.slice ua (g.i+1) uc,.slice qa (g.i+1) qc] 129)).cell? ⟨XB,4,none⟩=some (.slice qa (g.i+1) qc):=by rw[<-aM];simp
     have aW:(wr.alloc (.cells #[.int .i64 g.i,.int .i64 g.j,.int .i64 g.a,.slice ua (g.i+1) uc,.slice qa (g.i+1) qc] 129)).cell? ⟨XB,0,none⟩=some (.int .i64 g.i):=by rw[<-aM];simp
     have aV:(wr.alloc (.cells #[.int .i64 g.i,.int .i64 g.j,.int .i64 g.a,.slice ua (g.i+1) uc,.slice qa (g.i+1) qc] 129)).cell? ⟨XB,1,none⟩=some (.int .i64 g.j):=by rw[<-aM];simp
     have aU:(wr.alloc (.cells #[.int .i64 g.i,.int .i64 g.j,.int .i64 g.a,.slice ua (g.i+1) uc,.slice qa (g.i+1) qc] 129)).cell? ⟨XB,2,none⟩=some (.int .i64 g.a):=by rw[<-aM];simp
     have aE:=Aa (show Ex wr (wr.alloc (.cells #[.int .i64 g.i,.int .i64 g.j,.int .i64 g.a,.slice ua (g.i+1) uc,.slice qa (g.i+1) qc] 129)) from(Ex.refl wr).alloc _)
     try simp only[aM]
     clear aM d0 d1 d2 d3 d4 i1 i2;generalize wr.alloc (.cells #[.int .i64 g.i,.int .i64 g.j,.int .i64 g.a,.slice ua (g.i+1) uc,.slice qa (g.i+1) qc] 129)=w5 at *;replace k0:=aE.o.cell k0;replace k1:=aE.o.cell k1;replace k2:=aE.o.cell k2;replace k3:=aE.o.cell k3;replace k4:=aE.o.cell k4;obtain⟨LE,aN⟩:∃x,(I8 C (NS.take k)).length=x:=⟨_,rfl⟩;have bL:=Aa (show LE<=1000 from by
      rw[<-aN];have:=bZ.o;have:=bM.o;unfold I8;rw[List.length_map,List.length_take];omega)
     have bK:=Aa aN;rw[aN]at aA;have eC:=Aa (cZ.o w5 (dR.o.trans aE.o) g _ _ eU.o (HU.o.ex aE.o) (dW.o.ex aE.o) (fun X=>X=OB∨X=B+1∨(Value.slice ra LE rc).ownBlock=some X)
      (fun X hX=>by
       have h1:=aE.o.size;have h2:=aA.o.size;have h3:=aA.o.ob;have h4:=aA.o.rb;rcases hX with hX|hX|hX
       .omega
       .omega
       .have:=(aA.o.own.lt X hX).2;omega)
      (fun X e hX=>by
       have h3:=aA.o.ob;obtain⟨h1,h2⟩:=eE.o X e;rcases hX with hX|hX|hX
       .omega
       .omega
       .have:=(aA.o.own.lt X hX).1;omega)
      (fun X e hX=>by
       have h3:=aA.o.ob;obtain⟨h1,h2⟩:=eG.o X e;rcases hX with hX|hX|hX
       .omega
       .omega
       .have:=(aA.o.own.lt X hX).1;omega))
     clear aN;go_wp2_with fail
     refine eC.o.mono ?_;rintro e w9⟨⟨ev,rfl,cN⟩,aY⟩;have dV:=Aa cN;obtain⟨-,-,⟨-,ea,ec,eL,-⟩,-⟩:=cN.g.rsl;subst eL;obtain⟨LP,dQ⟩:∃x,(IS 0 (gF C g)).length=x:=⟨_,rfl⟩;rw[dQ]at dV ⊢;replace aW:=aY.cell aW;replace aV:=aY.cell aV;replace aU:=aY.cell aU;have bF:=Aa (show Ex w9 (w9.alloc (.cells #[.slice ea LP ec] 94)) from(Ex.refl w9).alloc _);have t0:(w9.alloc (.cells #[.slice ea LP ec] 94)).cell? ⟨w9.heap.size,0,none⟩=some (.slice ea LP ec):=ag;obtain⟨TB,cR⟩:∃x,w9.heap.size=x:=⟨_,rfl⟩;rw[cR]at t0;have aH:=Aa (aE.o.trans (aY.trans bF.o));replace aW:=bF.o.cell aW;replace aV:=bF.o.cell aV;replace aU:=bF.o.cell aU;have eO:=Aa (dV.o.g.off (.ex bF.o) fun X _ hX=>hX);clear cN dQ aY eC k0 k1 k2 k3 k4 x3 x4;go_upto_region 12 with fail
     try simp only[cR]
     clear cR;generalize w9.alloc (.cells #[.slice ea LP ec] 94)=w10 at *;have aQ:=Aa (aA.o.later aH.o);have b2:=aQ.o.b2;have eP:=Aa (show w10.ownsRow w6.heap.size 96 4 (.slice ra LE rc) LE (N8 (I8 C (NS.take k)) evs) from by have:=aQ.o.own;rwa[bK.o]at this);have eN:=Aa aQ.o.size;have hk64:k<=1048576:=by have:=bM.o;have:=bZ.o;omega
     go_wp2_with (at_builtin;refine Al _ rfl _ _ 51 rfl w6.heap.size 96 (.agg #[.int .i64 0,.int .i64 0,.int .i64 0,.slice none 0 0]) 4 48 Tryz.underlying51 YU rfl ae _ LE _ rfl eP.o [.int .i64 (g.i:Int),.int .i64 (g.j:Int),.int .i64 (g.a:Int),.slice ea LP ec] 96 _ rfl ag rfl aj (by have:=bL.o;unfold maxLen;omega) (by have:=bL.o;omega) eN.o ?_)
     intro v8 w8 aL;have bD:Bt w10 w8 w6.heap.size 96 4 (.slice ra LE rc) v8 (I8 C (NS.take k)).length (N8 (I8 C (NS.take k)) evs) [.int .i64 (Uq C g).i,.int .i64 (Uq C g).j,.int .i64 (Uq C g).a,.slice ea LP ec]:=by rw[bK.o];exact aL
     obtain⟨cc2,ff2,hn⟩:=aQ.o.app (x:=Uq C g) eO.o bD;rw[show I8 C (NS.take k) ++ [Uq C g]=I8 C (NS.take (k+1)) from by unfold I8;rw[List.take_add_one,eV.o,List.map_append];rfl]at hn;have HN:=Aa hn;have dS:=Aa (show Ex wa (w8.setCell ⟨OB,2,none⟩ v8) from(aL.ex (dR.o.trans aH.o) (by have:=aA.o.rb;have:=aC.o;omega)).setCell (p:=⟨OB,2,none⟩) (by have:=aT.o;have:=aC.o;show wa.heap.size<=OB;omega) _);have eD:=Aa (show(w8.setCell ⟨OB,2,none⟩ v8).frozen? ⟨B+1,0,none⟩=false/\(w8.setCell ⟨OB,2,none⟩ v8).frozen? ⟨B+1,1,none⟩=false/\(w8.setCell ⟨OB,2,none⟩ v8).frozen? ⟨B+1,2,none⟩=false from by
      obtain⟨h0,h1,h2⟩:=dA.o wr aA.o.off;obtain⟨f0,f1,f2⟩:=eW.o;rw[Ax,Ax,Ax];exact⟨aL.frz (aH.o.cell h0) (aH.o.frz h0 f0) aQ.o.no.2,aL.frz (aH.o.cell h1) (aH.o.frz h1 f1) aQ.o.no.2,aL.frz (aH.o.cell h2) (aH.o.frz h2 f2) aQ.o.no.2⟩)
     obtain⟨na8,nc8,rfl⟩:=Ae aL.own;clear aL bD hn aW aV aU t0 b2;go_wp2_with fail
     go_roundw
     case rel=>first|exact⟨k+1,_,_,by have:=bM.o;omega,by go_num,HN,dS,eD⟩|((repeat apply Exists.intro);exact⟨⟨k+1,_,_,by have:=bM.o;omega,by go_num,HN,dS,eD⟩,rfl⟩)
     case measure=>have:=bM.o;simp[intOf];omega
    .obtain rfl:LN=k:=by omega
     have dU:=Aa (show NS.take LN=NS from List.take_of_length_le (by rw[dZ.o];exact Nat.le_refl _));obtain⟨LE,aN⟩:∃x,(I8 C (NS.take LN)).length=x:=⟨_,rfl⟩;rw[aN]at aK;rw[dU.o]at aK;have aA:=Aa aK.o;have aS:=Aa bQ.o;have HLV:=Aa (show Er wr (.slice la bl.length lc) bl from Er.offQ (Q:=fun X=>X=OB) (fun q hq=>by rw[hq];exact dD.o) dT.o eH.o aA.o.off);have eT:=Aa (show ∀u v z,Er (((wr.setCell ⟨B+1,0,none⟩ u).setCell ⟨B+1,1,none⟩ v).setCell ⟨B+1,2,none⟩ z) (.slice la bl.length lc) bl from fun u v z=>Er.offQ (Q:=fun X=>X=OB∨X=B+1) (fun q hq=>by rcases hq with hq|hq <;> rw[hq];exact dD.o;exact aI.o) dT.o eH.o ((aA.o.off.mono fun X _ h=> .inl h).trans ((Kf u v z).mono fun X _ h=> .inr h) aA.o.size));obtain⟨q0,q1,q2⟩:=dA.o wr aA.o.off;obtain⟨cH,cG,cF⟩:=bT.o;have d0:=aA.o.b0;have d1:=aA.o.b1;have d2:=aA.o.b2;clear aK bQ bT aN dU;go_wp2_with fail
     exact bodyPost_ret (v:= .tuple #[.agg #[.int .i64 bd,.slice la bl.length lc,.slice ra LE rc],.int .i64 0]) di rfl ⟨cY.o _ _ ⟨e0,cA.o,.inr ⟨cX.o,_,_,by rw[eF.o],by rw[eF.o];exact eT.o _ _ _,by rw[dY.o];exact aA.o.fin _ _ _⟩⟩,Ch (bE.o.trans aS.o) dB.o _ _ _⟩
def Jv(p m:Nat)(ml pl sl:List Int):Nat->Nat:=CG (Hr p m ml pl sl)
theorem Fj{N Q k:Nat}(hk:k<N*Q):∃i c,i<N/\c<Q/\k=i*Q+c:=by
 have hQ:0<Q:=by
  apply Nat.pos_of_ne_zero;intro e;rw[e,Nat.mul_zero]at hk;omega
 refine⟨k/Q,k%Q,Nat.div_lt_of_lt_mul (by rw[Nat.mul_comm];exact hk),Nat.mod_lt _ hQ,?_⟩;rw[Nat.mul_comm];exact(Nat.div_add_mod k Q).symm
theorem Vt{N Q i c:Nat}(hi:i<N)(hc:c<Q):i*Q+c<N*Q:=by
 have:=Nat.mul_le_mul_right Q (show i+1<=N from hi);rw[Nat.succ_mul]at this;omega
theorem Q7{Q i j c d:Nat}(hc:c<Q)(hd:d<Q)(h:i*Q+c=j*Q+d):i=j/\c=d:=by
 have h1:=congrArg (·/ Q) h;simp only[Nat.mul_comm _ Q]at h1;rw[Nat.mul_add_div ac,Nat.mul_add_div ac,Nat.div_eq_of_lt hc,Nat.div_eq_of_lt hd,Nat.add_zero,Nat.add_zero]at h1;subst h1;exact⟨rfl,ac⟩
section
variable {p m N:Nat} {ml pl sl ql tl:List Int}
theorem DL(h:Bq p m ml pl sl 0 N){i c:Nat}(hi:i<N)(hc:c<p^m-1):∃z:Nat,sl.getD i 0=z/\1<=z/\z<p^m/\1<=Ak p m (lw ml) z (c+1)/\Ak p m (lw ml) z (c+1)<p^m/\Jv p m ml pl sl (i*(p^m-1)+c)=BD pl i*(p^m-1)+(Ak p m (lw ml) z (c+1)-1):=by
 obtain⟨z,hz,h1,h2⟩:=h.sc i hi;have k1:=h.hF.ne_zero h.hp h.hm h1 h2 (show 1<=c+1 by omega) (show c+1<p^m by omega);have k2:=A5 (p:=p) (m:=m) (low:=lw ml) (by have:=h.hp;omega) z (c+1);have aA:=Vt hi hc;refine⟨z,hz,h1,h2,k1,k2,?_⟩;unfold Jv CG Hr;rw[Am,h.pll,if_pos aA,List.getD_eq_getElem?_getD,AO aA];show(OD p m ml pl sl (i*(p^m-1)+c)).toNat=_
 unfold OD;have hQ:0<p^m-1:=ac;rw[Nat.mul_comm i,Nat.mul_add_div hQ,Nat.mul_add_mod,Nat.div_eq_of_lt hc,Nat.mod_eq_of_lt hc,Nat.add_zero,hz,AC h2];omega
theorem Ym(h:Bq p m ml pl sl 0 N){k:Nat}(hk:N*(p^m-1)<=k):Jv p m ml pl sl k=k:=by
 unfold Jv CG Hr;rw[Am,h.pll,if_neg ac]
theorem Dc(h:Bq p m ml pl sl 0 N):Bd (N*(p^m-1)) (Jv p m ml pl sl):=by
 refine Bd.of_inj (fun k hk=>?_) (fun k hk=>Ym h hk) fun a b ha hb e=>?_
 .obtain⟨i,c,hi,hc,rfl⟩:=Fj hk;obtain⟨z,hz,h1,h2,h3,h4,h5⟩:=DL h hi hc;rw[h5];exact Vt (h.inj.lt i hi) ac
 .obtain⟨i,c,hi,hc,rfl⟩:=Fj ha;obtain⟨j,d,hj,hd,rfl⟩:=Fj hb;obtain⟨z,hz,h1,h2,h3,h4,h5⟩:=DL h hi hc;obtain⟨y,hy,g1,g2,g3,g4,g5⟩:=DL h hj hd;rw[h5,g5]at e;obtain⟨e1,e2⟩:=Q7 ac ac e;obtain rfl:=h.inj.inj i j hi hj e1;have aA:z=y:=by rw[hz]at hy;exact_mod_cast hy
  subst aA;have e3:Ak p m (lw ml) (c+1) z=Ak p m (lw ml) (d+1) z:=by rw[AW (c+1),AW (d+1)];omega
  have:=h.hF.cancel h.hp h.hm h1 h2 (show c+1<p^m by omega) (show d+1<p^m by omega) e3;omega
theorem Nx(h:Bq p m ml pl sl 0 N):li (N*(p^m-1)) (Jv p m ml pl sl)=Hr p m ml pl sl:=by
 unfold li;have hl:(Hr p m ml pl sl).length=N*(p^m-1):=by unfold Hr;rw[Am,h.pll]
 refine Rs hl fun k hk=>?_;have hP:=(Dc h);unfold Jv CG;rw[hl,if_pos hk];have:(Hr p m ml pl sl).getD k 0=OD p m ml pl sl k:=by
  unfold Hr;rw[h.pll,List.getD_eq_getElem?_getD,AO hk];rfl
 rw[this];obtain⟨z,z1,z2,z3,zi,zp,zf⟩:=T6 h hk;rw[zf];omega
theorem Yp(h:Bq p m ml pl sl 0 N)(k:Bq p m ml ql tl 0 N):Jv p m ml (il N (cP pl ql)) (il N (cS p m ml pl sl tl 0))=Aq (Jv p m ml pl sl) (Jv p m ml ql tl):=by
 have hc:Bq p m ml (il N (cP pl ql)) (il N (cS p m ml pl sl tl 0)) 0 N:=by
  have:=WY h k
  rwa[show(0+0)%m=0 from ag]at this
 refine GK (n:=N*(p^m-1)) (Dc hc) ((Dc h).comp (Dc k)) fun x hx=>?_;obtain⟨i,c,hi,aA,rfl⟩:=Fj hx;obtain⟨z,hz,h1,h2,h3,h4,h5⟩:=DL h hi aA;obtain⟨y,hy,g1,g2,g3,g4,g5⟩:=DL k (h.inj.lt i hi) (show Ak p m (lw ml) z (c+1)-1<p^m-1 by omega);obtain⟨x,hx,f1,f2,f3,f4,f5⟩:=DL hc hi aA;show _=Jv p m ml ql tl (Jv p m ml pl sl (i*(p^m-1)+c))
 rw[h5,g5,f5,Lh h hi];rw[CM hi]at hx;unfold cS at hx;rw[hz,hy,AC h2,AC g2]at hx;have aB:x=Ak p m (lw ml) y z:=by exact_mod_cast hx.symm
 rw[aB,show Ak p m (lw ml) z (c+1)-1+1=Ak p m (lw ml) z (c+1) from ac,Bo (by have:=h.hp;omega)]
theorem Ia(h:Bq p m ml pl sl 0 N)(hn:∀i,i<N->0<=pl.getD i 0){i:Nat}(hi:i<=N):AX (i*(p^m-1)) (Jv p m ml pl sl)↔∀k,k<i->pl.getD k 0=(k:Int)/\sl.getD k 0=1:=by
 constructor
 .intro hf k hk;obtain⟨z,hz,h1,h2⟩:=h.sc k ac;have hQ:0<p^m-1:=by omega
  obtain⟨z',aA,_,_,h3,h4,h5⟩:=DL h (show k<N by omega) hQ;have aB:z'=z:=by rw[hz]at aA;exact_mod_cast aA.symm
  subst aB;have:=hf (k*(p^m-1)+0) (Vt hk hQ);rw[h5]at this;obtain⟨e1,e2⟩:=Q7 ac hQ this;rw[Nat.zero_add,Bz h.hp h.hm h2]at e2 h3;have:=hn k ac;unfold BD at e1;exact⟨ac,by rw[hz];omega⟩
 .intro hf k hk;obtain⟨j,c,hj,hc,rfl⟩:=Fj hk;obtain⟨z,hz,h1,h2,h3,h4,h5⟩:=DL h (show j<N by omega) hc;obtain⟨e1,e2⟩:=hf j hj;have aC:z=1:=by rw[e2]at hz;exact_mod_cast hz.symm
  subst aC;rw[h5,Cn h.hp h.hm (show c+1<p^m by omega)];unfold BD;rw[e1];simp
theorem G5{l k:List Int}{N:Nat}(h1:l.length=N)(h2:k.length=N)(h:∀i,i<N->l.getD i 0=k.getD i 0):l=k:=by
 rw[<-Rs h1 (f:=fun i=>l.getD i 0) fun i hi=>rfl,<-Rs h2 (f:=fun i=>k.getD i 0) fun i hi=>rfl];exact Ft h
theorem Yo(h:Bq p m ml pl sl 0 N)(k:Bq p m ml ql tl 0 N)(hn:∀i,i<N->0<=pl.getD i 0)(kn:∀i,i<N->0<=ql.getD i 0)(e:Jv p m ml pl sl=Jv p m ml ql tl):pl=ql/\sl=tl:=by
 have e2:Hr p m ml pl sl=Hr p m ml ql tl:=by rw[<-Nx h,<-Nx k,e]
 have h1:=Ss h;have h2:=Ss k;rw[e2]at h1;have h3:=h1.1.symm.trans h2.1;have h4:=h1.2.symm.trans h2.2;constructor
 .refine G5 h.pll k.pll fun i hi=>?_;have:=congrArg (fun l=>l.getD i 0) h3;simp only[CM hi]at this;have a:=hn i hi;have b:=kn i hi;unfold BD at this;omega
 .refine G5 h.sll k.sll fun i hi=>?_;have:=congrArg (fun l=>l.getD i 0) h4;simp only[CM hi]at this;exact this
end
def tF(p m:Nat)(ml pl sl:List Int)(x:Nat->Int)(j:Nat):Int:=((Ak p m (lw ml) (Au (p^m) (sl.getD j 0)) (Au (p^m) (x (BD pl j))):Nat):Int)
section
variable {p m n:Nat} {ml:List Int} {l1 l2 l3:List (List Int)} {pl sl ql tl:List Int}
theorem ZW(hp:2<=p)(hi:FV n (BD pl))(v x:Nat->Int):dt p m ml n (plc (BD pl) (F5 p m ml sl v) n) x=dt p m ml n v (tF p m ml pl sl x):=by
 have h1:1<=p:=ac;rw[Ob h1 hi,G8,G8];refine Gl n fun j hj=>?_;unfold F5 tF;rw[AC (A5 h1 _ _),AC (A5 h1 _ _),AW (Au (p^m) (sl.getD j 0)),Bo h1]
theorem WU(v:Nat->Int){x y:Nat->Int}(h:∀j,j<n->Au (p^m) (x j)=Au (p^m) (y j)):dt p m ml n v x=dt p m ml n v y:=by
 rw[G8,G8];exact Gl n fun j hj=>by rw[h j hj]
theorem Nj{R:Nat}(a:Nat->Nat->Int){x y:Nat->Int}(h:∀j,j<n->Au (p^m) (x j)=Au (p^m) (y j)):BW p m ml n R a x↔BW p m ml n R a y:=
 ⟨fun k i hi=>by rw[<-WU (ml:=ml) (a i) h];exact k i hi,fun k i hi=>by rw[WU (ml:=ml) (a i) h];exact k i hi⟩
theorem GC(hp:2<=p)(h1:pl.length=n)(h2:sl.length=n)(h3:∀i,i<n->0<=pl.getD i 0)(h4:FV n (BD pl))(h5:∀i,i<n->∃z:Nat,sl.getD i 0=z/\1<=z/\z<p^m):
  AZ p m ml n l1 l2 pl sl↔∀x,BW p m ml n l2.length (Ao l2) x↔BW p m ml n l1.length (Ao l1) (tF p m ml pl sl x):=by
 have e:∀x,BW p m ml n l1.length (fun i=>plc (BD pl) (F5 p m ml sl (Ao l1 i)) n) x↔BW p m ml n l1.length (Ao l1) (tF p m ml pl sl x):=fun x=>by
  constructor
  .intro h i hi;rw[<-ZW hp h4];exact h i hi
  .intro h i hi;show dt p m ml n (plc (BD pl) (F5 p m ml sl (Ao l1 i)) n) x=0
   rw[ZW hp h4];exact h i hi
 exact⟨fun h x=>(h.sol x).trans (e x),fun h=>⟨h1,h2,h3,h4,h5,fun x=>(h x).trans (e x).symm⟩⟩
theorem AZ.solT(hp:2<=p)(h:AZ p m ml n l1 l2 pl sl)(x:Nat->Int):BW p m ml n l2.length (Ao l2) x↔BW p m ml n l1.length (Ao l1) (tF p m ml pl sl x):=
 (GC hp h.pll h.sll h.nn h.inj h.sc).1 h x
structure Hq(p m:Nat)(ml:List Int)(n:Nat):Prop where
 hp:2<=p
 hm:1<=m
 hF:GW p m (lw ml)
 n1:1<=n
 n2:n<=64
theorem AZ.mon(hW:Hq p m ml n)(h:AZ p m ml n l1 l2 pl sl):Bq p m ml pl sl 0 n:=⟨hW.hp,hW.hm,hW.hF,hW.n1,hW.n2,h.pll,h.sll,h.inj,h.sc,by have:=hW.hm;omega⟩
theorem cmp_nn(h:Bq p m ml pl sl 0 n)(kn:∀i,i<n->0<=ql.getD i 0):∀i,i<n->0<=(il n (cP pl ql)).getD i 0:=fun i hi=>by
 rw[CM hi];exact kn _ (h.inj.lt i hi)
theorem mon0(h:Bq p m ml pl sl ((0+0)%m) n):Bq p m ml pl sl 0 n:=by rwa[show(0+0)%m=0 from ag]at h
theorem AZ.comp(hW:Hq p m ml n)(h:AZ p m ml n l1 l2 pl sl)(k:AZ p m ml n l2 l3 ql tl):AZ p m ml n l1 l3 (il n (cP pl ql)) (il n (cS p m ml pl sl tl 0)):=by
 have hc:=mon0 (WY (h.mon hW) (k.mon hW));have h1:1<=p:=by have:=hW.hp;omega
 refine(GC hW.hp hc.pll hc.sll (cmp_nn (h.mon hW) k.nn) hc.inj hc.sc).2 fun x=>?_;rw[k.solT hW.hp,h.solT hW.hp];refine Nj _ fun j hj=>?_;unfold tF;rw[CM hj,Lh (h.mon hW) hj];obtain⟨s,hs,hs1,aB⟩:=h.sc j hj;obtain⟨t,ht,ht1,aA⟩:=k.sc _ (h.inj.lt j hj);unfold cS;rw[hs,ht,AC aB,AC aA];show _=Au (p^m) ((Ak p m (lw ml) (Au (p^m) ((Ak p m (lw ml) t s:Nat):Int)) _:Nat):Int)
 rw[AC (A5 h1 _ _),AC (A5 h1 _ _),AC (A5 h1 _ _),AC (A5 h1 _ _),AW t s,Bo h1]
theorem AZ.inv(hW:Hq p m ml n)(h:AZ p m ml n l1 l2 pl sl):AZ p m ml n l2 l1 (il n (plc (BD pl) (fun i=>(i:Int)) n)) (il n (plc (BD pl) (ivS p m ml sl 0) n)):=by
 have hM:=h.mon hW;have hv:=We hM 0 (by have:=hW.hm;omega);have h1:1<=p:=by have:=hW.hp;omega
 refine(GC hW.hp hv.pll hv.sll (fun j hj=>?_) hv.inj hv.sc).2 fun x=>?_
 .obtain⟨i,hi,rfl⟩:=h.inj.surj hj;rw[KR hM _ hi];omega
 .rw[h.solT hW.hp];refine Nj _ fun j hj=>?_;unfold tF;rw[KR hM _ hj,KQ hM hj];obtain⟨s,hs,aB,aA⟩:=h.sc j hj;obtain⟨k1,k2,k3⟩:=NO hW.hp hW.hm hW.hF aB aA;unfold ivS;rw[hs,AC aA];show Au (p^m) (x j)=Au (p^m) ((Ak p m (lw ml) s (Au (p^m) ((Ak p m (lw ml) (Au (p^m) ((D7 p m ml s:Nat):Int)) (Au (p^m) (x j)):Nat):Int)):Nat):Int)
  rw[AC k2,AC (A5 h1 _ _),AC (A5 h1 _ _),<-Bo h1,k3,Cn hW.hp hW.hm (BZ (Nat.pow_pos ac) _)]
theorem Yn(h:Bq p m ml pl sl 0 n):Jv p m ml (il n (plc (BD pl) (fun i=>(i:Int)) n)) (il n (plc (BD pl) (ivS p m ml sl 0) n))=A7 (n*(p^m-1)) (Jv p m ml pl sl):=by
 have hv:=We h 0 (by have:=h.hm;omega);have h1:1<=p:=by have:=h.hp;omega
 refine(Dc h).inv_unique (GK (n:=n*(p^m-1)) ((Dc h).comp (Dc hv)) (Fb _) fun x hx=>?_);obtain⟨i,c,hi,hc,rfl⟩:=Fj hx;obtain⟨z,hz,g1,g2,g3,g4,g5⟩:=DL h hi hc;obtain⟨y,hy,f1,f2,f3,f4,f5⟩:=DL hv (h.inj.lt i hi) (show Ak p m (lw ml) z (c+1)-1<p^m-1 by omega);show Jv p m ml _ _ (Jv p m ml pl sl (i*(p^m-1)+c))=i*(p^m-1)+c
 rw[g5,f5,KQ h hi];rw[KR h _ hi]at hy;obtain⟨k1,k2,k3⟩:=NO h.hp h.hm h.hF g1 g2;unfold ivS at hy;rw[hz,AC g2]at hy;have aA:y=D7 p m ml z:=by
  have:((S2 p m (lw ml) (D7 p m ml z) 0:Nat):Int)=((D7 p m ml z:Nat):Int):=rfl;rw[this]at hy
  exact_mod_cast hy.symm
 rw[aA,show Ak p m (lw ml) z (c+1)-1+1=Ak p m (lw ml) z (c+1) from ac,<-Bo h1,AW (D7 p m ml z),k3,Cn h.hp h.hm (show c+1<p^m by omega)];omega
theorem VO(hW:Hq p m ml n):Bq p m ml (KX n) (Ly n) 0 n where
 hp:=hW.hp
 hm:=hW.hm
 hF:=hW.hF
 n1:=hW.n1
 n2:=hW.n2
 pll:=FO n
 sll:=FJ n
 inj:=by
  have e:∀i,i<n->BD (KX n) i=i:=fun i hi=>by
   unfold BD KX;rw[List.getD_eq_getElem?_getD,List.getElem?_map,List.getElem?_range hi];simp
  exact⟨fun i hi=>by rw[e i hi];exact hi,fun i j hi hj h=>by rw[e i hi,e j hj]at h;exact h⟩
 sc:=fun i hi=>⟨1,by unfold Ly;rw[List.getD_eq_getElem?_getD,List.getElem?_replicate,if_pos hi];rfl,Nat.le_refl _,Bw hW.hp hW.hm⟩
 frm:=by have:=hW.hm;omega
theorem NX{i:Nat}(hi:i<n):(KX n).getD i 0=(i:Int):=by
 unfold KX;rw[List.getD_eq_getElem?_getD,List.getElem?_map,List.getElem?_range hi];simp
theorem VE{i:Nat}(hi:i<n):(Ly n).getD i 0=1:=by
 unfold Ly;rw[List.getD_eq_getElem?_getD,List.getElem?_replicate,if_pos hi];rfl
theorem AZ.id(hW:Hq p m ml n)(l:List (List Int)):AZ p m ml n l l (KX n) (Ly n):=by
 have h:=VO hW;refine(GC hW.hp h.pll h.sll (fun i hi=>by rw[NX hi];omega) h.inj h.sc).2 fun x=>Nj _ fun j hj=>?_;unfold tF BD;have h1:1<=p:=by have:=hW.hp;omega
 rw[NX hj,VE hj];show Au (p^m) (x j)=Au (p^m) ((Ak p m (lw ml) (Au (p^m) ((1:Nat):Int)) (Au (p^m) (x j)):Nat):Int)
 rw[AC (Bw hW.hp hW.hm),Cn hW.hp hW.hm (BZ (Nat.pow_pos ac) _),AC (BZ (Nat.pow_pos ac) _)]
theorem ptF_id(hW:Hq p m ml n):Jv p m ml (KX n) (Ly n)=Ej:=by
 have h:=VO hW;exact AX.all (Dc h) ((Ia h (fun i hi=>by rw[NX hi];omega) (Nat.le_refl _)).2 fun k hk=>⟨NX hk,VE hk⟩)
def Hp(p m:Nat)(ml:List Int)(n:Nat)(l1 l2:List (List Int))(f:Nat->Nat):Prop:=∃pl sl,AZ p m ml n l1 l2 pl sl/\f=Jv p m ml pl sl
theorem Hp.isP(hW:Hq p m ml n){f:Nat->Nat}(h:Hp p m ml n l1 l2 f):Bd (n*(p^m-1)) f:=by
 obtain⟨pl,sl,h,rfl⟩:=h;exact Dc (h.mon hW)
theorem Hp.comp(hW:Hq p m ml n){f g:Nat->Nat}(h:Hp p m ml n l1 l2 f)(k:Hp p m ml n l2 l3 g):Hp p m ml n l1 l3 (Aq f g):=by
 obtain⟨pl,sl,h,rfl⟩:=h;obtain⟨ql,tl,k,rfl⟩:=k;exact⟨_,_,h.comp hW k,(Yp (h.mon hW) (k.mon hW)).symm⟩
theorem Hp.inv(hW:Hq p m ml n){f:Nat->Nat}(h:Hp p m ml n l1 l2 f):Hp p m ml n l2 l1 (A7 (n*(p^m-1)) f):=by
 obtain⟨pl,sl,h,rfl⟩:=h;exact⟨_,_,h.inv hW,(Yn (h.mon hW)).symm⟩
theorem Hp.grp(hW:Hq p m ml n)(l:List (List Int)):Xl (n*(p^m-1)) (Hp p m ml n l l):=
 ⟨⟨_,_,AZ.id hW l,(ptF_id hW).symm⟩,fun f g hf hg=>hf.comp hW hg,fun f hf=>hf.inv hW,fun f hf=>hf.isP hW⟩
theorem Hp.fx(hW:Hq p m ml n){f:Nat->Nat}(h:Hp p m ml n l1 l2 f){i:Nat}(hi:i<n)(hf:AX (i*(p^m-1)) f)(he:f (i*(p^m-1))=i*(p^m-1)):AX ((i+1)*(p^m-1)) f:=by
 obtain⟨pl,sl,h,rfl⟩:=h;have hM:=h.mon hW;refine(Ia hM h.nn ac).2 fun k hk=>?_;by_cases e:k=i
 .subst e;obtain⟨z,hz,h1,h2⟩:=h.sc k hi;have hQ:0<p^m-1:=by omega
  obtain⟨z',aA,_,_,h3,h4,h5⟩:=DL hM hi hQ;have aB:z'=z:=by rw[hz]at aA;exact_mod_cast aA.symm
  subst aB;rw[Nat.add_zero]at h5;rw[h5]at he;obtain⟨e1,e2⟩:=Q7 (Q:=p^m-1) (i:=BD pl k) (j:=k) (c:=Ak p m (lw ml) z' (0+1)-1) (d:=0) ac hQ (by rw[he,Nat.add_zero]);rw[Nat.zero_add,Bz hM.hp hM.hm h2]at e2 h3;have:=h.nn k hi;unfold BD at e1;exact⟨ac,by rw[hz];omega⟩
 .exact(Ia hM h.nn (Nat.le_of_lt hi)).1 hf k ac
end
theorem QG{n N Q:Nat}(hn:n=N*Q){H:(Nat->Nat)->Prop}(hG:Xl n H)(aF:∀i f,i<N->H f->AX (i*Q) f->f (i*Q)=i*Q->AX ((i+1)*Q) f){S:List (Nat->Nat)}(hS:∀s∈S,H s)
  (hc:∀i f,i<N->H f->AX (i*Q) f->∃s,Gn S s/\AX (i*Q) s/\s (i*Q)=f (i*Q)) (f:Nat->Nat):Gn S f↔H f:=by
 refine⟨fun h=>h.sub hG hS,?_⟩;have hSP:∀s∈S,Bd n s:=fun s hs=>hG.isP s (hS s hs);have aC:∀d i f,i+d=N->H f->AX (i*Q) f->Gn S f:=fun d=>by
  induction d with
  | zero=>
   intro i f hi hf hx;obtain rfl:i=N:=ac;rw[<-hn]at hx;rw[AX.all (hG.isP f hf) hx];exact .one
  | succ d ih=>
   intro i f hi hf hx;obtain⟨s,hs,aD,aE⟩:=hc i f ac hf hx;have aB:=hs.sub hG hS;have aA:=hG.isP s aB;have h1:H (Aq f (A7 n s)):=hG.mul _ _ hf (hG.inv _ aB);have h2:AX (i*Q) (Aq f (A7 n s)):=hx.comp (aD.inv aA);have h3:Aq f (A7 n s) (i*Q)=i*Q:=by
    show A7 n s (f (i*Q))=i*Q
    rw[<-aE];exact aA.inv_l _
   have h4:=ih (i+1) _ ac h1 (aF i _ ac h1 h2 h3);have h5:Aq (Aq f (A7 n s)) s=f:=aA.cancel;rw[<-h5];exact h4.mul hs
 intro hf;exact aC N 0 f ac hf fun i hi=>by rw[Nat.zero_mul]at hi;omega
end Go.Proofs.YtehieobniamagaaGreat
