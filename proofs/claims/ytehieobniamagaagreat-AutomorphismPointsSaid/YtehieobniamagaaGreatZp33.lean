/- What automorphism.Certify gathers: frames, excluded goals. -/
import Derived.Test.YtehieobniamagaaGreatZp21
import Derived.Test.YtehieobniamagaaGreatZp31
import Derived.Test.YtehieobniamagaaGreatZp32
namespace Go.Proofs.YtehieobniamagaaGreat
set_option linter.unusedVariables false
set_option linter.unusedSimpArgs false
set_option maxRecDepth 100000
set_option maxHeartbeats 8000000
section
open Go.RowKit
def CA(Q:Nat->Prop)(w w':World):Prop:=∀X,¬Q X->X<w.heap.size->w'.heap[X]?=w.heap[X]?
theorem CA.refl(Q:Nat->Prop)(w:World):CA Q w w:=fun _ _ _=>rfl
theorem CA.ex{Q:Nat->Prop}{w w':World}(h:Ex w w'):CA Q w w':=fun X _ hX=>h.block X hX
theorem CA.trans{Q:Nat->Prop}{a b c:World}(h:CA Q a b)(k:CA Q b c)(hs:a.heap.size<=b.heap.size):CA Q a c:=fun X hq hX=>(k X hq (Nat.lt_of_lt_of_le hX hs)).trans (h X hq hX)
theorem CA.mono{Q Q':Nat->Prop}{a b:World}(h:CA Q a b)(hq:∀X,X<a.heap.size->Q X->Q' X):CA Q' a b:=fun X hn hX=>h X (fun hx=>hn (hq X hX hx)) hX
theorem CA.set{Q:Nat->Prop}{a b:World}(h:CA Q a b){p:Addr}(hp:Q p.block)(u:Value):CA Q a (b.setCell p u):=fun X hn hX=>by
 rw[<-h X hn hX];exact Below.heap_setCell _ _ _ _ (fun e=>hn (by rw[e];exact hp))
theorem CA.appd{w w':World}{base:Nat}{e:TypeId}{size n:Nat}{v v':Value}{xs news:List Value}(h:A8 w w' base e size v v' n xs news):CA (fun X=>v.ownBlock=some X) w w':=fun X hn hX=>by
 obtain⟨o,hg⟩:=h.gr;rw[hg.block X al (fun e=>hn e.symm)];exact Below.heap_alloc _ _ _ hX
theorem CA.cell{Q:Nat->Prop}{w w':World}(h:CA Q w w'){p:Addr}{u:Value}(hc:w.cell? p=some u)(hq:¬Q p.block):w'.cell? p=some u:=by
 rw[World.cell?_of_block (w:=w) (w':=w') (h _ hq (World.block_lt_of_cell? _ _ hc))];exact hc
theorem Sl.offQ{Q:Nat->Prop}{w w':World}{v:Value}{n size:Nat}{xs:List Value}(h:Sl w v n size xs)(hv:0<n->∀q,Q q->v.ownBlock≠some q)(hw:CA Q w w'):Sl w' v n size xs:=by
 obtain⟨k1,a,cap,rfl,k3,k4,k5⟩:=h;refine⟨k1,a,cap,rfl,k3,k4,fun hn=>?_⟩;obtain⟨b,o,rfl,k6⟩:=k5 hn;exact⟨b,o,rfl,fun j x hx=>hw.cell (k6 j x hx) (fun hq=>hv hn b hq rfl)⟩
structure UT(w:World)(q:Nat):Prop where
 c0:w.cell? ⟨q,0,none⟩=some (.int .i64 0)
 c1:w.cell? ⟨q,1,none⟩=some (.slice none 0 0)
 c2:w.cell? ⟨q,2,none⟩=some (.slice none 0 0)
 c3:∀j,3<=j->w.cell? ⟨q,j,none⟩=none
 f0:w.frozen? ⟨q,0,none⟩=false
 f1:w.frozen? ⟨q,1,none⟩=false
 f2:w.frozen? ⟨q,2,none⟩=false
theorem UT.new(w:World):UT (w.alloc (.cells #[.int .i64 0,.slice none 0 0,.slice none 0 0] 53)) w.heap.size:=
 ⟨ag,ag,ag,fun j hj=>by
  obtain⟨i,rfl⟩:∃i,j=i+3:=⟨j-3,ac⟩;simp,ag,ag,ag⟩
theorem UT.ex{w w':World}{b:Nat}(h:UT w b)(hx:Ex w w'):UT w' b:=
 ⟨hx.cell h.c0,hx.cell h.c1,hx.cell h.c2,fun j hj=>(Below.cell hx (show(⟨b,j,none⟩:Addr).block<w.heap.size from(World.block_lt_of_cell? _ (⟨b,0,none⟩:Addr) h.c0:b<w.heap.size))).trans (h.c3 j hj),hx.frz h.c0 h.f0,hx.frz h.c1 h.f1,hx.frz h.c2 h.f2⟩
theorem Js{w:World}{q:Nat}(hb:UT w q){v:Value}{n size:Nat}{xs:List Value}(h:Sl w v n size xs)(hl:2<=xs.length)(hx:xs[1]?≠some (.slice none 0 0)):v.ownBlock≠some q:=by
 intro e;obtain⟨k1,a,cap,rfl,_,_,k5⟩:=h;have hn:0<n:=by
  apply Classical.byContradiction;intro hn;have:n=0:=ac;subst this;omega
 obtain⟨b,o,rfl,k6⟩:=k5 hn;injection e with e;have e:b=q:=e;subst e;have x1:=k6 1 _ (List.getElem?_eq_getElem ac);have h1:xs[1]?=some (xs[1]'ac):=List.getElem?_eq_getElem _;rcases o with _ | _|o
 .rw[show(0:Nat)+1=1 from rfl,hb.c1]at x1;injection x1 with x1;exact hx (by rw[h1,<-x1])
 .rw[show(0:Nat)+1+1=2 from rfl,hb.c2]at x1;injection x1 with x1;exact hx (by rw[h1,<-x1])
 .rw[hb.c3 (o+1+1+1) ac]at x1;cases x1
theorem Eh.offQ{Q:Nat->Prop}{w:World}(hQ:∀q,Q q->UT w q){v:Value}{L:List Lv}(h:Eh w v L)(hL:∀l∈L,2<=l.orb.length/\2<=l.reps.length/\∀r∈l.reps,2<=r.length){w':World}(hw:CA Q w w'):Eh w' v L:=by
 obtain⟨os,k1,k2,k3⟩:=h;have aA:∀ {y:Value} {l:List Int},Ak w y l->2<=l.length->Ak w' y l:=fun {y l} hy hl=>
  Sl.offQ hy (fun _ q hq=>Js (hQ q hq) hy (by rw[AP];exact hl) (by
   unfold Am;rw[List.getElem?_map]
   cases l[1]? with
   | none=>simp
   | some x=>simp)) hw
 refine⟨os,k1,?_,fun i l o a c=>?_⟩
 .refine Sl.offQ k2 (fun hn q hq=>?_) hw;have hl3:=Me L os k1;refine Js (hQ q hq) k2 ac (fun e=>?_);have aC:L[0]?=some (L[0]'hn):=List.getElem?_eq_getElem _;have aB:os[0]?=some (os[0]'ac):=List.getElem?_eq_getElem _;obtain⟨-,g1,-⟩:=Mf L os 0 _ _ aC aB;rw[show 3*0+1=1 from rfl,e]at g1;injection g1 with g1;obtain⟨b1,-,-⟩:=hL _ (List.getElem_mem hn);obtain⟨-,a,cap,ha,-⟩:=(k3 0 _ _ aC aB).1;rw[<-g1]at ha;injection ha with _ ha;omega
 .obtain⟨g1,vals,g2,g3⟩:=k3 i l o a c;obtain⟨b1,b2,b3⟩:=hL l (List.mem_of_getElem? a);refine⟨aA g1 b1,vals,?_,fun j r y hr hy=>aA (g3 j r y hr hy) (b3 r (List.mem_of_getElem? hr))⟩;have hvl:vals.length=l.reps.length:=by have:=g2.1;omega
  refine Sl.offQ g2 (fun hn q hq=>Js (hQ q hq) g2 ac (fun e=>?_)) hw;have aD:l.reps[1]?=some (l.reps[1]'ac):=List.getElem?_eq_getElem _;obtain⟨-,a2,c2,h2,-⟩:=g3 1 _ _ aD e;injection h2 with _ h2;have:=b3 _ (List.getElem_mem (show 1<l.reps.length by omega));omega
structure FW where
 i:Int
 j:Int
 a:Int
 pf:List Rf
def Mu:List FW->List Value->List Value
 | x :: xs,v :: vs=> .int .i64 x.i :: .int .i64 x.j :: .int .i64 x.a :: v :: Mu xs vs
 | _,_=> []
theorem QH:∀(L:List FW) (os:List Value) (i:Nat) (l:FW) (o:Value),L[i]?=some l->os[i]?=some o->(Mu L os)[4*i]?=some (.int .i64 l.i)/\(Mu L os)[4*i+1]?=some (.int .i64 l.j)/\(Mu L os)[4*i+2]?=some (.int .i64 l.a)/\(Mu L os)[4*i+3]?=some o
 | l' :: L,o' :: os,0,l,o,h,k=>by
  simp at h k;subst h k;exact⟨rfl,rfl,rfl,rfl⟩
 | l' :: L,o' :: os,i+1,l,o,h,k=>by
  have:=QH L os i l o ay (by simpa using k);rw[show 4*(i+1)=4*i+4 by omega,show 4*i+4+1=4*i+1+4 by omega,show 4*i+4+2=4*i+2+4 by omega,show 4*i+4+3=4*i+3+4 by omega];simpa[Mu]using this
 | [],os,i,l,o,h,k=>by simp at h
 | l' :: L, [],i,l,o,h,k=>by simp at k
theorem QI:∀(L:List FW) (os:List Value) (l:FW) (o:Value),os.length=L.length->Mu (L ++ [l]) (os ++ [o])=Mu L os ++ [.int .i64 l.i,.int .i64 l.j,.int .i64 l.a,o]
 | [], [],l,o,_=>rfl
 | l' :: L,o' :: os,l,o,h=>by
  have:=QI L os l o ay;simp only[List.cons_append,Mu,this]
 | [],o' :: os,l,o,h=>by simp at h
 | l' :: L, [],l,o,h=>by simp at h
def Ke(w:World)(v:Value)(xs:List FW):Prop:=∃evs:List Value,evs.length=xs.length/\Sl w v xs.length 4 (Mu xs evs)/\∀(i:Nat) (x:FW) (ev:Value),xs[i]?=some x->evs[i]?=some ev->OD w ev x.pf
theorem Ke.ex{w w':World}{v:Value}{L:List FW}(h:Ke w v L)(hx:Ex w w'):Ke w' v L:=by
 obtain⟨os,h1,h2,h3⟩:=h;exact⟨os,h1,h2.ex hx,fun i l o a b=>(h3 i l o a b).ex hx⟩
theorem Ke.open{w:World}{v:Value}{L:List FW}(h:Ke w v L):∃a cap,v= .slice a L.length cap/\L.length<=cap/\cap<=maxLen/\
  (0<L.length->∃b o,a=some ⟨b,o,none⟩/\∀(i:Nat) (l:FW),L[i]?=some l->∃u,w.cell? ⟨b,o+4*i,none⟩=some (.int .i64 l.i)/\w.cell? ⟨b,o+(4*i+1),none⟩=some (.int .i64 l.j)/\w.cell? ⟨b,o+(4*i+2),none⟩=some (.int .i64 l.a)/\w.cell? ⟨b,o+(4*i+3),none⟩=some u/\OD w u l.pf):=by
 obtain⟨os,h1,⟨h2,a,cap,h3,h4,h5,h6⟩,h7⟩:=h;refine⟨a,cap,h3,h4,h5,fun hn=>?_⟩;obtain⟨b,o,h8,h9⟩:=h6 hn;refine⟨b,o,h8,fun i l hl=>?_⟩;have hi:=(List.getElem?_eq_some_iff.1 hl).1;have ho:os[i]?=some (os[i]'ac):=List.getElem?_eq_getElem _;obtain⟨g1,g2,g3,g4⟩:=QH L os i l _ hl ho;exact⟨_,h9 _ _ g1,h9 _ _ g2,h9 _ _ g3,h9 _ _ g4,h7 i l _ hl ho⟩
def Km(FB:Nat->Prop)(w:World)(v:Value)(es:List Rf):Prop:=∃mvs:List Value,mvs.length=es.length/\Sl w v es.length 4 (KP es mvs)/\(∀(i:Nat) (e:Rf) (mv:Value),es[i]?=some e->mvs[i]?=some mv->Ak w mv e.msg/\(e.msg≠ []->∀X,mv.ownBlock=some X->¬FB X))/\(es≠ []->∀X,v.ownBlock=some X->¬FB X)
theorem Ou.g{FB:Nat->Prop}{w:World}{v:Value}{es:List Rf}(h:Ou FB w v es):Km FB w v es:=by
 obtain⟨m,h1,h2,h3,h4⟩:=h;exact⟨m,h1,h2,h3,fun _=>h4⟩
theorem Km.rsl{FB:Nat->Prop}{w:World}{v:Value}{es:List Rf}(h:Km FB w v es):OD w v es:=by
 obtain⟨m,h1,h2,h3,_⟩:=h;exact⟨m,h1,h2,fun i e mv a b=>(h3 i e mv a b).1⟩
theorem Sl.blk{w:World}{v:Value}{n size:Nat}{xs:List Value}(h:Sl w v n size xs)(hn:0<xs.length){X:Nat}(hX:v.ownBlock=some X):X<w.heap.size:=by
 obtain⟨k1,a,cap,rfl,_,_,k5⟩:=h;have aA:0<n:=by
  apply Classical.byContradiction;intro h0;have:n=0:=ac;subst this;omega
 obtain⟨b,o,rfl,k6⟩:=k5 aA;injection hX with hX;have hX:b=X:=hX;subst hX;exact(World.block_lt_of_cell? _ _ (k6 0 _ (List.getElem?_eq_getElem hn)):b<w.heap.size)
theorem Km.off{FB FB':Nat->Prop}{w w':World}{v:Value}{es:List Rf}(h:Km FB w v es)(hw:CA FB w w')(hf:∀X,X<w.heap.size->FB' X->FB X):Km FB' w' v es:=by
 obtain⟨m,h1,h2,h3,h4⟩:=h;have h2l:=LR es m h1;refine⟨m,h1,Sl.offQ h2 (fun hn q hq e=>h4 (by intro e2;subst e2;simp at hn) q e hq) hw,fun i e mv a b=>?_,fun aA X hX hF=>?_⟩
 .obtain⟨g1,g2⟩:=h3 i e mv a b;refine⟨Sl.offQ g1 (fun hn q hq e2=>g2 (by intro e3;rw[e3]at hn;simp at hn) q e2 hq) hw,fun aA X hX hF=>?_⟩;exact g2 aA X hX (hf X (Sl.blk g1 (by rw[AP];exact List.length_pos_iff.2 aA) hX) hF)
 .exact h4 aA X hX (hf X (Sl.blk h2 (by have:=List.length_pos_iff.2 aA;omega) hX) hF)
def RP(c:AZ)(g:B9):FW:=⟨g.i,g.j,g.a,Hc 0 (gF c g)⟩
def Hq(c:AZ)(gs:List B9):List FW:=gs.map (RP c)
theorem VX:(Tryz.prog.info? 96).map (fun i=>(i.zero,i.size,i.bytes))=some (some (.agg #[.int .i64 0,.int .i64 0,.int .i64 0,.slice none 0 0]),4,48):=ah
structure Rc(w6 wr:World)(OB RB:Nat)(d:Int)(lv rv:Value)(xs:List FW)(evs:List Value):Prop where
 off:CA (fun X=>X=OB) w6 wr
 size:w6.heap.size<=wr.heap.size
 ob:OB<w6.heap.size
 rb:RB<w6.heap.size
 b0:wr.cell? ⟨OB,0,none⟩=some (.int .i64 d)
 b1:wr.cell? ⟨OB,1,none⟩=some lv
 b2:wr.cell? ⟨OB,2,none⟩=some rv
 f2:wr.frozen? ⟨OB,2,none⟩=false
 own:wr.ownsRow w6.heap.size 96 4 rv xs.length (Mu xs evs)
 len:evs.length=xs.length
 at_:∀(i:Nat) (x:FW) (ev:Value),xs[i]?=some x->evs[i]?=some ev->Km (fun X=>X=OB∨X=RB∨rv.ownBlock=some X) wr ev x.pf
section
variable {w6 wr w':World} {OB RB:Nat} {d:Int} {lv rv v' ev:Value} {xs:List FW} {evs:List Value}
theorem Rc.later(h:Rc w6 wr OB RB d lv rv xs evs)(hx:Ex wr w'):Rc w6 w' OB RB d lv rv xs evs:=
 ⟨h.off.trans (.ex hx) h.size,Nat.le_trans h.size hx.size,h.ob,h.rb,hx.cell h.b0,hx.cell h.b1,hx.cell h.b2,hx.frz h.b2 h.f2,Ai h.own hx,h.len,fun i x e a b=>(h.at_ i x e a b).off (.ex hx) fun X _ hX=>hX⟩
theorem Rc.no(h:Rc w6 wr OB RB d lv rv xs evs):some OB≠rv.ownBlock/\some RB≠rv.ownBlock:=⟨fun e=>by have:=(h.own.lt OB e.symm).1;have:=h.ob;omega,fun e=>by have:=(h.own.lt RB e.symm).1;have:=h.rb;omega⟩
theorem Rc.app(h:Rc w6 wr OB RB d lv rv xs evs){x:FW}(he:Km (fun X=>X=OB∨X=RB∨rv.ownBlock=some X) wr ev x.pf)
  (ha:A8 wr w' w6.heap.size 96 4 rv v' xs.length (Mu xs evs) [.int .i64 x.i,.int .i64 x.j,.int .i64 x.a,ev]):w'.cell? ⟨OB,2,none⟩=some rv/\w'.frozen? ⟨OB,2,none⟩=false/\Rc w6 (w'.setCell ⟨OB,2,none⟩ v') OB RB d lv v' (xs ++ [x]) (evs ++ [ev]):=by
 have aD:=ha.cell h.b2 h.no.1;have aC:=CA.appd ha;have hsz:=ha.grow;have aB:∀X,v'.ownBlock=some X->rv.ownBlock=some X∨wr.heap.size<=X:=fun X hX=>by
  rcases ha.at_ with h1|h1
  .left;rw[<-h1];exact hX
  .right;rw[h1]at hX;injection hX with hX;omega
 have aE:v'.ownBlock≠some OB:=fun e=>by
  rcases aB OB e with h1|h1
  .exact h.no.1 h1.symm
  .have:=h.ob;have:=h.size;omega
 have aA:∀ {e:Value} {es:List Rf},Km (fun X=>X=OB∨X=RB∨rv.ownBlock=some X) wr e es->Km (fun X=>X=OB∨X=RB∨v'.ownBlock=some X) (w'.setCell ⟨OB,2,none⟩ v') e es:=fun {e es} hr=>
  hr.off ((aC.mono fun X _ hX=> .inr (.inr hX)).set (p:=⟨OB,2,none⟩) (.inl rfl) _) fun X hX hF=>by
   rcases hF with hF|hF|hF
   .exact .inl hF
   .exact .inr (.inl hF)
   .rcases aB X hF with h1|h1
    .exact .inr (.inr h1)
    .omega
 refine⟨aD,ha.frz h.b2 h.f2 h.no.1,?_,?_,h.ob,h.rb,?_,?_,World.cell?_setCell_same _ _ _ aD,?_,?_,by simp[h.len],fun i y e a b=>?_⟩
 .refine CA.set (Q:=fun X=>X=OB) ?_ (p:=⟨OB,2,none⟩) rfl _;intro X hn hX;rw[aC X (fun e=>by have:=(h.own.lt X e).1;omega) (Nat.lt_of_lt_of_le hX h.size)];exact h.off X hn hX
 .have:=h.size;simp;omega
 .rw[Ag ae];exact ha.cell h.b0 h.no.1
 .rw[Ag ae];exact ha.cell h.b1 h.no.1
 .rw[Au];exact ha.frz h.b2 h.f2 h.no.1
 .have:=Ad (a:=⟨OB,2,none⟩) ha.own aE v';rw[QI xs evs x ev h.len,List.length_append];exact this
 .by_cases hi:i<xs.length
  .rw[List.getElem?_append_left hi]at a;rw[List.getElem?_append_left (by rw[h.len];exact hi)]at b;exact aA (h.at_ i y e a b)
  .have aF:i=xs.length:=by
    exact zbO
   subst aF;rw[List.getElem?_append_right (Nat.le_refl _)]at a;rw[List.getElem?_append_right (by rw[h.len];exact Nat.le_refl _),h.len]at b;simp at a b;subst a b;exact aA he
end
theorem Rc.start{w4:World}{OB RB:Nat}{d:Int}{lv:Value}(ho:UT w4 OB)(hr:RB<w4.heap.size):Rc w4 ((w4.setCell ⟨OB,0,none⟩ (.int .i64 d)).setCell ⟨OB,1,none⟩ lv) OB RB d lv (.slice none 0 0) [] []:=
 ⟨CA.set (Q:=fun X=>X=OB) (CA.set (Q:=fun X=>X=OB) (CA.refl _ _) (p:=⟨OB,0,none⟩) rfl _) (p:=⟨OB,1,none⟩) rfl _,ag,(World.block_lt_of_cell? _ (⟨OB,0,none⟩:Addr) ho.c0:OB<w4.heap.size),hr,
  by rw[Ag ae];exact World.cell?_setCell_same _ _ _ ho.c0,World.cell?_setCell_same _ _ _ ((Ag ae).trans ho.c1),by rw[Ag ae,Ag ae];exact ho.c2,by rw[Au,Au];exact ho.f2,
  World.ownsRow_nil _ _ _ _,rfl,fun i x e h=>by simp at h⟩
theorem Jc{w:World}{q:Nat}(u v z:Value):CA (fun X=>X=q) w (((w.setCell ⟨q,0,none⟩ u).setCell ⟨q,1,none⟩ v).setCell ⟨q,2,none⟩ z):=
 CA.set (Q:=fun X=>X=q) (CA.set (Q:=fun X=>X=q) (CA.set (Q:=fun X=>X=q) (CA.refl _ _) (p:=⟨q,0,none⟩) rfl _) (p:=⟨q,1,none⟩) rfl _) (p:=⟨q,2,none⟩) rfl _
theorem Rc.fin{w6 wr:World}{OB RB:Nat}{d:Int}{lv rv:Value}{xs:List FW}{evs:List Value}(h:Rc w6 wr OB RB d lv rv xs evs)(u v z:Value):Ke (((wr.setCell ⟨RB,0,none⟩ u).setCell ⟨RB,1,none⟩ v).setCell ⟨RB,2,none⟩ z) rv xs:=
 ⟨evs,h.len,Sl.offQ (Q:=fun X=>X=RB) (Sl.own h.own) (fun _ q hq e=>by subst hq;exact h.no.2 e.symm) (Jc u v z),fun i x e a b=>
  ((h.at_ i x e a b).off (FB':=fun _=>False) ((Jc u v z).mono fun X _ hX=> .inr (.inl hX)) fun X _ hX=>hX.elim).rsl⟩
end
section
open Go.RowKit
def Bb(L:List Lv):List (List Int):=L.flatMap fun l=>l.reps
theorem Pr{L:List Lv}{i:Nat}{l:Lv}(h:L[i]?=some l):Bb (L.take (i+1))=Bb (L.take i)++l.reps:=by
 unfold Bb;rw[List.take_add_one,h];simp
theorem NR(L:List Lv)(i:Nat):(Bb (L.take i)).length<=(Bb L).length:=by
 have:Bb L=Bb (L.take i)++Bb (L.drop i):=by
  unfold Bb;rw[<-List.flatMap_append,List.take_append_drop]
 rw[this,List.length_append];omega
open Classical in
noncomputable def Be (d:Int) (L:List Lv):Int:=if d<1∨64<d then 4 else if DK d (Bb L)=0/\L=Cl d.toNat ((Bb L).map C6) d.toNat then 0 else 5
theorem Oc{n:Nat}{S:List (Nat->Nat)}{m:Nat}{l:Lv}(h:l∈Cl n S m):l.orb.length<=n/\l.reps.length=l.orb.length:=by
 unfold Cl at h;obtain⟨h1,h2⟩:=List.mem_filter.1 h;obtain⟨b,_,rfl⟩:=List.mem_map.1 h1;refine⟨by show(Db (Bh S b n)).length<=n;rw[Ci];exact Ft S b n,?_⟩;show(Ds n S b n).length=(Db (Bh S b n)).length
 unfold Ds;rw[List.length_map,Ci]
structure F8(w0 wr:World)(gv:Value)(M:List (List Int))(vals:List Value):Prop where
 own:wr.ownsRow w0.heap.size 22 1 gv M.length vals
 row:∀(i:Nat) (r:List Int) (u:Value),M[i]?=some r->vals[i]?=some u->Ak w0 u r
 ex:Ex w0 wr
theorem F8.nil(w:World):F8 w w (.slice none 0 0) [] []:=⟨World.ownsRow_nil _ _ _ _,fun i r u h=>by simp at h,Ex.refl _⟩
theorem F8.len{w0 wr:World}{gv:Value}{M:List (List Int)}{vals:List Value}(h:F8 w0 wr gv M vals):vals.length=M.length:=by have:=h.own.1;omega
theorem F8.later{w0 wr w':World}{gv:Value}{M:List (List Int)}{vals:List Value}(h:F8 w0 wr gv M vals)(hx:Ex wr w'):F8 w0 w' gv M vals:=⟨Ai h.own hx,h.row,h.ex.trans hx⟩
theorem F8.msl{w0 wr:World}{gv:Value}{M:List (List Int)}{vals:List Value}(h:F8 w0 wr gv M vals):B6 wr gv M:=⟨vals,Sl.own h.own,fun i r u a b=>(h.row i r u a b).ex h.ex⟩
theorem F8.app{w0 wr w':World}{gv gv':Value}{M R:List (List Int)}{vals us:List Value}(h:F8 w0 wr gv M vals)(hr:∀(i:Nat) (r:List Int) (u:Value),R[i]?=some r->us[i]?=some u->Ak w0 u r)
  (ho:w'.ownsRow w0.heap.size 22 1 gv' (M.length+R.length) (vals++us)) (hx:Ex w0 w'):F8 w0 w' gv' (M++R) (vals++us):=by
 have hn:=h.len;refine⟨by rw[List.length_append];exact ho,fun i r u h1 h2=>?_,hx⟩;by_cases e:i<M.length
 .rw[List.getElem?_append_left e]at h1;rw[List.getElem?_append_left ac]at h2;exact h.row i r u h1 h2
 .rw[List.getElem?_append_right ac]at h1 h2;rw[hn]at h2;exact hr _ r u h1 h2
theorem Eh.open3{w:World}{v:Value}{L:List Lv}(h:Eh w v L):∃a cap,v= .slice a L.length cap/\L.length<=cap/\cap<=maxLen/\
  (0<L.length->∃b o,a=some ⟨b,o,none⟩/\∀(i:Nat) (l:Lv),L[i]?=some l->∃u r,w.cell? ⟨b,o+i*3,none⟩=some (.int .i64 l.pt)/\w.cell? ⟨b,o+i*3+1,none⟩=some u/\w.cell? ⟨b,o+i*3+2,none⟩=some r/\Ak w u l.orb/\B6 w r l.reps):=by
 obtain⟨a,cap,h1,h2,h3,h4⟩:=h.open;refine⟨a,cap,h1,h2,h3,fun hn=>?_⟩;obtain⟨b,o,h5,h6⟩:=h4 hn;refine⟨b,o,h5,fun i l hl=>?_⟩;obtain⟨u,r,k1,k2,k3,k4,k5⟩:=h6 i l hl;exact⟨u,r,by rw[Nat.mul_comm i 3];exact k1,by rw[Nat.mul_comm i 3,Nat.add_assoc];exact k2,by rw[Nat.mul_comm i 3,Nat.add_assoc];exact k3,k4,k5⟩
theorem Qq{l k:List Lv}(hl:l.length=k.length)(h:∀j,j<l.length->l[j]?=k[j]?):l=k:=by
 exact zbE
theorem Cp(w:World)(c:Int)(v:Value):(w.alloc (.cells #[.int .i64 c,v] 43)).cell? ⟨w.heap.size,0,none⟩=some (.int .i64 c)/\
  (w.alloc (.cells #[.int .i64 c,v] 43)).cell? ⟨w.heap.size,1,none⟩=some v/\Ex w (w.alloc (.cells #[.int .i64 c,v] 43)):=
 ⟨ag,ag,(Ex.refl _).alloc _⟩
theorem Ef(w:World)(c:Int)(u v:Value):(w.alloc (.cells #[.int .i64 c,u,v] 90)).cell? ⟨w.heap.size,0,none⟩=some (.int .i64 c)/\
  (w.alloc (.cells #[.int .i64 c,u,v] 90)).cell? ⟨w.heap.size,1,none⟩=some u/\(w.alloc (.cells #[.int .i64 c,u,v] 90)).cell? ⟨w.heap.size,2,none⟩=some v/\Ex w (w.alloc (.cells #[.int .i64 c,u,v] 90)):=
 ⟨ag,ag,ag,(Ex.refl _).alloc _⟩
theorem FH(w:World)(d:Int)(L:List Lv)(lv:Value)(hL:Eh w lv L)(hg:(Bb L).length<=1000):
  Calls Tryz.prog 70 #[.agg #[.int .i64 d,lv]] w fun r w'=>r= .returned (.int .i64 (Be d L))/\Ex w w':=by
 obtain⟨d0,d1,e0⟩:=Cp w d lv;obtain⟨za,zc,rfl,z1,z2,z3⟩:=(hL.ex e0).open3;unfold maxLen at z2;have HL:=Aa (hL.ex e0);have Z3:=Aa z3;clear z3 hL;have HG:=Aa (Gt (w.alloc (.cells #[.int .i64 d,.slice za L.length zc] 43)) d);go_enter Tryz.func70,Tryz.ntmps70
 go_wp2_with fail
 obtain⟨q,hq⟩:=nA w.heap.size;rw[hq]at d0 d1
 try simp only[hq]
 clear hq;generalize w.alloc (.cells #[.int .i64 d,.slice za L.length zc] 43)=w1 at *;have aJ:=Aa e0;clear e0;refine HG.o.mono ?_;rintro e wd⟨rfl,rfl⟩;by_cases hd:d<1∨64<d
 .have HR:=Aa (show(4:Int)=Be d L from by unfold Be;rw[if_pos hd]);have aR:Kk d=4:=by unfold Kk;rw[if_pos hd]
  rw[aR];clear hd aR;go_wp2_with fail
  go_ret;exact⟨Af HR.o,aJ.o⟩
 .have aR:Kk d=0:=by unfold Kk;rw[if_neg hd]
  rw[aR];obtain⟨D,rfl⟩:∃D:Nat,d=D:=⟨d.toNat,ac⟩;have hD1:1<=D:=c9;have hD2:D<=64:=ac;have aE:=Aa (show(¬(DK D (Bb L)=0/\L=Cl D ((Bb L).map C6) D))->5=Be D L from fun h=>by unfold Be;rw[if_neg hd];exact(if_neg h).symm);have bG:=Aa (show DK D (Bb L)=0->L=Cl D ((Bb L).map C6) D->0=Be D L from fun h k=>by unfold Be;rw[if_neg hd];exact(if_pos ⟨h,k⟩).symm);clear hd aR;have D0:=Aa d0;have D1:=Aa d1;by_cases hln:D<L.length
  .have HR:=Aa (aE.o <| by
    rintro⟨_,h⟩;have:=congrArg List.length h;have:=Od D ((Bb L).map C6) D;omega)
   have h1:(D:Int)<(L.length:Int):=ac;go_wp2_with fail
   go_ret;exact⟨Af HR.o,aJ.o⟩
  .have h1:¬(D:Int)<(L.length:Int):=by omega
   go_wp2_with fail
   clear d0 d1
   go_loopw [4,27] (fun gv' k' wr=>∃(k:Nat) (vals:List Value),k<=L.length/\k'= .int .i64 k/\Hia (F8 w1 wr gv' (Bb (L.take k)) vals)) (fun _ k' _=>L.length-(intOf k').toNat)
   case atStart=>exact⟨0, [],ac,rfl,Aa (F8.nil w1)⟩
   case round=>
    obtain⟨k,vals,hk,rfl,aA⟩:=hrel;have cA:=NR L k;obtain⟨ga,gc,rfl⟩:=Ac aA.o.own;by_cases hkl:k<L.length
    .obtain⟨l,hl⟩:∃l,L[k]?=some l:=⟨_,List.getElem?_eq_getElem hkl⟩;obtain⟨zb,zo,rfl,aO⟩:=Z3.o ac;obtain⟨u,r,c0,c1,c2,hu,hr⟩:=aO k l hl;have c0:=aA.o.ex.cell c0;have c1:=aA.o.ex.cell c1;have c2:=aA.o.ex.cell c2;have d0:=aA.o.ex.cell D0.o;have d1:=aA.o.ex.cell D1.o;obtain⟨oa,oc,rfl,_,_,_⟩:=hu.open;obtain⟨ra,rc,rfl,_,_,_⟩:=hr.open;have i1:(0:Int)<=(k:Int):=by omega
     have i2:(k:Int)<(L.length:Int):=ac;obtain⟨p,hp⟩:=nA l.pt;rw[hp]at c0;have bE:=Aa hl;have HPE:=Aa hp;have HU:=Aa hu;have aU:=Aa hr;obtain⟨b0,b1,b2,eb⟩:=Ef wr p (.slice oa l.orb.length oc) (.slice ra l.reps.length rc);have bd0:=eb.cell d0;have EB:=Aa eb;clear aO hl hp hu hr d1 eb;by_cases hbad:D<l.orb.length
     .have HR:=Aa (aE.o <| by
       rintro⟨_,h⟩;have:=(Oc (h ▸ List.mem_of_getElem? bE.o)).1;omega)
      have h2:(D:Int)<(l.orb.length:Int):=ac;clear hbad;go_wp2_with fail
      go_ret;exact⟨Af HR.o,aJ.o.trans (aA.o.ex.trans EB.o)⟩
     .have h2:¬(D:Int)<(l.orb.length:Int):=by omega
      by_cases hne:l.reps.length=l.orb.length
      .have h3:((l.reps.length:Int) !=(l.orb.length:Int))=false:=by simp;omega
       have HNE:=Aa hne;clear hne hbad;obtain⟨us,bO,_,bL⟩:=aU.o.vals;have bP:=Aa bL;have bR:=Aa bO;clear bL bO;have cG:=Aa (show ∀u∈us,u.oneCell'=true from fun u hu=>by
        obtain⟨i,hi,e⟩:=List.getElem_of_mem hu;have hul:us.length=l.reps.length:=by have:=bR.o.1;omega
        obtain⟨_,_,rfl,_⟩:=(bP.o i _ u (List.getElem?_eq_getElem ac) ar).open;rfl)
       have aZ:=NR L (k+1);have bY:=Aa (Pr bE.o);rw[bY.o,List.length_append]at aZ;have HB:=Aa (Nat.le_trans aA.o.ex.size EB.o.size);have bU:=Aa (Ai aA.o.own EB.o);have cC:=Aa (bR.o.ex (aA.o.ex.trans EB.o));go_wp2_with (at_builtin;refine Bd _ rfl _ _ 37 rfl w1.heap.size 22 (.slice none 0 0) 1 24 Tryz.underlying37 Bz rfl ae (.slice ga (Bb (L.take k)).length gc) (Bb (L.take k)).length vals rfl bU.o (.slice ra l.reps.length rc) l.reps.length us rfl cC.o cG.o ai ac HB.o ?_;intro v' w' aK hg hb;have cI:=Aa (aA.o.app (R:=l.reps) (us:=us) (fun i r u a b=>bP.o i r u a b) aK (Ex.grown (aA.o.ex.trans EB.o) bU.o (Nat.le_refl _) hg));obtain⟨oa',oc',rfl⟩:=Ac aK;clear aK hg hb)
       go_roundw
       case rel=>exact⟨k+1,_,ac,by go_num,by rw[bY.o];exact cI⟩
       case measure=>simp[intOf];omega
      .have h3:((l.reps.length:Int) !=(l.orb.length:Int))=true:=by simp;omega
       have HR:=Aa (aE.o <| by
        rintro⟨_,h⟩;have:=(Oc (h ▸ List.mem_of_getElem? bE.o)).2;omega)
       clear hbad hne;go_wp2_with fail
       go_ret;exact⟨Af HR.o,aJ.o.trans (aA.o.ex.trans EB.o)⟩
    .obtain rfl:k=L.length:=by omega
     have d0:=aA.o.ex.cell D0.o;have bA:=Lu wr D (Bb (L.take L.length)) _ aA.o.msl ac;rw[List.take_length]at bA;have bI:=Aa bA;have bM:Bb (L.take L.length)=Bb L:=by rw[List.take_length]
     rw[bM];have aG:=Aa aA.o.ex;clear bA bM aA cA;by_cases hg0:DK D (Bb L)=0
     .have aM:C7 D (Bb L)=(⟨D,Cl D ((Bb L).map C6) D⟩,0):=by unfold C7;rw[hg0,if_neg ae];rfl
      have bX:=Aa (bG.o hg0);have bF:=Aa (show L≠Cl D ((Bb L).map C6) D->5=Be D L from fun h=>aE.o fun k=>h k.2);obtain⟨K,hK⟩:=nA (Cl D ((Bb L).map C6) D);rw[hK]at aM bX bF;have aY:=Aa aM;clear hK aM hg0;by_cases hkl:K.length=L.length
      .have hb:((K.length:Int) !=(L.length:Int))=false:=by simp;omega
       have bV:=Aa hkl;clear hkl;go_wp2_with (go_at_call 123;refine bI.o.mono ?_;rintro e w5⟨⟨kv,rfl,aB⟩,aC⟩;rw[aY.o]at aB ⊢;dsimp only at aB ⊢;have cH:=Aa aB;obtain⟨ka,kc,rfl,_,_,aQ⟩:=aB.open3;have bW:=Aa aQ;have aL:=Aa (aG.o.trans aC);have d0:=(aG.o.trans aC).cell D0.o;have d1:=(aG.o.trans aC).cell D1.o;obtain⟨b0,b1,eb⟩:=Cp w5 D (.slice ka K.length kc);have e1:=eb.cell d1;have EB:=Aa eb;clear aB aQ aC eb)
       go_loopw [72] (fun j' wr=>∃(j:Nat),j<=L.length/\j'= .int .i64 j/\Hia (∀i,i<j->L[i]?=K[i]?)/\Hia (Ex (w5.alloc (.cells #[.int .i64 D,.slice ka K.length kc] 43)) wr)) (fun j' _=>L.length-(intOf j').toNat)
       case atStart=>exact⟨0,ac,rfl,Aa (fun i h=>ac),Aa (Ex.refl _)⟩
       case round=>
        clear d0 d1 e1;obtain⟨j,hj,rfl,aD,aF⟩:=hrel;by_cases hjl:j<L.length
        .obtain⟨l,hl⟩:∃l,L[j]?=some l:=⟨_,List.getElem?_eq_getElem hjl⟩;have cB:j<K.length:=by have:=bV.o;omega
         obtain⟨k,hk⟩:∃k,K[j]?=some k:=⟨_,List.getElem?_eq_getElem cB⟩;obtain⟨zb,zo,rfl,aO⟩:=Z3.o ac;obtain⟨yb,yo,rfl,bK⟩:=bW.o ac;have aT:=Aa ((aL.o.trans EB.o).trans aF.o);obtain⟨u,r,c0,c1,c2,hu,hr⟩:=aO j l hl;obtain⟨v,s,f0,f1,f2,hv,hs⟩:=bK j k hk;have c0:=aT.o.cell c0;have c1:=aT.o.cell c1;have c2:=aT.o.cell c2;have f0:=(EB.o.trans aF.o).cell f0;have f1:=(EB.o.trans aF.o).cell f1;have f2:=(EB.o.trans aF.o).cell f2;have b1:=aF.o.cell b1;obtain⟨oa,oc,rfl,_,_,_⟩:=hu.open;obtain⟨ra,rc,rfl,_,_,_⟩:=hr.open;obtain⟨pa,pc,rfl,_,_,_⟩:=hv.open;obtain⟨sa,sc,rfl,_,_,_⟩:=hs.open;have i1:(0:Int)<=(j:Int):=c9;have i2:(j:Int)<(L.length:Int):=ac;have i3:(j:Int)<(K.length:Int):=ac;obtain⟨p,hp⟩:=nA l.pt;rw[hp]at c0;obtain⟨t,ht⟩:=nA k.pt;rw[ht]at f0;have aV:=Aa hl;have aW:=Aa hk;have bS:=Aa hp;have bT:=Aa ht;obtain⟨a0,a1,a2,ea⟩:=Ef wr p (.slice oa l.orb.length oc) (.slice ra l.reps.length rc);have f0:=ea.cell f0;have f1:=ea.cell f1;have f2:=ea.cell f2;have b1:=ea.cell b1;obtain⟨g0,g1,g2,eg⟩:=Ef (wr.alloc (.cells #[.int .i64 p,.slice oa l.orb.length oc,.slice ra l.reps.length rc] 90)) t (.slice pa k.orb.length pc) (.slice sa k.reps.length sc);have cF:=Aa ((hu.ex aT.o).ex (ea.trans eg));have cE:=Aa (hv.ex ((EB.o.trans aF.o).trans (ea.trans eg)));have aU:=Aa ((hr.ex aT.o).ex (ea.trans eg));have bQ:=Aa (hs.ex ((EB.o.trans aF.o).trans (ea.trans eg)));have cD:=Aa (aF.o.trans (ea.trans eg));have bB:=Aa ((aJ.o.trans (aL.o.trans EB.o)).trans (aF.o.trans (ea.trans eg)));have a0:=eg.cell a0;have a1:=eg.cell a1;have a2:=eg.cell a2;have bN:(wr.alloc (.cells #[.int .i64 p,.slice oa l.orb.length oc,.slice ra l.reps.length rc] 90)).heap.size=wr.heap.size+1:=ag;rw[bN]at g0 g1 g2;clear aO bK hl hk hp ht hu hv hr hs ea eg bN;have bH:=Aa (show(L[j]?≠K[j]?)->5=Be D L from fun h=>bF.o fun e=>h cj);by_cases hpt:p=t
         .subst hpt;have bZ:(p !=p)=false:=by simp
          have A2:=Aa a2;have G2:=Aa g2;have aN:=Hu ((wr.alloc (.cells #[.int .i64 p,.slice oa l.orb.length oc,.slice ra l.reps.length rc] 90)).alloc (.cells #[.int .i64 p,.slice pa k.orb.length pc,.slice sa k.reps.length sc] 90)) l.orb k.orb _ _ cF.o cE.o;by_cases DJ:l.orb=k.orb
          .rw[decide_eq_true DJ]at aN;have aX:=Aa aN;clear aN;by_cases hre:l.reps=k.reps
           .have HE:=Aa (show L[j]?=K[j]? from by
             rw[aV.o,aW.o];have e1:=bS.o;have e2:=bT.o;cases l;cases k
             simp only at DJ hre e1 e2;rw[DJ,hre,e1,e2])
            have bJ:=Aa (show ∀i,i<j+1->L[i]?=K[i]? from fun i hi=>by
             by_cases e:i=j
             .subst e;exact HE.o
             .exact aD.o i ac)
            have bD:=Aa (decide_eq_true hre);clear DJ hre aD;go_wp2_with (first|(go_at_call 101;refine aX.o.mono ?_;rintro e w6⟨rfl,n6,aI⟩;have X6:=(show Ex ((wr.alloc (.cells #[.int .i64 p,.slice oa l.orb.length oc,.slice ra l.reps.length rc] 90)).alloc (.cells #[.int .i64 p,.slice pa k.orb.length pc,.slice sa k.reps.length sc] 90)) w6 from by rw[aI];exact(Ex.refl _).drewN n6);have a2:=X6.cell A2.o;have g2:=X6.cell G2.o;have aH:=Dn w6 l.reps k.reps _ _ (aU.o.ex X6) (bQ.o.ex X6);rw[bD.o]at aH;have aH:=Aa aH;have aS:=Aa X6;clear aI X6)|(go_at_call 128;refine aH.o.mono ?_;rintro e w7⟨rfl,n7,aP⟩;have bC:=Aa (aS.o.trans (show Ex w6 w7 from by rw[aP];exact(Ex.refl w6).drewN n7));clear aP))
            go_roundw
            case rel=>exact⟨j+1,ac,by go_num,bJ,Aa (cD.o.trans bC.o)⟩
            case measure=>simp[intOf];omega
           .have HR:=Aa (bH.o (by
             rw[aV.o,aW.o];intro e;injection e with e;exact hre cj))
            have bD:=Aa (decide_eq_false hre);clear DJ hre aD;go_wp2_with (first|(go_at_call 101;refine aX.o.mono ?_;rintro e w6⟨rfl,n6,aI⟩;have X6:=(show Ex ((wr.alloc (.cells #[.int .i64 p,.slice oa l.orb.length oc,.slice ra l.reps.length rc] 90)).alloc (.cells #[.int .i64 p,.slice pa k.orb.length pc,.slice sa k.reps.length sc] 90)) w6 from by rw[aI];exact(Ex.refl _).drewN n6);have a2:=X6.cell A2.o;have g2:=X6.cell G2.o;have aH:=Dn w6 l.reps k.reps _ _ (aU.o.ex X6) (bQ.o.ex X6);rw[bD.o]at aH;have aH:=Aa aH;have aS:=Aa X6;clear aI X6)|(go_at_call 128;refine aH.o.mono ?_;rintro e w7⟨rfl,n7,aP⟩;have bC:=Aa (aS.o.trans (show Ex w6 w7 from by rw[aP];exact(Ex.refl w6).drewN n7));clear aP))
            go_ret;exact⟨Af HR.o,bB.o.trans bC.o⟩
          .have HR:=Aa (bH.o (by
            rw[aV.o,aW.o];intro e;injection e with e;exact DJ cj))
           rw[decide_eq_false DJ]at aN;have aX:=Aa aN;clear aN DJ aD;go_wp2_with (go_at_call 101;refine aX.o.mono ?_;rintro e w6⟨rfl,n6,aI⟩;have aS:=Aa (show Ex ((wr.alloc (.cells #[.int .i64 p,.slice oa l.orb.length oc,.slice ra l.reps.length rc] 90)).alloc (.cells #[.int .i64 p,.slice pa k.orb.length pc,.slice sa k.reps.length sc] 90)) w6 from by rw[aI];exact(Ex.refl _).drewN n6);clear aI)
           go_ret;exact⟨Af HR.o,bB.o.trans aS.o⟩
         .have bZ:(p !=t)=true:=by simpa using hpt
          have HR:=Aa (bH.o (by
           rw[aV.o,aW.o];intro e;injection e with e;have e1:=bS.o;have e2:=bT.o;exact hpt (by rw[<-e1,<-e2,e])))
          clear hpt;go_wp2_with fail
          go_ret;exact⟨Af HR.o,bB.o⟩
        .obtain rfl:j=L.length:=by omega
         have HR:=Aa (bX.o (Qq bV.o.symm aD.o));go_wp2_with fail
         go_ret;exact⟨Af HR.o,aJ.o.trans ((aL.o.trans EB.o).trans aF.o)⟩
      .have hb:((K.length:Int) !=(L.length:Int))=true:=by simp;omega
       have HR:=Aa (bF.o fun e=>hkl (by rw[<-e]));clear hkl;go_wp2_with (go_at_call 123;refine bI.o.mono ?_;rintro e w5⟨⟨kv,rfl,aB⟩,aC⟩;rw[aY.o]at aB ⊢;dsimp only at aB ⊢;have cH:=Aa aB;obtain⟨ka,kc,rfl,_,_,aQ⟩:=aB.open3;have bW:=Aa aQ;have aL:=Aa (aG.o.trans aC);have d0:=(aG.o.trans aC).cell D0.o;have d1:=(aG.o.trans aC).cell D1.o;obtain⟨b0,b1,eb⟩:=Cp w5 D (.slice ka K.length kc);have e1:=eb.cell d1;have EB:=Aa eb;clear aB aQ aC eb)
       go_ret;exact⟨Af HR.o,aJ.o.trans (aL.o.trans EB.o)⟩
     .obtain⟨E,hE⟩:=nA (DK D (Bb L));have aM:C7 D (Bb L)=(⟨0, []⟩,E):=by unfold C7;rw[if_pos hg0,hE]
      have aY:=Aa aM;have HR:=Aa (aE.o fun h=>hg0 h.1);rw[hE]at hg0;have hb:(E !=0)=true:=by simpa using hg0
      clear aM hE hg0;go_wp2_with (go_at_call 123;refine bI.o.mono ?_;rintro e w5⟨⟨kv,rfl,aB⟩,aC⟩;rw[aY.o]at aB ⊢;dsimp only at aB ⊢;obtain⟨ka,kc,rfl,_,_,_⟩:=aB.open3;have aL:=Aa (aG.o.trans aC);have d0:=(aG.o.trans aC).cell D0.o;have d1:=(aG.o.trans aC).cell D1.o;obtain⟨b0,b1,eb⟩:=Cp w5 0 (.slice ka 0 kc);have EB:=Aa eb;clear aB aC eb)
      go_ret;exact⟨Af HR.o,aJ.o.trans (aL.o.trans EB.o)⟩
end
section
theorem RH{P:(Nat->Nat)->Prop}(h:∃f,P f)(n:Nat):∃f,P f/\∀g,P g->Eb n f g:=by
 have aC:∀i,∃f,P f/\∀g,P g->(∀j,j<i->f j=g j)∨∃k,k<i/\(∀j,j<k->f j=g j)/\f k<g k:=by
  intro i
  induction i with
  | zero=>
   obtain⟨f,hf⟩:=h;exact⟨f,hf,fun g _=> .inl fun j hj=>ac⟩
  | succ i ih=>
   obtain⟨f,hf,hl⟩:=ih;have aA:∀N f',P f'->(∀j,j<i->f j=f' j)->f' i<=N->∃aB,P aB/\(∀j,j<i->f j=aB j)/\∀g,P g->(∀j,j<i->f j=g j)->aB i<=g i:=by
    intro N
    induction N with
    | zero=>exact fun f' h1 h2 h3=>⟨f',h1,h2,fun g _ _=>ac⟩
    | succ N ihN=>
     intro f' h1 h2 h3;by_cases hex:∃g,P g/\(∀j,j<i->f j=g j)/\g i<=N
     .obtain⟨g,g1,g2,g3⟩:=hex;exact ihN g g1 g2 g3
     .refine⟨f',h1,h2,fun g g1 g2=>?_⟩;apply Classical.byContradiction;intro hn;exact hex ⟨g,g1,g2,ac⟩
   obtain⟨f',h1,h2,h3⟩:=aA (f i) f hf (fun _ _=>rfl) (Nat.le_refl _);refine⟨f',h1,fun g hg=>?_⟩;rcases hl g hg with h4|⟨k,k1,k2,k3⟩
   .have h5:=h3 g hg h4;by_cases e:f' i=g i
    .exact .inl fun j hj=>by
      by_cases e2:j=i
      .subst e2;exact e
      .rw[<-h2 j ac,h4 j ac]
    .exact .inr ⟨i,ac,fun j hj=>by rw[<-h2 j hj,h4 j hj],ac⟩
   .exact .inr ⟨k,ac,fun j hj=>by rw[<-h2 j ac,k2 j hj],by rw[<-h2 k k1];exact k3⟩
 obtain⟨f,hf,hl⟩:=aC n;exact⟨f,hf,hl⟩
open Classical in
theorem DT {S:List (Nat->Nat)} {b m x:Nat}:x∈Bh S b m↔x<m/\∃f,Gn S f/\A7 b f/\f b=x:=by
 unfold Bh;rw[List.mem_filter,List.mem_range,decide_eq_true_eq]
theorem Gp{n:Nat}{S:List (Nat->Nat)}(hS:∀s∈S,Bj n s){b x:Nat}(h:∃f,Gn S f/\A7 b f/\f b=x):D3 n S b x (F4 n S b x):=by
 obtain⟨f,⟨h1,h2,h3⟩,h4⟩:=RH (P:=fun f=>Gn S f/\A7 b f/\f b=x) h n;have hl:D3 n S b x f:=⟨h1,h2,h3,fun g k1 k2 k3=>h4 g ⟨k1,k2,k3⟩⟩;rw[IK hS hl];exact hl
inductive Kb(n:Nat)(S:List (Nat->Nat)):Nat->List Nat->Prop
 | nil:Kb n S n []
  | skip {b:Nat} {bs:List Nat}:b<n->(Bh S b n).length<=1->Kb n S (b+1) bs->Kb n S b bs
 | cons {b:Nat} {bs:List Nat}:b<n->1<(Bh S b n).length->Kb n S (b+1) bs->Kb n S b (b :: bs)
theorem Kb.le{n:Nat}{S:List (Nat->Nat)}{b:Nat}{bs:List Nat}(h:Kb n S b bs):b<=n:=by
 cases h <;> omega
theorem Kb.ge{n:Nat}{S:List (Nat->Nat)}{b:Nat}{bs:List Nat}(h:Kb n S b bs):∀c∈bs,b<=c/\c<n:=by
 induction h with
 | nil=>intro c hc;cases hc
 | skip h1 _ _ ih=>intro c hc;have:=ih c hc;omega
 | cons h1 _ _ ih=>
  intro c hc;rcases List.mem_cons.1 hc with e|e
  .subst e;omega
  .have:=ih c e;omega
noncomputable def DH(n:Nat)(S:List (Nat->Nat))(k:Nat):List Nat:=((List.range k).map fun i=>n-k+i).filter fun b=>decide (1<(Bh S b n).length)
theorem Sy(n:Nat)(S:List (Nat->Nat)):∀k,k<=n->Kb n S (n-k) (DH n S k)
 | 0,_=>by
  rw[Nat.sub_zero];exact .nil
 | k+1,hk=>by
  have ih:=Sy n S k ac;have he:((List.range (k+1)).map fun i=>n-(k+1)+i)=(n-(k+1)) :: ((List.range k).map fun i=>n-k+i):=by
   rw[List.range_succ_eq_map,List.map_cons,List.map_map]
   congr 1
   exact List.map_congr_left fun i _=>by show n-(k+1)+(i+1)=n-k+i;omega
  have hb:n-k=n-(k+1)+1:=ac;rw[hb]at ih;by_cases h:1<(Bh S (n-(k+1)) n).length
  .have:DH n S (k+1)=(n-(k+1)) :: DH n S k:=by
    unfold DH;rw[he,List.filter_cons,if_pos (decide_eq_true h)]
   rw[this];exact .cons ac h ih
  .have:DH n S (k+1)=DH n S k:=by
    unfold DH;rw[he,List.filter_cons,if_neg ay]
   rw[this];exact .skip ac ac ih
noncomputable def Nu(n:Nat)(S:List (Nat->Nat)):List Nat:=(List.range n).filter fun b=>decide (1<(Bh S b n).length)
theorem P6(n:Nat)(S:List (Nat->Nat)):Kb n S 0 (Nu n S):=by
 have h:=Sy n S n (Nat.le_refl _);rw[Nat.sub_self]at h;have:DH n S n=Nu n S:=by
  unfold DH Nu
  congr 1
  rw[Nat.sub_self];simp
 rwa[this]at h
theorem JZ(n:Nat)(S:List (Nat->Nat)):Cl n S n=(Nu n S).map (Fh n S):=by
 unfold Cl Nu;rw[List.filter_map]
 congr 1
 apply List.filter_congr;intro b _;show decide (1<(Db (Bh S b n)).length)=_
 rw[Ci]
theorem Vz{n:Nat}{S:List (Nat->Nat)}{b:Nat}(hb:b<n)(h:(Bh S b n).length<=1){f:Nat->Nat}(hf:Gn S f)(hP:Bj n f)(hF:A7 b f):A7 (b+1) f:=fun i hi=>by
 by_cases e:i=b
 .subst e;have h1:i∈Bh S i n:=DT.2 ⟨hb,ED,.one,JN _,rfl⟩;have h2:f i∈Bh S i n:=DT.2 ⟨hP.lt i hb,f,hf,hF,rfl⟩;obtain⟨j,hj,e1⟩:=List.getElem_of_mem h1;obtain⟨k,hk,e2⟩:=List.getElem_of_mem h2;have:j=k:=by omega
  subst this;rw[<-e2,e1]
 .exact hF i ac
noncomputable def Xi(n:Nat)(S:List (Nat->Nat)):List Nat->(Nat->Nat)->Nat->(Nat->Nat) × Nat
 | [],f,k=>(f,k)
 | b :: bs,f,k=>if f b∈Bh S b n then Xi n S bs (An f (A5 n (F4 n S b (f b)))) (k+1) else(f,k)
noncomputable def BJ(n:Nat)(S:List (Nat->Nat))(bs:List Nat):List (Nat->Nat):=bs.flatMap fun b=>(Bh S b n).map (F4 n S b)
theorem K7(n:Nat)(S:List (Nat->Nat))(bs:List Nat):Bb (bs.map (Fh n S))=(BJ n S bs).map (li n):=by
 unfold Bb BJ;rw[List.flatMap_map,List.map_flatMap]
 congr 1
 funext b;show Ds n S b n=_
 unfold Ds;rw[List.map_map];rfl
theorem KQ{n:Nat}{S:List (Nat->Nat)}(hS:∀s∈S,Bj n s){bs:List Nat}{r:Nat->Nat}(h:r∈BJ n S bs):∃b∈bs,Gn S r/\A7 b r:=by
 unfold BJ at h;obtain⟨b,hb,h1⟩:=List.mem_flatMap.1 h;obtain⟨x,hx,rfl⟩:=List.mem_map.1 h1;have:=Gp hS (DT.1 hx).2;exact⟨b,hb,this.gn,this.fix⟩
theorem Gi{n:Nat}{S:List (Nat->Nat)}(hS:∀s∈S,Bj n s)(bs:List Nat):∀r∈BJ n S bs,Bj n r:=fun r hr=>by
 obtain⟨_,_,h,_⟩:=KQ hS hr;exact h.isP hS
theorem Rj{n:Nat}{S:List (Nat->Nat)}(hS:∀s∈S,Bj n s){b:Nat}(hb:b<n){f:Nat->Nat}(hf:Gn S f)(hF:A7 b f):
  f b∈Bh S b n/\Gn S (An f (A5 n (F4 n S b (f b))))/\A7 (b+1) (An f (A5 n (F4 n S b (f b))))/\An (An f (A5 n (F4 n S b (f b)))) (F4 n S b (f b))=f:=by
 have hP:=hf.isP hS;have hm:f b∈Bh S b n:=DT.2 ⟨hP.lt b hb,f,hf,hF,rfl⟩;have hl:=Gp hS (DT.1 hm).2;have aA:=hl.gn.isP hS;exact⟨hm,hf.mul (hl.gn.inv hS),hF.div aA hl.fix hl.at_,aA.cancel⟩
theorem SC{n:Nat}{S:List (Nat->Nat)}(hS:∀s∈S,Bj n s){b:Nat}{bs:List Nat}(h:Kb n S b bs):∀(f:Nat->Nat) (k:Nat),Gn S f->A7 b f->Xi n S bs f k=(ED,k+bs.length)/\Gn (BJ n S bs) f:=by
 induction h with
 | nil=>
  intro f k hf hF;have:=A7.all (hf.isP hS) hF;subst this;exact⟨rfl,.one⟩
 | skip h1 h2 _ ih=>exact fun f k hf hF=>ih f k hf (Vz h1 h2 hf (hf.isP hS) hF)
 | @cons b bs h1 h2 _ ih=>
  intro f k hf hF;obtain⟨k1,k2,k3,k4⟩:=Rj hS h1 hf hF;obtain⟨m1,m2⟩:=ih _ (k+1) k2 k3;constructor
  .unfold Xi;rw[if_pos k1,m1,List.length_cons,show k+1+bs.length=k+(bs.length+1) by omega]
  .rw[<-k4];refine Gn.mul (m2.mono fun s hs=>Gn.of ?_) (Gn.of ?_)
   .unfold BJ at hs ⊢;rw[List.flatMap_cons];exact List.mem_append_right _ hs
   .unfold BJ;rw[List.flatMap_cons];exact List.mem_append_left _ (List.mem_map.2 ⟨_,k1,rfl⟩)
theorem DP{n:Nat}{S:List (Nat->Nat)}(hS:∀s∈S,Bj n s){b:Nat}{bs:List Nat}(h:Kb n S b bs)(f:Nat->Nat):Gn (BJ n S bs) f↔Gn S f/\A7 b f:=by
 constructor
 .intro hf
  induction hf with
  | one=>exact⟨.one,JN _⟩
  | step _ hs ih=>
   obtain⟨c,hc,h1,h2⟩:=KQ hS hs;have:=h.ge c hc;exact⟨ih.1.mul h1,ih.2.comp fun i hi=>h2 i ac⟩
 .rintro⟨h1,h2⟩;exact(SC hS h f 0 h1 h2).2
open Classical in
theorem Hh {n:Nat} {S:List (Nat->Nat)} (hS:∀s∈S,Bj n s) {b:Nat} {bs:List Nat} (h:Kb n S b bs) {c:Nat} (hc:b<=c) (m:Nat):Bh (BJ n S bs) c m=Bh S c m:=by
 unfold Bh;apply List.filter_congr;intro x _;rw[decide_eq_decide];constructor
 .rintro⟨f,h1,h2,h3⟩;exact⟨f,((DP hS h f).1 h1).1,h2,h3⟩
 .rintro⟨f,h1,h2,h3⟩;exact⟨f,(DP hS h f).2 ⟨h1,fun i hi=>h2 i ac⟩,h2,h3⟩
theorem Ta{n:Nat}{S:List (Nat->Nat)}(hS:∀s∈S,Bj n s){b:Nat}{bs:List Nat}(h:Kb n S b bs){c:Nat}(hc:c<b):(Bh (BJ n S bs) c n).length<=1:=by
 have aA:∀x∈Bh (BJ n S bs) c n,x=c:=fun x hx=>by
  obtain⟨_,f,h1,_,h3⟩:=DT.1 hx;rw[<-h3];exact((DP hS h f).1 h1).2 c hc
 have aB:(Bh (BJ n S bs) c n).Nodup:=List.Nodup.sublist List.filter_sublist List.nodup_range
 match hq:Bh (BJ n S bs) c n with
 | []=>simp
 | [x]=>simp
 | x :: y :: q=>
  exfalso;rw[hq]at aB aA;have h1:=aA x ag;have h2:=aA y ag;rw[h1,h2]at aB;simp at aB
theorem RI{n:Nat}{S:List (Nat->Nat)}(hS:∀s∈S,Bj n s){b:Nat}{bs:List Nat}(h:Kb n S b bs){c:Nat}(hc:b<=c):Fh n (BJ n S bs) c=Fh n S c:=by
 have hL:∀x,x∈Bh S c n->F4 n (BJ n S bs) c x=F4 n S c x:=fun x hx=>by
  have hl:=Gp hS (DT.1 hx).2;refine IK (Gi hS bs) ⟨(DP hS h _).2 ⟨hl.gn,fun i hi=>hl.fix i ac⟩,hl.fix,hl.at_,fun g h1 h2 h3=>hl.le g ((DP hS h g).1 h1).1 h2 h3⟩
 unfold Fh Ds;rw[Hh hS h hc]
 congr 1
 exact List.map_congr_left fun x hx=>by rw[hL x hx]
theorem Uu{n:Nat}{S:List (Nat->Nat)}(hS:∀s∈S,Bj n s){b:Nat}{bs:List Nat}(h:Kb n S b bs):Cl n (BJ n S bs) n=bs.map (Fh n S):=by
 rw[JZ];have aA:∀ {b':Nat} {bs':List Nat},Kb n S b' bs'->b<=b'->∀bs'',Kb n (BJ n S bs) b' bs''->bs''=bs':=by
  intro b' bs' h'
  induction h' with
  | nil=>
   intro hb bs'' h2
   cases h2 with
   | nil=>rfl
   | skip h _ _=>omega
   | cons h _ _=>omega
  | skip h1 h2 _ ih=>
   intro hb bs'' h3
   cases h3 with
   | nil=>omega
   | skip k1 k2 k3=>exact ih ac _ k3
   | cons k1 k2 k3=>rw[Hh hS h hb]at k2;omega
  | cons h1 h2 _ ih=>
   intro hb bs'' h3
   cases h3 with
   | nil=>omega
   | skip k1 k2 k3=>rw[Hh hS h hb]at k2;omega
   | cons k1 k2 k3=>rw[ih ac _ k3]
 have low:∀d c,c+d=b->∀bs'',Kb n (BJ n S bs) c bs''->Kb n (BJ n S bs) b bs'':=by
  intro d
  induction d with
  | zero=>intro c hc bs'' h2;rw[<-hc];exact h2
  | succ d ih=>
   intro c hc bs'' h2;have hle:=h.le
   cases h2 with
   | nil=>omega
   | skip k1 k2 k3=>exact ih (c+1) ac bs'' k3
   | cons k1 k2 k3=>have:=Ta hS h (c:=c) ac;omega
 rw[aA h (Nat.le_refl _) _ (low b 0 ac _ (P6 n _))];exact List.map_congr_left fun c hc=>RI hS h (h.ge c hc).1
theorem Wr{n:Nat}{S:List (Nat->Nat)}(h1:1<=n)(h2:n<=64)(hS:∀s∈S,Bj n s){b:Nat}{bs:List Nat}(h:Kb n S b bs):Be n (bs.map (Fh n S))=0:=by
 unfold Be;rw[if_neg ac];refine if_pos ⟨?_,?_⟩
 .rw[K7];exact Wc h1 h2 (Gi hS bs)
 .rw[K7,IJ (Gi hS bs)];exact(Uu hS h).symm
theorem QV{d:Int}{L:List Lv}(h:Be d L=0):∃n:Nat,d=n/\1<=n/\n<=64/\∃S:List (Nat->Nat),(∀s∈S,Bj n s)/\Bb L=S.map (li n)/\L=(Nu n S).map (Fh n S):=by
 unfold Be at h;split at h
 .cases h
 .split at h
  .rename_i h1 h2;obtain⟨N,rfl,h3,h4,S,h5,h6⟩:=IW h2.1;refine⟨N,rfl,h3,h4,S,h6,h5,?_⟩;rw[<-JZ];have:=h2.2
   rwa[h5,IJ h6]at this
  .cases h
end
section
open Go.RowKit
def CO(x:Nat):Prop:=x<Bo^200
theorem CO.len{x n:Nat}{f:Nat->Nat}(h:CO x)(hc:H4 n f)(hv:vS f n=x):n<=1000:=Nat.le_trans (hc.len (by rw[hv];exact h)) ac
theorem FK{x:Nat}(h:x<18446744073709551616):CO x:=by
 have h1:(18446744073709551616:Nat)=Bo^2:=ae;have h2:Bo^2<=Bo^200:=Nat.pow_le_pow_right GQ ac;unfold CO;omega
theorem Uv:H4 1 fun _=>1:=⟨fun _ _=>ae,fun _ _=>ac⟩
theorem W8:vS (fun _=>1) 1=1:=ae
def Zq(w:World)(v:Value)(xs:List Nat):Prop:=∃vals:List Value,Sl w v xs.length 1 vals/\∀(i x:Nat) (u:Value),xs[i]?=some x->vals[i]?=some u->GU w u x
theorem Zq.open{w:World}{v:Value}{xs:List Nat}(h:Zq w v xs):∃a cap,v= .slice a xs.length cap/\xs.length<=cap/\cap<=maxLen/\
  (0<xs.length->∃b o,a=some ⟨b,o,none⟩/\∀(i x:Nat),xs[i]?=some x->∃u,w.cell? ⟨b,o+i,none⟩=some u/\GU w u x):=by
 obtain⟨vals,⟨h1,a,cap,h2,h3,h4,h5⟩,h6⟩:=h;refine⟨a,cap,h2,h3,h4,fun hn=>?_⟩;obtain⟨b,o,h7,h8⟩:=h5 hn;refine⟨b,o,h7,fun i x hx=>?_⟩;have hi:=(List.getElem?_eq_some_iff.1 hx).1;have hu:vals[i]?=some vals[i]:=List.getElem?_eq_getElem ac;exact⟨_,h8 i _ hu,h6 i x _ hx hu⟩
def Ih:List Nat->Nat:=fun xs=>xs.foldl (·* ·) 1
theorem Jm{xs:List Nat}{k x:Nat}(h:xs[k]?=some x):Ih (xs.take (k+1))=Ih (xs.take k)*x:=by
 unfold Ih;rw[List.take_add_one,h,List.foldl_append];rfl
theorem Tf(w:World)(xs:List Nat)(v:Value)(hv:Zq w v xs)(aM:∀x∈xs,CO x)(hp:∀k,k<=xs.length->CO (Ih (xs.take k))):
  Calls Tryz.prog 41 #[v] w fun r w'=>(∃u,r= .returned u/\GU w' u (Ih xs))/\Ex w w':=by
 obtain⟨a,cap,rfl,s1,s2,s3⟩:=hv.open;unfold maxLen at s2;have S3:=Aa s3;have aT:=Aa aM;have HP:=Aa hp;clear hv s3 aM hp;have ea:=(Ex.refl w).alloc (.cells #[.int .u32 1] 91);have q0:(w.alloc (.cells #[.int .u32 1] 91)).cell? ⟨w.heap.size,0,none⟩=some (.int .u32 1):=ag;have H1:=Aa (show GU (w.alloc (.cells #[.int .u32 1] 91)) (.slice (some ⟨w.heap.size,0,none⟩) 1 1) 1 from⟨1,_,Uv,W8,NL.mk (Nat.le_refl _) ai fun _=>⟨_,0,rfl,fun j hj=>by
  obtain rfl:j=0:=ac;exact q0⟩⟩)
 have EA:=Aa ea;clear ea q0;go_enter Tryz.func41,Tryz.ntmps41
 go_wp2_with fail
 go_loopw [3,9] (fun p' k' wr=>∃(k:Nat),k<=xs.length/\k'= .int .i64 k/\Hia (GU wr p' (Ih (xs.take k)))/\Hia (Ex w wr)) (fun _ k' _=>xs.length-(intOf k').toNat)
 case atStart=>exact⟨0,ac,rfl,H1,EA⟩
 case round=>
  clear H1 EA;obtain⟨k,hk,rfl,hn,aF⟩:=hrel;have aV:=Aa (HP.o k hk);obtain⟨n,f,aE,aD,aC⟩:=hn.o;have hn1:=aV.o.len aE aD;obtain⟨pa,pc,rfl,_,_,_⟩:=aC.open;by_cases hkn:k<xs.length
  .obtain⟨x,hx⟩:∃x,xs[k]?=some x:=⟨_,List.getElem?_eq_getElem hkn⟩;obtain⟨b,o,rfl,hc⟩:=S3.o ac;obtain⟨u,hu,aR⟩:=hc k x hx;have c1:=aF.o.cell hu;obtain⟨m,g,aJ,aI,aH⟩:=aR;have hm1:=(aT.o x (List.mem_of_getElem? hx)).len aJ aI;have i1:(0:Int)<=(k:Int):=by omega
   have i2:(k:Int)<(xs.length:Int):=ac;have aW:=Aa (Fr _ m g u (aH.ex aF.o) aJ.lt);have aU:=Aa (fun u' m' (aN:m'<=m) (aS:H4 m' g) (h:NL _ u' m' g)=>Rd _ n m' f g _ _ aC h aE.lt aS.lt ac ac);have aX:=Aa (Jm hx);have aZ:=Aa aD;have aY:=Aa aI;obtain⟨ya,yc,rfl,_,_,_⟩:=aH.open;clear hc hu hx aE aD aC aJ aI aH;go_wp2_with (first|(go_at_call 87;refine aW.o.mono ?_;rintro e w5⟨⟨u,m',rfl,aN,aP,aO,aG⟩,rfl⟩;obtain⟨oa,oc,rfl,_,_,_⟩:=aG.open;have aQ:=Aa (aU.o _ m' aN aP aG);rw[aZ.o,aO,aY.o]at aQ;clear aP aO aG)|(go_at_call 95;refine aQ.o.mono ?_;rintro e w6⟨⟨u6,rfl,aA⟩,aB⟩;obtain⟨_,_,_,_,h6⟩:=id aA;obtain⟨oa,oc,rfl,_,_,_⟩:=h6.open;have aL:=Aa aA;have aK:=Aa (aF.o.trans aB);clear aA h6 aB))
   go_roundw
   case rel=>exact⟨k+1,ac,by go_num,by rw[aX.o];exact aL,aK⟩
   case measure=>simp[intOf];omega
  .obtain rfl:k=xs.length:=by omega
   have hT:=Om wr n f _ aC aE.lt ac;rw[aD,List.take_length]at hT;have HT:=Aa hT;clear hT aE aD aC;go_wp2_with (go_at_call 96;refine HT.o.mono ?_;rintro e w6⟨⟨u6,rfl,aA⟩,aB⟩;obtain⟨_,_,_,_,h6⟩:=id aA;obtain⟨oa,oc,rfl,_,_,_⟩:=h6.open;have aL:=Aa aA;have aK:=Aa (aF.o.trans aB);clear aA h6 aB)
   go_ret;exact⟨⟨_,rfl,aL.o⟩,aK.o⟩
theorem NF(w:World)(n i:Nat)(f:Nat->Nat)(v:Value)(hv:NL w v n f)(aA:∀k,k<n->f k<Bo)(hi:i<=10000):
  Calls Tryz.prog 110 #[v,.int .i64 i] w fun r w'=>r= .returned (.int .u64 ((if i<n then f i else 0:Nat):Int))/\w'=w:=by
 obtain⟨a,cap,rfl,s1,s2,s3⟩:=hv.open;have S3:=Aa s3;unfold maxLen at s2;clear hv s3;by_cases hin:i<n
 .obtain⟨b,o,rfl,hc⟩:=S3.o ac;have c1:=hc i hin;rw[if_pos hin];have hb:f i<4294967296:=aA i hin;have e1:IntKind.u64.wrap (f i:Int)=(f i:Int):=by rw[IntKind.wrap_u64];omega
  have i1:(0:Int)<=(i:Int):=ac;have i2:(i:Int)<(n:Int):=ac;clear hc aA hb;go_enter Tryz.func110,Tryz.ntmps110
  go_wp2_with fail
  go_ret;exact⟨rfl,rfl⟩
 .rw[if_neg hin];have i2:¬(i:Int)<(n:Int):=by omega
  clear aA;go_enter Tryz.func110,Tryz.ntmps110
  go_wp2_with fail
  go_ret;exact⟨rfl,rfl⟩
def NH(n:Nat)(f:Nat->Nat)(i:Nat):Nat:=if i<n then f i else 0
theorem Tt{n m:Nat}(f:Nat->Nat)(h:n<=m):vS (NH n f) m=vS f n:=by
 rw[LC h fun k h1 _=>by unfold NH;rw[if_neg ac]];exact Gy fun k hk=>by unfold NH;rw[if_pos hk]
theorem SX(w:World)(x y:Nat)(u v:Value)(hu:GU w u x)(hv:GU w v y)(hx:CO x)(hy:CO y):
  Calls Tryz.prog 50 #[u,v] w fun r w'=>(∃z:Int,r= .returned (.int .i64 z)/\(z=0↔x=y))/\w'=w:=by
 obtain⟨n,f,aE,aD,aI⟩:=hu;obtain⟨m,g,aC,aB,aH⟩:=hv;have hn:=hx.len aE aD;have hm:=hy.len aC aB;have aP:=Aa (fun i (hi:i<=10000)=>NF w n i f u aI aE.lt hi);have aO:=Aa (fun i (hi:i<=10000)=>NF w m i g v aH aC.lt hi);have aQ:=Aa (show(∀i,NH n f i=NH m g i)->x=y from fun h=>by
  rw[<-aD,<-aB,<-Tt f (Nat.le_max_left n m),<-Tt g (Nat.le_max_right n m)];exact Gy fun k _=>h k)
 have aN:=Aa (show ∀i,NH n f i≠NH m g i->¬x=y from fun i h e=>by
  obtain⟨h1,h2⟩:=aE.uniq aC (by rw[aD,aB,e]);subst h1;refine h ?_;unfold NH;split
  .exact h2 i ac
  .rfl)
 obtain⟨ua,uc,rfl,_,_,_⟩:=aI.open;obtain⟨va,vc,rfl,_,_,_⟩:=aH.open;clear aE aD aI aC aB aH hx hy;have aR:=Aa (show(∀i,i<n∨i<m->NH n f i=NH m g i)->x=y from fun h=>aQ.o fun i=>by
  by_cases hi:i<n∨i<m
  .exact h i hi
  .unfold NH;rw[if_neg ac,if_neg ac])
 go_enter Tryz.func50,Tryz.ntmps50
 go_wp2_with fail
 all_goals
  go_loopw [5] (fun i' wr=>∃i:Nat,i<=1000/\i'= .int .i64 ((i:Int)-1)/\wr=w/\Hia (∀k,i<=k->k<n∨k<m->NH n f k=NH m g k)) (fun i' _=>((intOf i')+1).toNat)
  case atStart=>first|exact⟨n,ac,rfl,rfl,Aa (fun k h1 h2=>ac)⟩|exact⟨m,ac,rfl,rfl,Aa (fun k h1 h2=>ac)⟩
  case round=>
   obtain⟨i,hi,rfl,rfl,aA⟩:=hrel
   cases i with
   | zero=>
    have HE:=Aa (aR.o fun k hk=>aA.o k (Nat.zero_le _) hk);go_wp2_with fail
    go_ret;exact⟨⟨0,rfl,fun _=>HE.o,fun _=>rfl⟩,rfl⟩
   | succ k=>
    have aK:((k+1:Nat):Int)-1=(k:Int):=ac;rw[aK];have i1:(0:Int)<=(k:Int):=ac;have L1:=Aa (aP.o k ac);have L2:=Aa (aO.o k ac);have aJ:=Aa (aN.o k);obtain⟨p,hp⟩:=nA ((if k<n then f k else 0));obtain⟨q,hq⟩:=nA ((if k<m then g k else 0));rw[hp]at L1;rw[hq]at L2;have aG:NH n f k=p:=hp;have aF:NH m g k=q:=hq;rw[aG,aF]at aJ;have aL:=Aa (show p=q->∀j,k<=j->j<n∨j<m->NH n f j=NH m g j from fun e j h1 h2=>by
     by_cases e2:j=k
     .subst e2;rw[aG,aF,e]
     .exact aA.o j ac h2)
    clear hp hq aG aF aA;rcases Nat.lt_trichotomy p q with h|h|h
    .have HN:=Aa (aJ.o ac);have h1:(p:Int)<(q:Int):=by omega
     go_wp2_with (go_at_call 110;first|(with_reducible refine L1.o.mono ?_;rintro e w2⟨rfl,rfl⟩)|(with_reducible refine L2.o.mono ?_;rintro e w2⟨rfl,rfl⟩))
     go_ret;exact⟨⟨-1,rfl,fun h=>ac,fun h=>absurd h HN.o⟩,rfl⟩
    .subst h;have aM:=Aa (aL.o rfl);have h1:¬(p:Int)<(p:Int):=by omega
     go_wp2_with (go_at_call 110;first|(with_reducible refine L1.o.mono ?_;rintro e w2⟨rfl,rfl⟩)|(with_reducible refine L2.o.mono ?_;rintro e w2⟨rfl,rfl⟩))
     go_roundw
     case rel=>exact⟨k,ac,by go_num,trivial,aM⟩
     case measure=>simp[intOf]
    .have HN:=Aa (aJ.o ac);have h1:¬(p:Int)<(q:Int):=by omega
     have h2:(q:Int)<(p:Int):=ac;go_wp2_with (go_at_call 110;first|(with_reducible refine L1.o.mono ?_;rintro e w2⟨rfl,rfl⟩)|(with_reducible refine L2.o.mono ?_;rintro e w2⟨rfl,rfl⟩))
     go_ret;exact⟨⟨1,rfl,fun h=>ac,fun h=>absurd h HN.o⟩,rfl⟩
end
end Go.Proofs.YtehieobniamagaaGreat
