/- What Certify gathers. -/
import Derived.Test.YtehieobniamagaaGreatZs24
namespace Go.Proofs.YtehieobniamagaaGreat
open Go.RowKit
set_option linter.all false
set_option maxRecDepth 100000
set_option maxHeartbeats 8000000
def C8(Q:Nat->Prop)(w w':World):Prop:=∀X,¬Q X->X<w.heap.size->w'.heap[X]?=w.heap[X]?
theorem C8.refl(Q:Nat->Prop)(w:World):C8 Q w w:=fun _ _ _=>rfl
theorem C8.ex{Q:Nat->Prop}{w w':World}(h:Ex w w'):C8 Q w w':=fun X _ hX=>h.block X hX
theorem C8.trans{Q:Nat->Prop}{a b c:World}(h:C8 Q a b)(k:C8 Q b c)(hs:a.heap.size<=b.heap.size):C8 Q a c:=fun X hq hX=>(k X hq (Nat.lt_of_lt_of_le hX hs)).trans (h X hq hX)
theorem C8.mono{Q Q':Nat->Prop}{a b:World}(h:C8 Q a b)(hq:∀X,X<a.heap.size->Q X->Q' X):C8 Q' a b:=fun X hn hX=>h X (fun hx=>hn (hq X hX hx)) hX
theorem C8.set{Q:Nat->Prop}{a b:World}(h:C8 Q a b){p:Addr}(hp:Q p.block)(u:Value):C8 Q a (b.setCell p u):=fun X hn hX=>by
 rw[<-h X hn hX];exact Below.heap_setCell _ _ _ _ (fun e=>hn (by rw[e];exact hp))
theorem C8.appd{w w':World}{base:Nat}{e:TypeId}{size n:Nat}{v v':Value}{xs news:List Value}(h:Bv w w' base e size v v' n xs news):C8 (fun X=>v.ownBlock=some X) w w':=fun X hn hX=>by
 obtain⟨o,hg⟩:=h.gr;rw[hg.block X aq (fun e=>hn e.symm)];exact Below.heap_alloc _ _ _ hX
theorem C8.cell{Q:Nat->Prop}{w w':World}(h:C8 Q w w'){p:Addr}{u:Value}(hc:w.cell? p=some u)(hq:¬Q p.block):w'.cell? p=some u:=by
 rw[World.cell?_of_block (w:=w) (w':=w') (h _ hq (World.block_lt_of_cell? _ _ hc))];exact hc
theorem Sl.offQ{Q:Nat->Prop}{w w':World}{v:Value}{n size:Nat}{xs:List Value}(h:Sl w v n size xs)(hv:0<n->∀q,Q q->v.ownBlock≠some q)(hw:C8 Q w w'):Sl w' v n size xs:=by
 obtain⟨k1,a,cap,rfl,k3,k4,k5⟩:=h;refine⟨k1,a,cap,rfl,k3,k4,fun hn=>?_⟩;obtain⟨b,o,rfl,k6⟩:=k5 hn;exact⟨b,o,rfl,fun j x hx=>hw.cell (k6 j x hx) (fun hq=>hv hn b hq rfl)⟩
structure Yi(w:World)(q:Nat):Prop where
 c0:w.cell? (q,0)=some (.int .i64 0)
 c1:w.cell? (q,1)=some (.slice none 0 0)
 c2:w.cell? (q,2)=some (.slice none 0 0)
 c3:∀j,3<=j->w.cell? ⟨q,j,none⟩=none
 f0:w.frozen? (q,0)=false
 f1:w.frozen? (q,1)=false
 f2:w.frozen? (q,2)=false
theorem Yi.new(w:World):Yi (w.alloc (.cells #[(0:Int),.slice none 0 0,.slice none 0 0] 53)) w.heap.size:=
 ⟨ag,ag,ag,fun j hj=>by
  obtain⟨i,rfl⟩:∃i,j=i+3:=⟨j-3,ac⟩;simp,ag,ag,ag⟩
theorem Yi.ex{w w':World}{b:Nat}(h:Yi w b)(hx:Ex w w'):Yi w' b:=
 ⟨hx.cell h.c0,hx.cell h.c1,hx.cell h.c2,fun j hj=>(Below.cell hx (show(⟨b,j,none⟩:Addr).block<w.heap.size from(World.block_lt_of_cell? _ (⟨b,0,none⟩:Addr) h.c0:b<w.heap.size))).trans (h.c3 j hj),hx.frz h.c0 h.f0,hx.frz h.c1 h.f1,hx.frz h.c2 h.f2⟩
theorem K7{w:World}{q:Nat}(hb:Yi w q){v:Value}{n size:Nat}{xs:List Value}(h:Sl w v n size xs)(hl:2<=xs.length)(hx:xs[1]?≠some (.slice none 0 0)):v.ownBlock≠some q:=by
 intro e;obtain⟨k1,a,cap,rfl,_,_,k5⟩:=h;have hn:0<n:=by
  exact zcK
 obtain⟨b,o,rfl,k6⟩:=k5 hn;injection e with e;have e:b=q:=e;subst e;have x1:=k6 1 _ (List.getElem?_eq_getElem ac);have h1:xs[1]?=some (xs[1]'ac):=List.getElem?_eq_getElem _;rcases o with _ | _|o
 .rw[show(0:Nat)+1=1 from rfl,hb.c1]at x1;injection x1 with x1;exact hx (by rw[h1,<-x1])
 .rw[show(0:Nat)+1+1=2 from rfl,hb.c2]at x1;injection x1 with x1;exact hx (by rw[h1,<-x1])
 .rw[hb.c3 (o+1+1+1) ac]at x1;cases x1
theorem DX.offQ{Q:Nat->Prop}{w:World}(hQ:∀q,Q q->Yi w q){v:Value}{L:List Lv}(h:DX w v L)(hL:∀l∈L,2<=l.orb.length/\2<=l.reps.length/\∀r∈l.reps,2<=r.length){w':World}(hw:C8 Q w w'):DX w' v L:=by
 obtain⟨os,k1,k2,k3⟩:=h;have aA:∀ {y:Value} {l:List Int},Al w y l->2<=l.length->Al w' y l:=fun {y l} hy hl=>
  Sl.offQ hy (fun _ q hq=>K7 (hQ q hq) hy (by rw[Bc];exact hl) (by
   unfold Ao;rw[List.getElem?_map]
   cases l[1]? with
   | none=>simp
   | some x=>simp)) hw
 refine⟨os,k1,?_,fun i l o a c=>?_⟩
 .refine Sl.offQ k2 (fun hn q hq=>?_) hw;have hl3:=Iz L os k1;refine K7 (hQ q hq) k2 ac (fun e=>?_);have aC:L[0]?=some (L[0]'hn):=List.getElem?_eq_getElem _;have aB:os[0]?=some (os[0]'ac):=List.getElem?_eq_getElem _;obtain⟨-,g1,-⟩:=Ke L os 0 _ _ aC aB;rw[show 3*0+1=1 from rfl,e]at g1;injection g1 with g1;obtain⟨b1,-,-⟩:=hL _ (List.getElem_mem hn);obtain⟨-,a,cap,ha,-⟩:=(k3 0 _ _ aC aB).1;rw[<-g1]at ha;injection ha with _ ha;omega
 .obtain⟨g1,vals,g2,g3⟩:=k3 i l o a c;obtain⟨b1,b2,b3⟩:=hL l (List.mem_of_getElem? a);refine⟨aA g1 b1,vals,?_,fun j r y hr hy=>aA (g3 j r y hr hy) (b3 r (List.mem_of_getElem? hr))⟩;have hvl:vals.length=l.reps.length:=by have:=g2.1;omega
  refine Sl.offQ g2 (fun hn q hq=>K7 (hQ q hq) g2 ac (fun e=>?_)) hw;have aD:l.reps[1]?=some (l.reps[1]'ac):=List.getElem?_eq_getElem _;obtain⟨-,a2,c2,h2,-⟩:=g3 1 _ _ aD e;injection h2 with _ h2;have:=b3 _ (List.getElem_mem (show 1<l.reps.length by omega));omega
structure EW where
 i:Int
 j:Int
 a:Int
 pf:List Rf
def Mp:List EW->List Value->List Value
 | x :: xs,v :: vs=> .int .i64 x.i :: .int .i64 x.j :: .int .i64 x.a :: v :: Mp xs vs
 | _,_=> []
theorem OG:∀(L:List EW) (os:List Value) (i:Nat) (l:EW) (o:Value),L[i]?=some l->os[i]?=some o->(Mp L os)[4*i]?=some (.int .i64 l.i)/\(Mp L os)[4*i+1]?=some (.int .i64 l.j)/\(Mp L os)[4*i+2]?=some (.int .i64 l.a)/\(Mp L os)[4*i+3]?=some o
 | l' :: L,o' :: os,0,l,o,h,k=>by
  simp at h k;subst h k;exact⟨rfl,rfl,rfl,rfl⟩
 | l' :: L,o' :: os,i+1,l,o,h,k=>by
  have:=OG L os i l o ay (by simpa using k);rw[show 4*(i+1)=4*i+4 by omega,show 4*i+4+1=4*i+1+4 by omega,show 4*i+4+2=4*i+2+4 by omega,show 4*i+4+3=4*i+3+4 by omega];simpa[Mp]using this
 | [],os,i,l,o,h,k=>by simp at h
 | l' :: L, [],i,l,o,h,k=>by simp at k
theorem TD:∀(L:List EW) (os:List Value) (l:EW) (o:Value),os.length=L.length->Mp (L ++ [l]) (os ++ [o])=Mp L os ++ [.int .i64 l.i,.int .i64 l.j,.int .i64 l.a,o]
 | [], [],l,o,_=>rfl
 | l' :: L,o' :: os,l,o,h=>by
  have:=TD L os l o ay;simp only[List.cons_append,Mp,this]
 | [],o' :: os,l,o,h=>by simp at h
 | l' :: L, [],l,o,h=>by simp at h
def IY(w:World)(v:Value)(xs:List EW):Prop:=∃evs:List Value,evs.length=xs.length/\Sl w v xs.length 4 (Mp xs evs)/\∀(i:Nat) (x:EW) (ev:Value),xs[i]?=some x->evs[i]?=some ev->O9 w ev x.pf
theorem IY.ex{w w':World}{v:Value}{L:List EW}(h:IY w v L)(hx:Ex w w'):IY w' v L:=by
 obtain⟨os,h1,h2,h3⟩:=h;exact⟨os,h1,h2.ex hx,fun i l o a b=>(h3 i l o a b).ex hx⟩
theorem IY.nil(w:World):IY w (.slice none 0 0) []:=⟨[],rfl,Sl.nil w 4,fun i l o h=>by simp at h⟩
theorem IY.open{w:World}{v:Value}{L:List EW}(h:IY w v L):∃a cap,v= .slice a L.length cap/\L.length<=cap/\cap<=maxLen/\
  (0<L.length->∃b o,a=some ⟨b,o,none⟩/\∀(i:Nat) (l:EW),L[i]?=some l->∃u,w.cell? ⟨b,o+4*i,none⟩=some (.int .i64 l.i)/\w.cell? ⟨b,o+(4*i+1),none⟩=some (.int .i64 l.j)/\w.cell? ⟨b,o+(4*i+2),none⟩=some (.int .i64 l.a)/\w.cell? ⟨b,o+(4*i+3),none⟩=some u/\O9 w u l.pf):=by
 obtain⟨os,h1,⟨h2,a,cap,h3,h4,h5,h6⟩,h7⟩:=h;refine⟨a,cap,h3,h4,h5,fun hn=>?_⟩;obtain⟨b,o,h8,h9⟩:=h6 hn;refine⟨b,o,h8,fun i l hl=>?_⟩;have hi:=(List.getElem?_eq_some_iff.1 hl).1;have ho:os[i]?=some (os[i]'ac):=List.getElem?_eq_getElem _;obtain⟨g1,g2,g3,g4⟩:=OG L os i l _ hl ho;exact⟨_,h9 _ _ g1,h9 _ _ g2,h9 _ _ g3,h9 _ _ g4,h7 i l _ hl ho⟩
def Mu(FB:Nat->Prop)(w:World)(v:Value)(es:List Rf):Prop:=∃mvs:List Value,mvs.length=es.length/\Sl w v es.length 4 (MY es mvs)/\(∀(i:Nat) (e:Rf) (mv:Value),es[i]?=some e->mvs[i]?=some mv->Al w mv e.msg/\(e.msg≠ []->∀X,mv.ownBlock=some X->¬FB X))/\(es≠ []->∀X,v.ownBlock=some X->¬FB X)
theorem Q5.g{FB:Nat->Prop}{w:World}{v:Value}{es:List Rf}(h:Q5 FB w v es):Mu FB w v es:=by
 obtain⟨m,h1,h2,h3,h4⟩:=h;exact⟨m,h1,h2,h3,fun _=>h4⟩
theorem Mu.rsl{FB:Nat->Prop}{w:World}{v:Value}{es:List Rf}(h:Mu FB w v es):O9 w v es:=by
 obtain⟨m,h1,h2,h3,_⟩:=h;exact⟨m,h1,h2,fun i e mv a b=>(h3 i e mv a b).1⟩
theorem Sl.blk{w:World}{v:Value}{n size:Nat}{xs:List Value}(h:Sl w v n size xs)(hn:0<xs.length){X:Nat}(hX:v.ownBlock=some X):X<w.heap.size:=by
 obtain⟨k1,a,cap,rfl,_,_,k5⟩:=h;have aA:0<n:=by
  apply Classical.byContradiction;intro h0;have:n=0:=ac;subst this;omega
 obtain⟨b,o,rfl,k6⟩:=k5 aA;injection hX with hX;have hX:b=X:=hX;subst hX;exact(World.block_lt_of_cell? _ _ (k6 0 _ (List.getElem?_eq_getElem hn)):b<w.heap.size)
theorem Mu.off{FB FB':Nat->Prop}{w w':World}{v:Value}{es:List Rf}(h:Mu FB w v es)(hw:C8 FB w w')(hf:∀X,X<w.heap.size->FB' X->FB X):Mu FB' w' v es:=by
 obtain⟨m,h1,h2,h3,h4⟩:=h;have h2l:=NV es m h1;refine⟨m,h1,Sl.offQ h2 (fun hn q hq e=>h4 (by intro e2;subst e2;simp at hn) q e hq) hw,fun i e mv a b=>?_,fun aA X hX hF=>?_⟩
 .obtain⟨g1,g2⟩:=h3 i e mv a b;refine⟨Sl.offQ g1 (fun hn q hq e2=>g2 (by intro e3;rw[e3]at hn;simp at hn) q e2 hq) hw,fun aA X hX hF=>?_⟩;exact g2 aA X hX (hf X (Sl.blk g1 (by rw[Bc];exact List.length_pos_iff.2 aA) hX) hF)
 .exact h4 aA X hX (hf X (Sl.blk h2 (by have:=List.length_pos_iff.2 aA;omega) hX) hF)
def UV(c:AT)(g:Ca):EW:=⟨g.i,g.j,g.a,Ja 0 (gF c g)⟩
def Jt(c:AT)(gs:List Ca):List EW:=gs.map (UV c)
theorem Zx:(Tryz.prog.info? 96).map (fun i=>(i.zero,i.size,i.bytes))=some (some (.agg #[(0:Int),(0:Int),(0:Int),.slice none 0 0]),4,48):=ah
structure T6(w6 wr:World)(OB RB:Nat)(d:Int)(lv rv:Value)(xs:List EW)(evs:List Value):Prop where
 off:C8 (fun X=>X=OB) w6 wr
 size:w6.heap.size<=wr.heap.size
 ob:OB<w6.heap.size
 rb:RB<w6.heap.size
 b0:wr.cell? (OB,0)=some (.int .i64 d)
 b1:wr.cell? (OB,1)=some lv
 b2:wr.cell? (OB,2)=some rv
 f2:wr.frozen? (OB,2)=false
 own:wr.ownsRow w6.heap.size 96 4 rv xs.length (Mp xs evs)
 len:evs.length=xs.length
 at_:∀(i:Nat) (x:EW) (ev:Value),xs[i]?=some x->evs[i]?=some ev->Mu (fun X=>X=OB∨X=RB∨rv.ownBlock=some X) wr ev x.pf
section
variable {w6 wr w':World} {OB RB:Nat} {d:Int} {lv rv v' ev:Value} {xs:List EW} {evs:List Value}
theorem T6.later(h:T6 w6 wr OB RB d lv rv xs evs)(hx:Ex wr w'):T6 w6 w' OB RB d lv rv xs evs:=
 ⟨h.off.trans (.ex hx) h.size,Nat.le_trans h.size hx.size,h.ob,h.rb,hx.cell h.b0,hx.cell h.b1,hx.cell h.b2,hx.frz h.b2 h.f2,Aj h.own hx,h.len,fun i x e a b=>(h.at_ i x e a b).off (.ex hx) fun X _ hX=>hX⟩
theorem T6.no(h:T6 w6 wr OB RB d lv rv xs evs):some OB≠rv.ownBlock/\some RB≠rv.ownBlock:=⟨fun e=>by have:=(h.own.lt OB e.symm).1;have:=h.ob;omega,fun e=>by have:=(h.own.lt RB e.symm).1;have:=h.rb;omega⟩
theorem T6.app(h:T6 w6 wr OB RB d lv rv xs evs){x:EW}(he:Mu (fun X=>X=OB∨X=RB∨rv.ownBlock=some X) wr ev x.pf)
  (ha:Bv wr w' w6.heap.size 96 4 rv v' xs.length (Mp xs evs) [.int .i64 x.i,.int .i64 x.j,.int .i64 x.a,ev]):w'.cell? (OB,2)=some rv/\w'.frozen? (OB,2)=false/\T6 w6 (w'.setCell (OB,2) v') OB RB d lv v' (xs ++ [x]) (evs ++ [ev]):=by
 have aD:=ha.cell h.b2 h.no.1;have aC:=C8.appd ha;have hsz:=ha.grow;have aB:∀X,v'.ownBlock=some X->rv.ownBlock=some X∨wr.heap.size<=X:=fun X hX=>by
  rcases ha.at_ with h1|h1
  .left;rw[<-h1];exact hX
  .right;rw[h1]at hX;injection hX with hX;omega
 have aE:v'.ownBlock≠some OB:=fun e=>by
  rcases aB OB e with h1|h1
  .exact h.no.1 h1.symm
  .have:=h.ob;have:=h.size;omega
 have aA:∀ {e:Value} {es:List Rf},Mu (fun X=>X=OB∨X=RB∨rv.ownBlock=some X) wr e es->Mu (fun X=>X=OB∨X=RB∨v'.ownBlock=some X) (w'.setCell (OB,2) v') e es:=fun {e es} hr=>
  hr.off ((aC.mono fun X _ hX=> .inr (.inr hX)).set (p:=⟨OB,2,none⟩) (.inl rfl) _) fun X hX hF=>by
   rcases hF with hF|hF|hF
   .exact .inl hF
   .exact .inr (.inl hF)
   .rcases aB X hF with h1|h1
    .exact .inr (.inr h1)
    .omega
 refine⟨aD,ha.frz h.b2 h.f2 h.no.1,?_,?_,h.ob,h.rb,?_,?_,World.cell?_setCell_same _ _ _ aD,?_,?_,by simp[h.len],fun i y e a b=>?_⟩
 .refine C8.set (Q:=fun X=>X=OB) ?_ (p:=⟨OB,2,none⟩) rfl _;intro X hn hX;rw[aC X (fun e=>by have:=(h.own.lt X e).1;omega) (Nat.lt_of_lt_of_le hX h.size)];exact h.off X hn hX
 .have:=h.size;simp;omega
 .rw[Ag ae];exact ha.cell h.b0 h.no.1
 .rw[Ag ae];exact ha.cell h.b1 h.no.1
 .rw[Ax];exact ha.frz h.b2 h.f2 h.no.1
 .have:=Ac (a:=⟨OB,2,none⟩) ha.own aE v';rw[TD xs evs x ev h.len,List.length_append];exact this
 .by_cases hi:i<xs.length
  .rw[List.getElem?_append_left hi]at a;rw[List.getElem?_append_left d9]at b;exact aA (h.at_ i y e a b)
  .have aF:i=xs.length:=by
    exact zc8
   subst aF;rw[List.getElem?_append_right (Nat.le_refl _)]at a;rw[List.getElem?_append_right (by rw[h.len];exact Nat.le_refl _),h.len]at b;simp at a b;subst a b;exact aA he
end
theorem T6.start{w4:World}{OB RB:Nat}{d:Int}{lv:Value}(ho:Yi w4 OB)(hr:RB<w4.heap.size):T6 w4 ((w4.setCell (OB,0) (.int .i64 d)).setCell (OB,1) lv) OB RB d lv (.slice none 0 0) [] []:=
 ⟨C8.set (Q:=fun X=>X=OB) (C8.set (Q:=fun X=>X=OB) (C8.refl _ _) (p:=⟨OB,0,none⟩) rfl _) (p:=⟨OB,1,none⟩) rfl _,ag,(World.block_lt_of_cell? _ (⟨OB,0,none⟩:Addr) ho.c0:OB<w4.heap.size),hr,
  by rw[Ag ae];exact World.cell?_setCell_same _ _ _ ho.c0,World.cell?_setCell_same _ _ _ ((Ag ae).trans ho.c1),by rw[Ag ae,Ag ae];exact ho.c2,by rw[Ax,Ax];exact ho.f2,
  World.ownsRow_nil _ _ _ _,rfl,fun i x e h=>by simp at h⟩
theorem KJ{w:World}{q:Nat}(u v z:Value):C8 (fun X=>X=q) w (((w.setCell (q,0) u).setCell (q,1) v).setCell (q,2) z):=
 C8.set (Q:=fun X=>X=q) (C8.set (Q:=fun X=>X=q) (C8.set (Q:=fun X=>X=q) (C8.refl _ _) (p:=⟨q,0,none⟩) rfl _) (p:=⟨q,1,none⟩) rfl _) (p:=⟨q,2,none⟩) rfl _
theorem T6.fin{w6 wr:World}{OB RB:Nat}{d:Int}{lv rv:Value}{xs:List EW}{evs:List Value}(h:T6 w6 wr OB RB d lv rv xs evs)(u v z:Value):IY (((wr.setCell (RB,0) u).setCell (RB,1) v).setCell (RB,2) z) rv xs:=
 ⟨evs,h.len,Sl.offQ (Q:=fun X=>X=RB) (Sl.own h.own) (fun _ q hq e=>by subst hq;exact h.no.2 e.symm) (KJ u v z),fun i x e a b=>
  ((h.at_ i x e a b).off (FB':=fun _=>False) ((KJ u v z).mono fun X _ hX=> .inr (.inl hX)) fun X _ hX=>hX.elim).rsl⟩
noncomputable def L3(c:AT):Chn × Int:=Dd (El c:Int) (Er c.p.toNat c.m.toNat c.ml (C9 c (AD c)))
noncomputable def Ye(c:AT)(e0:Int):Int:=if J4 c e0≠0 then J4 c e0 else(L3 c).2
def CeO(c:AT)(r:Ending)(w':World):Prop:=∃e0:Int,BI c.p c.m c.ml c.n c.rows e0/\
 ((Ye c e0≠0/\r= .returned (.tuple #[.agg #[(0:Int),.slice none 0 0,.slice none 0 0],.int .i64 (Ye c e0)]))∨
 (Ye c e0=0/\∃lv rv,r= .returned (.tuple #[.agg #[.int .i64 (L3 c).1.deg,lv,rv],(0:Int)])/\DX w' lv (L3 c).1.lev/\IY w' rv (Jt c (JO c (AD c)))))
theorem dh{P:Prop}(h:P:=by simp[results,Tryz.results32,go_sem,q0,q1,q2]):P:=h
theorem MO(w:World)(c:AT)(m1 v1:Value)(hc:c.at w m1 v1)(aJ:(C9 c (AD c)).length<=1000)(cP:(JO c (AD c)).length<=1000)(cQ:∀M∈C9 c (AD c),My c.n.toNat M)(cO:∀g∈JO c (AD c),Jb 0 (gF c g)=0):
  Calls Tryz.prog 32 #[c.arg m1 v1] w fun r w'=>CeO c r w'/\Ex w w':=by
 obtain⟨c0,c1,c2,c3,c4⟩:=CY w c m1 v1;have aX:=AI w (c.obj m1 v1);have bO:=Aa (hc.ex aX);have bE:=Aa aX;obtain⟨x1,y1,cL,-,z1,-⟩:=hc.g.open;obtain⟨x3,y3,cK,-,z3,-⟩:=hc.m.open;unfold maxLen at z1 z3;obtain⟨B,hB⟩:=nA w.heap.size;have cM:(w.alloc (c.obj m1 v1)).heap.size=B+1:=by simp[hB]
 have bC:=Yi.new (w.alloc (c.obj m1 v1));have aF:Ex (w.alloc (c.obj m1 v1)) ((w.alloc (c.obj m1 v1)).alloc (.cells #[(0:Int),.slice none 0 0,.slice none 0 0] 53)):=(Ex.refl _).alloc _;have aO:=Aa (I6 ((w.alloc (c.obj m1 v1)).alloc (.cells #[(0:Int),.slice none 0 0,.slice none 0 0] 53)) c m1 v1 (hc.ex (aX.trans aF)));have aP:=Aa (fun (w5:World) (h5:Ex (w.alloc (c.obj m1 v1)) w5) (g:Ca) (u r:Value) (hu:Al w5 u g.tl) (hr:Al w5 r g.sl) (FB:Nat->Prop) (h1:∀X,FB X->X<w5.heap.size) (h2:∀X,u.ownBlock=some X->¬FB X) (h3:∀X,r.ownBlock=some X->¬FB X)=>Q4 w5 c c m1 m1 v1 v1 (bO.o.ex h5) (bO.o.ex h5) g.tl g.sl u r hu hr FB h1 (fun _=>h2) (fun _=>h3));rw[cM]at bC;rw[hB]at c0 c1 c2 c3 c4;replace c0:=aF.cell c0;replace c1:=aF.cell c1;replace c2:=aF.cell c2;replace c3:=aF.cell c3;replace c4:=aF.cell c4;obtain⟨bX,aC,bW,bP,aB⟩:=Of aF cM (aX.trans aF) bC (show((w.alloc (c.obj m1 v1)).alloc (.cells #[(0:Int),.slice none 0 0,.slice none 0 0] 53)).heap.size=B+1+1 from by simp[hB]);obtain⟨C,hC⟩:∃C:AT,C=c:=⟨_,rfl⟩;have dF:=Aa hC;have cY:=Aa (show ∀r w',CeO C r w'->CeO c r w' from fun r w' h=>by rw[<-hC];exact h);rw[<-hC]at aJ cQ cP cO;obtain⟨cp,cm,aR,cn,bV⟩:=c;unfold AT.arg at aO aP ⊢;unfold AT.obj at bE aC bW bX aO aP bP aB bO c0 c1 c2 c3 c4;dsimp only at bE aC bW bX aO aP bP aB bO c0 c1 c2 c3 c4 cL cK ⊢;rw[cL,cK]at bE aC bW bX aO aP bP aB c0 c1 c2 c3 c4 ⊢;rw[<-hC]at aO aP;obtain⟨eS,bZ,eR,dX⟩:=Eq aJ cP cQ cO;clear hc aX hC cL cK aF bC cM aJ cP cQ cO bO;have dB:=Aa (show w.heap.size<=B+1 from ac);go_enter Tryz.func32,Tryz.ntmps32
 go_upto_region 1 with fail
 try simp only[hB]
 clear hB;generalize w.alloc (.cells #[cp,cm,.slice x3 aR.length y3,cn,.slice x1 bV.length y1] 39)=wa at *;generalize wa.alloc (.cells #[(0:Int),.slice none 0 0,.slice none 0 0] 53)=w1 at *;go_wp2_with fail
 refine aO.o.mono ?_;rintro e w2⟨aZ,aD⟩;have bY:=Aa aD;obtain⟨e0,dN,ho⟩:=Rl aZ;have cA:=Aa dN;replace c0:=aD.cell c0;replace c1:=aD.cell c1;replace c2:=aD.cell c2;replace c3:=aD.cell c3;replace c4:=aD.cell c4;obtain⟨q0,q1,q2,q3,cH,cG,cF⟩:=bP.o.ex aD;obtain⟨GE,cV⟩:∃x,J4 C e0=x:=⟨_,rfl⟩;rw[cV]at ho;have dC:=Aa cV;clear aZ aD dN aO cV;rcases ho with⟨h0,rfl⟩|⟨h0,bC,pn,mn,N,b,x0,mv,nv,hp,hm,hn,hN1,hN64,hD,rfl,hg,hx1,aD,hms,hns⟩
 .have hb:(GE !=0)=true:=by simpa using h0
  have HZ:=Aa (show Ye C e0=GE/\GE≠0 from by unfold Ye;rw[dC.o,if_pos h0];exact⟨rfl,h0⟩);clear h0;go_wp2_with fail
  exact bodyPost_ret (v:= .tuple #[.agg #[(0:Int),.slice none 0 0,.slice none 0 0],GE]) dh rfl ⟨cY.o _ _ ⟨e0,cA.o,.inl ⟨by rw[HZ.o.1];exact HZ.o.2,by rw[HZ.o.1]⟩⟩,Cj (bW.o.trans bY.o) dB.o _ _ _⟩
 .subst h0;have eM:cn=(N:Int):=by have:=dF.o;rw[this]at hn;exact hn
  subst eM;have eX:=Aa (show e0=0 from by
   have h1:=dC.o;unfold J4 at h1;split at h1
   .rename_i h2;exact absurd h1 h2
   .rename_i h2;have h3:Iw C e0=0:=by simpa using h2
    unfold Iw at h3;split at h3
    .exact h3
    .rename_i h4;simpa using h4)
  have bI:=Aa (show C.p=pn/\C.m=mn/\C.n=N from⟨hp,hm,hn⟩);have eQ:=Aa (show C.n.toNat=N from by rw[hn];rfl);have dI:=Aa (show L3 C=Dd ((N*(pn^mn-1):Nat):Int) (Er pn mn C.ml (C9 C (AD C))) from by unfold L3 El;rw[hp,hm,hn];rfl);have eA:=Aa (fun (w5:World) (h5:Ex w2 w5)=>JT w5 (hg.ex h5) N hN64 hD (C9 C (AD C)) mv (hms.ex h5) (fun M hM=>by have:=eR.o M hM;rwa[eQ.o]at this) eS.o);have cX:=Aa (show Ye C e0=(L3 C).2 from by unfold Ye;rw[dC.o,if_neg ag]);obtain⟨ma,mc,rfl,-,-,-⟩:=hms.open;obtain⟨na,nc,rfl,-,zn,n3⟩:=hns.open;unfold maxLen at zn;obtain⟨BS,cW⟩:∃x,L3 C=x:=⟨_,rfl⟩;have eF:=Aa cW;rw[cW]at cX dI;obtain⟨⟨bd,bl⟩,be⟩:=BS;obtain⟨LM,cU⟩:∃x,(C9 C (AD C)).length=x:=⟨_,rfl⟩;have dH:=Aa (show ∀w5,Ex w2 w5->Calls Tryz.prog 64 #[.pointer (some ⟨b,0,none⟩),(N:Int),.slice ma LM mc] w5 fun r w'=>(∃v,r= .returned (.tuple #[.agg #[bd,v],be])/\DX w' v bl)/\Ex w5 w' from fun w5 h5=>by
   rw[<-cU];exact(eA.o w5 h5).mono (by
    rintro r w'⟨⟨v,h1,h2⟩,h3⟩;rw[<-dI.o]at h1 h2;exact⟨⟨v,h1,h2⟩,h3⟩))
  have eH:=Aa (show ∀l∈bl,2<=l.orb.length/\2<=l.reps.length/\∀r∈l.reps,2<=r.length from fun l hl=>LZ (n:=((N*(pn^mn-1):Nat):Int)) (rows:=Er pn mn C.ml (C9 C (AD C))) (by rw[<-dI.o];exact hl));obtain⟨NS,cS⟩:∃x,JO C (AD C)=x:=⟨_,rfl⟩;have dY:=Aa cS;rw[cS]at n3 bZ dX ⊢;obtain⟨LN,cT⟩:∃x,NS.length=x:=⟨_,rfl⟩;have dZ:=Aa cT;rw[cT]at n3 bZ ⊢;have N3:=Aa n3;rw[cU];have cZ:=Aa (show ∀(w5:World) (h5:Ex wa w5) (g:Ca) (u r:Value),g∈NS->Al w5 u g.tl->Al w5 r g.sl->∀(FB:Nat->Prop),(∀X,FB X->X<w5.heap.size)->(∀X,u.ownBlock=some X->¬FB X)->(∀X,r.ownBlock=some X->¬FB X)->Calls Tryz.prog 83 #[.agg #[cp,cm,.slice x3 aR.length y3,N,.slice x1 bV.length y1],.agg #[cp,cm,.slice x3 aR.length y3,N,.slice x1 bV.length y1],.agg #[u,r]] w5 fun r' w'=>RfF FB (Ja 0 (gF C g)) 0 r' w'/\Ex w5 w' from fun w5 h5 g u r bA hu hr FB h1 h2 h3=>by
   refine(aP.o w5 h5 g u r hu hr FB h1 h2 h3).mono ?_;rintro r' w'⟨⟨e1,e2,k1,k2,k3⟩,k4⟩;refine⟨?_,k4⟩;have hz:=eX.o;have bB:BI cp cm aR N bV 0:=by have h1:=cA.o;rw[dF.o,hz]at h1;exact h1
   obtain rfl:e1=0:=BW k1 bB;obtain rfl:e2=0:=BW (k2 rfl) bB;have dK:=bI.o.1;have dL:=bI.o.2.1;rw[dF.o]at dK dL;have eK:g∈Du N (pn^mn):=by
    rw[<-dY.o]at bA;unfold JO AD at bA;rw[bI.o.1,bI.o.2.1,bI.o.2.2]at bA;exact(List.mem_filter.1 bA).1
   have BC:Gd 0 0 (CA cp cm aR cp cm aR) N N g.tl g.sl (cp.toNat^cm.toNat)=0:=RZ (N:=N) rfl (q:=cp.toNat^cm.toNat) (by
    have h1:cp=pn:=dK;have h2:cm=mn:=dL;rw[h1,h2];exact IF eK)
   rw[BC]at k3;have eI:=dX.o g bA;have:GN C C g.tl g.sl=gF C g:=rfl;rw[this,eI]at k3;exact k3)
  clear bC hp hm hn hN1 hN64 hD hg hx1 aD hms hns cW cU eA n3 cS cT aP;obtain⟨OB,bU⟩:∃x,w2.heap.size=x:=⟨_,rfl⟩;have bg:=Yi.new w2;rw[bU]at bg;have bN:=Aa (show Ex w2 (w2.alloc (.cells #[(0:Int),.slice none 0 0,.slice none 0 0] 53)) from(Ex.refl w2).alloc _);have dG:=Aa bg;go_upto_region 5 with fail
  try simp only[bU]
  have bJ:=Aa bU;clear bU bg;generalize w2.alloc (.cells #[(0:Int),.slice none 0 0,.slice none 0 0] 53)=w3 at *;replace c3:=bN.o.cell c3;obtain⟨t0,t1,t2,t3,cE,cD,cC⟩:=dG.o;go_upto_region 6 with (go_at_call 64;refine(dH.o w3 bN.o).mono ?_;rintro e w6⟨⟨v6,rfl,cJ⟩,cI⟩;obtain⟨la,lc,eJ,_,_,_⟩:=cJ.open;subst eJ;clear t0 t1 t2 t3 cE cD cC;obtain⟨t0,t1,t2,t3,cE,cD,cC⟩:=dG.o.ex cI;have dT:=Aa cJ;have bG:=Aa cI;clear cJ cI)
  have dD:=Aa (dG.o.ex bG.o);have aI:=Aa (bP.o.ex (bY.o.trans (bN.o.trans bG.o)));have dJ:B+1<w6.heap.size:=(World.block_lt_of_cell? _ (⟨B+1,0,none⟩:Addr) aI.o.c0);have cB:=Aa (T6.start (RB:=B+1) (d:=bd) (lv:= .slice la bl.length lc) dD.o dJ);have aT:=Aa (show B+1<OB from by have:=bY.o.size;have:=aB.o;have:=bJ.o;omega);have aS:=Aa (show Ex wa ((w6.setCell (OB,0) (.int .i64 bd)).setCell (OB,1) (.slice la bl.length lc)) from J9 (bX.o.trans (bY.o.trans (bN.o.trans bG.o))) (by have:=aT.o;have:=aC.o;omega) _ _);have bH:=Aa (bN.o.trans bG.o);clear t0 t1 t2 t3 cE cD cC q0 q1 q2 q3 cH cG cF dJ;obtain⟨w7,bR⟩:∃x,(w6.setCell (OB,0) (.int .i64 bd)).setCell (OB,1) (.slice la bl.length lc)=x:=⟨_,rfl⟩;rw[bR]at cB aS;have dE:=Aa (show w7.frozen? (B+1,0)=false/\w7.frozen? (B+1,1)=false/\w7.frozen? (B+1,2)=false from by rw[<-bR];exact⟨by rw[Ax,Ax];exact aI.o.f0,by rw[Ax,Ax];exact aI.o.f1,by rw[Ax,Ax];exact aI.o.f2⟩)
  try simp only[bR]
  clear bR;have dA:=Aa (show ∀w',C8 (fun X=>X=OB) w6 w'->w'.cell? (B+1,0)=some (.int .i64 0)/\w'.cell? (B+1,1)=some (.slice none 0 0)/\w'.cell? (B+1,2)=some (.slice none 0 0) from fun w' h=>
   ⟨h.cell aI.o.c0 (by show ¬B+1=OB;have:=aT.o;omega),h.cell aI.o.c1 (by show ¬B+1=OB;have:=aT.o;omega),h.cell aI.o.c2 (by show ¬B+1=OB;have:=aT.o;omega)⟩)
  by_cases hbe:be=0
  rotate_left
  .have hb:(be !=0)=true:=by simpa using hbe
   have HZ:=Aa (show Ye C e0=be/\be≠0 from⟨cX.o,hbe⟩);obtain⟨q0,q1,q2⟩:=dA.o w7 cB.o.off;obtain⟨cH,cG,cF⟩:=dE.o;clear hbe;go_wp2_with fail
   exact bodyPost_ret (v:= .tuple #[.agg #[(0:Int),.slice none 0 0,.slice none 0 0],be]) dh rfl ⟨cY.o _ _ ⟨e0,cA.o,.inl ⟨by rw[HZ.o.1];exact HZ.o.2,by rw[HZ.o.1]⟩⟩,Cj (bE.o.trans aS.o) dB.o _ _ _⟩
  .subst hbe;go_wp2_with fail
   go_loopw [39] (fun k' wr=>∃(k:Nat) (rv:Value) (evs:List Value),k<=LN/\k'= .int .i64 k/\Hia (T6 w6 wr OB (B+1) bd (.slice la bl.length lc) rv (Jt C (NS.take k)) evs)/\Hia (Ex wa wr)/\Hia (wr.frozen? (B+1,0)=false/\wr.frozen? (B+1,1)=false/\wr.frozen? (B+1,2)=false)) (fun k' _=>LN-(intOf k').toNat)
   case atStart=>exact⟨0,_, [],ac,rfl,cB,aS,dE⟩
   case round=>
    clear cB aS dE;obtain⟨k,rv,evs,hk,rfl,aK,bQ,bT⟩:=hrel;obtain⟨ra,rc,rfl⟩:=Ae aK.o.own;by_cases hkl:k<LN
    .have aA:=Aa aK.o;have dR:=Aa bQ.o;have eW:=Aa bT.o;have aG:=Aa (show ∀(q:Addr) (u:Value),w2.cell? q=some u->wr.cell? q=some u from fun q u h=>aA.o.off.cell (bH.o.cell h) (fun e=>by
      have h1:q.block<w2.heap.size:=World.block_lt_of_cell? _ _ h;have h2:q.block=OB:=e;have:=bJ.o;omega))
     have eB:=Aa (show ∀(v:Value) (l:List Int),Al w2 v l->0<l.length->Al wr v l from fun v l h hl=>Sl.offQ (h.ex bH.o) (fun _ q hq e=>by
      have h1:=Sl.blk h (by rw[Bc];exact hl) e;have h2:q=OB:=hq;have:=bJ.o;omega) aA.o.off)
     obtain⟨gb,go,rfl,dM⟩:=N3.o ac;obtain⟨g,hg⟩:∃g,NS[k]?=some g:=⟨_,List.getElem?_eq_getElem (by rw[dZ.o];exact hkl)⟩;obtain⟨u,r,d0,d1,d2,d3,d4,hu,bS,dO,dP⟩:=dM k g hg;obtain⟨eV,eU,eE,eG,HU,dW⟩:=To hg (List.mem_of_getElem? hg) (show ∀X,u.ownBlock=some X->B+1<X/\X<OB from fun X e=>⟨by have:=dO X e;have:=aB.o;omega,by have:=Sl.blk hu (by rw[Bc,AM];omega) e;have:=bJ.o;omega⟩) (show ∀X,r.ownBlock=some X->B+1<X/\X<OB from fun X e=>⟨by have:=dP X e;have:=aB.o;omega,by have:=Sl.blk bS (by rw[Bc,BH];omega) e;have:=bJ.o;omega⟩) (eB.o _ _ hu (by rw[AM];omega)) (eB.o _ _ bS (by rw[BH];omega));obtain⟨ua,uc,rfl,-,-,-⟩:=hu.open;obtain⟨qa,qc,rfl,-,-,-⟩:=bS.open;rw[AM]at d3 HU eE;rw[BH]at d4 dW eG;replace d0:=aG.o _ _ d0;replace d1:=aG.o _ _ d1;replace d2:=aG.o _ _ d2;replace d3:=aG.o _ _ d3;replace d4:=aG.o _ _ d4;rw[show go+5*k=go+k*5 from ac]at d0;rw[show go+(5*k+1)=go+k*5+1 from ac]at d1;rw[show go+(5*k+2)=go+k*5+2 from ac]at d2;rw[show go+(5*k+3)=go+k*5+3 from ac]at d3;rw[show go+(5*k+4)=go+k*5+4 from ac]at d4;have k0:=aG.o _ _ c0;have k1:=aG.o _ _ c1;have k2:=aG.o _ _ c2;have k4:=aG.o _ _ c4;have k3:=aA.o.off.cell ((bG.o).cell c3) (show ¬B=OB from by have:=aT.o;omega);have i1:(0:Int)<=(k:Int):=by omega
     have i2:(k:Int)<(LN:Int):=ac;have bM:=Aa hkl;clear aK bQ bT hg dM hu bS dO dP hkl;go_upto_region 11 with fail
     obtain⟨XB,aM⟩:∃x,wr.heap.size=x:=⟨_,rfl⟩;have x3:(wr.alloc (.cells #[g.i,g.j,g.a,.slice ua (g.i+1) uc,.slice qa (g.i+1) qc] 129)).cell? (XB,3)=some (.slice ua (g.i+1) uc):=by rw[<-aM];simp
     have x4:(wr.alloc (.cells #[g.i,g.j,g.a,.slice ua (g.i+1) uc,.slice qa (g.i+1) qc] 129)).cell? (XB,4)=some (.slice qa (g.i+1) qc):=by rw[<-aM];simp
     have aW:(wr.alloc (.cells #[g.i,g.j,g.a,.slice ua (g.i+1) uc,.slice qa (g.i+1) qc] 129)).cell? (XB,0)=some (.int .i64 g.i):=by rw[<-aM];simp
     have aV:(wr.alloc (.cells #[g.i,g.j,g.a,.slice ua (g.i+1) uc,.slice qa (g.i+1) qc] 129)).cell? (XB,1)=some (.int .i64 g.j):=by rw[<-aM];simp
     have aU:(wr.alloc (.cells #[g.i,g.j,g.a,.slice ua (g.i+1) uc,.slice qa (g.i+1) qc] 129)).cell? (XB,2)=some (.int .i64 g.a):=by rw[<-aM];simp
     have aE:=Aa (show Ex wr (wr.alloc (.cells #[g.i,g.j,g.a,.slice ua (g.i+1) uc,.slice qa (g.i+1) qc] 129)) from(Ex.refl wr).alloc _)
     try simp only[aM]
     clear aM d0 d1 d2 d3 d4 i1 i2;generalize wr.alloc (.cells #[g.i,g.j,g.a,.slice ua (g.i+1) uc,.slice qa (g.i+1) qc] 129)=w5 at *;replace k0:=aE.o.cell k0;replace k1:=aE.o.cell k1;replace k2:=aE.o.cell k2;replace k3:=aE.o.cell k3;replace k4:=aE.o.cell k4;obtain⟨LE,aN⟩:∃x,(Jt C (NS.take k)).length=x:=⟨_,rfl⟩;have bL:=Aa (show LE<=1000 from by
      rw[<-aN];have:=bZ.o;have:=bM.o;unfold Jt;rw[List.length_map,List.length_take];omega)
     have bK:=Aa aN;rw[aN]at aA;have eC:=Aa (cZ.o w5 (dR.o.trans aE.o) g _ _ eU.o (HU.o.ex aE.o) (dW.o.ex aE.o) (fun X=>X=OB∨X=B+1∨(Value.slice ra LE rc).ownBlock=some X)
      (fun X hX=>by
       have h1:=aE.o.size;have h2:=aA.o.size;have h3:=aA.o.ob;have h4:=aA.o.rb;rcases hX with hX|hX|hX
       .omega
       .omega
       .have:=(aA.o.own.lt X hX).2;omega)
      (fun X e hX=>by
       have h3:=aA.o.ob;obtain⟨h1,h2⟩:=eE.o X e;rcases hX with hX|hX|hX
       .omega
       .omega
       .have:=(aA.o.own.lt X hX).1;omega)
      (fun X e hX=>by
       have h3:=aA.o.ob;obtain⟨h1,h2⟩:=eG.o X e;rcases hX with hX|hX|hX
       .omega
       .omega
       .have:=(aA.o.own.lt X hX).1;omega))
     clear aN;go_wp2_with fail
     refine eC.o.mono ?_;rintro e w9⟨⟨ev,rfl,cN⟩,aY⟩;have dV:=Aa cN;obtain⟨-,-,⟨-,ea,ec,eL,-⟩,-⟩:=cN.g.rsl;subst eL;obtain⟨LP,dQ⟩:∃x,(Ja 0 (gF C g)).length=x:=⟨_,rfl⟩;rw[dQ]at dV ⊢;replace aW:=aY.cell aW;replace aV:=aY.cell aV;replace aU:=aY.cell aU;have bF:=Aa (show Ex w9 (w9.alloc (.cells #[.slice ea LP ec] 94)) from(Ex.refl w9).alloc _);have t0:(w9.alloc (.cells #[.slice ea LP ec] 94)).cell? (w9.heap.size,0)=some (.slice ea LP ec):=ag;obtain⟨TB,cR⟩:∃x,w9.heap.size=x:=⟨_,rfl⟩;rw[cR]at t0;have aH:=Aa (aE.o.trans (aY.trans bF.o));replace aW:=bF.o.cell aW;replace aV:=bF.o.cell aV;replace aU:=bF.o.cell aU;have eO:=Aa (dV.o.g.off (.ex bF.o) fun X _ hX=>hX);clear cN dQ aY eC k0 k1 k2 k3 k4 x3 x4;go_upto_region 12 with fail
     try simp only[cR]
     clear cR;generalize w9.alloc (.cells #[.slice ea LP ec] 94)=w10 at *;have aQ:=Aa (aA.o.later aH.o);have b2:=aQ.o.b2;have eP:=Aa (show w10.ownsRow w6.heap.size 96 4 (.slice ra LE rc) LE (Mp (Jt C (NS.take k)) evs) from by have:=aQ.o.own;rwa[bK.o]at this);have eN:=Aa aQ.o.size;have hk64:k<=1048576:=by have:=bM.o;have:=bZ.o;omega
     go_wp2_with (at_builtin;refine Am _ rfl _ _ 51 rfl w6.heap.size 96 (.agg #[(0:Int),(0:Int),(0:Int),.slice none 0 0]) 4 48 Tryz.underlying51 Zx rfl ae _ LE _ rfl eP.o [.int .i64 (g.i:Int),.int .i64 (g.j:Int),.int .i64 (g.a:Int),.slice ea LP ec] 96 _ rfl ag rfl aj (by have:=bL.o;unfold maxLen;omega) (by have:=bL.o;omega) eN.o ?_)
     intro v8 w8 aL;have bD:Bv w10 w8 w6.heap.size 96 4 (.slice ra LE rc) v8 (Jt C (NS.take k)).length (Mp (Jt C (NS.take k)) evs) [.int .i64 (UV C g).i,.int .i64 (UV C g).j,.int .i64 (UV C g).a,.slice ea LP ec]:=by rw[bK.o];exact aL
     obtain⟨cc2,ff2,hn⟩:=aQ.o.app (x:=UV C g) eO.o bD;rw[show Jt C (NS.take k) ++ [UV C g]=Jt C (NS.take (k+1)) from by unfold Jt;rw[List.take_add_one,eV.o,List.map_append];rfl]at hn;have HN:=Aa hn;have dS:=Aa (show Ex wa (w8.setCell (OB,2) v8) from(aL.ex (dR.o.trans aH.o) (by have:=aA.o.rb;have:=aC.o;omega)).setCell (p:=⟨OB,2,none⟩) (by have:=aT.o;have:=aC.o;show wa.heap.size<=OB;omega) _);have eD:=Aa (show(w8.setCell (OB,2) v8).frozen? (B+1,0)=false/\(w8.setCell (OB,2) v8).frozen? (B+1,1)=false/\(w8.setCell (OB,2) v8).frozen? (B+1,2)=false from by
      obtain⟨h0,h1,h2⟩:=dA.o wr aA.o.off;obtain⟨f0,f1,f2⟩:=eW.o;rw[Ax,Ax,Ax];exact⟨aL.frz (aH.o.cell h0) (aH.o.frz h0 f0) aQ.o.no.2,aL.frz (aH.o.cell h1) (aH.o.frz h1 f1) aQ.o.no.2,aL.frz (aH.o.cell h2) (aH.o.frz h2 f2) aQ.o.no.2⟩)
     obtain⟨na8,nc8,rfl⟩:=Ae aL.own;clear aL bD hn aW aV aU t0 b2;go_wp2_with fail
     go_roundw
     case rel=>first|exact⟨k+1,_,_,by have:=bM.o;omega,by go_num,HN,dS,eD⟩|((repeat apply Exists.intro);exact⟨⟨k+1,_,_,by have:=bM.o;omega,by go_num,HN,dS,eD⟩,rfl⟩)
     case measure=>have:=bM.o;simp[intOf];omega
    .obtain rfl:LN=k:=by omega
     have dU:=Aa (show NS.take LN=NS from List.take_of_length_le (by rw[dZ.o];exact Nat.le_refl _));obtain⟨LE,aN⟩:∃x,(Jt C (NS.take LN)).length=x:=⟨_,rfl⟩;rw[aN]at aK;rw[dU.o]at aK;have aA:=Aa aK.o;have aS:=Aa bQ.o;have HLV:=Aa (show DX wr (.slice la bl.length lc) bl from DX.offQ (Q:=fun X=>X=OB) (fun q hq=>by rw[hq];exact dD.o) dT.o eH.o aA.o.off);have eT:=Aa (show ∀u v z,DX (((wr.setCell (B+1,0) u).setCell (B+1,1) v).setCell (B+1,2) z) (.slice la bl.length lc) bl from fun u v z=>DX.offQ (Q:=fun X=>X=OB∨X=B+1) (fun q hq=>by rcases hq with hq|hq <;> rw[hq];exact dD.o;exact aI.o) dT.o eH.o ((aA.o.off.mono fun X _ h=> .inl h).trans ((KJ u v z).mono fun X _ h=> .inr h) aA.o.size));obtain⟨q0,q1,q2⟩:=dA.o wr aA.o.off;obtain⟨cH,cG,cF⟩:=bT.o;have d0:=aA.o.b0;have d1:=aA.o.b1;have d2:=aA.o.b2;clear aK bQ bT aN dU;go_wp2_with fail
     exact bodyPost_ret (v:= .tuple #[.agg #[bd,.slice la bl.length lc,.slice ra LE rc],(0:Int)]) dh rfl ⟨cY.o _ _ ⟨e0,cA.o,.inr ⟨cX.o,_,_,by rw[eF.o],by rw[eF.o];exact eT.o _ _ _,by rw[dY.o];exact aA.o.fin _ _ _⟩⟩,Cj (bE.o.trans aS.o) dB.o _ _ _⟩
end Go.Proofs.YtehieobniamagaaGreat
