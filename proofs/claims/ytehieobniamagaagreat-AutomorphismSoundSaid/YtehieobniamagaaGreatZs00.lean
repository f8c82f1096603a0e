/- Small helpers over any program: worlds that only grow, slices that read as lists of cells. -/
import Derived.Test.YtehieobniamagaaGreatRows
import Derived.WalkKit
import Derived.WalkSpells
import Derived.Deep.RegionWith
import Derived.Deep.QuietTactic
import Derived.BigQuiet
import Derived.WalkLawsBesides
import Derived.OwnWalk
import Derived.Laws.OwnMore
import Derived.Maps.AppendAt
import Derived.Deep.Upon
import Derived.Deep.RegionLaw
import Derived.Laws.Cover3
namespace Go.Proofs.YtehieobniamagaaGreat
open Go.RowKit
set_option linter.all false
set_option maxRecDepth 100000
set_option maxRecDepth 100000
set_option maxHeartbeats 1000000
instance(b i:Nat):CoeDep (Nat×Nat) (b,i) Addr:=⟨⟨b,i,none⟩⟩
instance:Coe Int Value:=⟨fun x=>.int .i64 x⟩
instance:Coe Nat Value:=⟨fun x=>.int .i64 (x:Int)⟩
theorem nA{A:Sort _}(x:A):∃y,x=y:=⟨x,rfl⟩
def Hia(p:Prop):Prop:=p
theorem Hia.o{p:Prop}(h:Hia p):p:=h
theorem Aa{p:Prop}(h:p):Hia p:=h
theorem Eq{p0 p1 p2 p3:Prop}(h0:p0)(h1:p1)(h2:p2)(h3:p3):Hia p0/\Hia p1/\Hia p2/\Hia p3:=⟨h0,h1,h2,h3⟩
theorem Of{p0 p1 p2 p3 p4:Prop}(h0:p0)(h1:p1)(h2:p2)(h3:p3)(h4:p4):Hia p0/\Hia p1/\Hia p2/\Hia p3/\Hia p4:=⟨h0,h1,h2,h3,h4⟩
theorem To{p0 p1 p2 p3 p4 p5:Prop}(h0:p0)(h1:p1)(h2:p2)(h3:p3)(h4:p4)(h5:p5):Hia p0/\Hia p1/\Hia p2/\Hia p3/\Hia p4/\Hia p5:=⟨h0,h1,h2,h3,h4,h5⟩
theorem OK{p0 p1 p2 p3 p4 p5 p6:Prop}(h0:p0)(h1:p1)(h2:p2)(h3:p3)(h4:p4)(h5:p5)(h6:p6):Hia p0/\Hia p1/\Hia p2/\Hia p3/\Hia p4/\Hia p5/\Hia p6:=⟨h0,h1,h2,h3,h4,h5,h6⟩
theorem On{p0 p1 p2 p3 p4 p5 p6 p7:Prop}(h0:p0)(h1:p1)(h2:p2)(h3:p3)(h4:p4)(h5:p5)(h6:p6)(h7:p7):Hia p0/\Hia p1/\Hia p2/\Hia p3/\Hia p4/\Hia p5/\Hia p6/\Hia p7:=⟨h0,h1,h2,h3,h4,h5,h6,h7⟩
theorem Ty{p0 p1 p2 p3 p4 p5 p6 p7 p8:Prop}(h0:p0)(h1:p1)(h2:p2)(h3:p3)(h4:p4)(h5:p5)(h6:p6)(h7:p7)(h8:p8):Hia p0/\Hia p1/\Hia p2/\Hia p3/\Hia p4/\Hia p5/\Hia p6/\Hia p7/\Hia p8:=⟨h0,h1,h2,h3,h4,h5,h6,h7,h8⟩
theorem Ha1{p0 p1 p2 p3 p4 p5 p6 p7 p8 p9:Prop}(h0:p0)(h1:p1)(h2:p2)(h3:p3)(h4:p4)(h5:p5)(h6:p6)(h7:p7)(h8:p8)(h9:p9):Hia p0/\Hia p1/\Hia p2/\Hia p3/\Hia p4/\Hia p5/\Hia p6/\Hia p7/\Hia p8/\Hia p9:=⟨h0,h1,h2,h3,h4,h5,h6,h7,h8,h9⟩
theorem Ha0{p0 p1 p2 p3 p4 p5 p6 p7 p8 p9 p10:Prop}(h0:p0)(h1:p1)(h2:p2)(h3:p3)(h4:p4)(h5:p5)(h6:p6)(h7:p7)(h8:p8)(h9:p9)(h10:p10):Hia p0/\Hia p1/\Hia p2/\Hia p3/\Hia p4/\Hia p5/\Hia p6/\Hia p7/\Hia p8/\Hia p9/\Hia p10:=⟨h0,h1,h2,h3,h4,h5,h6,h7,h8,h9,h10⟩
theorem Af{k:IntKind}{a b:Int}(h:a=b):Ending.returned (.int k a)= .returned (.int k b):=by rw[h]
theorem Ap{a b:Bool}(h:a=b):Ending.returned (.bool a)= .returned (.bool b):=by rw[h]
def Ex(w w':World):Prop:=Below w.heap.size w w'
theorem Ex.refl(w:World):Ex w w:=Below.refl _ _
theorem Ex.trans{a b c:World}(h:Ex a b)(k:Ex b c):Ex a c:=Below.trans h (Below.mono k h.size)
theorem Ex.drew{a b:World}(h:Ex a b):Ex a b.drew:=Below.drew h
theorem Ex.drewN{a b:World}(h:Ex a b)(n:Nat):Ex a (b.drewN n):=below_drewN h n
theorem Ex.alloc{a b:World}(h:Ex a b)(o:Obj):Ex a (b.alloc o):=Below.alloc h h.size o
theorem Ex.setCell{a b:World}(h:Ex a b){p:Addr}(hp:a.heap.size<=p.block)(u:Value):Ex a (b.setCell p u):=Below.setCell h hp u
theorem Ex.cell{w w':World}(h:Ex w w'){p:Addr}{u:Value}(hc:w.cell? p=some u):w'.cell? p=some u:=
 (Below.cell h (World.block_lt_of_cell? w _ hc)).trans hc
def Sl(w:World)(v:Value)(n size:Nat)(xs:List Value):Prop:=
 xs.length=n*size/\∃a cap,v= .slice a n cap/\n<=cap/\cap<=maxLen/\
  (0<n->∃b o,a=some ⟨b,o,none⟩/\∀j u,xs[j]?=some u->w.cell? ⟨b,o+j,none⟩=some u)
theorem Sl.ex{w w':World}{v:Value}{n size:Nat}{xs:List Value}(h:Sl w v n size xs)(hx:Ex w w'):Sl w' v n size xs:=by
 obtain⟨h1,a,cap,h2,h3,h4,h5⟩:=h;refine⟨h1,a,cap,h2,h3,h4,fun hn=>?_⟩;obtain⟨b,o,h6,h7⟩:=h5 hn;exact⟨b,o,h6,fun j u hu=>hx.cell (h7 j u hu)⟩
theorem ac{P:Prop}(h:P:=by omega):P:=h
theorem ag{P:Prop}(h:P:=by simp):P:=h
theorem Sl.nil(w:World)(size:Nat):Sl w (.slice none 0 0) 0 size []:=⟨ag,none,0,rfl,Nat.le_refl _,by unfold maxLen;omega,fun h=>absurd h ac⟩
theorem Sl.own{w:World}{base:Nat}{e:TypeId}{size:Nat}{v:Value}{n:Nat}{xs:List Value}(h:w.ownsRow base e size v n xs):Sl w v n size xs:=by
 refine⟨h.1,?_⟩;rcases h.2 with⟨h2,h3⟩|⟨g,cap,cur,hv,hb,hg,h1,h2,h3,h4⟩
 .exact⟨none,0,by rw[h2,h3],ac,by unfold maxLen;omega,fun h=>ac⟩
 .refine⟨some ⟨g,0,none⟩,cap,hv,h1,h2,fun _=>⟨g,0,rfl,fun j u hu=>?_⟩⟩;rw[Nat.zero_add,cell_of_row w g j cur e (0,0) hg];rw[<-h4,List.getElem?_take]at hu;split at hu
  .simpa using hu
  .cases hu
theorem cj{P:Prop}(h:P:=by rw[e]):P:=h
theorem Ac{w:World}{base:Nat}{e:TypeId}{size:Nat}{v:Value}{n:Nat}{xs:List Value}(h:w.ownsRow base e size v n xs){a:Addr}(ha:v.ownBlock≠some a.block)(u:Value):(w.setCell a u).ownsRow base e size v n xs:=by
 refine h.kept (row:=some a.block) ⟨rfl,rfl,rfl,by simp[World.setCell],fun k _ hk=>Below.heap_setCell _ _ _ _ (fun e=>hk cj)⟩ ?_;exact .inr ha
theorem Aj{w w':World}{base:Nat}{e:TypeId}{size:Nat}{v:Value}{n:Nat}{xs:List Value}(h:w.ownsRow base e size v n xs)(hx:Ex w w'):w'.ownsRow base e size v n xs:=by
 refine h.kept (row:=none) ⟨hx.os,hx.tape,hx.output,hx.size,fun k hk _=>hx.block k hk⟩ ?_;cases v.ownBlock <;> simp
theorem Ex.grown{a w w':World}{base:Nat}{e:TypeId}{size:Nat}{v:Value}{n:Nat}{xs:List Value}(h:Ex a w)(aA:w.ownsRow base e size v n xs)(hb:a.heap.size<=base)(hg:w.grownBy w' v.ownBlock):Ex a w':=
 Below.grown h hg h.size (fun k hk=>Nat.le_trans hb (aA.lt k hk).1)
theorem Ag{w:World}{B i j:Nat}{u:Value}(h:i≠j):(w.setCell (B,i) u).cell? (B,j)=w.cell? (B,j):=
 World.cell?_setCell_other _ _ _ _ (by intro e;injection e;omega)
theorem w64{x:Int}(h1:-9223372036854775808<=x)(h2:x<=9223372036854775807):wrap64 x=x:=IntWalk.wrap64_in _ ⟨h1,h2⟩
def Ao(l:List Int):List Value:=l.map (Value.int .i64)
theorem Bc(l:List Int):(Ao l).length=l.length:=List.length_map _
theorem Qg{l:List Int}{j:Nat}{x:Int}(h:l[j]?=some x):(Ao l)[j]?=some (.int .i64 x):=by simp[Ao,h]
def Al(w:World)(v:Value)(l:List Int):Prop:=Sl w v l.length 1 (Ao l)
theorem Al.ex{w w':World}{v:Value}{l:List Int}(h:Al w v l)(hx:Ex w w'):Al w' v l:=Sl.ex h hx
theorem Al.open{w:World}{v:Value}{l:List Int}(h:Al w v l):∃a cap,v= .slice a l.length cap/\l.length<=cap/\cap<=maxLen/\
  (0<l.length->∃b o,a=some ⟨b,o,none⟩/\∀j x,l[j]?=some x->w.cell? ⟨b,o+j,none⟩=some (.int .i64 x)):=by
 obtain⟨h1,a,cap,h2,h3,h4,h5⟩:=h;refine⟨a,cap,h2,h3,h4,fun hn=>?_⟩;obtain⟨b,o,h6,h7⟩:=h5 hn;exact⟨b,o,h6,fun j x hx=>h7 j _ (Qg hx)⟩
theorem KV{P:Program}{f:FuncId}{aA:Array Value}{w:World}{n:Nat}{v:Value}
  (h:Calls P f aA (w.drewN n) fun e w'=>e= .returned v/\∃k,w'=(w.drewN n).drewN k):Calls P f aA (w.drewN n) fun e w''=>e= .returned v/\∃m,w''=w.drewN m:=
 h.mono fun _ _ ⟨he,k,hm⟩=>⟨he,n+k,by rw[hm,World.drewN_drewN]⟩
theorem WJ(w:World)(l:List Int)(t:TypeId)(hl:l.length<=1000):Al (w.alloc (.cells (Ao l).toArray t)) (.slice (some (w.heap.size,0)) l.length l.length) l:=by
 refine⟨by rw[Bc];omega,some ⟨w.heap.size,0,none⟩,l.length,rfl,Nat.le_refl _,by unfold maxLen;omega,fun _=>⟨_,_,rfl,fun j u h=>?_⟩⟩;rw[Nat.zero_add];simpa using h
def vs(n:Nat)(c:Nat->Value):List Value:=(List.range n).map c
theorem Bm(n:Nat)(c:Nat->Value):(vs n c).length=n:=by simp[vs]
theorem Dk{n j:Nat}(h:j<n)(c:Nat->Value):(vs n c)[j]?=some (c j):=by simp[vs,h]
def Az{α:Type}(c:Nat->α)(k:Nat)(u:α):Nat->α:=fun j=>if j=k then u else c j
theorem Vl(n k:Nat)(c:Nat->Value)(u:Value):(vs n c).set k u=vs n (Az c k u):=by
 apply List.ext_getElem?;intro j;rw[List.getElem?_set];by_cases h:k=j
 .subst h;by_cases hk:k<n
  .simp[vs,Az,hk]
  .simp[vs,hk]
 .rw[if_neg h];by_cases hj:j<n
  .rw[Dk hj,Dk hj];unfold Az;rw[if_neg (fun e=>h e.symm)]
  .simp[vs,hj]
theorem SE(n:Nat)(c:Nat->Value):vs (n+1) c=vs n c ++ [c n]:=by simp[vs,List.range_succ]
theorem Pe{n:Nat}{c d:Nat->Value}(h:∀j,j<n->c j=d j):vs n c=vs n d:=
 List.map_congr_left fun j hj=>h j (List.mem_range.1 hj)
theorem Ie(n:Nat)(u:Value):List.replicate n u=vs n (fun _=>u):=by
 apply List.ext_getElem?;intro j;by_cases hj:j<n <;> simp[vs,hj]
def AH(w:World)(base:Nat)(e:TypeId)(g n:Nat)(c:Nat->Value):Prop:=w.ownsRow base e 1 (.slice (some (g,0)) n n) n (vs n c)
section
variable {w:World} {base:Nat} {e:TypeId} {g n:Nat} {c:Nat->Value}
theorem AH.cell(h:AH w base e g n c){j:Nat}(hj:j<n):w.cell? (g,j)=some (c j):=by
 rw[World.ownsRow.cellAt h j ac,Dk hj]
theorem AH.frz(h:AH w base e g n c)(j:Nat):w.frozen? (g,j)=false:=World.ownsRow.frozenAt h j
theorem AH.set(h:AH w base e g n c)(j:Nat)(u:Value):AH (w.setCell (g,j) u) base e g n (Az c j u):=by
 have:=(World.ownsRow.stored h j u).1
 rwa[Vl]at this
theorem AH.congr{d:Nat->Value}(h:AH w base e g n c)(hc:∀j,j<n->c j=d j):AH w base e g n d:=by
 unfold AH at *
 rwa[Pe hc]at h
theorem AH.ex{w':World}(h:AH w base e g n c)(hx:Ex w w'):AH w' base e g n c:=Aj h hx
theorem AH.drew(h:AH w base e g n c):AH w.drew base e g n c:=h
theorem AH.drewN(h:AH w base e g n c)(k:Nat):AH (w.drewN k) base e g n c:=h.ex ((Ex.refl w).drewN k)
theorem AH.alloc(h:AH w base e g n c)(o:Obj):AH (w.alloc o) base e g n c:=World.ownsRow.alloc h o
theorem AH.lt(h:AH w base e g n c):base<=g/\g<w.heap.size:=World.ownsRow.lt h g rfl
theorem AH.le(h:AH w base e g n c):n<=maxLen:=by
 rcases h.2 with⟨h',_⟩|⟨g',cap',cur,h',_,hg,h1,h2,_⟩
 .simp at h'
 .omega
theorem AH.other(h:AH w base e g n c){a:Addr}(ha:g≠a.block)(u:Value):AH (w.setCell a u) base e g n c:=
 Ac h (fun e=>ha (by simpa[Value.ownBlock]using e)) u
theorem AH.exSet{a:World}(h:AH w base e g n c)(hb:a.heap.size<=base)(hx:Ex a w)(j:Nat)(u:Value):Ex a (w.setCell (g,j) u):=
 hx.setCell (p:=(g,j)) (Nat.le_trans hb h.lt.1) u
theorem AH.sl(h:AH w base e g n c):Sl w (.slice (some (g,0)) n n) n 1 (vs n c):=Sl.own h
theorem za2{P:Prop}(h:P:=by
 exact .inr ⟨g',cap,cur,h1,Nat.le_trans hb h2,h3⟩):P:=h
theorem zcb{P:Prop}(h:P:=by
 refine⟨h.1,?_⟩;rcases h.2 with h1|⟨g',cap,cur,h1,h2,h3⟩
 .exact .inl h1
 .exact za2):P:=h
theorem AH.mono{b':Nat}(h:AH w base e g n c)(hb:b'<=base):AH w b' e g n c:=by
 exact zcb
end
theorem AH.heap{w:World}{base:Nat}{e:TypeId}{g n:Nat}{c:Nat->Value}(h:AH w base e g n c):w.heap[g]?=some (.cells (vs n c).toArray e (0,0)):=by
 rcases h.2 with⟨h',_⟩|⟨g',cap',cur,h',hb,hg,hnc,hcm,hcs,htake⟩
 .simp at h'
 .simp only[Value.slice.injEq,Option.some.injEq,Addr.mk.injEq,and_true,true_and]at h';obtain⟨rfl,rfl⟩:=h';rw[List.take_of_length_le (by rw[Array.length_toList,hcs];exact Nat.le_refl _)]at htake;rw[hg,<-htake]
theorem AH.of_heap{w:World}{base:Nat}{e:TypeId}{g n:Nat}{c:Nat->Value}(h:w.heap[g]?=some (.cells (vs n c).toArray e (0,0)))(hb:base<=g)(hn:n<=maxLen):AH w base e g n c:=
 ⟨by rw[Bm,Nat.mul_one],.inr ⟨g,n,(vs n c).toArray,rfl,hb,h,Nat.le_refl _,hn,by simp[Bm],by rw[List.take_of_length_le (by simp[Bm])]⟩⟩
theorem Au{P:Program}(w:World){ops:Array Oper}{rest:List Oper}{o:Oper}{a:Act}{Q:Exit->Act->World->Prop}
  (hg:o.guard=none) (l c:Operand) (t:TypeId) (aF:o.op=Op.makeSlice t l c)
  (e:TypeId) (z:Value) (aA:Nat) (h1:P.underlying t=some (.slice e)) (hi:(P.info? e).map (fun i=>(i.zero,i.size,i.bytes))=some (some z,1,aA)) (hz:z.cells= #[z])
  (L:Int) (n:Nat) (hl:a.eval l= .int .i64 L) (hc:a.eval c= .int .i64 L) (hL:L=(n:Int)) (b2:aA*n<=281474976710656) (b3:n<=maxLen)
  (hK:∀w',AH w' w.heap.size e w.heap.size n (fun _=>z)->Ex w w'->wpList P ops Q rest (a.put o.dst (.slice (some (w.heap.size,0)) n n)) w'):
  wpList P ops Q (o :: rest) a w:=by
 obtain⟨i,aG,aE,aD,aC⟩:=info_parts hi;refine wpList_make_full w hg l c t aF w.heap.size e i z 1 h1 aG aE aD .i64 .i64 L L n hl hc hL hL (by rw[aC];exact b2) b3 (Nat.le_refl _) ?_;intro w' aB aH;rw[hz,Nat.mul_one,toList_madeCells_one,Ie]at aB;exact hK w' aB (Below.grown (Below.refl _ _) aH (Nat.le_refl _) (fun k hk=>by cases hk))
def iv(f:Nat->Int):Nat->Value:=fun j=> .int .i64 (f j)
theorem CC(f:Nat->Int)(k:Nat)(y:Int):Az (iv f) k (.int .i64 y)=iv (Az f k y):=by
 funext j;by_cases h:j=k <;> simp[Az,iv,h]
theorem AH.icongr{w:World}{base:Nat}{e:TypeId}{g n:Nat}{f h:Nat->Int}(hf:AH w base e g n (iv f))(hc:∀j,j<n->f j=h j):AH w base e g n (iv h):=
 hf.congr fun j hj=>congrArg (Value.int .i64) (hc j hj)
def il(n:Nat)(f:Nat->Int):List Int:=(List.range n).map f
theorem An(n:Nat)(f:Nat->Int):(il n f).length=n:=by simp[il]
theorem AQ{n j:Nat}(h:j<n)(f:Nat->Int):(il n f)[j]?=some (f j):=by simp[il,h]
theorem Cu(n:Nat)(f:Nat->Int):Ao (il n f)=vs n (iv f):=by simp[Ao,il,vs,iv]
theorem AH.isl{w:World}{base:Nat}{e:TypeId}{g n:Nat}{f:Nat->Int}(h:AH w base e g n (iv f)):Al w (.slice (some (g,0)) n n) (il n f):=by
 unfold Al;rw[An,Cu];exact h.sl
def bv(f:Nat->Bool):Nat->Value:=fun j=> .bool (f j)
theorem Se(f:Nat->Bool)(k:Nat)(y:Bool):Az (bv f) k (.bool y)=bv (Az f k y):=by
 funext j;by_cases h:j=k <;> simp[Az,bv,h]
theorem AH.bcongr{w:World}{base:Nat}{e:TypeId}{g n:Nat}{f h:Nat->Bool}(hf:AH w base e g n (bv f))(hc:∀j,j<n->f j=h j):AH w base e g n (bv h):=
 hf.congr fun j hj=>congrArg Value.bool (hc j hj)
theorem Ic(y p:Nat)(h:y<=9223372036854775807):wrap64 ((y:Int)/(p:Int))=((y/p:Nat):Int):=by
 have h1:=Nat.div_le_self y p;rw[<-Int.natCast_ediv];generalize y/p=q at *;exact w64 ac ac
theorem Ab{α:Type}(c:Nat->α)(k:Nat)(u:α):Az c k u k=u:=by unfold Az;rw[if_pos rfl]
theorem Ad{α:Type}(c:Nat->α){k j:Nat}(u:α)(h:j≠k):Az c k u j=c j:=by unfold Az;rw[if_neg h]
def AR(u v:Value):Prop:=u.ownBlock=none∨u.ownBlock≠v.ownBlock
theorem AR.symm{u v:Value}(h:AR u v):AR v u:=by
 unfold AR at *;rcases h with h|h
 .rcases hv:v.ownBlock with _|b
  .exact .inl rfl
  .right;rw[h];simp
 .exact .inr fun e=>h e.symm
theorem AR.nil(v:Value):AR (.slice none 0 0) v:= .inl rfl
structure Bv(w w':World)(base:Nat)(e:TypeId)(size:Nat)(v v':Value)(n:Nat)(xs news:List Value):Prop where
 own:w'.ownsRow base e size v' (n+1) (xs++news)
 gr:∃o,(w.alloc o).grownBy w' v.ownBlock
 at_:v'.ownBlock=v.ownBlock∨v'.ownBlock=some (w.heap.size+1)
 old:w.ownsRow base e size v n xs
section
variable {w w':World} {base:Nat} {e:TypeId} {size:Nat} {v v':Value} {n:Nat} {xs news:List Value}
theorem Bv.grow(h:Bv w w' base e size v v' n xs news):w.heap.size<w'.heap.size:=by
 obtain⟨o,hg⟩:=h.gr;have:=hg.size;simp at this;omega
theorem Bv.ex(h:Bv w w' base e size v v' n xs news){a:World}(hx:Ex a w)(hb:a.heap.size<=base):Ex a w':=by
 obtain⟨o,hg⟩:=h.gr;exact Ex.grown (hx.alloc o) (h.old.alloc o) hb hg
theorem Bv.cell(h:Bv w w' base e size v v' n xs news){a:Addr}{u:Value}(hc:w.cell? a=some u)(aA:some a.block≠v.ownBlock):w'.cell? a=some u:=by
 obtain⟨o,hg⟩:=h.gr;exact hg.cell (by rw[World.cell?_alloc_lt _ _ _ (World.block_lt_of_cell? _ _ hc)];exact hc) aA
theorem zas{P:Prop}(h:P:=by
 right;have hlt:=(k.lt b h2).2;rcases h.at_ with h3|h3
 .rw[h3,<-h2];rcases ha with ha|ha
  .rw[h2]at ha;cases ha
  .exact ha
 .rw[h3];intro e;injection e with e;omega):P:=h
theorem zcX{P:Prop}(h:P:=by
 unfold AR;rcases h2:v2.ownBlock with _|b
 .exact .inl rfl
 .exact zas):P:=h
theorem Bv.row(h:Bv w w' base e size v v' n xs news){b2:Nat}{e2:TypeId}{s2:Nat}{v2:Value}{n2:Nat}{ys:List Value}(k:w.ownsRow b2 e2 s2 v2 n2 ys)(ha:AR v2 v):
  w'.ownsRow b2 e2 s2 v2 n2 ys/\AR v2 v':=by
 obtain⟨o,hg⟩:=h.gr;refine⟨(k.alloc o).kept hg ha,?_⟩;exact zcX
theorem Bv.arr(h:Bv w w' base e size v v' n xs news){b2:Nat}{e2:TypeId}{g m:Nat}{c:Nat->Value}(k:AH w b2 e2 g m c)(ha:v.ownBlock≠some g):
  AH w' b2 e2 g m c/\v'.ownBlock≠some g:=by
 have h1:=h.row k (.inr (fun e=>ha e.symm));refine⟨h1.1,?_⟩;rcases h1.2 with h2|h2
 .cases h2
 .exact fun e=>h2 e.symm
end
theorem aq{P:Prop}(h:P:=by simp;omega):P:=h
theorem db{P:Prop}(h:P:=by unfold Addr.add;split <;> simp_all):P:=h
theorem Am{P:Program}(w:World){ops:Array Oper}{rest:List Oper}{o:Oper}{a:Act}{Q:Exit->Act->World->Prop}(aL:o.guard=none)(s x:Operand)(t:TypeId)
  (ho:o.op= .call { callee:= .builtin .append,args:= #[s,x],argTypes:= #[t,t] })
  (base:Nat) (e:TypeId) (z:Value) (size aA:Nat) (ht:P.underlying t=some (.slice e)) (hi:(P.info? e).map (fun i=>(i.zero,i.size,i.bytes))=some (some z,size,aA))
  (aF:z.cells.size=size) (aJ:0<size)
  (v:Value) (n:Nat) (xs:List Value) (hs:a.eval s=v) (aC:w.ownsRow base e size v n xs)
  (news:List Value) (te:TypeId) (B:Nat) (hx:a.eval x= .slice (some (B,0)) 1 1) (hB:w.heap.size=B) (hl:news.length=size) (h1:∀u∈news,u.oneCell'=true)
  (aM:n+1<=maxLen) (aB:(n+1)*aA<=140737488355328) (hbase:base<=w.heap.size)
  (h:∀v' w',Bv w w' base e size v v' n xs news->wpList P ops Q rest (a.put o.dst v') w'):
  wpList P ops Q (o :: rest) a (w.alloc (.cells news.toArray te)):=by
 subst hB;obtain⟨i,aK,aI,aH,aG⟩:=info_parts hi;refine wpList_plain aL fun K hK=>?_;have aD:∀j u,news[j]?=some u->(w.alloc (.cells news.toArray te)).cell? ((⟨w.heap.size,0,none⟩:Addr).add j)=some u:=by
  intro j u hu;have aE:(⟨w.heap.size,0,none⟩:Addr).add j=⟨w.heap.size,j,none⟩:=db;rw[aE];simpa using hu
 obtain⟨v',w',hr,h2,h3,h4,h5⟩:=run_append_own_at (P:=P) (w.alloc (.cells news.toArray te)) base t o.type e i z size aA ht aK aI aH aG aF aJ v n xs (aC.alloc _) ⟨w.heap.size,0,none⟩ 1 1 news (by rw[hl,Nat.one_mul]) aD h1 aM aB aq;unfold Oper.wp execOp;simp only[ho,resolve,invoke,builtin,Sem.run_bind,Sem.run_pure,Result.andThen_ok,List.map_toArray,List.map_cons,List.map_nil,hs,hx,hr];exact hK _ _ (h v' w' ⟨h2,⟨_,h3⟩,by simpa using h5,aC⟩)
def lenV:Value->Nat
 | .slice _ n _=>n
 | _=>0
theorem P5{w:World}{base:Nat}{e:TypeId}{size:Nat}{v:Value}{n:Nat}{xs:List Value}(h:w.ownsRow base e size v n xs):lenV v=n:=by
 rcases h.2 with⟨rfl,rfl⟩|⟨g,cap,cur,rfl,_⟩ <;> rfl
theorem Fs{w:World}{base:Nat}{e:TypeId}{size:Nat}{v:Value}{n:Nat}{xs:List Value}(h:w.ownsRow base e size v n xs)(hn:1<=n):
  ∃g cap,v= .slice (some ⟨g,0,none⟩) n cap/\n<=cap/\cap<=maxLen:=by
 rcases h.2 with⟨_,h0⟩|⟨g,cap,cur,rfl,_,_,h1,h2,_⟩
 .omega
 .exact⟨g,cap,rfl,h1,h2⟩
theorem Ae{w:World}{base:Nat}{e:TypeId}{size:Nat}{v:Value}{n:Nat}{xs:List Value}(h:w.ownsRow base e size v n xs):∃a c,v= .slice a n c:=by
 rcases h.2 with⟨rfl,rfl⟩|⟨g,cap,cur,rfl,_⟩
 .exact⟨none,0,rfl⟩
 .exact⟨_,_,rfl⟩
theorem ai{P:Prop}(h:P:=by unfold maxLen;omega):P:=h
theorem Ft(w:World)(u:Value)(e:TypeId):(w.alloc (.cells #[u] e)).ownsRow w.heap.size e 1 (.slice (some (w.heap.size,0)) 1 1) 1 [u]:=
 World.ownsRow_lit w #[u] 1 (Nat.le_refl _) ai rfl
theorem Fe{P:Program}(w:World)(base:Nat)(t ty e:TypeId)(z:Value)(size aA:Nat)(ht:P.underlying t=some (.slice e))(hi:(P.info? e).map (fun i=>(i.zero,i.size,i.bytes))=some (some z,size,aA))
  (aJ:z.cells.size=size) (aN:0<size) (v:Value) (n:Nat) (xs:List Value) (aB:w.ownsRow base e size v n xs)
  (x:Value) (m:Nat) (news:List Value) (hx:Sl w x m size news) (h1:∀u∈news,u.oneCell'=true)
  (aQ:n+m<=maxLen) (aD:(n+m)*aA<=140737488355328) (aF:base<=w.heap.size):
  ∃v' w',(Builtin.append_ #[t,t] ty #[v,x]).run P w= .ok v' w'/\w'.ownsRow base e size v' (n+m) (xs++news)/\w.grownBy w' v.ownBlock/\(v'.ownBlock=v.ownBlock∨v'.ownBlock=some w.heap.size):=by
 obtain⟨i,aI,aM,aL,aK⟩:=info_parts hi;obtain⟨hl,a,cap,rfl,hmc,hcm,aC⟩:=hx;rcases Nat.eq_zero_or_pos m with h0|h0
 .subst h0;have aO:news= []:=List.eq_nil_of_length_eq_zero (by rw[hl];simp);subst aO;have aG:Src P i.size t (.slice a 0 cap) 0 [] w:=by
   rcases a with _|a
   .exact Src.ofNil w ht cap
   .exact Src.ofSlice w ht a 0 cap [] ag ag ag
  have hv:∃ao c,v= .slice ao n c/\n<=c:=by
   rcases aB.2 with⟨rfl,rfl⟩|⟨g,c,cur,rfl,_,_,h,_⟩
   .exact⟨none,0,rfl,Nat.le_refl _⟩
   .exact⟨_,_,rfl,h⟩
  obtain⟨ao,c,rfl,aP⟩:=hv;refine⟨_,_,run_append_nothing w t t ty e i ht aI ao n c aP _ aG,by simpa using aB,⟨rfl,rfl,rfl,Nat.le_refl _,fun _ _ _=>rfl⟩,.inl rfl⟩
 .obtain⟨b,o,rfl,hc⟩:=aC h0;have aE:∀j u,news[j]?=some u->w.cell? ((⟨b,o,none⟩:Addr).add j)=some u:=by
   intro j u hu;have aH:(⟨b,o,none⟩:Addr).add j=⟨b,o+j,none⟩:=db;rw[aH];exact hc j u hu
  obtain⟨v',w',hr,h2,h3,h4,h5⟩:=run_append_own_at (P:=P) w base t ty e i z size aA ht aI aM aL aK aJ aN v n xs aB ⟨b,o,none⟩ m cap news hl aE h1 aQ aD aF;exact⟨v',w',hr,h2,h3,h5⟩
theorem Bl{P:Program}(w:World){ops:Array Oper}{rest:List Oper}{o:Oper}{a:Act}{Q:Exit->Act->World->Prop}(aH:o.guard=none)(s x:Operand)(t:TypeId)
  (ho:o.op= .call { callee:= .builtin .append,args:= #[s,x],argTypes:= #[t,t] })
  (base:Nat) (e:TypeId) (z:Value) (size aA:Nat) (ht:P.underlying t=some (.slice e)) (hi:(P.info? e).map (fun i=>(i.zero,i.size,i.bytes))=some (some z,size,aA))
  (aE:z.cells.size=size) (aF:0<size) (v:Value) (n:Nat) (xs:List Value) (hs:a.eval s=v) (aD:w.ownsRow base e size v n xs)
  (xv:Value) (m:Nat) (news:List Value) (hx:a.eval x=xv) (aG:Sl w xv m size news) (h1:∀u∈news,u.oneCell'=true)
  (aI:n+m<=maxLen) (aB:(n+m)*aA<=140737488355328) (aC:base<=w.heap.size)
  (h:∀v' w',w'.ownsRow base e size v' (n+m) (xs++news)->w.grownBy w' v.ownBlock->(v'.ownBlock=v.ownBlock∨v'.ownBlock=some w.heap.size)->wpList P ops Q rest (a.put o.dst v') w'):
  wpList P ops Q (o :: rest) a w:=by
 refine wpList_plain aH fun K hK=>?_;obtain⟨v',w',hr,h2,h3,h4⟩:=Fe (P:=P) w base t o.type e z size aA ht hi aE aF v n xs aD xv m news aG h1 aI aB aC;unfold Oper.wp execOp;simp only[ho,resolve,invoke,builtin,Sem.run_bind,Sem.run_pure,Result.andThen_ok,List.map_toArray,List.map_cons,List.map_nil,hs,hx,hr];exact hK _ _ (h v' w' h2 h3 h4)
theorem zbx{P:Prop}(h:P:=by
 unfold Oper.wp execOp;simp only[ho,resolve,invoke,builtin,Sem.run_bind,Sem.run_pure,Result.andThen_ok,List.map_toArray,List.map_cons,List.map_nil,hs,hx,hr];exact h v' w' h2 h3 h4):P:=h
theorem Co{P:Program}{w:World}{ops:Array Oper}{o:Oper}{a:Act}{K:Act->World->Prop}{Q:Exit->Act->World->Prop}{E:Prop}(aH:o.guard=none)(s x:Operand)(t:TypeId)
  (ho:o.op= .call { callee:= .builtin .append,args:= #[s,x],argTypes:= #[t,t] })
  (base:Nat) (e:TypeId) (z:Value) (size aA:Nat) (ht:P.underlying t=some (.slice e)) (hi:(P.info? e).map (fun i=>(i.zero,i.size,i.bytes))=some (some z,size,aA))
  (aE:z.cells.size=size) (aF:0<size) (v:Value) (n:Nat) (xs:List Value) (hs:a.eval s=v) (aD:w.ownsRow base e size v n xs)
  (xv:Value) (m:Nat) (news:List Value) (hx:a.eval x=xv) (aG:Sl w xv m size news) (h1:∀u∈news,u.oneCell'=true)
  (aI:n+m<=maxLen) (aB:(n+m)*aA<=140737488355328) (aC:base<=w.heap.size)
  (h:∀v' w',w'.ownsRow base e size v' (n+m) (xs++news)->w.grownBy w' v.ownBlock->(v'.ownBlock=v.ownBlock∨v'.ownBlock=some w.heap.size)->K (a.put o.dst v') w'):
  if Region.wanted o (yielded ops a.tmps)=true then Oper.wp P o a w K Q else E:=by
 have hw:Region.wanted o (yielded ops a.tmps)=true:=by simp[Region.wanted,aH]
 rw[if_pos hw];obtain⟨v',w',hr,h2,h3,h4⟩:=Fe (P:=P) w base t o.type e z size aA ht hi aE aF v n xs aD xv m news aG h1 aI aB aC;exact zbx
theorem AP{P:Program}(w:World)(t e:TypeId)(a:Option Addr)(l c:Nat)(h:P.underlying t=some (.slice e)):(binOp .eql t (.slice a l c) (.slice none 0 0)).run P w= .ok (.bool a.isNone) w:=by
 simp only[binOp];simp[run_equal_slice_nil w t e a l c h]
theorem Bw(w:World)(e:TypeId):(w.alloc (.cells #[] e)).ownsRow w.heap.size e 1 (.slice (some (w.heap.size,0)) 0 0) 0 []:=
 World.ownsRow_lit w #[] 0 (Nat.le_refl _) ai rfl
theorem Fd{P:Program}{w:World}{o:Oper}{a:Act}{K:Act->World->Prop}{Q:Exit->Act->World->Prop}(t e:TypeId)(z:Value)(aA:Nat)
  (h1:P.underlying t=some (.slice e)) (hi:(P.info? e).map (fun i=>(i.zero,i.size,i.bytes))=some (some z,1,aA)) (hz:z.cells= #[z])
  (n:Nat) (b2:aA*n<=281474976710656) (b3:n<=maxLen)
  (hK:∀w',AH w' w.heap.size e w.heap.size n (fun _=>z)->Ex w w'->Oper.upon P o a K Q (.ok (.value (.slice (some (w.heap.size,0)) n n)) w')):
  Oper.upon P o a K Q (((Instr.makeSlice t (.int .i64 (n:Int)) (.int .i64 (n:Int))).run P w).andThen fun a w'=>Result.ok (Next.value a) w'):=by
 obtain⟨i,aF,aE,aD,aC⟩:=info_parts hi;obtain⟨w',aB,r1,r2⟩:=run_make_full (P:=P) w w.heap.size t e i z 1 h1 aF aE aD .i64 .i64 n (by rw[aC];exact b2) b3 (Nat.le_refl _);rw[aB,Result.andThen_ok];rw[hz,Nat.mul_one,toList_madeCells_one,Ie]at r1;exact hK w' r1 (Below.grown (Below.refl _ _) r2 (Nat.le_refl _) (fun k hk=>by cases hk))
section
abbrev Vc:=Nat->Int
def sX(m:Nat)(low:Vc)(v:Vc):Vc:=fun j=>if j<m then(if j=0 then 0 else v (j-1))-v (m-1)*low j else 0
def Dt(m:Nat)(low:Vc):Nat->Vc->Vc
 | 0,v=>v
 | k+1,v=>sX m low (Dt m low k v)
def ap(m:Nat)(low:Vc):Nat->Vc->Vc->Vc
 | 0,_,_=>fun _=>0
 | n+1,y,x=>fun j=>ap m low n y x j+y n*Dt m low n x j
def Av:Vc:=fun j=>if j=0 then 1 else 0
def Fh(m:Nat)(low:Vc)(x y:Vc):Vc:=ap m low m y x
def Su(T:Vc->Vc):Prop:=∀(a b:Int) (v w:Vc),T (fun j=>a*v j+b*w j)=fun j=>a*T v j+b*T w j
variable {m:Nat} {low:Vc}
theorem Hr:Su (sX m low):=by
 intro a b v w;funext j;unfold sX;split
 .split <;> grind
 .simp
theorem Su.comp{T U:Vc->Vc}(h:Su T)(k:Su U):Su (fun v=>T (U v)):=by
 intro a b v w;show T (U _)=_
 rw[k,h]
theorem EZ:∀k,Su (Dt m low k)
 | 0=>fun _ _ _ _=>rfl
 | k+1=>by
  have:=Su.comp (Hr (m:=m) (low:=low)) (EZ k);exact this
theorem Su.zero{T:Vc->Vc}(h:Su T):T (fun _=>0)=fun _=>0:=by
 have:=h 0 0 (fun _=>0) (fun _=>0);simp at this;exact this
theorem Su.add{T:Vc->Vc}(h:Su T)(v w:Vc):T (fun j=>v j+w j)=fun j=>T v j+T w j:=by
 have:=h 1 1 v w;simpa using this
theorem Su.add_smul{T:Vc->Vc}(h:Su T)(v w:Vc)(b:Int):T (fun j=>v j+b*w j)=fun j=>T v j+b*T w j:=by
 have:=h 1 b v w;simpa using this
theorem L6:∀n y,Su (ap m low n y)
 | 0,y=>by intro a b v w;funext j;simp[ap]
 | n+1,y=>by
  intro a b v w;funext j;simp only[ap];rw[L6 n y,EZ n]
  grind
theorem Ka:∀i k v,Dt m low (i+k) v=Dt m low i (Dt m low k v)
 | 0,k,v=>by simp[Dt]
 | i+1,k,v=>by rw[Nat.add_right_comm];simp only[Dt];rw[Ka i k v]
theorem OV{T:Vc->Vc}(h:Su T)(hc:∀v,T (sX m low v)=sX m low (T v)):∀n y x,T (ap m low n y x)=ap m low n y (T x)
 | 0,y,x=>by simp only[ap];exact h.zero
 | n+1,y,x=>by
  have hk:∀k v,T (Dt m low k v)=Dt m low k (T v):=by
   intro k
   induction k with
   | zero=>intro v;rfl
   | succ k ih=>intro v;simp only[Dt];rw[hc,ih]
  simp only[ap];rw[h.add_smul,OV h hc n y x,hk]
theorem ap_sX(n:Nat)(y x:Vc):ap m low n y (sX m low x)=sX m low (ap m low n y x):=(OV Hr (fun _=>rfl) n y x).symm
theorem ap_ap(n k:Nat)(y z x:Vc):ap m low n y (ap m low k z x)=ap m low k z (ap m low n y x):=
 OV (L6 n y) (fun v=>ap_sX n y v) k z x
theorem NP:∀i,i<m->Dt m low i Av=fun j=>if j=i then 1 else 0
 | 0,_=>rfl
 | i+1,h=>by
  simp only[Dt];rw[NP i (by omega)];funext j;unfold sX;show(if j<m then(if j=0 then 0 else if j-1=i then(1:Int) else 0)-(if m-1=i then(1:Int) else 0)*low j else 0)=_
  rw[show(if m-1=i then(1:Int) else 0)=0 by rw[if_neg (by omega)]];by_cases h1:j=i+1
  .subst h1;simp[h]
  .rw[if_neg h1];by_cases h2:j<m
   .rw[if_pos h2];by_cases h3:j=0
    .simp[h3]
    .rw[if_neg h3,if_neg (by omega)];simp
   .rw[if_neg h2]
theorem L5:∀n (y:Vc),n<=m->ap m low n y Av=fun j=>if j<n then y j else 0
 | 0,y,_=>by simp[ap]
 | n+1,y,h=>by
  simp only[ap];rw[L5 n y (by omega),NP n (by omega)];funext j;show(if j<n then y j else 0)+y n*(if j=n then 1 else 0)=_
  by_cases h1:j<n
  .rw[if_pos h1,if_neg (show ¬j=n by omega),if_pos (by omega)];simp
  .rw[if_neg h1];by_cases h2:j=n
   .subst h2;simp
   .rw[if_neg h2,if_neg (by omega)];simp
def IS(m:Nat)(v:Vc):Prop:=∀j,m<=j->v j=0
theorem IS.ap_one{y:Vc}(h:IS m y):ap m low m y Av=y:=by
 rw[Go.Proofs.YtehieobniamagaaGreat.L5 m y (Nat.le_refl _)];funext j;by_cases h1:j<m
 .rw[if_pos h1]
 .rw[if_neg h1,h j ac]
theorem sX_sup(v:Vc):IS m (sX m low v):=fun j h=>by unfold sX;rw[if_neg ac]
theorem YI{v:Vc}(h:IS m v):∀k,IS m (Dt m low k v)
 | 0=>h
 | k+1=>sX_sup _
theorem OU{x:Vc}(h:IS m x):∀n y,IS m (ap m low n y x)
 | 0,y=>fun _ _=>rfl
 | n+1,y=>fun j hj=>by simp only[ap];rw[OU h n y j hj,YI h n j hj];simp
theorem Fw{x y:Vc}(hx:IS m x)(hy:IS m y):Fh m low x y=Fh m low y x:=by
 unfold Fh
 conv=>lhs;rw[<-hx.ap_one (low:=low),ap_ap,hy.ap_one]
theorem Fv{x y:Vc}(hx:IS m x):IS m (Fh m low x y):=OU hx _ _
theorem RM{x y z:Vc}(hx:IS m x)(hy:IS m y)(hz:IS m z):Fh m low (Fh m low x y) z=Fh m low x (Fh m low y z):=by
 rw[Fw hx (Fv hy),Fw hx hy];unfold Fh;rw[ap_ap]
theorem Wl{x:Vc}(hx:IS m x)(hm:1<=m):Fh m low x Av=x:=by
 have h1:IS m Av:=fun j hj=>by unfold Av;rw[if_neg ac]
 rw[Fw hx h1];exact hx.ap_one
theorem Wm(x y z:Vc):Fh m low (fun j=>x j+y j) z=fun j=>Fh m low x z j+Fh m low y z j:=(L6 m z).add x y
def DV(m:Nat)(low:Vc)(x:Vc):Nat->Vc->Vc
 | 0,_=>fun _=>0
 | k+1,y=>fun j=>sX m low (DV m low x k (fun t=>y (t+1))) j+y 0*x j
theorem QS:∀n (y x:Vc),ap m low (n+1) y x=fun j=>y 0*x j+sX m low (ap m low n (fun t=>y (t+1)) x) j
 | 0,y,x=>by
  have h0:sX m low (fun _=>0)=fun _=>0:=Hr.zero;funext j;simp only[ap,Dt];rw[h0];simp
 | n+1,y,x=>by
  funext j;rw[ap,QS n y x];rw[ap,Hr.add_smul];simp only[Dt];exact Int.add_assoc _ _ _
theorem Ov:∀n (y x:Vc),DV m low x n y=ap m low n y x
 | 0,y,x=>rfl
 | n+1,y,x=>by
  funext j;rw[QS,DV,Ov n];exact Int.add_comm _ _
def Ct(p:Int)(v w:Vc):Prop:=∀j,v j%p=w j%p
theorem Ct.refl(p:Int)(v:Vc):Ct p v v:=fun _=>rfl
theorem Ct.symm{p:Int}{v w:Vc}(h:Ct p v w):Ct p w v:=fun j=>(h j).symm
theorem Ct.trans{p:Int}{u v w:Vc}(h:Ct p u v)(k:Ct p v w):Ct p u w:=fun j=>(h j).trans (k j)
theorem Cw{p a b:Int}:a%p=b%p↔∃c,a=b+p*c:=by
 constructor
 .intro h;have:=Int.emod_emod_of_dvd a (Int.dvd_refl p);have h1:=Int.mul_ediv_add_emod a p;have h2:=Int.mul_ediv_add_emod b p;exact⟨a/p-b/p,by rw[Int.mul_sub];omega⟩
 .rintro⟨c,rfl⟩;exact Int.add_mul_emod_self_left b p c
theorem Eu{p a b c d:Int}(h:a%p=b%p)(k:c%p=d%p):(a+c)%p=(b+d)%p:=by
 obtain⟨x,rfl⟩:=Cw.1 h;obtain⟨y,rfl⟩:=Cw.1 k;exact Cw.2 ⟨x+y,by grind⟩
theorem F4{p a b c d:Int}(h:a%p=b%p)(k:c%p=d%p):(a*c)%p=(b*d)%p:=by
 obtain⟨x,rfl⟩:=Cw.1 h;obtain⟨y,rfl⟩:=Cw.1 k;exact Cw.2 ⟨x*d+b*y+p*x*y,by grind⟩
theorem II{p a b c d:Int}(h:a%p=b%p)(k:c%p=d%p):(a-c)%p=(b-d)%p:=by
 obtain⟨x,rfl⟩:=Cw.1 h;obtain⟨y,rfl⟩:=Cw.1 k;exact Cw.2 ⟨x-y,by grind⟩
theorem Ct.sX{p:Int}{v w:Vc}(h:Ct p v w):Ct p (sX m low v) (sX m low w):=fun j=>by
 unfold Go.Proofs.YtehieobniamagaaGreat.sX;split
 .refine II ?_ (F4 (h _) rfl);split
  .rfl
  .exact h _
 .rfl
theorem Ct.sXn{p:Int}{v w:Vc}(h:Ct p v w):∀k,Ct p (Dt m low k v) (Dt m low k w)
 | 0=>h
 | k+1=>(Ct.sXn h k).sX
theorem Ct.ap{p:Int}{v w y z:Vc}(h:Ct p v w)(k:Ct p y z):∀n,Ct p (ap m low n y v) (ap m low n z w)
 | 0=>fun _=>rfl
 | n+1=>fun j=>by
  simp only[Go.Proofs.YtehieobniamagaaGreat.ap];exact Eu (Ct.ap h k n j) (F4 (k n) (h.sXn n j))
theorem Ct.mulV{p:Int}{v w y z:Vc}(h:Ct p v w)(k:Ct p y z):Ct p (Fh m low v y) (Fh m low w z):=h.ap k m
def AK(p m x:Nat):Vc:=fun j=>if j<m then((x/p^j%p:Nat):Int) else 0
def Ey(p:Nat):Nat->Vc->Int
 | 0,_=>0
 | n+1,v=>Ey p n v+v n*((p^n:Nat):Int)
theorem Bq(p m x:Nat):IS m (AK p m x):=fun j h=>by unfold AK;rw[if_neg ac]
theorem Dy{p:Nat}(hp:1<=p)(m x j:Nat):0<=AK p m x j/\AK p m x j<p:=by
 unfold AK;split
 .have:=Nat.mod_lt (x/p^j) hp;omega
 .omega
def IsD(p m:Nat)(v:Vc):Prop:=IS m v/\∀j,0<=v j/\v j<p
theorem Dj{p:Nat}{v:Vc}(h:∀j,0<=v j/\v j<p):∀n,0<=Ey p n v/\Ey p n v<((p^n:Nat):Int)
 | 0=>by simp[Ey]
 | n+1=>by
  obtain⟨h1,h2⟩:=Dj h n;obtain⟨h3,h4⟩:=h n;simp only[Ey];have h5:0<=v n*((p^n:Nat):Int):=Int.mul_nonneg h3 ac;have h6:(v n+1)*((p^n:Nat):Int)<=p*((p^n:Nat):Int):=Int.mul_le_mul_of_nonneg_right ac ac;have h7:((p^(n+1):Nat):Int)=p*((p^n:Nat):Int):=by rw[Nat.pow_succ,Int.natCast_mul,Int.mul_comm]
  rw[Int.add_mul]at h6;omega
theorem DW{p:Nat}{v w:Vc}:∀n,(∀j,j<n->v j=w j)->Ey p n v=Ey p n w
 | 0,_=>rfl
 | n+1,h=>by simp only[Ey];rw[DW n fun j hj=>h j (by omega),h n (by omega)]
theorem TK{p:Nat}(hp:1<=p)(m x:Nat):∀n,n<=m->Ey p n (AK p m x)=((x%p^n:Nat):Int)
 | 0,_=>by simp[Ey,Nat.mod_one]
 | n+1,h=>by
  simp only[Ey];rw[TK hp m x n (by omega)];unfold AK;rw[if_pos (by omega),Nat.pow_succ,Nat.mod_mul,Int.natCast_add,Int.natCast_mul,Int.mul_comm (((x/p^n%p:Nat)):Int)]
theorem Xz{p m x:Nat}(hp:1<=p)(h:x<p^m):Ey p m (AK p m x)=x:=by
 rw[TK hp m x m (Nat.le_refl _),Nat.mod_eq_of_lt h]
theorem TI{p:Nat}(hp:1<=p){v:Vc}(h:∀j,0<=v j/\v j<p):∀n j,j<n->(Ey p n v).toNat/p^j%p=(v j).toNat
 | 0,j,hj=>by omega
 | n+1,j,hj=>by
  obtain⟨h1,h2⟩:=Dj h n;obtain⟨h3,h4⟩:=h n;have ih:=TI hp h n;simp only[Ey];obtain⟨a,ha⟩:=Int.eq_ofNat_of_zero_le h1;obtain⟨b,hb⟩:=Int.eq_ofNat_of_zero_le h3;have aC:(Ey p n v+v n*((p^n:Nat):Int)).toNat=a+b*p^n:=by rw[ha,hb,<-Int.natCast_mul,<-Int.natCast_add,Int.toNat_natCast]
  have aB:a<p^n:=ac;have aA:1<=p^n:=Nat.pow_pos hp;rw[aC];rcases Nat.eq_or_lt_of_le (show j<=n by omega) with e|e
  .subst e;rw[hb,Nat.add_mul_div_right _ _ aA,Nat.div_eq_of_lt aB,Nat.zero_add,Nat.mod_eq_of_lt ac];rfl
  .rw[<-ih j e,ha,Int.toNat_natCast];obtain⟨c,rfl⟩:∃c,n=j+(c+1):=⟨n-j-1,ac⟩;rw[show b*p^(j+(c+1))=b*p^c*p*p^j by rw[Nat.pow_add,Nat.pow_succ];ac_rfl,Nat.add_mul_div_right _ _ (Nat.pow_pos hp),Nat.add_mul_mod_self_right]
theorem LF{p m:Nat}{v:Vc}(hp:1<=p)(h:IsD p m v):AK p m (Ey p m v).toNat=v:=by
 funext j;unfold AK;split
 .rw[TI hp h.2 m j ‹_›];have:=(h.2 j).1;omega
 .exact(h.1 j ac).symm
end
def rep(p m:Nat)(v:Vc):Nat:=(Ey p m (fun j=>v j%p)).toNat
section
variable {p m:Nat}
theorem YS(hp:1<=p){v:Vc}(h:IS m v):IsD p m (fun j=>v j%p):=
 ⟨fun j hj=>by show v j%p=0;rw[h j hj];simp,fun j=>⟨Int.emod_nonneg _ ac,Int.emod_lt_of_pos _ ac⟩⟩
theorem Rp(hp:1<=p)(v:Vc):rep p m v<p^m:=by
 have h:∀j,0<=v j%(p:Int)/\v j%(p:Int)<p:=fun j=>⟨Int.emod_nonneg _ ac,Int.emod_lt_of_pos _ ac⟩;have:=Dj (v:=fun j=>v j%(p:Int)) h m;unfold rep;omega
theorem ZW(hp:1<=p){v:Vc}(h:IS m v):AK p m (rep p m v)=fun j=>v j%p:=LF hp (YS hp h)
theorem Cg(hp:1<=p){v:Vc}(h:IS m v):Ct p (AK p m (rep p m v)) v:=by
 rw[ZW hp h];exact fun j=>Int.emod_emod_of_dvd _ (Int.dvd_refl _)
theorem Fq{v w:Vc}(h:Ct p v w):rep p m v=rep p m w:=by
 unfold rep
 congr 1
 exact DW m fun j _=>h j
theorem Kb(hp:1<=p){x:Nat}(h:x<p^m):rep p m (AK p m x)=x:=by
 unfold rep;rw[DW (w:=AK p m x) m fun j _=>Int.emod_eq_of_lt (Dy hp m x j).1 (Dy hp m x j).2,Xz hp h];rfl
def AG(p m x y:Nat):Nat:=rep p m (fun j=>AK p m x j+AK p m y j)
def CH(p m x:Nat):Nat:=rep p m (fun j=>-AK p m x j)
def Ai(p m:Nat)(low:Vc)(x y:Nat):Nat:=rep p m (Fh m low (AK p m x) (AK p m y))
variable {low:Vc}
theorem E4(hp:1<=p)(x y:Nat):AG p m x y<p^m:=Rp hp _
theorem Dh(hp:1<=p)(x:Nat):CH p m x<p^m:=Rp hp _
theorem AY(hp:1<=p)(x y:Nat):Ai p m low x y<p^m:=Rp hp _
theorem OW{v w:Vc}(hv:IS m v)(hw:IS m w):IS m (fun j=>v j+w j):=fun j hj=>by show v j+w j=0;rw[hv j hj,hw j hj];rfl
theorem Zf{v:Vc}(hv:IS m v):IS m (fun j=>-v j):=fun j hj=>by show-v j=0;rw[hv j hj];rfl
theorem Ct.add{p:Int}{v v' w w':Vc}(h:Ct p v v')(k:Ct p w w'):Ct p (fun j=>v j+w j) (fun j=>v' j+w' j):=fun j=>Eu (h j) (k j)
theorem DT(x y:Nat):AG p m x y=AG p m y x:=by
 unfold AG;congr 1;funext j;exact Int.add_comm _ _
theorem BG(hp:1<=p)(x y z:Nat):AG p m (AG p m x y) z=AG p m x (AG p m y z):=by
 unfold AG;refine Fq ?_;refine((Cg hp (OW (Bq p m x) (Bq p m y))).add (Ct.refl _ _)).trans ?_;refine Ct.symm (((Ct.refl _ _).add (Cg hp (OW (Bq p m y) (Bq p m z)))).trans ?_);intro j;show(_+(_+_))%(p:Int)=(_+_+_)%(p:Int)
 rw[Int.add_assoc]
theorem IK(p m:Nat):AK p m 0=fun _=>0:=by
 funext j;unfold AK;split <;> simp
theorem Bt(hp:1<=p){x:Nat}(h:x<p^m):AG p m x 0=x:=by
 unfold AG;rw[IK];simp only[Int.add_zero];exact Kb hp h
theorem DK(hp:1<=p){x:Nat}(h:x<p^m):AG p m 0 x=x:=by rw[DT,Bt hp h]
theorem PD(hp:1<=p):rep p m (fun _=>0)=0:=by
 have:=Kb (m:=m) hp (x:=0) (Nat.pow_pos hp)
 rwa[IK]at this
theorem CQ(hp:1<=p)(x:Nat):AG p m x (CH p m x)=0:=by
 unfold AG CH;refine(Fq ?_).trans (PD hp);refine((Ct.refl _ _).add (Cg hp (Zf (Bq p m x)))).trans ?_;intro j;show(_ +-_)%(p:Int)=_
 rw[Int.add_right_neg]
theorem AU(x y:Nat):Ai p m low x y=Ai p m low y x:=by
 unfold Ai;rw[Fw (Bq p m x) (Bq p m y)]
theorem Bb(hp:1<=p)(x y z:Nat):Ai p m low (Ai p m low x y) z=Ai p m low x (Ai p m low y z):=by
 unfold Ai;refine Fq ?_;refine((Cg hp (Fv (Bq p m x))).mulV (Ct.refl _ _)).trans ?_;rw[RM (Bq p m x) (Bq p m y) (Bq p m z)];exact(Ct.refl _ _).mulV (Cg hp (Fv (Bq p m y))).symm
theorem OP(hp:2<=p)(hm:1<=m):AK p m 1=Av:=by
 funext j;unfold AK Av;rcases j with _|j
 .rw[if_pos (show 0<m by omega),if_pos rfl,Nat.pow_zero,Nat.div_one,Nat.mod_eq_of_lt ac];rfl
 .rw[if_neg (show ¬j+1=0 by omega)];split
  .have:1<p^(j+1):=Nat.one_lt_pow ac ac;rw[Nat.div_eq_of_lt this];simp
  .rfl
theorem Bz(hp:2<=p)(hm:1<=m):1<p^m:=Nat.one_lt_pow ac ac
theorem BA(hp:2<=p)(hm:1<=m){x:Nat}(h:x<p^m):Ai p m low x 1=x:=by
 unfold Ai;rw[OP hp hm,Wl (Bq p m x) hm,Kb ac h]
theorem Cp(hp:2<=p)(hm:1<=m){x:Nat}(h:x<p^m):Ai p m low 1 x=x:=by rw[AU,BA hp hm h]
theorem BT(hp:1<=p)(x:Nat):Ai p m low 0 x=0:=by
 unfold Ai Fh;rw[IK,(L6 m _).zero,PD hp]
theorem Jm(hp:1<=p)(x y z:Nat):Ai p m low (AG p m x y) z=AG p m (Ai p m low x z) (Ai p m low y z):=by
 unfold Ai AG;refine Fq ?_;refine((Cg hp (OW (Bq p m x) (Bq p m y))).mulV (Ct.refl _ _)).trans ?_;rw[Wm];exact((Cg hp (Fv (Bq p m x))).add (Cg hp (Fv (Bq p m y)))).symm
def BK(p m:Nat)(low:Vc)(x:Nat):Nat->Nat
 | 0=>1
 | k+1=>Ai p m low (BK p m low x k) x
theorem Dm(hp:2<=p)(hm:1<=m)(x:Nat):∀k,BK p m low x k<p^m
 | 0=>Bz hp hm
 | k+1=>AY (by omega) _ _
theorem CO(hp:2<=p)(hm:1<=m)(x i:Nat):∀k,BK p m low x (i+k)=Ai p m low (BK p m low x i) (BK p m low x k)
 | 0=>by rw[Nat.add_zero,BK,BA hp hm (Dm hp hm x i)]
 | k+1=>by rw[<-Nat.add_assoc,BK,CO hp hm x i k,Bb (by omega)];rfl
def De(p m:Nat)(low:Vc)(x:Nat):Prop:=BK p m low x (p^m-1)=1/\∀k,1<=k->k<p^m-1->BK p m low x k≠1
theorem De.inj(hp:2<=p)(hm:1<=m){x:Nat}(h:De p m low x){i j:Nat}(hj:j<p^m-1)(hij:i<j):BK p m low x i≠BK p m low x j:=fun e=>by
 have h1:BK p m low x (i+(p^m-1-i))=BK p m low x (j+(p^m-1-i)):=by rw[CO hp hm,CO hp hm,e]
 rw[show i+(p^m-1-i)=p^m-1 by omega,show j+(p^m-1-i)=(j-i)+(p^m-1) by omega,CO hp hm,h.1,BA hp hm (Dm hp hm x _)]at h1;exact h.2 (j-i) ac ac h1.symm
theorem De.ne(hp:2<=p)(hm:1<=m){x:Nat}(h:De p m low x){i:Nat}(hi:i<=p^m-1):BK p m low x i≠0:=fun e=>by
 have h1:=CO (low:=low) hp hm x i (p^m-1-i);rw[e,BT ac,show i+(p^m-1-i)=p^m-1 by omega,h.1]at h1;omega
theorem RH:∀(n:Nat) (L:List Nat),L.Nodup->L.length=n->(∀x∈L,1<=x/\x<=n)->∀x,1<=x->x<=n->x∈L:=by
 intro n
 induction n with
 | zero=>intro L _ _ _ x h1 h2;omega
 | succ n ih=>
  intro L hd hl hr x h1 h2;by_cases hm:n+1∈L
  .have aD:=hd.erase (n+1);have aA:∀y,y∈L.erase (n+1)↔y≠n+1/\y∈L:=fun y=>hd.mem_erase_iff;by_cases hx:x=n+1
   .exact hx ▸ hm
   .have:=ih (L.erase (n+1)) aD (by rw[List.length_erase_of_mem hm,hl];rfl) (fun y hy=>by
     obtain⟨a,b⟩:=(aA y).1 hy;have:=hr y b;omega) x h1 ac
    exact((aA x).1 this).2
  .exfalso;rcases L with _|⟨a,L⟩
   .simp at hl
   .have aC:=List.nodup_cons.1 hd;have aB:∀y∈a :: L,1<=y/\y<=n:=fun y hy=>by
     have:=hr y hy;have:y≠n+1:=fun e=>hm (e ▸ hy);omega
    have ha:=aB a (List.mem_cons_self ..);exact aC.1 (ih L aC.2 (by simpa using hl) (fun y hy=>aB y (List.mem_cons_of_mem _ hy)) a ha.1 ha.2)
theorem Dg{f:Nat->Nat}{n:Nat}(h:∀i j,j<n->i<j->f i≠f j):((List.range n).map f).Nodup:=by
 rw[List.nodup_iff_pairwise_ne,List.pairwise_map];refine List.Pairwise.imp_of_mem ?_ List.pairwise_lt_range;intro a b ha hb aA;exact h a b (List.mem_range.1 hb) aA
theorem De.all(hp:2<=p)(hm:1<=m){x:Nat}(h:De p m low x){y:Nat}(h1:1<=y)(h2:y<p^m):∃k,k<p^m-1/\BK p m low x k=y:=by
 have:=RH (p^m-1) ((List.range (p^m-1)).map (BK p m low x)) (Dg fun i j hj aA=>h.inj hp hm hj aA) ag (fun z hz=>by
  obtain⟨k,hk,rfl⟩:=List.mem_map.1 hz;have:=h.ne hp hm (i:=k) (by have:=List.mem_range.1 hk;omega);have:=Dm (low:=low) hp hm x k;omega) y h1 ac
 obtain⟨k,hk,e⟩:=List.mem_map.1 this;exact⟨k,List.mem_range.1 hk,e⟩
def Hf(p m:Nat)(low:Vc):Prop:=∃x,1<=x/\x<p^m/\De p m low x
theorem De.mod(hp:2<=p)(hm:1<=m){x:Nat}(h:De p m low x)(k:Nat):BK p m low x (k%(p^m-1))=BK p m low x k:=by
 have aA:∀c r,BK p m low x (c*(p^m-1)+r)=BK p m low x r:=by
  intro c
  induction c with
  | zero=>intro r;simp
  | succ c ih=>intro r;rw[Nat.succ_mul,Nat.add_assoc,ih,CO hp hm,h.1,Cp hp hm (Dm hp hm x r)]
 have:=aA (k/(p^m-1)) (k%(p^m-1));rw[Nat.mul_comm,Nat.div_add_mod]at this;exact this.symm
theorem Hf.inv(hp:2<=p)(hm:1<=m)(h:Hf p m low){y:Nat}(h1:1<=y)(h2:y<p^m):∃z,1<=z/\z<p^m/\Ai p m low y z=1:=by
 obtain⟨x,_,_,hx⟩:=h;obtain⟨k,hk,rfl⟩:=hx.all hp hm h1 h2;refine⟨BK p m low x (p^m-1-k),?_,Dm hp hm x _,?_⟩
 .have:=hx.ne hp hm (i:=p^m-1-k) ac;omega
 .rw[<-CO hp hm,show k+(p^m-1-k)=p^m-1 by omega,hx.1]
theorem Hf.cancel(hp:2<=p)(hm:1<=m)(h:Hf p m low){y a b:Nat}(h1:1<=y)(h2:y<p^m)(ha:a<p^m)(hb:b<p^m)(e:Ai p m low a y=Ai p m low b y):a=b:=by
 obtain⟨z,_,_,hz⟩:=h.inv hp hm h1 h2;have:Ai p m low (Ai p m low a y) z=Ai p m low (Ai p m low b y) z:=cj
 rwa[Bb ac,Bb ac,hz,BA hp hm ha,BA hp hm hb]at this
theorem Hf.ne_zero(hp:2<=p)(hm:1<=m)(h:Hf p m low){a b:Nat}(ha:1<=a)(aB:a<p^m)(hb:1<=b)(aA:b<p^m):1<=Ai p m low a b:=by
 rcases Nat.eq_zero_or_pos (Ai p m low a b) with e|e
 .have:=h.cancel hp hm hb aA aB (Nat.pow_pos ac) (e.trans (BT ac b).symm);omega
 .exact e
theorem De.inv(hp:2<=p)(hm:1<=m){x:Nat}(h:De p m low x){k:Nat}(hk:k<p^m-1):Ai p m low (BK p m low x k) (BK p m low x ((p^m-1-k)%(p^m-1)))=1:=by
 rw[h.mod hp hm,<-CO hp hm,show k+(p^m-1-k)=p^m-1 by omega,h.1]
def Jy(p m:Nat)(low:Vc)(x k:Nat):Prop:=∀i,i<k->BK p m low x i≠0/\∀j,j<i->BK p m low x j≠BK p m low x i
def L9(p m:Nat)(low:Vc)(x L:Nat):Prop:=1<=L/\L<=p^m-1/\Jy p m low x L/\(BK p m low x L=0∨∃i,i<L/\BK p m low x i=BK p m low x L)
theorem Jy.succ{x k:Nat}(h:Jy p m low x k)(h0:BK p m low x k≠0)(hn:∀j,j<k->BK p m low x j≠BK p m low x k):Jy p m low x (k+1):=fun i hi=>by
 rcases Nat.eq_or_lt_of_le (show i<=k by omega) with e|e
 .subst e;exact⟨h0,hn⟩
 .exact h i e
theorem Jy.one(hp:2<=p)(hm:1<=m)(x:Nat):Jy p m low x 1:=fun i hi=>by
 obtain rfl:i=0:=ac;exact⟨by simp[BK],fun j hj=>ac⟩
theorem Jy.len(hp:2<=p)(hm:1<=m){x k:Nat}(h:Jy p m low x k):k<=p^m-1:=by
 rcases Nat.lt_or_ge (p^m-1) k with hk|hk
 .exfalso;have h1:Jy p m low x (p^m-1):=fun i hi=>h i ac;have:=RH (p^m-1) ((List.range (p^m-1)).map (BK p m low x)) (Dg fun i j hj aA=>(h1 j hj).2 i aA) ag (fun z hz=>by
   obtain⟨i,hi,rfl⟩:=List.mem_map.1 hz;have:=(h1 i (List.mem_range.1 hi)).1;have:=Dm (low:=low) hp hm x i;omega) (BK p m low x (p^m-1)) (by have:=(h _ hk).1;omega) (by have:=Dm (low:=low) hp hm x (p^m-1);omega)
  obtain⟨i,hi,e⟩:=List.mem_map.1 this;exact(h _ hk).2 i (List.mem_range.1 hi) e
 .exact hk
theorem L9.gen(hp:2<=p)(hm:1<=m){x L:Nat}(h:L9 p m low x L):De p m low x↔L=p^m-1/\BK p m low x (p^m-1)=1:=by
 obtain⟨h1,h2,h3,h4⟩:=h;constructor
 .intro hg;refine⟨?_,hg.1⟩;rcases Nat.eq_or_lt_of_le h2 with e|e
  .exact e
  .exfalso;rcases h4 with h4|⟨i,hi,h4⟩
   .exact hg.ne hp hm ac h4
   .exact hg.inj hp hm e hi h4
 .rintro⟨rfl,h5⟩;refine⟨h5,fun k k1 k2 e=>?_⟩;exact(h3 k k2).2 0 ac (by rw[e];rfl)
end
def Ih(c:Vc)(k:Nat)(v:Int):Vc:=fun j=>if j=k then v else c j
section
variable {m:Nat} {low:Vc}
theorem IP{n:Nat}{c d x:Vc}(h:∀j,j<n->c j=d j):ap m low n c x=ap m low n d x:=by
 induction n with
 | zero=>rfl
 | succ n ih=>simp only[ap];rw[ih fun j hj=>h j ac,h n ac]
theorem Nt{n k:Nat}{c x:Vc}{v:Int}(h:n<=k):ap m low n (Ih c k v) x=ap m low n c x:=
 IP fun j hj=>by unfold Ih;rw[if_neg ac]
theorem Sh{c x:Vc}{v:Int}{k:Nat}:∀n,k<n->ap m low n (Ih c k v) x=fun j=>ap m low n c x j+(v-c k)*Dt m low k x j
 | 0,h=>by omega
 | n+1,h=>by
  funext j;simp only[ap];rcases Nat.eq_or_lt_of_le (show k<=n by omega) with e|e
  .subst e;rw[Nt (Nat.le_refl _)];unfold Ih;rw[if_pos rfl]
   grind
  .rw[Sh n e];rw[show Ih c k v n=c n by unfold Ih;rw[if_neg (by omega)]]
   grind
theorem U0{p:Int}{n i j:Nat}{a b c:Vc}(hk:i+j<n)
  (h:Ct p (ap m low n c Av) (fun t=>ap m low i a b t+a i*Dt m low i (ap m low j b Av) t)):
  Ct p (ap m low n (Ih c (i+j) ((c (i+j)+a i*b j)%p)) Av) (fun t=>ap m low i a b t+a i*Dt m low i (ap m low (j+1) b Av) t):=by
 intro t;rw[Sh n hk];dsimp only;have e1:Dt m low i (ap m low (j+1) b Av) t=Dt m low i (ap m low j b Av) t+b j*Dt m low (i+j) Av t:=by
  simp only[ap];rw[(EZ i).add_smul,Ka]
 rw[e1];have e2:=h t;dsimp only at e2;generalize ap m low n c Av t=A at *;generalize ap m low i a b t=B at *;generalize Dt m low i (ap m low j b Av) t=C at *;generalize Dt m low (i+j) Av t=D at *;have e3:((c (i+j)+a i*b j)%p-c (i+j))%p=(a i*b j)%p:=by
  have:((c (i+j)+a i*b j)%p-c (i+j))%p=((c (i+j)+a i*b j)-c (i+j))%p:=II (Int.emod_emod_of_dvd _ (Int.dvd_refl _)) rfl;rw[this];congr 1;omega
 refine(Eu e2 (F4 e3 rfl)).trans ?_
 congr 1
 grind
theorem UZ(p:Int)(n:Nat)(a b:Vc):Ct p (ap m low n (fun _=>0) Av) (fun t=>ap m low 0 a b t+a 0*Dt m low 0 (ap m low 0 b Av) t):=by
 intro t;have:∀n,ap m low n (fun _=>0) Av=fun _=>0:=by
  intro n
  induction n with
  | zero=>rfl
  | succ n ih=>simp only[ap];rw[ih];funext j;simp
 rw[this n];simp[ap,Dt]
theorem Xy{p:Int}{n i:Nat}{a b c:Vc}(hb:IS m b)
  (h:Ct p (ap m low n c Av) (fun t=>ap m low i a b t+a i*Dt m low i (ap m low m b Av) t)):
  Ct p (ap m low n c Av) (fun t=>ap m low (i+1) a b t+a (i+1)*Dt m low (i+1) (ap m low 0 b Av) t):=by
 intro t;rw[h t];dsimp only;have e:Dt m low (i+1) (ap m low 0 b Av) t=0:=by
  simp only[ap];rw[(EZ (i+1)).zero]
 rw[e,hb.ap_one];simp only[ap]
 congr 1
 omega
theorem ST(hm:1<=m):Dt m low m Av=fun j=>-ap m low m low Av j:=by
 rw[L5 m low (Nat.le_refl _)];obtain⟨k,rfl⟩:∃k,m=k+1:=⟨m-1,ac⟩;rw[show Dt (k+1) low (k+1) Av=sX (k+1) low (Dt (k+1) low k Av) from rfl,NP k ac];funext j;show(if j<k+1 then(if j=0 then 0 else if j-1=k then(1:Int) else 0)-(if k+1-1=k then(1:Int) else 0)*low j else 0)=- (if j<k+1 then low j else 0)
 by_cases hj:j<k+1
 .have e:(if j=0 then(0:Int) else if j-1=k then 1 else 0)=0:=by
   split
   .rfl
   .rw[if_neg ac]
  rw[if_pos hj,if_pos hj,e,show(if k+1-1=k then(1:Int) else 0)=1 by rw[if_pos ac]];omega
 .rw[if_neg hj,if_neg hj];rfl
theorem PF{p:Int}{i j:Nat}{c c0:Vc}{T:Vc}(hi:m<=i)(hj:j<m)
  (h:Ct p (fun t=>ap m low i c Av t) (fun t=>ap m low i c0 Av t-c0 i*Dt m low (i-m) (ap m low j low Av) t)) (hc:c i=c0 i):
  Ct p (fun t=>ap m low i (Ih c (i-m+j) ((c (i-m+j)+(p-c i)*low j)%p)) Av t) (fun t=>ap m low i c0 Av t-c0 i*Dt m low (i-m) (ap m low (j+1) low Av) t):=by
 intro t;show ap m low i (Ih c (i-m+j) ((c (i-m+j)+(p-c i)*low j)%p)) Av t%p=_
 rw[Sh i ac];have e1:Dt m low (i-m) (ap m low (j+1) low Av) t=Dt m low (i-m) (ap m low j low Av) t+low j*Dt m low (i-m+j) Av t:=by
  simp only[ap];rw[(EZ (i-m)).add_smul,Ka]
 have e2:=h t;dsimp only at e2 ⊢;rw[e1];have e3:((c (i-m+j)+(p-c i)*low j)%p-c (i-m+j))%p=(- (c0 i*low j))%p:=by
  have:((c (i-m+j)+(p-c i)*low j)%p-c (i-m+j))%p=((c (i-m+j)+(p-c i)*low j)-c (i-m+j))%p:=II (Int.emod_emod_of_dvd _ (Int.dvd_refl _)) rfl;rw[this,hc];refine Cw.2 ⟨low j,by grind⟩
 refine(Eu e2 (F4 e3 rfl)).trans ?_
 congr 1
 generalize ap m low i c0 Av t=A at *;generalize Dt m low (i-m) (ap m low j low Av) t=B at *;generalize Dt m low (i-m+j) Av t=C at *
 grind
theorem SX{p:Int}{i:Nat}{c c0 T:Vc}(hm:1<=m)(hi:m<=i)(h0:Ct p (ap m low (i+1) c0 Av) T)
  (h:Ct p (fun t=>ap m low i c Av t) (fun t=>ap m low i c0 Av t-c0 i*Dt m low (i-m) (ap m low m low Av) t)):Ct p (ap m low i c Av) T:=by
 intro t;rw[<-h0 t];have e:=h t;dsimp only at e;rw[e]
 congr 1
 simp only[ap];have e2:Dt m low i Av t=- Dt m low (i-m) (ap m low m low Av) t:=by
  rw[show i=(i-m)+m by omega,Ka,ST hm];have e3:=EZ (m:=m) (low:=low) (i-m) (-1) 0 (ap m low m low Av) (fun _=>0);have e4:=congrFun e3 t;simp only[Int.zero_mul,Int.add_zero,Int.neg_mul,Int.one_mul]at e4;rw[show i-m+m-m=i-m by omega];exact e4
 rw[e2]
 grind
theorem M4(p:Int){i:Nat}(c:Vc):Ct p (fun t=>ap m low i c Av t) (fun t=>ap m low i c Av t-c i*Dt m low (i-m) (ap m low 0 low Av) t):=by
 intro t;have e:Dt m low (i-m) (ap m low 0 low Av) t=0:=by simp only[ap];rw[(EZ (i-m)).zero]
 dsimp only;rw[e];simp
theorem YT{p m:Nat}{low:Vc}(hp:1<=p){x y:Nat}{c:Vc}(hc:∀j,j<m->0<=c j/\c j<p)(h:Ct p (ap m low m c Av) (ap m low m (AK p m x) (AK p m y))):
  Ey p m c=((Ai p m low x y:Nat):Int):=by
 unfold Ai rep;rw[Fw (Bq p m x) (Bq p m y)];unfold Fh;rw[Int.toNat_of_nonneg (Dj (fun j=>⟨Int.emod_nonneg _ ac,Int.emod_lt_of_pos _ ac⟩) m).1];refine DW m fun j hj=>?_;have h1:=h j;rw[L5 m c (Nat.le_refl _)]at h1;dsimp only at h1;rw[if_pos hj]at h1;rw[<-h1];exact(Int.emod_eq_of_lt (hc j hj).1 (hc j hj).2).symm
end
section
variable {m d:Nat} {f low:Vc}
def pj(m d:Nat)(low v:Vc):Vc:=ap d low m v Av
theorem JW{n:Nat}{x:Vc}(a b:Int)(v w:Vc):ap d low n (fun j=>a*v j+b*w j) x=fun t=>a*ap d low n v x t+b*ap d low n w x t:=by
 induction n with
 | zero=>funext t;simp[ap]
 | succ n ih=>funext t;simp only[ap];rw[ih];grind
theorem JX{n:Nat}{x:Vc}(v w:Vc)(b:Int):ap d low n (fun j=>v j+b*w j) x=fun t=>ap d low n v x t+b*ap d low n w x t:=by
 have:=JW (d:=d) (low:=low) (n:=n) (x:=x) 1 b v w;simpa using this
theorem Nu(v x:Vc):∀n,ap d low (n+1) (fun j=>if j=0 then 0 else v (j-1)) x=sX d low (ap d low n v x)
 | 0=>by
  have:sX d low (fun _=>0)=fun _=>0:=Hr.zero;simp only[ap];rw[this];funext t;simp
 | n+1=>by
  rw[ap,Nu v x n];rw[ap,Hr.add_smul];funext t;simp only[Dt];rw[if_neg ac,Nat.add_sub_cancel]
theorem pj_sX{p:Int}(hm:1<=m)(h0:Ct p (fun t=>ap d low m f Av t+Dt d low m Av t) (fun _=>0))(v:Vc):
  Ct p (pj m d low (sX m f v)) (sX d low (pj m d low v)):=by
 obtain⟨n,rfl⟩:∃n,m=n+1:=⟨m-1,ac⟩;intro t;unfold pj;have e1:ap d low (n+1) (sX (n+1) f v) Av=ap d low (n+1) (fun j=>(if j=0 then 0 else v (j-1))+(- v n)*f j) Av:=IP fun j hj=>by
  unfold sX;rw[if_pos hj,Nat.add_sub_cancel]
  grind
 rw[e1,JX,Nu];have e2:sX d low (ap d low (n+1) v Av)=fun t=>sX d low (ap d low n v Av) t+v n*Dt d low (n+1) Av t:=by
  rw[ap,Hr.add_smul];rfl
 rw[e2];have e3:=h0 t;dsimp only at e3 ⊢;generalize sX d low (ap d low n v Av) t=A at *;generalize ap d low (n+1) f Av t=B at *;generalize Dt d low (n+1) Av t=C at *;obtain⟨k,hk⟩:=Cw.1 e3;refine Cw.2 ⟨- v n*k,?_⟩
 grind
theorem V2{p:Int}(hm:1<=m)(h0:Ct p (fun t=>ap d low m f Av t+Dt d low m Av t) (fun _=>0))(v:Vc):∀k,Ct p (pj m d low (Dt m f k v)) (Dt d low k (pj m d low v))
 | 0=>Ct.refl _ _
 | k+1=>(pj_sX hm h0 _).trans (Ct.sX (V2 hm h0 v k))
theorem pj_ap{p:Int}(hm:1<=m)(h0:Ct p (fun t=>ap d low m f Av t+Dt d low m Av t) (fun _=>0))(y x:Vc):∀n,Ct p (pj m d low (ap m f n y x)) (ap d low n y (pj m d low x))
 | 0=>by
  intro t;show ap d low m (fun _=>0) Av t%p=_
  have e:=JW (d:=d) (low:=low) (n:=m) (x:=Av) 0 0 (fun _=>0) (fun _=>0);simp only[Int.zero_mul,Int.add_zero]at e;rw[e];rfl
 | n+1=>by
  intro t;have e:pj m d low (ap m f (n+1) y x)=fun t=>pj m d low (ap m f n y x) t+y n*pj m d low (Dt m f n x) t:=by
   unfold pj;simp only[ap];exact JX _ _ _
  rw[e];simp only[ap];exact Eu (pj_ap hm h0 y x n t) (F4 rfl (V2 hm h0 x n t))
theorem V4{p:Int}{v w:Vc}(h:Ct p v w):Ct p (pj m d low v) (pj m d low w):=Ct.ap (Ct.refl _ _) h m
theorem UA{p:Nat}(hp:2<=p)(hd:1<=d)(hdm:d<m)(hl:∀j,0<=low j/\low j<p)
  (h0:Ct p (fun t=>ap d low m f Av t+Dt d low m Av t) (fun _=>0)):¬Hf p m f:=fun hF=>by
 obtain⟨D,hD⟩:∃D:Vc,(fun j=>if j<d then low j else if j=d then 1 else 0)=D:=⟨_,rfl⟩;have aC:IsD p m D:=by
  rw[<-hD];refine⟨fun j hj=>by dsimp only;rw[if_neg ac,if_neg ac],fun j=>?_⟩;dsimp only;split
  .exact hl j
  .split <;> omega
 have aD:pj m d low D=fun _=>0:=by
  unfold pj;have e1:ap d low m D Av=ap d low (d+1) D Av:=by
   have aB:∀c,ap d low (d+1+c) D Av=ap d low (d+1) D Av:=by
    intro c
    induction c with
    | zero=>rfl
    | succ c ih=>
     rw[<-Nat.add_assoc,ap,ih];have:D (d+1+c)=0:=by rw[<-hD];dsimp only;rw[if_neg ac,if_neg ac]
     rw[this];funext t;simp
   have:=aB (m-(d+1))
   rwa[show d+1+(m-(d+1))=m by omega]at this
  rw[e1,ap,ST hd];have e2:ap d low d D Av=ap d low d low Av:=IP fun j hj=>by rw[<-hD];dsimp only;rw[if_pos hj]
  have e3:D d=1:=by rw[<-hD];dsimp only;rw[if_neg ac,if_pos rfl]
  rw[e2,e3];funext t;simp;omega
 have aA:=LF (show 1<=p by omega) aC;obtain⟨c,hc⟩:=nA ((Ey p m D).toNat);rw[hc]at aA;have hr:=Dj aC.2 m;have aE:c<p^m:=by omega
 have aF:1<=c:=by
  rcases Nat.eq_zero_or_pos c with e|e
  .exfalso;rw[e,IK]at aA;have:=congrFun aA d;rw[<-hD]at this;dsimp only at this;rw[if_neg ac,if_pos rfl]at this;omega
  .exact e
 obtain⟨z,_,_,hz⟩:=hF.inv hp ac aF aE;unfold Ai at hz;rw[aA]at hz;have h1:Ct p (Fh m f D (AK p m z)) Av:=by
  have:=Cg (p:=p) (m:=m) ac (Fv (low:=f) (y:=AK p m z) aC.1);rw[hz,OP hp ac]at this;exact this.symm
 have h2:=V4 (m:=m) (d:=d) (low:=low) h1;have h3:=pj_ap (m:=m) ac h0 (AK p m z) D m;rw[aD,(L6 m (AK p m z)).zero]at h3;have h4:=(h3.symm.trans h2) 0;have h5:pj m d low Av 0=1:=by
  unfold pj;obtain⟨n,rfl⟩:∃n,m=n+1:=⟨m-1,ac⟩;have aB:∀k,ap d low (k+1) Av Av=Av:=by
   intro k
   induction k with
   | zero=>funext t;simp[ap,Dt,Av]
   | succ k ih=>rw[ap,ih];funext t;simp[Av]
  rw[aB];rfl
 rw[h5]at h4;have:(1:Int)%(p:Int)=1:=Int.emod_eq_of_lt ac ac;simp at h4;omega
end
noncomputable section
def hdC(l:List Nat):Nat:=@List.rec Nat (fun _=>Nat) 0 (fun x _ _=>x) l
def tlC(l:List Nat):List Nat:=@List.rec Nat (fun _=>List Nat) [] (fun _ t _=>t) l
def Vj(p c b:Nat)(aA:List Nat):List Nat->List Nat->Nat->List Nat:=
 @List.rec Nat (fun _=>List Nat->List Nat->Nat->List Nat) (fun _ _ _=> [])
  (fun a _ ih os ls s=>Nat.mod (Nat.add (Nat.add s (Nat.mul c (hdC ls))) (Nat.mul b a)) p :: ih (tlC os) (tlC ls) (hdC os)) aA
def Wz(l:List Nat):Nat->Nat:=@List.rec Nat (fun _=>Nat->Nat) (fun d=>d) (fun x _ ih _=>ih x) l
def Po(p:Nat)(low a:List Nat)(b:Nat)(aA:List Nat):List Nat:=Vj p (Nat.sub p (Wz aA 0)) b a aA low 0
def PY(p:Nat)(low z a:List Nat)(bs:List Nat):List Nat:=@List.rec Nat (fun _=>List Nat) z (fun b _ ih=>Po p low a b ih) bs
def Hz(p:Nat)(n:Nat):Nat->List Nat:=@Nat.rec (fun _=>Nat->List Nat) (fun _=> []) (fun _ ih x=>Nat.mod x p :: ih (Nat.div x p)) n
def QI(p:Nat)(l:List Nat):Nat:=@List.rec Nat (fun _=>Nat) 0 (fun x _ ih=>Nat.add x (Nat.mul p ih)) l
def Yc(p m:Nat)(low z:List Nat)(x y:Nat):Nat:=QI p (PY p low z (Hz p m x) (Hz p m y))
def lf(l:List Nat):Vc:=fun j=>((l.getD j 0:Nat):Int)
theorem WX(l:List Nat):hdC l=l.getD 0 0:=by cases l <;> rfl
theorem SG(l:List Nat)(j:Nat):(tlC l).getD j 0=l.getD (j+1) 0:=by cases l <;> simp[tlC]
theorem I0(p c b a:Nat)(aA os ls:List Nat)(s:Nat):Vj p c b (a :: aA) os ls s=(s+c*hdC ls+b*a)%p :: Vj p c b aA (tlC os) (tlC ls) (hdC os):=rfl
theorem Pb(p c b:Nat):∀(aA os ls:List Nat) (s:Nat),(Vj p c b aA os ls s).length=aA.length
 | [],_,_,_=>rfl
 | a :: aA,os,ls,s=>by rw[I0,List.length_cons,Pb p c b aA,List.length_cons]
theorem ay{P:Prop}(h:P:=by simpa using h):P:=h
theorem Pc(p c b:Nat):∀(aA os ls:List Nat) (s j:Nat),j<aA.length->
  (Vj p c b aA os ls s).getD j 0=((if j=0 then s else os.getD (j-1) 0)+c*ls.getD j 0+b*aA.getD j 0)%p
 | [],_,_,_,j,h=>by simp at h
 | a :: aA,os,ls,s,0,_=>by rw[I0,WX];simp
 | a :: aA,os,ls,s,j+1,h=>by
  rw[I0];simp only[List.getD_cons_succ];have e:(if j=0 then hdC os else(tlC os).getD (j-1) 0)=os.getD j 0:=by
   by_cases hj:j=0
   .rw[if_pos hj,WX,hj]
   .rw[if_neg hj,SG,show j-1+1=j by omega]
  rw[Pc p c b aA _ _ _ j ay,e,SG,if_neg (show ¬j+1=0 by omega),Nat.add_sub_cancel]
theorem P7:∀(l:List Nat) (d:Nat),Wz l d=if l= [] then d else l.getD (l.length-1) 0
 | [],d=>rfl
 | x :: l,d=>by
  show Wz l x=_
  rw[P7 l x]
  cases l with
  | nil=>simp
  | cons y l=>simp
theorem K9{p m:Nat}{low z a:List Nat}(hp:1<=p)(hm:1<=m)(hl:low.length=m)(ha:a.length=m)(hz:z=List.replicate m 0):
  ∀bs:List Nat,(PY p low z a bs).length=m/\∀j,j<m->(((PY p low z a bs).getD j 0:Nat):Int)=DV m (lf low) (lf a) bs.length (lf bs) j%(p:Int)
 | []=>by
  subst hz;refine⟨List.length_replicate ..,fun j hj=>?_⟩;show(((List.replicate m 0).getD j 0:Nat):Int)=0%(p:Int)
  rw[List.getD_eq_getElem?_getD,List.getElem?_replicate,if_pos hj];simp
 | b :: bs=>by
  obtain⟨h1,h2⟩:=K9 hp hm hl ha hz bs;show(Po p low a b (PY p low z a bs)).length=m/\_
  refine⟨by unfold Po;rw[Pb,ha],fun j hj=>?_⟩;show(((Po p low a b (PY p low z a bs)).getD j 0:Nat):Int)=_
  generalize PY p low z a bs=o at *;unfold Po;rw[Pc _ _ _ _ _ _ _ _ ac,P7,if_neg (show ¬o= [] by intro e;rw[e]at h1;simp at h1;omega),h1];have aA:=h2 (m-1) ac;have hlp:o.getD (m-1) 0<=p:=by
   have:=Int.emod_lt_of_pos (DV m (lf low) (lf a) bs.length (lf bs) (m-1)) (show 0<(p:Int) by omega);omega
  rw[List.length_cons,DV];have e1:(fun t=>lf (b :: bs) (t+1))=lf bs:=by funext t;simp[lf]
  have e2:lf (b :: bs) 0=(b:Int):=by simp[lf]
  rw[e1,e2];unfold sX;dsimp only;rw[if_pos hj];have e3:((Nat.sub p (o.getD (m-1) 0):Nat):Int)=(p:Int)-((o.getD (m-1) 0:Nat):Int):=by
   show((p-o.getD (m-1) 0:Nat):Int)=_
   omega
  rw[Int.natCast_emod,Int.natCast_add,Int.natCast_add,Int.natCast_mul,Int.natCast_mul,e3,aA];have e4:(((if j=0 then 0 else o.getD (j-1) 0:Nat)):Int)%(p:Int)=(if j=0 then 0 else DV m (lf low) (lf a) bs.length (lf bs) (j-1))%(p:Int):=by
   by_cases h0:j=0
   .rw[if_pos h0,if_pos h0];rfl
   .rw[if_neg h0,if_neg h0,h2 (j-1) ac];exact Int.emod_emod_of_dvd _ (Int.dvd_refl _)
  generalize DV m (lf low) (lf a) bs.length (lf bs)=H at *;refine Eu ?_ rfl;have e5:((if j=0 then 0 else H (j-1))-H (m-1)*lf low j)%(p:Int)=((if j=0 then 0 else H (j-1))+((p:Int)-H (m-1))*lf low j)%(p:Int):=by
   refine Cw.2 ⟨- lf low j,?_⟩;generalize (if j=0 then 0 else H (j-1))=zz
   grind
  rw[e5];exact Eu e4 (F4 (II rfl (Int.emod_emod_of_dvd _ (Int.dvd_refl _))) rfl)
theorem TJ(p:Nat):∀(n x j:Nat),j<n->(Hz p n x).getD j 0=x/p^j%p
 | 0,x,j,h=>by omega
 | n+1,x,0,h=>by show x%p=_;simp
 | n+1,x,j+1,h=>by
  show(Hz p n (x/p)).getD j 0=_
  rw[TJ p n (x/p) j (by omega),Nat.div_div_eq_div_mul,Nat.pow_succ,Nat.mul_comm p]
theorem Di(p:Nat):∀(n x:Nat),(Hz p n x).length=n
 | 0,x=>rfl
 | n+1,x=>by show(Hz p n (x/p)).length+1=_;rw[Di p n]
theorem Jk(p m x:Nat):lf (Hz p m x)=AK p m x:=by
 funext j;unfold lf AK;by_cases h:j<m
 .rw[if_pos h,TJ p m x j h]
 .rw[if_neg h,List.getD_eq_getElem?_getD,List.getElem?_eq_none (by rw[Di];omega)];rfl
theorem Nn(p:Nat)(v:Vc):∀n,Ey p (n+1) v=v 0+(p:Int)*Ey p n (fun j=>v (j+1))
 | 0=>by simp[Ey]
 | n+1=>by
  rw[Ey,Nn p v n];simp only[Ey];rw[Nat.pow_succ,Int.natCast_mul]
  grind
theorem TL(p:Nat):∀l:List Nat,((QI p l:Nat):Int)=Ey p l.length (lf l)
 | []=>rfl
 | x :: l=>by
  show((x+p*QI p l:Nat):Int)=_
  rw[List.length_cons,Nn,Int.natCast_add,Int.natCast_mul,TL p l];have:(fun j=>lf (x :: l) (j+1))=lf l:=by funext j;simp[lf]
  rw[this];simp[lf]
theorem WF{p m:Nat}{low:List Nat}(hp:1<=p)(hm:1<=m)(hl:low.length=m)(x y:Nat):Yc p m low (List.replicate m 0) x y=Ai p m (lf low) x y:=by
 have h:=K9 (z:=List.replicate m 0) hp hm hl (Di p m x) rfl (Hz p m y);have h1:((Yc p m low (List.replicate m 0) x y:Nat):Int)=((Ai p m (lf low) x y:Nat):Int):=by
  unfold Yc;rw[TL,h.1];unfold Ai rep Fh;rw[Int.toNat_of_nonneg (Dj (fun j=>⟨Int.emod_nonneg _ ac,Int.emod_lt_of_pos _ ac⟩) m).1];refine DW m fun j hj=>?_;show(((PY p low (List.replicate m 0) (Hz p m x) (Hz p m y)).getD j 0:Nat):Int)=_
  rw[h.2 j hj,Di,Jk,Jk,Ov]
 omega
section
variable {p m:Nat} {low:Vc}
theorem GD(hp:2<=p)(hm:1<=m){x i:Nat}(h:BK p m low x i=1):∀k,BK p m low x (i*k)=1
 | 0=>rfl
 | k+1=>by rw[Nat.mul_succ,CO hp hm,GD hp hm h k,h,BA hp hm (Bz hp hm)]
theorem Qa(hp:2<=p)(hm:1<=m){x i j:Nat}(hi:BK p m low x i=1)(hj:BK p m low x j=1):BK p m low x (j%i)=1:=by
 have h:BK p m low x (i*(j/i)+j%i)=1:=by rw[Nat.div_add_mod];exact hj
 rw[CO hp hm,GD hp hm hi,Cp hp hm (Dm hp hm x _)]at h;exact h
theorem Qb(hp:2<=p)(hm:1<=m){x:Nat}:∀(i j:Nat),BK p m low x i=1->BK p m low x j=1->BK p m low x (Nat.gcd i j)=1:=by
 intro i
 induction i using Nat.strongRecOn with
 | _ i ih=>
  intro j hi hj;rcases Nat.eq_zero_or_pos i with e|e
  .subst e;rwa[Nat.gcd_zero_left]
  .rw[Nat.gcd_rec];exact ih (j%i) (Nat.mod_lt _ e) i (Qa hp hm hi hj) hi
theorem W6(hp:2<=p)(hm:1<=m){x:Nat}{D:List Nat}(h1:BK p m low x (p^m-1)=1)(hD:∀y∈D,BK p m low x y≠1)
  (hC:∀e,e<p^m-1->e ∣ p^m-1->∃y∈D,e ∣ y):De p m low x:=by
 refine⟨h1,fun k k1 k2 hk=>?_⟩;have hg:=Qb hp hm _ _ hk h1;have aA:Nat.gcd k (p^m-1)<p^m-1:=Nat.lt_of_le_of_lt (Nat.le_of_dvd ac (Nat.gcd_dvd_left _ _)) k2;obtain⟨y,hy,c,rfl⟩:=hC _ aA (Nat.gcd_dvd_right _ _);exact hD _ hy (GD hp hm hg c)
end
noncomputable section
def pwC(p m:Nat)(low z:List Nat)(x:Nat)(bs:List Bool):Nat->Nat:=@List.rec Bool (fun _=>Nat->Nat) (fun y=>y)
 (fun b _ ih y=>ih (match b with|true=>Yc p m low z (Yc p m low z y y) x|false=>Yc p m low z y y)) bs
end
def DR:Nat->List Bool->Nat
 | n, []=>n
 | n,b :: bs=>DR (2*n+if b then 1 else 0) bs
theorem RD{p m:Nat}{low:List Nat}(hp:2<=p)(hm:1<=m)(hl:low.length=m)(x:Nat)(hx:x<p^m):∀(bs:List Bool) (n:Nat),pwC p m low (List.replicate m 0) x bs (BK p m (lf low) x n)=BK p m (lf low) x (DR n bs)
 | [],n=>rfl
 | b :: bs,n=>by
  have e:Yc p m low (List.replicate m 0) (BK p m (lf low) x n) (BK p m (lf low) x n)=BK p m (lf low) x (2*n):=by
   rw[WF ac hm hl,<-CO hp hm,Nat.two_mul]
  cases b with
  | true=>
   show pwC p m low (List.replicate m 0) x bs (Yc p m low (List.replicate m 0) (Yc p m low (List.replicate m 0) (BK p m (lf low) x n) (BK p m (lf low) x n)) x)=_
   rw[e,WF ac hm hl];exact RD hp hm hl x hx bs (2*n+1)
  | false=>
   show pwC p m low (List.replicate m 0) x bs (Yc p m low (List.replicate m 0) (BK p m (lf low) x n) (BK p m (lf low) x n))=_
   rw[e];exact RD hp hm hl x hx bs (2*n)
end
noncomputable section
def allB(f:List Bool->Bool)(l:List (List Bool)):Bool:=@List.rec (List Bool) (fun _=>Bool) true (fun x _ ih=>match f x with|true=>ih|false=>false) l
def dvC(p d u:Nat)(low:List Nat):Bool:=Nat.beq (QI p (PY p (Hz p d u) (Hz p d 0) (Hz p d 1) (low ++ [1]))) 0
def gnC(p m g:Nat)(b1:List Bool)(D:List (List Bool))(low:List Nat):Bool:=
 match Nat.beq (pwC p m low (Hz p m 0) g b1 1) 1 with
 | true=>allB (fun b=>match Nat.beq (pwC p m low (Hz p m 0) g b 1) 1 with|true=>false|false=>true) D
 | false=>false
def Xk(p m:Nat)(b1:List Bool)(D:List (List Bool))(t:Nat)(low:List Nat):Bool:=
 match Nat.beq (Nat.mod t 2) 0 with
 | true=>dvC p (Nat.mod (Nat.div t 2) 8) (Nat.div t 16) low
 | false=>gnC p m (Nat.div t 2) b1 D low
def Fm(p m:Nat)(b1:List Bool)(D:List (List Bool))(T:List Nat):Nat->Bool:=
 @List.rec Nat (fun _=>Nat->Bool) (fun _=>true) (fun t _ ih v=>match Xk p m b1 D t (Hz p m v) with|true=>ih (Nat.succ v)|false=>false) T
theorem ak{P:Prop}(h:P:=by decide +kernel):P:=h
theorem Yy:Fm 2 2 [true,true] [[true]] [2,18,2,5] 0=true:=ak
theorem Yx:Fm 2 3 [true,true,true] [[true]] [2,18,2,5,2,5,2,18] 0=true:=ak
theorem Yw:Fm 2 4 [true,true,true,true] [[true,false,true], [true,true]] [2,18,2,5,2,52,2,18,2,5,2,18,2,18,2,7] 0=true:=ak
theorem Yv:Fm 2 5 [true,true,true,true,true] [[true]] [2,18,2,52,2,5,2,18,2,5,2,18,2,18,2,5,2,52,2,18,2,18,2,5,2,18,2,5,2,5,2,18] 0=true:=ak
theorem Yu:Fm 2 6 [true,true,true,true,true,true] [[true,false,true,false,true], [true,false,false,true]] [2,18,2,5,2,54,2,18,2,7,2,18,2,18,2,52,2,86,2,18,2,18,2,7,2,18,2,5,2,52,2,18,2,5,2,18,2,18,2,5,2,18,2,52,2,5,2,18,2,18,2,5,2,7,2,18,2,52,2,18,2,18,2,54] 0=true:=ak
theorem Yt:Fm 2 7 [true,true,true,true,true,true,true] [[true]] [2,18,2,5,2,52,2,18,2,5,2,18,2,18,2,5,2,5,2,18,2,18,2,52,2,18,2,86,2,5,2,18,2,52,2,18,2,18,2,5,2,18,2,5,2,54,2,18,2,18,2,52,2,86,2,18,2,5,2,18,2,18,2,5,2,5,2,18,2,18,2,86,2,18,2,5,2,52,2,18,2,18,2,5,2,5,2,18,2,54,2,18,2,18,2,52,2,18,2,54,2,5,2,18,2,52,2,18,2,18,2,5,2,5,2,18,2,18,2,5,2,18,2,52,2,5,2,18] 0=true:=ak
theorem Ys:Fm 2 8 [true,true,true,true,true,true,true,true] [[true,false,true,false,true,false,true], [true,true,false,false,true,true], [true,true,true,true]] [2,18,2,52,2,56,2,18,2,54,2,18,2,18,2,86,2,52,2,18,2,18,2,152,2,18,2,7,2,5,2,18,2,86,2,18,2,18,2,52,2,18,2,5,2,5,2,18,2,18,2,54,2,52,2,18,2,7,2,18,2,18,2,7,2,152,2,18,2,18,2,54,2,18,2,52,2,5,2,18,2,18,2,86,2,248,2,18,2,52,2,18,2,18,2,5,2,18,2,5,2,5,2,18,2,5,2,18,2,18,2,52,2,5,2,18,2,18,2,7,2,18,2,19,2,52,2,18,2,52,2,18,2,18,2,5,2,18,2,13,2,5,2,18,2,18,2,52,2,54,2,18,2,86,2,18,2,18,2,7,2,18,2,7,2,52,2,18,2,5,2,18,2,18,2,54,2,13,2,18,2,18,2,52,2,18,2,56,2,15,2,18,2,18,2,5,2,86,2,18,2,52,2,18,2,18,2,5,2,56,2,18,2,18,2,15,2,18,2,52,2,13,2,18,2,54,2,18,2,18,2,5,2,18,2,86,2,52,2,18,2,18,2,13,2,5,2,18,2,7,2,18,2,18,2,52] 0=true:=ak
theorem Yr:Fm 3 2 [true,false,false,false] [[true,false,false]] [2,9,18,2,34,7,2,18,7] 0=true:=ak
theorem Yq:Fm 3 3 [true,true,false,true,false] [[true,true,false,true], [true,false]] [2,18,34,2,34,18,2,7,13,2,34,11,2,18,9,2,7,18,2,7,18,2,7,34,2,18,9] 0=true:=ak
theorem Yp:Fm 3 4 [true,false,true,false,false,false,false] [[true,false,true,false,false,false], [true,false,false,false,false]] [2,84,18,2,34,7,2,18,7,2,18,25,2,9,18,2,11,34,2,20,9,2,18,34,2,34,18,2,34,7,2,18,20,2,9,18,2,21,18,2,11,34,2,18,7,2,18,34,2,34,18,2,132,7,2,18,7,2,9,18,2,34,20,2,21,34,2,18,7,2,9,18,2,34,18,2,84,7,2,18,34] 0=true:=ak
theorem Yo:Fm 3 5 [true,true,true,true,false,false,true,false] [[true,true,true,true,false,false,true], [true,false,true,true,false]] [2,18,34,2,34,18,2,7,13,2,34,132,2,18,9,2,20,18,2,84,18,2,7,34,2,18,20,2,34,18,2,7,13,2,18,34,2,18,9,2,132,18,2,34,13,2,7,34,2,18,84,2,7,18,2,132,84,2,18,34,2,34,18,2,7,18,2,34,11,2,18,9,2,18,9,2,7,18,2,9,34,2,34,11,2,18,9,2,7,18,2,7,18,2,7,34,2,18,9,2,18,34,2,34,18,2,20,132,2,18,20,2,7,18,2,34,84,2,84,34,2,18,132,2,7,18,2,34,18,2,7,13,2,18,34,2,7,18,2,34,20,2,18,13,2,18,9,2,7,18,2,132,34,2,7,13,2,18,34,2,34,18,2,7,18,2,7,34,2,18,11,2,18,34,2,34,18,2,84,20,2,34,11,2,18,9,2,7,18,2,20,34,2,18,9,2,132,18,2,34,18,2,7,13,2,18,34,2,18,132,2,84,18,2,34,11,2,18,9,2,20,18,2,7,34,2,7,13,2,18,34,2,34,18,2,15,18,2,34,11,2,18,84] 0=true:=ak
theorem Yn:Fm 5 2 [true,true,false,false,false] [[true,true,false,false], [true,false,false,false]] [2,34,13,15,18,2,15,11,34,50,2,18,50,11,17,2,66,18,11,13,2,13,11,18,34] 0=true:=ak
theorem Ym:Fm 5 3 [true,true,true,true,true,false,false] [[true,true,true,true,true,false], [true,false,false]] [2,18,50,34,66,2,19,18,66,13,2,13,34,18,15,2,50,11,11,18,2,34,11,11,50,2,15,11,50,34,2,18,66,11,13,2,66,18,34,50,2,13,50,18,17,2,13,34,11,18,2,13,66,11,18,2,66,34,11,15,2,18,11,11,34,2,34,18,50,66,2,50,11,18,17,2,34,11,18,15,2,13,11,34,18,2,50,11,11,66,2,18,34,66,50,2,15,18,11,34,2,50,18,11,13,2,13,11,18,34,2,34,50,66,18,2,15,66,34,19,2,18,11,50,13] 0=true:=ak
theorem Yl:Fm 7 2 [true,true,false,false,false,false] [[true,true,false,false,false], [true,false,false,false,false]] [2,19,17,34,17,50,18,2,50,66,15,21,34,21,2,18,21,15,50,15,66,2,23,18,66,82,15,23,2,17,82,18,34,15,17,2,98,17,15,18,15,34,2,34,50,15,19,18,19] 0=true:=ak
theorem Vq:Fm 11 2 [true,true,true,true,false,false,false] [[true,true,true,true,false,false], [true,false,true,false,false,false], [true,true,false,false,false]] [2,31,50,27,29,25,66,34,82,27,18,2,31,82,98,27,50,27,23,23,34,66,2,18,33,66,29,31,23,82,50,98,29,2,82,18,33,98,114,23,66,23,25,25,2,114,23,18,34,35,82,23,33,25,98,2,25,23,27,18,98,34,35,114,130,25,2,25,23,27,114,18,130,25,34,50,37,2,50,23,130,146,27,18,23,25,29,34,2,34,146,27,50,66,23,18,23,25,29,2,162,29,34,25,27,23,50,18,66,25,2,29,66,82,25,34,25,23,23,18,50] 0=true:=ak
theorem Vp:Fm 13 2 [true,false,true,false,true,false,false,false] [[true,false,true,false,true,false,false], [true,true,true,false,false,false], [true,true,false,false,false]] [2,82,31,98,50,29,29,31,35,34,66,31,18,2,66,27,35,31,31,82,50,35,98,114,34,35,2,18,98,33,114,66,27,27,33,37,50,82,33,2,37,18,82,29,37,27,27,98,66,37,114,130,2,98,27,18,34,114,27,130,82,29,29,27,39,2,39,130,146,18,39,34,98,31,39,29,27,114,2,31,27,29,41,18,114,27,34,50,130,27,146,2,33,27,31,29,130,18,27,146,162,34,27,50,2,29,50,66,146,29,162,18,33,29,31,27,34,2,34,27,162,178,50,27,66,18,35,29,27,31,2,31,178,34,35,31,27,27,50,18,31,66,82,2,194,66,29,82,34,27,27,29,33,18,50,29,2,50,27,33,29,29,66,34,33,82,98,18,33] 0=true:=ak
end
theorem ah{P:Prop}(h:P:=by kernel_rfl):P:=h
theorem AC:(Tryz.prog.info? 3).map (fun i=>(i.zero,i.size,i.bytes))=some (some (.int .i64 0),1,8):=ah
theorem Ll:(Tryz.prog.info? 4).map (fun i=>(i.zero,i.size,i.bytes))=some (some (.bool false),1,1):=ah
def CG(p m:Int):Int:=if 2<=p/\1<=m/\m<=8/\p^m.toNat<=256 then p^m.toNat else 0
theorem Jf{p:Int}(h:2<=p){i j:Nat}(hij:i<=j):p^i<=p^j:=by
 obtain⟨k,rfl⟩:∃k,j=i+k:=⟨j-i,ac⟩;rw[Int.pow_add];have h1:1<=p^k:=Int.pow_pos ac;have h2:1<=p^i:=Int.pow_pos ac;have:=Int.mul_le_mul_of_nonneg_left h1 (show 0<=p^i by omega);omega
theorem Zp{p:Int}(h:2<=p){i:Nat}(hi:1<=i):p<=p^i:=by
 have:=Jf h hi;have e:p^1=p:=Int.pow_one p;omega
theorem zby{P:Prop}(h:P:=by
 generalize p^i=y at *
 go_wp2
 go_round
 case rel=>exact⟨i+1,by omega,by go_num,by rw[HE.o],by rw[HE.o];omega,by rw[HE.o];omega⟩
 case measure=>simp[intOf];omega):P:=h
theorem zcY{P:Prop}(h:P:=by
 have:=Int.mul_pos (show 0<p^i by omega) (show 0<p by omega);omega):P:=h
theorem Jg(p m:Int)(w:World):
  Calls Tryz.prog 112 #[p,m] w fun r w'=>r= .returned (.int .i64 (CG p m))/\w=w':=by
 by_cases h:2<=p/\p<=256/\1<=m/\m<=8
 .obtain⟨h1,h2,h3,h4⟩:=h;have HO:=Aa (show CG p m=if p^m.toNat<=256 then p^m.toNat else 0 by unfold CG;by_cases h:p^m.toNat<=256 <;> simp[h,h1,h3,h4]);go_enter Tryz.func112,Tryz.ntmps112
  go_wp2
  go_loop [5,21] (fun q' i'=>∃i:Nat,i<=m.toNat/\i'= .int .i64 i/\q'= .int .i64 (p^i)/\1<=p^i/\p^i<=256) (fun _ i'=>m.toNat-(intOf i').toNat)
  case atStart=>exact⟨0,ac,rfl,ag,ag,ag⟩
  case round=>
   obtain⟨i,hi,rfl,rfl,q1,q2⟩:=hrel;have HS:=Aa (Int.pow_succ p i);have HM:=Aa (show i<m.toNat->p^(i+1)<=p^m.toNat from fun h=>Jf h1 h);have q3:p^i*p<=65536:=by
    have:=Int.mul_le_mul q2 h2 ac ac;omega
   have q4:1<=p^i*p:=by
    exact zcY
   by_cases hlt:(i:Int)<m
   .by_cases hq:256<p^i*p
    .have HB:=HM.o ac;rw[HS.o]at HB;have HN:=Aa (show ¬p^m.toNat<=256 by omega);clear HB HM;generalize p^i=y at *
     go_wp2
     go_ret;exact⟨Af (by rw[HO.o,if_neg (by have:=HN.o;omega)]),rfl⟩
    .have HE:=Aa (show p^(i+1)=p^i*p from HS.o);clear HM HS;exact zby
   .have aA:i=m.toNat:=by omega
    have HN:=Aa (show p^m.toNat=p^i by rw[aA]);clear HM HS;generalize p^i=y at *
    go_wp2
    go_ret;exact⟨Af (by rw[HO.o,HN.o,if_pos q2]),rfl⟩
 .have HO:=Aa (show CG p m=0 by
   unfold CG;rw[if_neg];rintro⟨h1,h2,h3,h4⟩;have:=Zp h1 (show 1<=m.toNat by omega);exact h ⟨h1,ac,h2,h3⟩)
  have c:p<2∨(2<=p/\256<p)∨(2<=p/\p<=256/\m<1)∨(2<=p/\p<=256/\1<=m/\8<m):=ac;clear h;rcases c with c|⟨c1,c2⟩|⟨c1,c2,c3⟩|⟨c1,c2,c3,c4⟩
  all_goals
   go_enter Tryz.func112,Tryz.ntmps112
   go_wp2
   go_ret;exact⟨Af HO.o.symm,rfl⟩
def Je(n:Nat):Bool:=decide (2<=n/\∀d,d<n->2<=d->n%d≠0)
theorem prB_no{n d:Nat}(h2:2<=d)(h:d*d<=n)(hd:n%d=0):Je n=false:=by
 unfold Je;rw[decide_eq_false_iff_not];rintro⟨h1,h3⟩;have h4:d<n:=by
  have:=Nat.mul_le_mul_right d h2;omega
 exact h3 d h4 h2 hd
theorem Y4{n k:Nat}(hn:2<=n)(hk:n<k*k)(h:∀d,2<=d->d<k->n%d≠0):Je n=true:=by
 unfold Je;rw[decide_eq_true_iff];refine⟨hn,fun d h1 h2 h3=>?_⟩;rcases Nat.lt_or_ge d k with h4|h4
 .exact h d h2 h4 h3
 .have h5:=Nat.div_mul_cancel (Nat.dvd_of_mod_eq_zero h3);have h6:n/d<k:=by
   rcases Nat.lt_or_ge (n/d) k with h7|h7
   .exact h7
   .have:=Nat.mul_le_mul h7 h4;omega
  have h7:2<=n/d:=by
   generalize n/d=q at *;rcases Nat.lt_or_ge q 2 with h8|h8
   .have h9:q=0∨q=1:=by omega
    rcases h9 with e|e <;> rw[e]at h5 <;> omega
   .exact h8
  exact h (n/d) h7 h6 (Nat.mod_eq_zero_of_dvd ⟨d,h5.symm⟩)
theorem zbZ{P:Prop}(h:P:=by
 go_wp2
 go_round
 case rel=>exact⟨d+1,by omega,by omega,by go_num,HA⟩
 case measure=>simp[intOf];omega):P:=h
theorem zdl{P:Prop}(h:P:=by
 go_wp2
 go_ret;exact⟨Ap HR.o.symm,rfl⟩):P:=h
theorem Qf(n:Nat)(w:World)(h1:2<=n)(h2:n<=256):
  Calls Tryz.prog 164 #[n] w fun r w'=>r= .returned (.bool (Je n))/\w=w':=by
 go_enter Tryz.func164,Tryz.ntmps164
 go_wp2
 go_loop [3] (fun d'=>∃d:Nat,2<=d/\d<=17/\d'= .int .i64 d/\Hia (∀c,2<=c->c<d->n%c≠0)) (fun d'=>17-(intOf d').toNat)
 case atStart=>exact⟨2,ac,ac,rfl,Aa (fun c a b=>ac)⟩
 case round=>
  obtain⟨d,d1,d2,rfl,aA⟩:=hrel;have aB:(d:Int)*d=((d*d:Nat):Int):=ag;have q1:d*d<=289:=Nat.mul_le_mul d2 d2;have q2:17*17<=d*d∨d<17:=by
   rcases Nat.lt_or_ge d 17 with h|h
   .exact .inr h
   .exact .inl (Nat.mul_le_mul h h)
  by_cases hlt:d*d<=n
  .have aD:=Aa (fun h=>prB_no d1 hlt h);have q3:0<=(d:Int)*d:=by omega
   have q4:(d:Int)*d<=289:=ac;have q5:(d:Int)*d<=n:=ac;by_cases hd:n%d=0
   .have aC:((n:Int)%(d:Int)==0)=true:=by simp;omega
    have HR:=Aa (aD.o hd);clear hd aB;exact zdl
   .have aC:((n:Int)%(d:Int)==0)=false:=by simp;omega
    have HA:=Aa (show ∀c,2<=c->c<d+1->n%c≠0 from fun c a b=>by
     by_cases e:c=d
     .subst e;exact hd
     .exact aA.o c a ac)
    clear hd aB;exact zbZ
  .have HR:=Aa (Y4 h1 ac aA.o);have q3:0<=(d:Int)*d:=by omega
   have q4:(d:Int)*d<=289:=ac;have q5:(n:Int)<(d:Int)*d:=ac;clear aB
   go_wp2
   go_ret;exact⟨Ap (by rw[HR.o];simp;omega),rfl⟩
theorem zag{P:Prop}(h:P:=by
 have hf:=aA.frz k;have hc:=aA.cell hlt;have HO:=Aa (aA.set k (.int .i64 ((y:Int)%(p:Int))));have HE:=Aa (aA.exSet (by rw[HG.o];exact Nat.le_refl _) aD k (.int .i64 ((y:Int)%(p:Int))));clear aA aD;go_wp2_with fail
 go_roundw
 case rel=>
  refine⟨k+1,by omega,by go_num,by rw[HS.o,Ic _ _ (by omega)],?_,HE.o⟩;have:=HO.o;rw[CC]at this;refine this.icongr fun j hj=>?_;unfold Az;dsimp only;by_cases h:j=k
  .subst h;rw[if_pos rfl,if_pos (by omega),HD.o hlt];simp
  .rw[if_neg h];by_cases h2:j<k
   .rw[if_pos h2,if_pos (by omega)]
   .rw[if_neg h2,if_neg (by omega)]
 case measure=>simp[intOf];omega):P:=h
theorem ON(x p m:Nat)(w:World)(hx:x<=65536)(hp:1<=p)(hp':p<=256)(hm:m<=256):
  Calls Tryz.prog 205 #[x,p,m] w fun r w'=>∃v,r= .returned v/\Al w' v (il m (AK p m x))/\Ex w w':=by
 go_enter Tryz.func205,Tryz.ntmps205
 go_wp2_with (at_make;refine Au _ rfl _ _ 22 rfl 3 (.int .i64 0) 8 Tryz.underlying22 AC rfl _ m rfl rfl rfl ac ai ?_)
 intro w1 aA aD;have aE:w.heap.size<=w.heap.size:=Nat.le_refl _;have HB:=Aa aE;clear aE;obtain⟨g,hg⟩:=nA w.heap.size;have aB:AH w1 g 3 g m (iv fun j=>if j<0 then AK p m x j else 0):=by
  rw[hg]at aA;exact aA.congr fun j _=>by simp[iv]
 have HG:=Aa hg;simp only[hg];clear aA hg;go_wp2_with fail
 go_loopw [0,8,13] (fun x' _ k' wr=>∃k:Nat,k<=m/\k'= .int .i64 k/\x'= .int .i64 ((x/p^k:Nat):Int)/\AH wr g 3 g m (iv fun j=>if j<k then AK p m x j else 0)/\Ex w wr) (fun _ _ k' _=>m-(intOf k').toNat)
 case atStart=>exact⟨0,ac,rfl,ag,aB,aD⟩
 case round=>
  clear aB aD;obtain⟨k,hk,rfl,rfl,aA,aD⟩:=hrel;have hxk:x/p^k<=65536:=Nat.le_trans (Nat.div_le_self _ _) hx;have HS:=Aa (show x/p^(k+1)=x/p^k/p by rw[Nat.pow_succ,Nat.div_div_eq_div_mul]);have HD:=Aa (show k<m->AK p m x k=((x/p^k%p:Nat):Int) from fun h=>by unfold AK;rw[if_pos h]);generalize x/p^k=y at *;by_cases hlt:k<m
  .exact zag
  .obtain rfl:k=m:=by omega
   have aC:AH wr g 3 g k (iv (AK p k x)):=aA.icongr fun j hj=>by rw[if_pos hj]
   have HO:=Aa aC.isl;clear aA aC HD HS;go_wp2_with fail
   go_ret;exact⟨_,rfl,HO.o,aD⟩
def vl(p:Nat):List Int->Int
 | []=>0
 | a :: l=>vl p l*p+a
theorem codGo(p:Nat)(l:List Int)(k:Nat)(x:Int)(h:l[k]?=some x):vl p (l.drop k)=vl p (l.drop (k+1))*(p:Int)+x:=by
 obtain⟨hk,rfl⟩:=List.getElem?_eq_some_iff.1 h;rw[List.drop_eq_getElem_cons hk];rfl
theorem Ra{p:Nat}(hp:1<=p):∀(l:List Int),(∀x∈l,0<=x/\x<p)->0<=vl p l/\vl p l<((p^l.length:Nat):Int)
 | [],_=>by simp[vl]
 | x :: l,h=>by
  obtain⟨h1,h2⟩:=Ra hp l fun y hy=>h y (List.mem_cons_of_mem _ hy);obtain⟨h3,h4⟩:=h x (List.mem_cons_self ..);show 0<=vl p l*p+x/\vl p l*p+x<_
  have h5:0<=vl p l*p:=Int.mul_nonneg h1 ac;have h6:(vl p l+1)*(p:Int)<=((p^l.length:Nat):Int)*p:=Int.mul_le_mul_of_nonneg_right ac ac;rw[List.length_cons,Nat.pow_succ,Int.natCast_mul];rw[Int.add_mul]at h6;omega
theorem Pf(p:Nat):∀(m:Nat) (f:Nat->Int),vl p (il m f)=Ey p m f
 | 0,f=>by simp[il,vl,Ey]
 | m+1,f=>by
  have aA:∀(l:List Int) (x:Int),vl p (l ++ [x])=vl p l+x*((p^l.length:Nat):Int):=by
   intro l
   induction l with
   | nil=>intro x;simp[vl]
   | cons a l ih=>
    intro x;show vl p (l ++ [x])*p+a=vl p l*p+a+_
    rw[ih,List.length_cons,Nat.pow_succ,Int.natCast_mul,Int.add_mul,Int.mul_assoc];omega
  simp only[Ey];rw[show il (m+1) f=il m f ++ [f m] by simp[il,List.range_succ],aA,Pf p m f,An]
theorem zdb{P:Prop}(h:P:=by
 go_wp2_with fail
 go_ret;exact⟨Af HF.o.symm,rfl⟩):P:=h
theorem Pg(l:List Int)(v:Value)(p:Nat)(w:World)(hl:Al w v l)(hp:1<=p)(hp':p<=256)(hb:∀x∈l,0<=x/\x<p)(hq:p^l.length<=65536):
  Calls Tryz.prog 206 #[v,p] w fun r w'=>r= .returned (.int .i64 (vl p l))/\w=w':=by
 obtain⟨a,cap,rfl,s1,s2,s3⟩:=hl.open;unfold maxLen at s2;have S3:=Aa s3;have HV:=Aa (show vl p l=vl p (l.drop 0) from rfl);have HR:=Aa (show ∀k,0<=vl p (l.drop k)/\vl p (l.drop k)*(p:Int)<=16777216/\vl p (l.drop k)<=65536 from fun k=>by
  obtain⟨h1,h2⟩:=Ra hp (l.drop k) fun x hx=>hb x (List.mem_of_mem_drop hx);have h3:p^(l.drop k).length<=p^l.length:=Nat.pow_le_pow_right hp (by rw[List.length_drop];omega);have h4:=Int.mul_le_mul (show vl p (l.drop k)<=65536 by omega) (show(p:Int)<=256 by omega) ac ac;exact⟨h1,h4,by
    have:vl p (l.drop k)<=65536:=ac;exact this⟩)
 have HX:=Aa (show ∀(k:Nat) (x:Int),l[k]?=some x->0<=x/\x<=256 from fun k x h=>by have:=hb x (List.mem_of_getElem? h);omega);have HN:=Aa (show vl p (l.drop l.length)=0 by rw[List.drop_length];rfl);clear hl s3 hb hq;go_enter Tryz.func206,Tryz.ntmps206
 go_wp2_with fail
 go_loop [5,6] (fun x' i'=>∃k:Nat,k<=l.length/\i'= .int .i64 ((k:Int)-1)/\x'= .int .i64 (vl p (l.drop k))) (fun _ i'=>(intOf i'+1).toNat)
 case atStart=>exact⟨l.length,ac,rfl,by rw[HN.o]⟩
 case round=>
  obtain⟨k,hk,rfl,rfl⟩:=hrel;obtain⟨r1,r2,r3⟩:=HR.o k;rcases k with _|k
  .have HF:=Aa HV.o;generalize vl p (l.drop 0)=y at *;exact zdb
  .have r0:0<=vl p (l.drop (k+1))*(p:Int):=Int.mul_nonneg r1 ac;obtain⟨x,hx⟩:∃x,l[k]?=some x:=⟨_,List.getElem?_eq_getElem ac⟩;obtain⟨b,o,rfl,hc⟩:=S3.o ac;have c1:=hc k x hx;obtain⟨x1,x2⟩:=HX.o k x hx;have HG:=Aa (codGo p l k x hx);have e:(((k+1:Nat)):Int)-1=k:=by omega
   rw[e];clear hc hx e;generalize vl p (l.drop (k+1))=y at *;go_wp2_with fail
   go_round
   case rel=>exact⟨k,ac,rfl,by rw[HG.o]⟩
   case measure=>simp[intOf]
end Go.Proofs.YtehieobniamagaaGreat
