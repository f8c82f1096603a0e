/- Small helpers over any program: worlds that only grow, slices that read as lists of cells. -/
import Derived.Test.YtehieobniamagaaGreatRows
import Derived.WalkKit
import Derived.WalkSpells
import Derived.Deep.RegionWith
import Derived.Deep.QuietTactic
import Derived.BigQuiet
import Derived.WalkLawsBesides
import Derived.OwnWalk
import Derived.Laws.OwnMore
namespace Go.Proofs.YtehieobniamagaaGreat
open Go.RowKit
set_option linter.all false
theorem nA{A:Sort _}(x:A):∃y,x=y:=⟨x,rfl⟩
def Hia(p:Prop):Prop:=p
theorem Hia.o{p:Prop}(h:Hia p):p:=h
theorem Aa{p:Prop}(h:p):Hia p:=h
theorem Eq{p0 p1 p2 p3:Prop}(h0:p0)(h1:p1)(h2:p2)(h3:p3):Hia p0/\Hia p1/\Hia p2/\Hia p3:=⟨h0,h1,h2,h3⟩
theorem Of{p0 p1 p2 p3 p4:Prop}(h0:p0)(h1:p1)(h2:p2)(h3:p3)(h4:p4):Hia p0/\Hia p1/\Hia p2/\Hia p3/\Hia p4:=⟨h0,h1,h2,h3,h4⟩
theorem To{p0 p1 p2 p3 p4 p5:Prop}(h0:p0)(h1:p1)(h2:p2)(h3:p3)(h4:p4)(h5:p5):Hia p0/\Hia p1/\Hia p2/\Hia p3/\Hia p4/\Hia p5:=⟨h0,h1,h2,h3,h4,h5⟩
theorem OK{p0 p1 p2 p3 p4 p5 p6:Prop}(h0:p0)(h1:p1)(h2:p2)(h3:p3)(h4:p4)(h5:p5)(h6:p6):Hia p0/\Hia p1/\Hia p2/\Hia p3/\Hia p4/\Hia p5/\Hia p6:=⟨h0,h1,h2,h3,h4,h5,h6⟩
theorem On{p0 p1 p2 p3 p4 p5 p6 p7:Prop}(h0:p0)(h1:p1)(h2:p2)(h3:p3)(h4:p4)(h5:p5)(h6:p6)(h7:p7):Hia p0/\Hia p1/\Hia p2/\Hia p3/\Hia p4/\Hia p5/\Hia p6/\Hia p7:=⟨h0,h1,h2,h3,h4,h5,h6,h7⟩
theorem Ha0{p0 p1 p2 p3 p4 p5 p6 p7 p8:Prop}(h0:p0)(h1:p1)(h2:p2)(h3:p3)(h4:p4)(h5:p5)(h6:p6)(h7:p7)(h8:p8):Hia p0/\Hia p1/\Hia p2/\Hia p3/\Hia p4/\Hia p5/\Hia p6/\Hia p7/\Hia p8:=⟨h0,h1,h2,h3,h4,h5,h6,h7,h8⟩
theorem Ty{p0 p1 p2 p3 p4 p5 p6 p7 p8 p9:Prop}(h0:p0)(h1:p1)(h2:p2)(h3:p3)(h4:p4)(h5:p5)(h6:p6)(h7:p7)(h8:p8)(h9:p9):Hia p0/\Hia p1/\Hia p2/\Hia p3/\Hia p4/\Hia p5/\Hia p6/\Hia p7/\Hia p8/\Hia p9:=⟨h0,h1,h2,h3,h4,h5,h6,h7,h8,h9⟩
theorem Ha1{p0 p1 p2 p3 p4 p5 p6 p7 p8 p9 p10:Prop}(h0:p0)(h1:p1)(h2:p2)(h3:p3)(h4:p4)(h5:p5)(h6:p6)(h7:p7)(h8:p8)(h9:p9)(h10:p10):Hia p0/\Hia p1/\Hia p2/\Hia p3/\Hia p4/\Hia p5/\Hia p6/\Hia p7/\Hia p8/\Hia p9/\Hia p10:=⟨h0,h1,h2,h3,h4,h5,h6,h7,h8,h9,h10⟩
theorem Ag{k:IntKind}{a b:Int}(h:a=b):Ending.returned (.int k a)= .returned (.int k b):=by rw[h]
theorem Ao{a b:Bool}(h:a=b):Ending.returned (.bool a)= .returned (.bool b):=by rw[h]
def Ex(w w':World):Prop:=Below w.heap.size w w'
theorem Ex.refl(w:World):Ex w w:=Below.refl _ _
theorem Ex.trans{a b c:World}(h:Ex a b)(k:Ex b c):Ex a c:=Below.trans h (Below.mono k h.size)
theorem Ex.drew{a b:World}(h:Ex a b):Ex a b.drew:=Below.drew h
theorem Ex.drewN{a b:World}(h:Ex a b)(n:Nat):Ex a (b.drewN n):=below_drewN h n
theorem Ex.alloc{a b:World}(h:Ex a b)(o:Obj):Ex a (b.alloc o):=Below.alloc h h.size o
theorem Ex.setCell{a b:World}(h:Ex a b){p:Addr}(hp:a.heap.size<=p.block)(u:Value):Ex a (b.setCell p u):=Below.setCell h hp u
theorem Ex.cell{w w':World}(h:Ex w w'){p:Addr}{u:Value}(hc:w.cell? p=some u):w'.cell? p=some u:=
 (Below.cell h (World.block_lt_of_cell? w _ hc)).trans hc
def Sl(w:World)(v:Value)(n size:Nat)(xs:List Value):Prop:=
 xs.length=n*size/\∃a cap,v= .slice a n cap/\n<=cap/\cap<=maxLen/\
  (0<n->∃b o,a=some ⟨b,o,none⟩/\∀j u,xs[j]?=some u->w.cell? ⟨b,o+j,none⟩=some u)
theorem Sl.ex{w w':World}{v:Value}{n size:Nat}{xs:List Value}(h:Sl w v n size xs)(hx:Ex w w'):Sl w' v n size xs:=by
 obtain⟨h1,a,cap,h2,h3,h4,h5⟩:=h;refine⟨h1,a,cap,h2,h3,h4,fun hn=>?_⟩;obtain⟨b,o,h6,h7⟩:=h5 hn;exact⟨b,o,h6,fun j u hu=>hx.cell (h7 j u hu)⟩
theorem ac{P:Prop}(h:P:=by omega):P:=h
theorem ag{P:Prop}(h:P:=by simp):P:=h
theorem Sl.nil(w:World)(size:Nat):Sl w (.slice none 0 0) 0 size []:=⟨ag,none,0,rfl,Nat.le_refl _,by unfold maxLen;omega,fun h=>absurd h ac⟩
theorem Sl.own{w:World}{base:Nat}{e:TypeId}{size:Nat}{v:Value}{n:Nat}{xs:List Value}(h:w.ownsRow base e size v n xs):Sl w v n size xs:=by
 refine⟨h.1,?_⟩;rcases h.2 with⟨h2,h3⟩|⟨g,cap,cur,hv,hb,hg,h1,h2,h3,h4⟩
 .exact⟨none,0,by rw[h2,h3],ac,by unfold maxLen;omega,fun h=>ac⟩
 .refine⟨some ⟨g,0,none⟩,cap,hv,h1,h2,fun _=>⟨g,0,rfl,fun j u hu=>?_⟩⟩;rw[Nat.zero_add,cell_of_row w g j cur e (0,0) hg];rw[<-h4,List.getElem?_take]at hu;split at hu
  .simpa using hu
  .cases hu
theorem cj{P:Prop}(h:P:=by rw[e]):P:=h
theorem Ac{w:World}{base:Nat}{e:TypeId}{size:Nat}{v:Value}{n:Nat}{xs:List Value}(h:w.ownsRow base e size v n xs){a:Addr}(ha:v.ownBlock≠some a.block)(u:Value):(w.setCell a u).ownsRow base e size v n xs:=by
 refine h.kept (row:=some a.block) ⟨rfl,rfl,rfl,by simp[World.setCell],fun k _ hk=>Below.heap_setCell _ _ _ _ (fun e=>hk cj)⟩ ?_;exact .inr ha
theorem Ai{w w':World}{base:Nat}{e:TypeId}{size:Nat}{v:Value}{n:Nat}{xs:List Value}(h:w.ownsRow base e size v n xs)(hx:Ex w w'):w'.ownsRow base e size v n xs:=by
 refine h.kept (row:=none) ⟨hx.os,hx.tape,hx.output,hx.size,fun k hk _=>hx.block k hk⟩ ?_;cases v.ownBlock <;> simp
theorem Ex.grown{a w w':World}{base:Nat}{e:TypeId}{size:Nat}{v:Value}{n:Nat}{xs:List Value}(h:Ex a w)(aA:w.ownsRow base e size v n xs)(hb:a.heap.size<=base)(hg:w.grownBy w' v.ownBlock):Ex a w':=
 Below.grown h hg h.size (fun k hk=>Nat.le_trans hb (aA.lt k hk).1)
theorem Af{w:World}{B i j:Nat}{u:Value}(h:i≠j):(w.setCell ⟨B,i,none⟩ u).cell? ⟨B,j,none⟩=w.cell? ⟨B,j,none⟩:=
 World.cell?_setCell_other _ _ _ _ (by intro e;injection e;omega)
theorem Zc{x:Int}(h1:-9223372036854775808<=x)(h2:x<=9223372036854775807):wrap64 x=x:=IntWalk.wrap64_in _ ⟨h1,h2⟩
def Al(l:List Int):List Value:=l.map (Value.int .i64)
theorem AS(l:List Int):(Al l).length=l.length:=List.length_map _
theorem NK{l:List Int}{j:Nat}{x:Int}(h:l[j]?=some x):(Al l)[j]?=some (.int .i64 x):=by simp[Al,h]
def Aj(w:World)(v:Value)(l:List Int):Prop:=Sl w v l.length 1 (Al l)
theorem Aj.ex{w w':World}{v:Value}{l:List Int}(h:Aj w v l)(hx:Ex w w'):Aj w' v l:=Sl.ex h hx
theorem Aj.open{w:World}{v:Value}{l:List Int}(h:Aj w v l):∃a cap,v= .slice a l.length cap/\l.length<=cap/\cap<=maxLen/\
  (0<l.length->∃b o,a=some ⟨b,o,none⟩/\∀j x,l[j]?=some x->w.cell? ⟨b,o+j,none⟩=some (.int .i64 x)):=by
 obtain⟨h1,a,cap,h2,h3,h4,h5⟩:=h;refine⟨a,cap,h2,h3,h4,fun hn=>?_⟩;obtain⟨b,o,h6,h7⟩:=h5 hn;exact⟨b,o,h6,fun j x hx=>h7 j _ (NK hx)⟩
theorem Ji{P:Program}{f:FuncId}{aA:Array Value}{w:World}{n:Nat}{v:Value}
  (h:Calls P f aA (w.drewN n) fun e w'=>e= .returned v/\∃k,w'=(w.drewN n).drewN k):Calls P f aA (w.drewN n) fun e w''=>e= .returned v/\∃m,w''=w.drewN m:=
 h.mono fun _ _ ⟨he,k,hm⟩=>⟨he,n+k,by rw[hm,World.drewN_drewN]⟩
theorem TD(w:World)(l:List Int)(t:TypeId)(hl:l.length<=1000):Aj (w.alloc (.cells (Al l).toArray t)) (.slice (some ⟨w.heap.size,0,none⟩) l.length l.length) l:=by
 refine⟨by rw[AS];omega,some ⟨w.heap.size,0,none⟩,l.length,rfl,Nat.le_refl _,by unfold maxLen;omega,fun _=>⟨_,_,rfl,fun j u h=>?_⟩⟩;rw[Nat.zero_add];simpa using h
def vs(n:Nat)(c:Nat->Value):List Value:=(List.range n).map c
theorem Bu(n:Nat)(c:Nat->Value):(vs n c).length=n:=by simp[vs]
theorem DF{n j:Nat}(h:j<n)(c:Nat->Value):(vs n c)[j]?=some (c j):=by simp[vs,h]
def Ax{α:Type}(c:Nat->α)(k:Nat)(u:α):Nat->α:=fun j=>if j=k then u else c j
theorem Sj(n k:Nat)(c:Nat->Value)(u:Value):(vs n c).set k u=vs n (Ax c k u):=by
 apply List.ext_getElem?;intro j;rw[List.getElem?_set];by_cases h:k=j
 .subst h;by_cases hk:k<n
  .simp[vs,Ax,hk]
  .simp[vs,hk]
 .rw[if_neg h];by_cases hj:j<n
  .rw[DF hj,DF hj];unfold Ax;rw[if_neg (fun e=>h e.symm)]
  .simp[vs,hj]
theorem PZ(n:Nat)(c:Nat->Value):vs (n+1) c=vs n c ++ [c n]:=by simp[vs,List.range_succ]
theorem M4{n:Nat}{c d:Nat->Value}(h:∀j,j<n->c j=d j):vs n c=vs n d:=
 List.map_congr_left fun j hj=>h j (List.mem_range.1 hj)
theorem Gw(n:Nat)(u:Value):List.replicate n u=vs n (fun _=>u):=by
 apply List.ext_getElem?;intro j;by_cases hj:j<n <;> simp[vs,hj]
def AI(w:World)(base:Nat)(e:TypeId)(g n:Nat)(c:Nat->Value):Prop:=w.ownsRow base e 1 (.slice (some ⟨g,0,none⟩) n n) n (vs n c)
section
variable {w:World} {base:Nat} {e:TypeId} {g n:Nat} {c:Nat->Value}
theorem AI.cell(h:AI w base e g n c){j:Nat}(hj:j<n):w.cell? ⟨g,j,none⟩=some (c j):=by
 rw[World.ownsRow.cellAt h j ac,DF hj]
theorem AI.frz(h:AI w base e g n c)(j:Nat):w.frozen? ⟨g,j,none⟩=false:=World.ownsRow.frozenAt h j
theorem AI.set(h:AI w base e g n c)(j:Nat)(u:Value):AI (w.setCell ⟨g,j,none⟩ u) base e g n (Ax c j u):=by
 have:=(World.ownsRow.stored h j u).1
 rwa[Sj]at this
theorem AI.congr{d:Nat->Value}(h:AI w base e g n c)(hc:∀j,j<n->c j=d j):AI w base e g n d:=by
 unfold AI at *
 rwa[M4 hc]at h
theorem AI.ex{w':World}(h:AI w base e g n c)(hx:Ex w w'):AI w' base e g n c:=Ai h hx
theorem AI.drew(h:AI w base e g n c):AI w.drew base e g n c:=h
theorem AI.drewN(h:AI w base e g n c)(k:Nat):AI (w.drewN k) base e g n c:=h.ex ((Ex.refl w).drewN k)
theorem AI.alloc(h:AI w base e g n c)(o:Obj):AI (w.alloc o) base e g n c:=World.ownsRow.alloc h o
theorem AI.lt(h:AI w base e g n c):base<=g/\g<w.heap.size:=World.ownsRow.lt h g rfl
theorem AI.other(h:AI w base e g n c){a:Addr}(ha:g≠a.block)(u:Value):AI (w.setCell a u) base e g n c:=
 Ac h (fun e=>ha (by simpa[Value.ownBlock]using e)) u
theorem AI.exSet{a:World}(h:AI w base e g n c)(hb:a.heap.size<=base)(hx:Ex a w)(j:Nat)(u:Value):Ex a (w.setCell ⟨g,j,none⟩ u):=
 hx.setCell (p:=⟨g,j,none⟩) (Nat.le_trans hb h.lt.1) u
theorem AI.sl(h:AI w base e g n c):Sl w (.slice (some ⟨g,0,none⟩) n n) n 1 (vs n c):=Sl.own h
theorem zaU{P:Prop}(h:P:=by
 exact .inr ⟨g',cap,cur,h1,Nat.le_trans hb h2,h3⟩):P:=h
theorem zbS{P:Prop}(h:P:=by
 refine⟨h.1,?_⟩;rcases h.2 with h1|⟨g',cap,cur,h1,h2,h3⟩
 .exact .inl h1
 .exact zaU):P:=h
theorem AI.mono{b':Nat}(h:AI w base e g n c)(hb:b'<=base):AI w b' e g n c:=by
 exact zbS
end
theorem AI.heap{w:World}{base:Nat}{e:TypeId}{g n:Nat}{c:Nat->Value}(h:AI w base e g n c):w.heap[g]?=some (.cells (vs n c).toArray e (0,0)):=by
 rcases h.2 with⟨h',_⟩|⟨g',cap',cur,h',hb,hg,hnc,hcm,hcs,htake⟩
 .simp at h'
 .simp only[Value.slice.injEq,Option.some.injEq,Addr.mk.injEq,and_true,true_and]at h';obtain⟨rfl,rfl⟩:=h';rw[List.take_of_length_le (by rw[Array.length_toList,hcs];exact Nat.le_refl _)]at htake;rw[hg,<-htake]
theorem AI.of_heap{w:World}{base:Nat}{e:TypeId}{g n:Nat}{c:Nat->Value}(h:w.heap[g]?=some (.cells (vs n c).toArray e (0,0)))(hb:base<=g)(hn:n<=maxLen):AI w base e g n c:=
 ⟨by rw[Bu,Nat.mul_one],.inr ⟨g,n,(vs n c).toArray,rfl,hb,h,Nat.le_refl _,hn,by simp[Bu],by rw[List.take_of_length_le (by simp[Bu])]⟩⟩
theorem Aq{P:Program}(w:World){ops:Array Oper}{rest:List Oper}{o:Oper}{a:Act}{Q:Exit->Act->World->Prop}
  (hg:o.guard=none) (l c:Operand) (t:TypeId) (aF:o.op=Op.makeSlice t l c)
  (e:TypeId) (z:Value) (aA:Nat) (h1:P.underlying t=some (.slice e)) (hi:(P.info? e).map (fun i=>(i.zero,i.size,i.bytes))=some (some z,1,aA)) (hz:z.cells= #[z])
  (L:Int) (n:Nat) (hl:a.eval l= .int .i64 L) (hc:a.eval c= .int .i64 L) (hL:L=(n:Int)) (b2:aA*n<=281474976710656) (b3:n<=maxLen)
  (hK:∀w',AI w' w.heap.size e w.heap.size n (fun _=>z)->Ex w w'->wpList P ops Q rest (a.put o.dst (.slice (some ⟨w.heap.size,0,none⟩) n n)) w'):
  wpList P ops Q (o :: rest) a w:=by
 obtain⟨i,aG,aE,aD,aC⟩:=info_parts hi;refine wpList_make_full w hg l c t aF w.heap.size e i z 1 h1 aG aE aD .i64 .i64 L L n hl hc hL hL (by rw[aC];exact b2) b3 (Nat.le_refl _) ?_;intro w' aB aH;rw[hz,Nat.mul_one,toList_madeCells_one,Gw]at aB;exact hK w' aB (Below.grown (Below.refl _ _) aH (Nat.le_refl _) (fun k hk=>by cases hk))
def iv(f:Nat->Int):Nat->Value:=fun j=> .int .i64 (f j)
theorem CN(f:Nat->Int)(k:Nat)(y:Int):Ax (iv f) k (.int .i64 y)=iv (Ax f k y):=by
 funext j;by_cases h:j=k <;> simp[Ax,iv,h]
theorem AI.icongr{w:World}{base:Nat}{e:TypeId}{g n:Nat}{f h:Nat->Int}(hf:AI w base e g n (iv f))(hc:∀j,j<n->f j=h j):AI w base e g n (iv h):=
 hf.congr fun j hj=>congrArg (Value.int .i64) (hc j hj)
def il(n:Nat)(f:Nat->Int):List Int:=(List.range n).map f
theorem Am(n:Nat)(f:Nat->Int):(il n f).length=n:=by simp[il]
theorem AM{n j:Nat}(h:j<n)(f:Nat->Int):(il n f)[j]?=some (f j):=by simp[il,h]
theorem CO(n:Nat)(f:Nat->Int):Al (il n f)=vs n (iv f):=by simp[Al,il,vs,iv]
theorem AI.isl{w:World}{base:Nat}{e:TypeId}{g n:Nat}{f:Nat->Int}(h:AI w base e g n (iv f)):Aj w (.slice (some ⟨g,0,none⟩) n n) (il n f):=by
 unfold Aj;rw[Am,CO];exact h.sl
def bv(f:Nat->Bool):Nat->Value:=fun j=> .bool (f j)
theorem PC(f:Nat->Bool)(k:Nat)(y:Bool):Ax (bv f) k (.bool y)=bv (Ax f k y):=by
 funext j;by_cases h:j=k <;> simp[Ax,bv,h]
theorem AI.bcongr{w:World}{base:Nat}{e:TypeId}{g n:Nat}{f h:Nat->Bool}(hf:AI w base e g n (bv f))(hc:∀j,j<n->f j=h j):AI w base e g n (bv h):=
 hf.congr fun j hj=>congrArg Value.bool (hc j hj)
theorem Gv(y p:Nat)(h:y<=9223372036854775807):wrap64 ((y:Int)/(p:Int))=((y/p:Nat):Int):=by
 have h1:=Nat.div_le_self y p;rw[<-Int.natCast_ediv];generalize y/p=q at *;exact Zc ac ac
theorem Ad{α:Type}(c:Nat->α)(k:Nat)(u:α):Ax c k u k=u:=by unfold Ax;rw[if_pos rfl]
theorem Ae{α:Type}(c:Nat->α){k j:Nat}(u:α)(h:j≠k):Ax c k u j=c j:=by unfold Ax;rw[if_neg h]
section
abbrev Vc:=Nat->Int
def sX(m:Nat)(low:Vc)(v:Vc):Vc:=fun j=>if j<m then(if j=0 then 0 else v (j-1))-v (m-1)*low j else 0
def DR(m:Nat)(low:Vc):Nat->Vc->Vc
 | 0,v=>v
 | k+1,v=>sX m low (DR m low k v)
def ap(m:Nat)(low:Vc):Nat->Vc->Vc->Vc
 | 0,_,_=>fun _=>0
 | n+1,y,x=>fun j=>ap m low n y x j+y n*DR m low n x j
def Av:Vc:=fun j=>if j=0 then 1 else 0
def Ek(m:Nat)(low:Vc)(x y:Vc):Vc:=ap m low m y x
def PR(T:Vc->Vc):Prop:=∀(a b:Int) (v w:Vc),T (fun j=>a*v j+b*w j)=fun j=>a*T v j+b*T w j
variable {m:Nat} {low:Vc}
theorem Ge:PR (sX m low):=by
 intro a b v w;funext j;unfold sX;split
 .split <;> grind
 .simp
theorem PR.comp{T U:Vc->Vc}(h:PR T)(k:PR U):PR (fun v=>T (U v)):=by
 intro a b v w;show T (U _)=_
 rw[k,h]
theorem Gy:∀k,PR (DR m low k)
 | 0=>fun _ _ _ _=>rfl
 | k+1=>by
  have:=PR.comp (Ge (m:=m) (low:=low)) (Gy k);exact this
theorem PR.zero{T:Vc->Vc}(h:PR T):T (fun _=>0)=fun _=>0:=by
 have:=h 0 0 (fun _=>0) (fun _=>0);simp at this;exact this
theorem PR.add{T:Vc->Vc}(h:PR T)(v w:Vc):T (fun j=>v j+w j)=fun j=>T v j+T w j:=by
 have:=h 1 1 v w;simpa using this
theorem PR.add_smul{T:Vc->Vc}(h:PR T)(v w:Vc)(b:Int):T (fun j=>v j+b*w j)=fun j=>T v j+b*T w j:=by
 have:=h 1 b v w;simpa using this
theorem JY:∀n y,PR (ap m low n y)
 | 0,y=>by intro a b v w;funext j;simp[ap]
 | n+1,y=>by
  intro a b v w;funext j;simp only[ap];rw[JY n y,Gy n]
  grind
theorem Lz:∀i k v,DR m low (i+k) v=DR m low i (DR m low k v)
 | 0,k,v=>by simp[DR]
 | i+1,k,v=>by rw[Nat.add_right_comm];simp only[DR];rw[Lz i k v]
theorem MJ{T:Vc->Vc}(h:PR T)(hc:∀v,T (sX m low v)=sX m low (T v)):∀n y x,T (ap m low n y x)=ap m low n y (T x)
 | 0,y,x=>by simp only[ap];exact h.zero
 | n+1,y,x=>by
  have hk:∀k v,T (DR m low k v)=DR m low k (T v):=by
   intro k
   induction k with
   | zero=>intro v;rfl
   | succ k ih=>intro v;simp only[DR];rw[hc,ih]
  simp only[ap];rw[h.add_smul,MJ h hc n y x,hk]
theorem Y8(n:Nat)(y x:Vc):ap m low n y (sX m low x)=sX m low (ap m low n y x):=(MJ Ge (fun _=>rfl) n y x).symm
theorem WT(n k:Nat)(y z x:Vc):ap m low n y (ap m low k z x)=ap m low k z (ap m low n y x):=
 MJ (JY n y) (fun v=>Y8 n y v) k z x
theorem Ly:∀i,i<m->DR m low i Av=fun j=>if j=i then 1 else 0
 | 0,_=>rfl
 | i+1,h=>by
  simp only[DR];rw[Ly i (by omega)];funext j;unfold sX;show(if j<m then(if j=0 then 0 else if j-1=i then(1:Int) else 0)-(if m-1=i then(1:Int) else 0)*low j else 0)=_
  rw[show(if m-1=i then(1:Int) else 0)=0 by rw[if_neg (by omega)]];by_cases h1:j=i+1
  .subst h1;simp[h]
  .rw[if_neg h1];by_cases h2:j<m
   .rw[if_pos h2];by_cases h3:j=0
    .simp[h3]
    .rw[if_neg h3,if_neg (by omega)];simp
   .rw[if_neg h2]
theorem MI:∀n (y:Vc),n<=m->ap m low n y Av=fun j=>if j<n then y j else 0
 | 0,y,_=>by simp[ap]
 | n+1,y,h=>by
  simp only[ap];rw[MI n y (by omega),Ly n (by omega)];funext j;show(if j<n then y j else 0)+y n*(if j=n then 1 else 0)=_
  by_cases h1:j<n
  .rw[if_pos h1,if_neg (show ¬j=n by omega),if_pos (by omega)];simp
  .rw[if_neg h1];by_cases h2:j=n
   .subst h2;simp
   .rw[if_neg h2,if_neg (by omega)];simp
def GX(m:Nat)(v:Vc):Prop:=∀j,m<=j->v j=0
theorem GX.ap_one{y:Vc}(h:GX m y):ap m low m y Av=y:=by
 rw[Go.Proofs.YtehieobniamagaaGreat.MI m y (Nat.le_refl _)];funext j;by_cases h1:j<m
 .rw[if_pos h1]
 .rw[if_neg h1,h j ac]
theorem Xc(v:Vc):GX m (sX m low v):=fun j h=>by unfold sX;rw[if_neg ac]
theorem Vb{v:Vc}(h:GX m v):∀k,GX m (DR m low k v)
 | 0=>h
 | k+1=>Xc _
theorem MH{x:Vc}(h:GX m x):∀n y,GX m (ap m low n y x)
 | 0,y=>fun _ _=>rfl
 | n+1,y=>fun j hj=>by simp only[ap];rw[MH h n y j hj,Vb h n j hj];simp
theorem FH{x y:Vc}(hx:GX m x)(hy:GX m y):Ek m low x y=Ek m low y x:=by
 unfold Ek
 conv=>lhs;rw[<-hx.ap_one (low:=low),WT,hy.ap_one]
theorem Ej{x y:Vc}(hx:GX m x):GX m (Ek m low x y):=MH hx _ _
theorem Pf{x y z:Vc}(hx:GX m x)(hy:GX m y)(hz:GX m z):Ek m low (Ek m low x y) z=Ek m low x (Ek m low y z):=by
 rw[FH hx (Ej hy),FH hx hy];unfold Ek;rw[WT]
theorem Tc{x:Vc}(hx:GX m x)(hm:1<=m):Ek m low x Av=x:=by
 have h1:GX m Av:=fun j hj=>by unfold Av;rw[if_neg ac]
 rw[FH hx h1];exact hx.ap_one
theorem Td(x y z:Vc):Ek m low (fun j=>x j+y j) z=fun j=>Ek m low x z j+Ek m low y z j:=(JY m z).add x y
def Dz(m:Nat)(low:Vc)(x:Vc):Nat->Vc->Vc
 | 0,_=>fun _=>0
 | k+1,y=>fun j=>sX m low (Dz m low x k (fun t=>y (t+1))) j+y 0*x j
theorem Oi:∀n (y x:Vc),ap m low (n+1) y x=fun j=>y 0*x j+sX m low (ap m low n (fun t=>y (t+1)) x) j
 | 0,y,x=>by
  have h0:sX m low (fun _=>0)=fun _=>0:=Ge.zero;funext j;simp only[ap,DR];rw[h0];simp
 | n+1,y,x=>by
  funext j;rw[ap,Oi n y x];rw[ap,Ge.add_smul];simp only[DR];exact Int.add_assoc _ _ _
theorem Mj:∀n (y x:Vc),Dz m low x n y=ap m low n y x
 | 0,y,x=>rfl
 | n+1,y,x=>by
  funext j;rw[Oi,Dz,Mj n];exact Int.add_comm _ _
def Ci(p:Int)(v w:Vc):Prop:=∀j,v j%p=w j%p
theorem Ci.refl(p:Int)(v:Vc):Ci p v v:=fun _=>rfl
theorem Ci.symm{p:Int}{v w:Vc}(h:Ci p v w):Ci p w v:=fun j=>(h j).symm
theorem Ci.trans{p:Int}{u v w:Vc}(h:Ci p u v)(k:Ci p v w):Ci p u w:=fun j=>(h j).trans (k j)
theorem BW{p a b:Int}:a%p=b%p↔∃c,a=b+p*c:=by
 constructor
 .intro h;have:=Int.emod_emod_of_dvd a (Int.dvd_refl p);have h1:=Int.mul_ediv_add_emod a p;have h2:=Int.mul_ediv_add_emod b p;exact⟨a/p-b/p,by rw[Int.mul_sub];omega⟩
 .rintro⟨c,rfl⟩;exact Int.add_mul_emod_self_left b p c
theorem DZ{p a b c d:Int}(h:a%p=b%p)(k:c%p=d%p):(a+c)%p=(b+d)%p:=by
 obtain⟨x,rfl⟩:=BW.1 h;obtain⟨y,rfl⟩:=BW.1 k;exact BW.2 ⟨x+y,by grind⟩
theorem FO{p a b c d:Int}(h:a%p=b%p)(k:c%p=d%p):(a*c)%p=(b*d)%p:=by
 obtain⟨x,rfl⟩:=BW.1 h;obtain⟨y,rfl⟩:=BW.1 k;exact BW.2 ⟨x*d+b*y+p*x*y,by grind⟩
theorem IU{p a b c d:Int}(h:a%p=b%p)(k:c%p=d%p):(a-c)%p=(b-d)%p:=by
 obtain⟨x,rfl⟩:=BW.1 h;obtain⟨y,rfl⟩:=BW.1 k;exact BW.2 ⟨x-y,by grind⟩
theorem Ci.sX{p:Int}{v w:Vc}(h:Ci p v w):Ci p (sX m low v) (sX m low w):=fun j=>by
 unfold Go.Proofs.YtehieobniamagaaGreat.sX;split
 .refine IU ?_ (FO (h _) rfl);split
  .rfl
  .exact h _
 .rfl
theorem Ci.sXn{p:Int}{v w:Vc}(h:Ci p v w):∀k,Ci p (DR m low k v) (DR m low k w)
 | 0=>h
 | k+1=>(Ci.sXn h k).sX
theorem Ci.ap{p:Int}{v w y z:Vc}(h:Ci p v w)(k:Ci p y z):∀n,Ci p (ap m low n y v) (ap m low n z w)
 | 0=>fun _=>rfl
 | n+1=>fun j=>by
  simp only[Go.Proofs.YtehieobniamagaaGreat.ap];exact DZ (Ci.ap h k n j) (FO (k n) (h.sXn n j))
theorem Ci.mulV{p:Int}{v w y z:Vc}(h:Ci p v w)(k:Ci p y z):Ci p (Ek m low v y) (Ek m low w z):=h.ap k m
def Bt(p m x:Nat):Vc:=fun j=>if j<m then((x/p^j%p:Nat):Int) else 0
def DO(p:Nat):Nat->Vc->Int
 | 0,_=>0
 | n+1,v=>DO p n v+v n*((p^n:Nat):Int)
theorem Bh(p m x:Nat):GX m (Bt p m x):=fun j h=>by unfold Bt;rw[if_neg ac]
theorem FQ{p:Nat}(hp:1<=p)(m x j:Nat):0<=Bt p m x j/\Bt p m x j<p:=by
 unfold Bt;split
 .have:=Nat.mod_lt (x/p^j) hp;omega
 .omega
def Zn(p m:Nat)(v:Vc):Prop:=GX m v/\∀j,0<=v j/\v j<p
theorem CR{p:Nat}{v:Vc}(h:∀j,0<=v j/\v j<p):∀n,0<=DO p n v/\DO p n v<((p^n:Nat):Int)
 | 0=>by simp[DO]
 | n+1=>by
  obtain⟨h1,h2⟩:=CR h n;obtain⟨h3,h4⟩:=h n;simp only[DO];have h5:0<=v n*((p^n:Nat):Int):=Int.mul_nonneg h3 ac;have h6:(v n+1)*((p^n:Nat):Int)<=p*((p^n:Nat):Int):=Int.mul_le_mul_of_nonneg_right ac ac;have h7:((p^(n+1):Nat):Int)=p*((p^n:Nat):Int):=by rw[Nat.pow_succ,Int.natCast_mul,Int.mul_comm]
  rw[Int.add_mul]at h6;omega
theorem DE{p:Nat}{v w:Vc}:∀n,(∀j,j<n->v j=w j)->DO p n v=DO p n w
 | 0,_=>rfl
 | n+1,h=>by simp only[DO];rw[DE n fun j hj=>h j (by omega),h n (by omega)]
theorem QP{p:Nat}(hp:1<=p)(m x:Nat):∀n,n<=m->DO p n (Bt p m x)=((x%p^n:Nat):Int)
 | 0,_=>by simp[DO,Nat.mod_one]
 | n+1,h=>by
  simp only[DO];rw[QP hp m x n (by omega)];unfold Bt;rw[if_pos (by omega),Nat.pow_succ,Nat.mod_mul,Int.natCast_add,Int.natCast_mul,Int.mul_comm (((x/p^n%p:Nat)):Int)]
theorem Uk{p m x:Nat}(hp:1<=p)(h:x<p^m):DO p m (Bt p m x)=x:=by
 rw[QP hp m x m (Nat.le_refl _),Nat.mod_eq_of_lt h]
theorem QN{p:Nat}(hp:1<=p){v:Vc}(h:∀j,0<=v j/\v j<p):∀n j,j<n->(DO p n v).toNat/p^j%p=(v j).toNat
 | 0,j,hj=>by omega
 | n+1,j,hj=>by
  obtain⟨h1,h2⟩:=CR h n;obtain⟨h3,h4⟩:=h n;have ih:=QN hp h n;simp only[DO];obtain⟨a,ha⟩:=Int.eq_ofNat_of_zero_le h1;obtain⟨b,hb⟩:=Int.eq_ofNat_of_zero_le h3;have aC:(DO p n v+v n*((p^n:Nat):Int)).toNat=a+b*p^n:=by rw[ha,hb,<-Int.natCast_mul,<-Int.natCast_add,Int.toNat_natCast]
  have aB:a<p^n:=ac;have aA:1<=p^n:=Nat.pow_pos hp;rw[aC];rcases Nat.eq_or_lt_of_le (show j<=n by omega) with e|e
  .subst e;rw[hb,Nat.add_mul_div_right _ _ aA,Nat.div_eq_of_lt aB,Nat.zero_add,Nat.mod_eq_of_lt ac];rfl
  .rw[<-ih j e,ha,Int.toNat_natCast];obtain⟨c,rfl⟩:∃c,n=j+(c+1):=⟨n-j-1,ac⟩;rw[show b*p^(j+(c+1))=b*p^c*p*p^j by rw[Nat.pow_add,Nat.pow_succ];ac_rfl,Nat.add_mul_div_right _ _ (Nat.pow_pos hp),Nat.add_mul_mod_self_right]
theorem JQ{p m:Nat}{v:Vc}(hp:1<=p)(h:Zn p m v):Bt p m (DO p m v).toNat=v:=by
 funext j;unfold Bt;split
 .rw[QN hp h.2 m j ‹_›];have:=(h.2 j).1;omega
 .exact(h.1 j ac).symm
end
def rep(p m:Nat)(v:Vc):Nat:=(DO p m (fun j=>v j%p)).toNat
section
variable {p m:Nat}
theorem Vl(hp:1<=p){v:Vc}(h:GX m v):Zn p m (fun j=>v j%p):=
 ⟨fun j hj=>by show v j%p=0;rw[h j hj];simp,fun j=>⟨Int.emod_nonneg _ ac,Int.emod_lt_of_pos _ ac⟩⟩
theorem OX(hp:1<=p)(v:Vc):rep p m v<p^m:=by
 have h:∀j,0<=v j%(p:Int)/\v j%(p:Int)<p:=fun j=>⟨Int.emod_nonneg _ ac,Int.emod_lt_of_pos _ ac⟩;have:=CR (v:=fun j=>v j%(p:Int)) h m;unfold rep;omega
theorem Wh(hp:1<=p){v:Vc}(h:GX m v):Bt p m (rep p m v)=fun j=>v j%p:=JQ hp (Vl hp h)
theorem BD(hp:1<=p){v:Vc}(h:GX m v):Ci p (Bt p m (rep p m v)) v:=by
 rw[Wh hp h];exact fun j=>Int.emod_emod_of_dvd _ (Int.dvd_refl _)
theorem Eh{v w:Vc}(h:Ci p v w):rep p m v=rep p m w:=by
 unfold rep
 congr 1
 exact DE m fun j _=>h j
theorem ID(hp:1<=p){x:Nat}(h:x<p^m):rep p m (Bt p m x)=x:=by
 unfold rep;rw[DE (w:=Bt p m x) m fun j _=>Int.emod_eq_of_lt (FQ hp m x j).1 (FQ hp m x j).2,Uk hp h];rfl
def A5(p m x y:Nat):Nat:=rep p m (fun j=>Bt p m x j+Bt p m y j)
def Dy(p m x:Nat):Nat:=rep p m (fun j=>-Bt p m x j)
def Ap(p m:Nat)(low:Vc)(x y:Nat):Nat:=rep p m (Ek m low (Bt p m x) (Bt p m y))
variable {low:Vc}
theorem Me(hp:1<=p)(x y:Nat):A5 p m x y<p^m:=OX hp _
theorem DX(hp:1<=p)(x:Nat):Dy p m x<p^m:=OX hp _
theorem Cb(hp:1<=p)(x y:Nat):Ap p m low x y<p^m:=OX hp _
theorem MK{v w:Vc}(hv:GX m v)(hw:GX m w):GX m (fun j=>v j+w j):=fun j hj=>by show v j+w j=0;rw[hv j hj,hw j hj];rfl
theorem VB{v:Vc}(hv:GX m v):GX m (fun j=>-v j):=fun j hj=>by show-v j=0;rw[hv j hj];rfl
theorem Ci.add{p:Int}{v v' w w':Vc}(h:Ci p v v')(k:Ci p w w'):Ci p (fun j=>v j+w j) (fun j=>v' j+w' j):=fun j=>DZ (h j) (k j)
theorem FK(x y:Nat):A5 p m x y=A5 p m y x:=by
 unfold A5;congr 1;funext j;exact Int.add_comm _ _
theorem CC(hp:1<=p)(x y z:Nat):A5 p m (A5 p m x y) z=A5 p m x (A5 p m y z):=by
 unfold A5;refine Eh ?_;refine((BD hp (MK (Bh p m x) (Bh p m y))).add (Ci.refl _ _)).trans ?_;refine Ci.symm (((Ci.refl _ _).add (BD hp (MK (Bh p m y) (Bh p m z)))).trans ?_);intro j;show(_+(_+_))%(p:Int)=(_+_+_)%(p:Int)
 rw[Int.add_assoc]
theorem GO(p m:Nat):Bt p m 0=fun _=>0:=by
 funext j;unfold Bt;split <;> simp
theorem Ck(hp:1<=p){x:Nat}(h:x<p^m):A5 p m x 0=x:=by
 unfold A5;rw[GO];simp only[Int.add_zero];exact ID hp h
theorem Fz(hp:1<=p){x:Nat}(h:x<p^m):A5 p m 0 x=x:=by rw[FK,Ck hp h]
theorem Nm(hp:1<=p):rep p m (fun _=>0)=0:=by
 have:=ID (m:=m) hp (x:=0) (Nat.pow_pos hp)
 rwa[GO]at this
theorem FJ(hp:1<=p)(x:Nat):A5 p m x (Dy p m x)=0:=by
 unfold A5 Dy;refine(Eh ?_).trans (Nm hp);refine((Ci.refl _ _).add (BD hp (VB (Bh p m x)))).trans ?_;intro j;show(_ +-_)%(p:Int)=_
 rw[Int.add_right_neg]
theorem Bb(x y:Nat):Ap p m low x y=Ap p m low y x:=by
 unfold Ap;rw[FH (Bh p m x) (Bh p m y)]
theorem BG(hp:1<=p)(x y z:Nat):Ap p m low (Ap p m low x y) z=Ap p m low x (Ap p m low y z):=by
 unfold Ap;refine Eh ?_;refine((BD hp (Ej (Bh p m x))).mulV (Ci.refl _ _)).trans ?_;rw[Pf (Bh p m x) (Bh p m y) (Bh p m z)];exact(Ci.refl _ _).mulV (BD hp (Ej (Bh p m y))).symm
theorem Mz(hp:2<=p)(hm:1<=m):Bt p m 1=Av:=by
 funext j;unfold Bt Av;rcases j with _|j
 .rw[if_pos (show 0<m by omega),if_pos rfl,Nat.pow_zero,Nat.div_one,Nat.mod_eq_of_lt ac];rfl
 .rw[if_neg (show ¬j+1=0 by omega)];split
  .have:1<p^(j+1):=Nat.one_lt_pow ac ac;rw[Nat.div_eq_of_lt this];simp
  .rfl
theorem Bw(hp:2<=p)(hm:1<=m):1<p^m:=Nat.one_lt_pow ac ac
theorem Cu(hp:2<=p)(hm:1<=m){x:Nat}(h:x<p^m):Ap p m low x 1=x:=by
 unfold Ap;rw[Mz hp hm,Tc (Bh p m x) hm,ID ac h]
theorem Dl(hp:2<=p)(hm:1<=m){x:Nat}(h:x<p^m):Ap p m low 1 x=x:=by rw[Bb,Cu hp hm h]
theorem BK(hp:1<=p)(x:Nat):Ap p m low 0 x=0:=by
 unfold Ap Ek;rw[GO,(JY m _).zero,Nm hp]
theorem KP(hp:1<=p)(x y z:Nat):Ap p m low (A5 p m x y) z=A5 p m (Ap p m low x z) (Ap p m low y z):=by
 unfold Ap A5;refine Eh ?_;refine((BD hp (MK (Bh p m x) (Bh p m y))).mulV (Ci.refl _ _)).trans ?_;rw[Td];exact((BD hp (Ej (Bh p m x))).add (BD hp (Ej (Bh p m y)))).symm
def Bm(p m:Nat)(low:Vc)(x:Nat):Nat->Nat
 | 0=>1
 | k+1=>Ap p m low (Bm p m low x k) x
theorem CA(hp:2<=p)(hm:1<=m)(x:Nat):∀k,Bm p m low x k<p^m
 | 0=>Bw hp hm
 | k+1=>Cb (by omega) _ _
theorem Cj(hp:2<=p)(hm:1<=m)(x i:Nat):∀k,Bm p m low x (i+k)=Ap p m low (Bm p m low x i) (Bm p m low x k)
 | 0=>by rw[Nat.add_zero,Bm,Cu hp hm (CA hp hm x i)]
 | k+1=>by rw[<-Nat.add_assoc,Bm,Cj hp hm x i k,BG (by omega)];rfl
def Cx(p m:Nat)(low:Vc)(x:Nat):Prop:=Bm p m low x (p^m-1)=1/\∀k,1<=k->k<p^m-1->Bm p m low x k≠1
theorem Cx.inj(hp:2<=p)(hm:1<=m){x:Nat}(h:Cx p m low x){i j:Nat}(hj:j<p^m-1)(hij:i<j):Bm p m low x i≠Bm p m low x j:=fun e=>by
 have h1:Bm p m low x (i+(p^m-1-i))=Bm p m low x (j+(p^m-1-i)):=by rw[Cj hp hm,Cj hp hm,e]
 rw[show i+(p^m-1-i)=p^m-1 by omega,show j+(p^m-1-i)=(j-i)+(p^m-1) by omega,Cj hp hm,h.1,Cu hp hm (CA hp hm x _)]at h1;exact h.2 (j-i) ac ac h1.symm
theorem Cx.ne(hp:2<=p)(hm:1<=m){x:Nat}(h:Cx p m low x){i:Nat}(hi:i<=p^m-1):Bm p m low x i≠0:=fun e=>by
 have h1:=Cj (low:=low) hp hm x i (p^m-1-i);rw[e,BK ac,show i+(p^m-1-i)=p^m-1 by omega,h.1]at h1;omega
theorem O9:∀(n:Nat) (L:List Nat),L.Nodup->L.length=n->(∀x∈L,1<=x/\x<=n)->∀x,1<=x->x<=n->x∈L:=by
 intro n
 induction n with
 | zero=>intro L _ _ _ x h1 h2;omega
 | succ n ih=>
  intro L hd hl hr x h1 h2;by_cases hm:n+1∈L
  .have aD:=hd.erase (n+1);have aA:∀y,y∈L.erase (n+1)↔y≠n+1/\y∈L:=fun y=>hd.mem_erase_iff;by_cases hx:x=n+1
   .exact hx ▸ hm
   .have:=ih (L.erase (n+1)) aD (by rw[List.length_erase_of_mem hm,hl];rfl) (fun y hy=>by
     obtain⟨a,b⟩:=(aA y).1 hy;have:=hr y b;omega) x h1 ac
    exact((aA x).1 this).2
  .exfalso;rcases L with _|⟨a,L⟩
   .simp at hl
   .have aC:=List.nodup_cons.1 hd;have aB:∀y∈a :: L,1<=y/\y<=n:=fun y hy=>by
     have:=hr y hy;have:y≠n+1:=fun e=>hm (e ▸ hy);omega
    have ha:=aB a (List.mem_cons_self ..);exact aC.1 (ih L aC.2 (by simpa using hl) (fun y hy=>aB y (List.mem_cons_of_mem _ hy)) a ha.1 ha.2)
theorem Cy{f:Nat->Nat}{n:Nat}(h:∀i j,j<n->i<j->f i≠f j):((List.range n).map f).Nodup:=by
 rw[List.nodup_iff_pairwise_ne,List.pairwise_map];refine List.Pairwise.imp_of_mem ?_ List.pairwise_lt_range;intro a b ha hb aA;exact h a b (List.mem_range.1 hb) aA
theorem Cx.all(hp:2<=p)(hm:1<=m){x:Nat}(h:Cx p m low x){y:Nat}(h1:1<=y)(h2:y<p^m):∃k,k<p^m-1/\Bm p m low x k=y:=by
 have:=O9 (p^m-1) ((List.range (p^m-1)).map (Bm p m low x)) (Cy fun i j hj aA=>h.inj hp hm hj aA) ag (fun z hz=>by
  obtain⟨k,hk,rfl⟩:=List.mem_map.1 hz;have:=h.ne hp hm (i:=k) (by have:=List.mem_range.1 hk;omega);have:=CA (low:=low) hp hm x k;omega) y h1 ac
 obtain⟨k,hk,e⟩:=List.mem_map.1 this;exact⟨k,List.mem_range.1 hk,e⟩
def J4(p m:Nat)(low:Vc):Prop:=∃x,1<=x/\x<p^m/\Cx p m low x
theorem Cx.mod(hp:2<=p)(hm:1<=m){x:Nat}(h:Cx p m low x)(k:Nat):Bm p m low x (k%(p^m-1))=Bm p m low x k:=by
 have aA:∀c r,Bm p m low x (c*(p^m-1)+r)=Bm p m low x r:=by
  intro c
  induction c with
  | zero=>intro r;simp
  | succ c ih=>intro r;rw[Nat.succ_mul,Nat.add_assoc,ih,Cj hp hm,h.1,Dl hp hm (CA hp hm x r)]
 have:=aA (k/(p^m-1)) (k%(p^m-1));rw[Nat.mul_comm,Nat.div_add_mod]at this;exact this.symm
theorem J4.inv(hp:2<=p)(hm:1<=m)(h:J4 p m low){y:Nat}(h1:1<=y)(h2:y<p^m):∃z,1<=z/\z<p^m/\Ap p m low y z=1:=by
 obtain⟨x,_,_,hx⟩:=h;obtain⟨k,hk,rfl⟩:=hx.all hp hm h1 h2;refine⟨Bm p m low x (p^m-1-k),?_,CA hp hm x _,?_⟩
 .have:=hx.ne hp hm (i:=p^m-1-k) ac;omega
 .rw[<-Cj hp hm,show k+(p^m-1-k)=p^m-1 by omega,hx.1]
theorem J4.cancel(hp:2<=p)(hm:1<=m)(h:J4 p m low){y a b:Nat}(h1:1<=y)(h2:y<p^m)(ha:a<p^m)(hb:b<p^m)(e:Ap p m low a y=Ap p m low b y):a=b:=by
 obtain⟨z,_,_,hz⟩:=h.inv hp hm h1 h2;have:Ap p m low (Ap p m low a y) z=Ap p m low (Ap p m low b y) z:=cj
 rwa[BG ac,BG ac,hz,Cu hp hm ha,Cu hp hm hb]at this
theorem J4.ne_zero(hp:2<=p)(hm:1<=m)(h:J4 p m low){a b:Nat}(ha:1<=a)(aB:a<p^m)(hb:1<=b)(aA:b<p^m):1<=Ap p m low a b:=by
 rcases Nat.eq_zero_or_pos (Ap p m low a b) with e|e
 .have:=h.cancel hp hm hb aA aB (Nat.pow_pos ac) (e.trans (BK ac b).symm);omega
 .exact e
theorem Cx.inv(hp:2<=p)(hm:1<=m){x:Nat}(h:Cx p m low x){k:Nat}(hk:k<p^m-1):Ap p m low (Bm p m low x k) (Bm p m low x ((p^m-1-k)%(p^m-1)))=1:=by
 rw[h.mod hp hm,<-Cj hp hm,show k+(p^m-1-k)=p^m-1 by omega,h.1]
def Hu(p m:Nat)(low:Vc)(x k:Nat):Prop:=∀i,i<k->Bm p m low x i≠0/\∀j,j<i->Bm p m low x j≠Bm p m low x i
def J3(p m:Nat)(low:Vc)(x L:Nat):Prop:=1<=L/\L<=p^m-1/\Hu p m low x L/\(Bm p m low x L=0∨∃i,i<L/\Bm p m low x i=Bm p m low x L)
theorem Hu.succ{x k:Nat}(h:Hu p m low x k)(h0:Bm p m low x k≠0)(hn:∀j,j<k->Bm p m low x j≠Bm p m low x k):Hu p m low x (k+1):=fun i hi=>by
 rcases Nat.eq_or_lt_of_le (show i<=k by omega) with e|e
 .subst e;exact⟨h0,hn⟩
 .exact h i e
theorem Hu.one(hp:2<=p)(hm:1<=m)(x:Nat):Hu p m low x 1:=fun i hi=>by
 obtain rfl:i=0:=ac;exact⟨by simp[Bm],fun j hj=>ac⟩
theorem Hu.len(hp:2<=p)(hm:1<=m){x k:Nat}(h:Hu p m low x k):k<=p^m-1:=by
 rcases Nat.lt_or_ge (p^m-1) k with hk|hk
 .exfalso;have h1:Hu p m low x (p^m-1):=fun i hi=>h i ac;have:=O9 (p^m-1) ((List.range (p^m-1)).map (Bm p m low x)) (Cy fun i j hj aA=>(h1 j hj).2 i aA) ag (fun z hz=>by
   obtain⟨i,hi,rfl⟩:=List.mem_map.1 hz;have:=(h1 i (List.mem_range.1 hi)).1;have:=CA (low:=low) hp hm x i;omega) (Bm p m low x (p^m-1)) (by have:=(h _ hk).1;omega) (by have:=CA (low:=low) hp hm x (p^m-1);omega)
  obtain⟨i,hi,e⟩:=List.mem_map.1 this;exact(h _ hk).2 i (List.mem_range.1 hi) e
 .exact hk
theorem J3.gen(hp:2<=p)(hm:1<=m){x L:Nat}(h:J3 p m low x L):Cx p m low x↔L=p^m-1/\Bm p m low x (p^m-1)=1:=by
 obtain⟨h1,h2,h3,h4⟩:=h;constructor
 .intro hg;refine⟨?_,hg.1⟩;rcases Nat.eq_or_lt_of_le h2 with e|e
  .exact e
  .exfalso;rcases h4 with h4|⟨i,hi,h4⟩
   .exact hg.ne hp hm ac h4
   .exact hg.inj hp hm e hi h4
 .rintro⟨rfl,h5⟩;refine⟨h5,fun k k1 k2 e=>?_⟩;exact(h3 k k2).2 0 ac (by rw[e];rfl)
end
end Go.Proofs.YtehieobniamagaaGreat
