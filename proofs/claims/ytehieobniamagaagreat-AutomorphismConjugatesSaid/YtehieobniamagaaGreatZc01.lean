/- Arrays that a call has made itself, read as functions; make as a law of the walk. -/
import Derived.OwnWalk
import Derived.Laws.OwnMore
import Derived.Maps.AppendAt
import Derived.Deep.Upon
import Derived.Deep.RegionLaw
import Derived.Laws.Cover3
import Derived.Deep.RegionHeld3
import Derived.Laws.CopyOwn
import Derived.StillTailTactics
import Derived.Test.YtehieobniamagaaGreatZc00
namespace Go.Proofs.YtehieobniamagaaGreat
open Go.RowKit
set_option linter.all false
set_option maxRecDepth 100000
set_option maxRecDepth 100000
set_option maxHeartbeats 4000000
def vs(n:Nat)(c:Nat->Value):List Value:=(List.range n).map c
theorem Bm(n:Nat)(c:Nat->Value):(vs n c).length=n:=by simp[vs]
theorem Dj{n j:Nat}(h:j<n)(c:Nat->Value):(vs n c)[j]?=some (c j):=by simp[vs,h]
def Ay{α:Type}(c:Nat->α)(k:Nat)(u:α):Nat->α:=fun j=>if j=k then u else c j
theorem VE(n k:Nat)(c:Nat->Value)(u:Value):(vs n c).set k u=vs n (Ay c k u):=by
 apply List.ext_getElem?;intro j;rw[List.getElem?_set];by_cases h:k=j
 .subst h;by_cases hk:k<n
  .simp[vs,Ay,hk]
  .simp[vs,hk]
 .rw[if_neg h];by_cases hj:j<n
  .rw[Dj hj,Dj hj];unfold Ay;rw[if_neg (fun e=>h e.symm)]
  .simp[vs,hj]
theorem SQ(n:Nat)(c:Nat->Value):vs (n+1) c=vs n c ++ [c n]:=by simp[vs,List.range_succ]
theorem Po{n:Nat}{c d:Nat->Value}(h:∀j,j<n->c j=d j):vs n c=vs n d:=
 List.map_congr_left fun j hj=>h j (List.mem_range.1 hj)
theorem Iu(n:Nat)(u:Value):List.replicate n u=vs n (fun _=>u):=by
 apply List.ext_getElem?;intro j;by_cases hj:j<n <;> simp[vs,hj]
def AF(w:World)(base:Nat)(e:TypeId)(g n:Nat)(c:Nat->Value):Prop:=w.ownsRow base e 1 (.slice (some (g,0)) n n) n (vs n c)
section
variable {w:World} {base:Nat} {e:TypeId} {g n:Nat} {c:Nat->Value}
theorem AF.cell(h:AF w base e g n c){j:Nat}(hj:j<n):w.cell? (g,j)=some (c j):=by
 rw[World.ownsRow.cellAt h j ac,Dj hj]
theorem AF.frz(h:AF w base e g n c)(j:Nat):w.frozen? (g,j)=false:=World.ownsRow.frozenAt h j
theorem AF.set(h:AF w base e g n c)(j:Nat)(u:Value):AF (w.setCell (g,j) u) base e g n (Ay c j u):=by
 have:=(World.ownsRow.stored h j u).1
 rwa[VE]at this
theorem AF.congr{d:Nat->Value}(h:AF w base e g n c)(hc:∀j,j<n->c j=d j):AF w base e g n d:=by
 unfold AF at *
 rwa[Po hc]at h
theorem AF.ex{w':World}(h:AF w base e g n c)(hx:Ex w w'):AF w' base e g n c:=Ai h hx
theorem AF.drew(h:AF w base e g n c):AF w.drew base e g n c:=h
theorem AF.drewN(h:AF w base e g n c)(k:Nat):AF (w.drewN k) base e g n c:=h.ex ((Ex.refl w).drewN k)
theorem AF.alloc(h:AF w base e g n c)(o:Obj):AF (w.alloc o) base e g n c:=World.ownsRow.alloc h o
theorem AF.lt(h:AF w base e g n c):base<=g/\g<w.heap.size:=World.ownsRow.lt h g rfl
theorem AF.le(h:AF w base e g n c):n<=maxLen:=by
 rcases h.2 with⟨h',_⟩|⟨g',cap',cur,h',_,hg,h1,h2,_⟩
 .simp at h'
 .omega
theorem AF.other(h:AF w base e g n c){a:Addr}(ha:g≠a.block)(u:Value):AF (w.setCell a u) base e g n c:=
 Ac h (fun e=>ha (by simpa[Value.ownBlock]using e)) u
theorem AF.exSet{a:World}(h:AF w base e g n c)(hb:a.heap.size<=base)(hx:Ex a w)(j:Nat)(u:Value):Ex a (w.setCell (g,j) u):=
 hx.setCell (p:=(g,j)) (Nat.le_trans hb h.lt.1) u
theorem AF.sl(h:AF w base e g n c):Sl w (.slice (some (g,0)) n n) n 1 (vs n c):=Sl.own h
theorem zaZ{P:Prop}(h:P:=by
 exact .inr ⟨g',cap,cur,h1,Nat.le_trans hb h2,h3⟩):P:=h
theorem zb3{P:Prop}(h:P:=by
 refine⟨h.1,?_⟩;rcases h.2 with h1|⟨g',cap,cur,h1,h2,h3⟩
 .exact .inl h1
 .exact zaZ):P:=h
theorem AF.mono{b':Nat}(h:AF w base e g n c)(hb:b'<=base):AF w b' e g n c:=by
 exact zb3
end
theorem AF.heap{w:World}{base:Nat}{e:TypeId}{g n:Nat}{c:Nat->Value}(h:AF w base e g n c):w.heap[g]?=some (.cells (vs n c).toArray e (0,0)):=by
 rcases h.2 with⟨h',_⟩|⟨g',cap',cur,h',hb,hg,hnc,hcm,hcs,htake⟩
 .simp at h'
 .simp only[Value.slice.injEq,Option.some.injEq,Addr.mk.injEq,and_true,true_and]at h';obtain⟨rfl,rfl⟩:=h';rw[List.take_of_length_le (by rw[Array.length_toList,hcs];exact Nat.le_refl _)]at htake;rw[hg,<-htake]
theorem AF.of_heap{w:World}{base:Nat}{e:TypeId}{g n:Nat}{c:Nat->Value}(h:w.heap[g]?=some (.cells (vs n c).toArray e (0,0)))(hb:base<=g)(hn:n<=maxLen):AF w base e g n c:=
 ⟨by rw[Bm,Nat.mul_one],.inr ⟨g,n,(vs n c).toArray,rfl,hb,h,Nat.le_refl _,hn,by simp[Bm],by rw[List.take_of_length_le (by simp[Bm])]⟩⟩
theorem Ar{P:Program}(w:World){ops:Array Oper}{rest:List Oper}{o:Oper}{a:Act}{Q:Exit->Act->World->Prop}
  (hg:o.guard=none) (l c:Operand) (t:TypeId) (aF:o.op=Op.makeSlice t l c)
  (e:TypeId) (z:Value) (aA:Nat) (h1:P.underlying t=some (.slice e)) (hi:(P.info? e).map (fun i=>(i.zero,i.size,i.bytes))=some (some z,1,aA)) (hz:z.cells= #[z])
  (L:Int) (n:Nat) (hl:a.eval l= .int .i64 L) (hc:a.eval c= .int .i64 L) (hL:L=(n:Int)) (b2:aA*n<=281474976710656) (b3:n<=maxLen)
  (hK:∀w',AF w' w.heap.size e w.heap.size n (fun _=>z)->Ex w w'->wpList P ops Q rest (a.put o.dst (.slice (some (w.heap.size,0)) n n)) w'):
  wpList P ops Q (o :: rest) a w:=by
 obtain⟨i,aG,aE,aD,aC⟩:=info_parts hi;refine wpList_make_full w hg l c t aF w.heap.size e i z 1 h1 aG aE aD .i64 .i64 L L n hl hc hL hL (by rw[aC];exact b2) b3 (Nat.le_refl _) ?_;intro w' aB aH;rw[hz,Nat.mul_one,toList_madeCells_one,Iu]at aB;exact hK w' aB (Below.grown (Below.refl _ _) aH (Nat.le_refl _) (fun k hk=>by cases hk))
def iv(f:Nat->Int):Nat->Value:=fun j=> .int .i64 (f j)
theorem CD(f:Nat->Int)(k:Nat)(y:Int):Ay (iv f) k (.int .i64 y)=iv (Ay f k y):=by
 funext j;by_cases h:j=k <;> simp[Ay,iv,h]
theorem AF.icongr{w:World}{base:Nat}{e:TypeId}{g n:Nat}{f h:Nat->Int}(hf:AF w base e g n (iv f))(hc:∀j,j<n->f j=h j):AF w base e g n (iv h):=
 hf.congr fun j hj=>congrArg (Value.int .i64) (hc j hj)
def il(n:Nat)(f:Nat->Int):List Int:=(List.range n).map f
theorem Ao(n:Nat)(f:Nat->Int):(il n f).length=n:=by simp[il]
theorem AQ{n j:Nat}(h:j<n)(f:Nat->Int):(il n f)[j]?=some (f j):=by simp[il,h]
theorem Cw(n:Nat)(f:Nat->Int):Ap (il n f)=vs n (iv f):=by simp[Ap,il,vs,iv]
theorem AF.isl{w:World}{base:Nat}{e:TypeId}{g n:Nat}{f:Nat->Int}(h:AF w base e g n (iv f)):Aj w (.slice (some (g,0)) n n) (il n f):=by
 unfold Aj;rw[Ao,Cw];exact h.sl
def bv(f:Nat->Bool):Nat->Value:=fun j=> .bool (f j)
theorem Su(f:Nat->Bool)(k:Nat)(y:Bool):Ay (bv f) k (.bool y)=bv (Ay f k y):=by
 funext j;by_cases h:j=k <;> simp[Ay,bv,h]
theorem AF.bcongr{w:World}{base:Nat}{e:TypeId}{g n:Nat}{f h:Nat->Bool}(hf:AF w base e g n (bv f))(hc:∀j,j<n->f j=h j):AF w base e g n (bv h):=
 hf.congr fun j hj=>congrArg Value.bool (hc j hj)
theorem It(y p:Nat)(h:y<=9223372036854775807):wrap64 ((y:Int)/(p:Int))=((y/p:Nat):Int):=by
 have h1:=Nat.div_le_self y p;rw[<-Int.natCast_ediv];generalize y/p=q at *;exact w64 ac ac
theorem Ab{α:Type}(c:Nat->α)(k:Nat)(u:α):Ay c k u k=u:=by unfold Ay;rw[if_pos rfl]
theorem Ae{α:Type}(c:Nat->α){k j:Nat}(u:α)(h:j≠k):Ay c k u j=c j:=by unfold Ay;rw[if_neg h]
def AT(u v:Value):Prop:=u.ownBlock=none∨u.ownBlock≠v.ownBlock
theorem AT.symm{u v:Value}(h:AT u v):AT v u:=by
 unfold AT at *;rcases h with h|h
 .rcases hv:v.ownBlock with _|b
  .exact .inl rfl
  .right;rw[h];simp
 .exact .inr fun e=>h e.symm
theorem AT.nil(v:Value):AT (.slice none 0 0) v:= .inl rfl
structure Bt(w w':World)(base:Nat)(e:TypeId)(size:Nat)(v v':Value)(n:Nat)(xs news:List Value):Prop where
 own:w'.ownsRow base e size v' (n+1) (xs++news)
 gr:∃o,(w.alloc o).grownBy w' v.ownBlock
 at_:v'.ownBlock=v.ownBlock∨v'.ownBlock=some (w.heap.size+1)
 old:w.ownsRow base e size v n xs
section
variable {w w':World} {base:Nat} {e:TypeId} {size:Nat} {v v':Value} {n:Nat} {xs news:List Value}
theorem Bt.grow(h:Bt w w' base e size v v' n xs news):w.heap.size<w'.heap.size:=by
 obtain⟨o,hg⟩:=h.gr;have:=hg.size;simp at this;omega
theorem Bt.ex(h:Bt w w' base e size v v' n xs news){a:World}(hx:Ex a w)(hb:a.heap.size<=base):Ex a w':=by
 obtain⟨o,hg⟩:=h.gr;exact Ex.grown (hx.alloc o) (h.old.alloc o) hb hg
theorem Bt.cell(h:Bt w w' base e size v v' n xs news){a:Addr}{u:Value}(hc:w.cell? a=some u)(aA:some a.block≠v.ownBlock):w'.cell? a=some u:=by
 obtain⟨o,hg⟩:=h.gr;exact hg.cell (by rw[World.cell?_alloc_lt _ _ _ (World.block_lt_of_cell? _ _ hc)];exact hc) aA
theorem zaq{P:Prop}(h:P:=by
 right;have hlt:=(k.lt b h2).2;rcases h.at_ with h3|h3
 .rw[h3,<-h2];rcases ha with ha|ha
  .rw[h2]at ha;cases ha
  .exact ha
 .rw[h3];intro e;injection e with e;omega):P:=h
theorem zcQ{P:Prop}(h:P:=by
 unfold AT;rcases h2:v2.ownBlock with _|b
 .exact .inl rfl
 .exact zaq):P:=h
theorem Bt.row(h:Bt w w' base e size v v' n xs news){b2:Nat}{e2:TypeId}{s2:Nat}{v2:Value}{n2:Nat}{ys:List Value}(k:w.ownsRow b2 e2 s2 v2 n2 ys)(ha:AT v2 v):
  w'.ownsRow b2 e2 s2 v2 n2 ys/\AT v2 v':=by
 obtain⟨o,hg⟩:=h.gr;refine⟨(k.alloc o).kept hg ha,?_⟩;exact zcQ
theorem Bt.arr(h:Bt w w' base e size v v' n xs news){b2:Nat}{e2:TypeId}{g m:Nat}{c:Nat->Value}(k:AF w b2 e2 g m c)(ha:v.ownBlock≠some g):
  AF w' b2 e2 g m c/\v'.ownBlock≠some g:=by
 have h1:=h.row k (.inr (fun e=>ha e.symm));refine⟨h1.1,?_⟩;rcases h1.2 with h2|h2
 .cases h2
 .exact fun e=>h2 e.symm
end
theorem aq{P:Prop}(h:P:=by simp;omega):P:=h
theorem dh{P:Prop}(h:P:=by unfold Addr.add;split <;> simp_all):P:=h
theorem Am{P:Program}(w:World){ops:Array Oper}{rest:List Oper}{o:Oper}{a:Act}{Q:Exit->Act->World->Prop}(aL:o.guard=none)(s x:Operand)(t:TypeId)
  (ho:o.op= .call { callee:= .builtin .append,args:= #[s,x],argTypes:= #[t,t] })
  (base:Nat) (e:TypeId) (z:Value) (size aA:Nat) (ht:P.underlying t=some (.slice e)) (hi:(P.info? e).map (fun i=>(i.zero,i.size,i.bytes))=some (some z,size,aA))
  (aF:z.cells.size=size) (aJ:0<size)
  (v:Value) (n:Nat) (xs:List Value) (hs:a.eval s=v) (aC:w.ownsRow base e size v n xs)
  (news:List Value) (te:TypeId) (B:Nat) (hx:a.eval x= .slice (some (B,0)) 1 1) (hB:w.heap.size=B) (hl:news.length=size) (h1:∀u∈news,u.oneCell'=true)
  (aM:n+1<=maxLen) (aB:(n+1)*aA<=140737488355328) (hbase:base<=w.heap.size)
  (h:∀v' w',Bt w w' base e size v v' n xs news->wpList P ops Q rest (a.put o.dst v') w'):
  wpList P ops Q (o :: rest) a (w.alloc (.cells news.toArray te)):=by
 subst hB;obtain⟨i,aK,aI,aH,aG⟩:=info_parts hi;refine wpList_plain aL fun K hK=>?_;have aD:∀j u,news[j]?=some u->(w.alloc (.cells news.toArray te)).cell? ((⟨w.heap.size,0,none⟩:Addr).add j)=some u:=by
  intro j u hu;have aE:(⟨w.heap.size,0,none⟩:Addr).add j=⟨w.heap.size,j,none⟩:=dh;rw[aE];simpa using hu
 obtain⟨v',w',hr,h2,h3,h4,h5⟩:=run_append_own_at (P:=P) (w.alloc (.cells news.toArray te)) base t o.type e i z size aA ht aK aI aH aG aF aJ v n xs (aC.alloc _) ⟨w.heap.size,0,none⟩ 1 1 news (by rw[hl,Nat.one_mul]) aD h1 aM aB aq;unfold Oper.wp execOp;simp only[ho,resolve,invoke,builtin,Sem.run_bind,Sem.run_pure,Result.andThen_ok,List.map_toArray,List.map_cons,List.map_nil,hs,hx,hr];exact hK _ _ (h v' w' ⟨h2,⟨_,h3⟩,by simpa using h5,aC⟩)
def lenV:Value->Nat
 | .slice _ n _=>n
 | _=>0
theorem Qd{w:World}{base:Nat}{e:TypeId}{size:Nat}{v:Value}{n:Nat}{xs:List Value}(h:w.ownsRow base e size v n xs):lenV v=n:=by
 rcases h.2 with⟨rfl,rfl⟩|⟨g,cap,cur,rfl,_⟩ <;> rfl
theorem Fx{w:World}{base:Nat}{e:TypeId}{size:Nat}{v:Value}{n:Nat}{xs:List Value}(h:w.ownsRow base e size v n xs)(hn:1<=n):
  ∃g cap,v= .slice (some ⟨g,0,none⟩) n cap/\n<=cap/\cap<=maxLen:=by
 rcases h.2 with⟨_,h0⟩|⟨g,cap,cur,rfl,_,_,h1,h2,_⟩
 .omega
 .exact⟨g,cap,rfl,h1,h2⟩
theorem Ad{w:World}{base:Nat}{e:TypeId}{size:Nat}{v:Value}{n:Nat}{xs:List Value}(h:w.ownsRow base e size v n xs):∃a c,v= .slice a n c:=by
 rcases h.2 with⟨rfl,rfl⟩|⟨g,cap,cur,rfl,_⟩
 .exact⟨none,0,rfl⟩
 .exact⟨_,_,rfl⟩
theorem ai{P:Prop}(h:P:=by unfold maxLen;omega):P:=h
theorem Fy(w:World)(u:Value)(e:TypeId):(w.alloc (.cells #[u] e)).ownsRow w.heap.size e 1 (.slice (some (w.heap.size,0)) 1 1) 1 [u]:=
 World.ownsRow_lit w #[u] 1 (Nat.le_refl _) ai rfl
theorem Fk{P:Program}(w:World)(base:Nat)(t ty e:TypeId)(z:Value)(size aA:Nat)(ht:P.underlying t=some (.slice e))(hi:(P.info? e).map (fun i=>(i.zero,i.size,i.bytes))=some (some z,size,aA))
  (aJ:z.cells.size=size) (aN:0<size) (v:Value) (n:Nat) (xs:List Value) (aB:w.ownsRow base e size v n xs)
  (x:Value) (m:Nat) (news:List Value) (hx:Sl w x m size news) (h1:∀u∈news,u.oneCell'=true)
  (aQ:n+m<=maxLen) (aD:(n+m)*aA<=140737488355328) (aF:base<=w.heap.size):
  ∃v' w',(Builtin.append_ #[t,t] ty #[v,x]).run P w= .ok v' w'/\w'.ownsRow base e size v' (n+m) (xs++news)/\w.grownBy w' v.ownBlock/\(v'.ownBlock=v.ownBlock∨v'.ownBlock=some w.heap.size):=by
 obtain⟨i,aI,aM,aL,aK⟩:=info_parts hi;obtain⟨hl,a,cap,rfl,hmc,hcm,aC⟩:=hx;rcases Nat.eq_zero_or_pos m with h0|h0
 .subst h0;have aO:news= []:=List.eq_nil_of_length_eq_zero (by rw[hl];simp);subst aO;have aG:Src P i.size t (.slice a 0 cap) 0 [] w:=by
   rcases a with _|a
   .exact Src.ofNil w ht cap
   .exact Src.ofSlice w ht a 0 cap [] ag ag ag
  have hv:∃ao c,v= .slice ao n c/\n<=c:=by
   rcases aB.2 with⟨rfl,rfl⟩|⟨g,c,cur,rfl,_,_,h,_⟩
   .exact⟨none,0,rfl,Nat.le_refl _⟩
   .exact⟨_,_,rfl,h⟩
  obtain⟨ao,c,rfl,aP⟩:=hv;refine⟨_,_,run_append_nothing w t t ty e i ht aI ao n c aP _ aG,by simpa using aB,⟨rfl,rfl,rfl,Nat.le_refl _,fun _ _ _=>rfl⟩,.inl rfl⟩
 .obtain⟨b,o,rfl,hc⟩:=aC h0;have aE:∀j u,news[j]?=some u->w.cell? ((⟨b,o,none⟩:Addr).add j)=some u:=by
   intro j u hu;have aH:(⟨b,o,none⟩:Addr).add j=⟨b,o+j,none⟩:=dh;rw[aH];exact hc j u hu
  obtain⟨v',w',hr,h2,h3,h4,h5⟩:=run_append_own_at (P:=P) w base t ty e i z size aA ht aI aM aL aK aJ aN v n xs aB ⟨b,o,none⟩ m cap news hl aE h1 aQ aD aF;exact⟨v',w',hr,h2,h3,h5⟩
theorem A9{P:Program}(w:World){ops:Array Oper}{rest:List Oper}{o:Oper}{a:Act}{Q:Exit->Act->World->Prop}(aH:o.guard=none)(s x:Operand)(t:TypeId)
  (ho:o.op= .call { callee:= .builtin .append,args:= #[s,x],argTypes:= #[t,t] })
  (base:Nat) (e:TypeId) (z:Value) (size aA:Nat) (ht:P.underlying t=some (.slice e)) (hi:(P.info? e).map (fun i=>(i.zero,i.size,i.bytes))=some (some z,size,aA))
  (aE:z.cells.size=size) (aF:0<size) (v:Value) (n:Nat) (xs:List Value) (hs:a.eval s=v) (aD:w.ownsRow base e size v n xs)
  (xv:Value) (m:Nat) (news:List Value) (hx:a.eval x=xv) (aG:Sl w xv m size news) (h1:∀u∈news,u.oneCell'=true)
  (aI:n+m<=maxLen) (aB:(n+m)*aA<=140737488355328) (aC:base<=w.heap.size)
  (h:∀v' w',w'.ownsRow base e size v' (n+m) (xs++news)->w.grownBy w' v.ownBlock->(v'.ownBlock=v.ownBlock∨v'.ownBlock=some w.heap.size)->wpList P ops Q rest (a.put o.dst v') w'):
  wpList P ops Q (o :: rest) a w:=by
 refine wpList_plain aH fun K hK=>?_;obtain⟨v',w',hr,h2,h3,h4⟩:=Fk (P:=P) w base t o.type e z size aA ht hi aE aF v n xs aD xv m news aG h1 aI aB aC;unfold Oper.wp execOp;simp only[ho,resolve,invoke,builtin,Sem.run_bind,Sem.run_pure,Result.andThen_ok,List.map_toArray,List.map_cons,List.map_nil,hs,hx,hr];exact hK _ _ (h v' w' h2 h3 h4)
theorem zbr{P:Prop}(h:P:=by
 unfold Oper.wp execOp;simp only[ho,resolve,invoke,builtin,Sem.run_bind,Sem.run_pure,Result.andThen_ok,List.map_toArray,List.map_cons,List.map_nil,hs,hx,hr];exact h v' w' h2 h3 h4):P:=h
theorem Cq{P:Program}{w:World}{ops:Array Oper}{o:Oper}{a:Act}{K:Act->World->Prop}{Q:Exit->Act->World->Prop}{E:Prop}(aH:o.guard=none)(s x:Operand)(t:TypeId)
  (ho:o.op= .call { callee:= .builtin .append,args:= #[s,x],argTypes:= #[t,t] })
  (base:Nat) (e:TypeId) (z:Value) (size aA:Nat) (ht:P.underlying t=some (.slice e)) (hi:(P.info? e).map (fun i=>(i.zero,i.size,i.bytes))=some (some z,size,aA))
  (aE:z.cells.size=size) (aF:0<size) (v:Value) (n:Nat) (xs:List Value) (hs:a.eval s=v) (aD:w.ownsRow base e size v n xs)
  (xv:Value) (m:Nat) (news:List Value) (hx:a.eval x=xv) (aG:Sl w xv m size news) (h1:∀u∈news,u.oneCell'=true)
  (aI:n+m<=maxLen) (aB:(n+m)*aA<=140737488355328) (aC:base<=w.heap.size)
  (h:∀v' w',w'.ownsRow base e size v' (n+m) (xs++news)->w.grownBy w' v.ownBlock->(v'.ownBlock=v.ownBlock∨v'.ownBlock=some w.heap.size)->K (a.put o.dst v') w'):
  if Region.wanted o (yielded ops a.tmps)=true then Oper.wp P o a w K Q else E:=by
 have hw:Region.wanted o (yielded ops a.tmps)=true:=by simp[Region.wanted,aH]
 rw[if_pos hw];obtain⟨v',w',hr,h2,h3,h4⟩:=Fk (P:=P) w base t o.type e z size aA ht hi aE aF v n xs aD xv m news aG h1 aI aB aC;exact zbr
theorem AP{P:Program}(w:World)(t e:TypeId)(a:Option Addr)(l c:Nat)(h:P.underlying t=some (.slice e)):(binOp .eql t (.slice a l c) (.slice none 0 0)).run P w= .ok (.bool a.isNone) w:=by
 simp only[binOp];simp[run_equal_slice_nil w t e a l c h]
theorem Bv(w:World)(e:TypeId):(w.alloc (.cells #[] e)).ownsRow w.heap.size e 1 (.slice (some (w.heap.size,0)) 0 0) 0 []:=
 World.ownsRow_lit w #[] 0 (Nat.le_refl _) ai rfl
theorem Fj{P:Program}{w:World}{o:Oper}{a:Act}{K:Act->World->Prop}{Q:Exit->Act->World->Prop}(t e:TypeId)(z:Value)(aA:Nat)
  (h1:P.underlying t=some (.slice e)) (hi:(P.info? e).map (fun i=>(i.zero,i.size,i.bytes))=some (some z,1,aA)) (hz:z.cells= #[z])
  (n:Nat) (b2:aA*n<=281474976710656) (b3:n<=maxLen)
  (hK:∀w',AF w' w.heap.size e w.heap.size n (fun _=>z)->Ex w w'->Oper.upon P o a K Q (.ok (.value (.slice (some (w.heap.size,0)) n n)) w')):
  Oper.upon P o a K Q (((Instr.makeSlice t (.int .i64 (n:Int)) (.int .i64 (n:Int))).run P w).andThen fun a w'=>Result.ok (Next.value a) w'):=by
 obtain⟨i,aF,aE,aD,aC⟩:=info_parts hi;obtain⟨w',aB,r1,r2⟩:=run_make_full (P:=P) w w.heap.size t e i z 1 h1 aF aE aD .i64 .i64 n (by rw[aC];exact b2) b3 (Nat.le_refl _);rw[aB,Result.andThen_ok];rw[hz,Nat.mul_one,toList_madeCells_one,Iu]at r1;exact hK w' r1 (Below.grown (Below.refl _ _) r2 (Nat.le_refl _) (fun k hk=>by cases hk))
noncomputable section
def allB(f:List Bool->Bool)(l:List (List Bool)):Bool:=@List.rec (List Bool) (fun _=>Bool) true (fun x _ ih=>match f x with|true=>ih|false=>false) l
def dvC(p d u:Nat)(low:List Nat):Bool:=Nat.beq (QM p (P7 p (Im p d u) (Im p d 0) (Im p d 1) (low ++ [1]))) 0
def gnC(p m g:Nat)(b1:List Bool)(D:List (List Bool))(low:List Nat):Bool:=
 match Nat.beq (pwC p m low (Im p m 0) g b1 1) 1 with
 | true=>allB (fun b=>match Nat.beq (pwC p m low (Im p m 0) g b 1) 1 with|true=>false|false=>true) D
 | false=>false
def XA(p m:Nat)(b1:List Bool)(D:List (List Bool))(t:Nat)(low:List Nat):Bool:=
 match Nat.beq (Nat.mod t 2) 0 with
 | true=>dvC p (Nat.mod (Nat.div t 2) 8) (Nat.div t 16) low
 | false=>gnC p m (Nat.div t 2) b1 D low
def Fq(p m:Nat)(b1:List Bool)(D:List (List Bool))(T:List Nat):Nat->Bool:=
 @List.rec Nat (fun _=>Nat->Bool) (fun _=>true) (fun t _ ih v=>match XA p m b1 D t (Im p m v) with|true=>ih (Nat.succ v)|false=>false) T
theorem ak{P:Prop}(h:P:=by decide +kernel):P:=h
theorem YV:Fq 2 2 [true,true] [[true]] [2,18,2,5] 0=true:=ak
theorem YU:Fq 2 3 [true,true,true] [[true]] [2,18,2,5,2,5,2,18] 0=true:=ak
theorem YT:Fq 2 4 [true,true,true,true] [[true,false,true], [true,true]] [2,18,2,5,2,52,2,18,2,5,2,18,2,18,2,7] 0=true:=ak
theorem YS:Fq 2 5 [true,true,true,true,true] [[true]] [2,18,2,52,2,5,2,18,2,5,2,18,2,18,2,5,2,52,2,18,2,18,2,5,2,18,2,5,2,5,2,18] 0=true:=ak
theorem YR:Fq 2 6 [true,true,true,true,true,true] [[true,false,true,false,true], [true,false,false,true]] [2,18,2,5,2,54,2,18,2,7,2,18,2,18,2,52,2,86,2,18,2,18,2,7,2,18,2,5,2,52,2,18,2,5,2,18,2,18,2,5,2,18,2,52,2,5,2,18,2,18,2,5,2,7,2,18,2,52,2,18,2,18,2,54] 0=true:=ak
theorem YP:Fq 2 7 [true,true,true,true,true,true,true] [[true]] [2,18,2,5,2,52,2,18,2,5,2,18,2,18,2,5,2,5,2,18,2,18,2,52,2,18,2,86,2,5,2,18,2,52,2,18,2,18,2,5,2,18,2,5,2,54,2,18,2,18,2,52,2,86,2,18,2,5,2,18,2,18,2,5,2,5,2,18,2,18,2,86,2,18,2,5,2,52,2,18,2,18,2,5,2,5,2,18,2,54,2,18,2,18,2,52,2,18,2,54,2,5,2,18,2,52,2,18,2,18,2,5,2,5,2,18,2,18,2,5,2,18,2,52,2,5,2,18] 0=true:=ak
theorem YO:Fq 2 8 [true,true,true,true,true,true,true,true] [[true,false,true,false,true,false,true], [true,true,false,false,true,true], [true,true,true,true]] [2,18,2,52,2,56,2,18,2,54,2,18,2,18,2,86,2,52,2,18,2,18,2,152,2,18,2,7,2,5,2,18,2,86,2,18,2,18,2,52,2,18,2,5,2,5,2,18,2,18,2,54,2,52,2,18,2,7,2,18,2,18,2,7,2,152,2,18,2,18,2,54,2,18,2,52,2,5,2,18,2,18,2,86,2,248,2,18,2,52,2,18,2,18,2,5,2,18,2,5,2,5,2,18,2,5,2,18,2,18,2,52,2,5,2,18,2,18,2,7,2,18,2,19,2,52,2,18,2,52,2,18,2,18,2,5,2,18,2,13,2,5,2,18,2,18,2,52,2,54,2,18,2,86,2,18,2,18,2,7,2,18,2,7,2,52,2,18,2,5,2,18,2,18,2,54,2,13,2,18,2,18,2,52,2,18,2,56,2,15,2,18,2,18,2,5,2,86,2,18,2,52,2,18,2,18,2,5,2,56,2,18,2,18,2,15,2,18,2,52,2,13,2,18,2,54,2,18,2,18,2,5,2,18,2,86,2,52,2,18,2,18,2,13,2,5,2,18,2,7,2,18,2,18,2,52] 0=true:=ak
theorem YM:Fq 3 2 [true,false,false,false] [[true,false,false]] [2,9,18,2,34,7,2,18,7] 0=true:=ak
theorem YL:Fq 3 3 [true,true,false,true,false] [[true,true,false,true], [true,false]] [2,18,34,2,34,18,2,7,13,2,34,11,2,18,9,2,7,18,2,7,18,2,7,34,2,18,9] 0=true:=ak
theorem YK:Fq 3 4 [true,false,true,false,false,false,false] [[true,false,true,false,false,false], [true,false,false,false,false]] [2,84,18,2,34,7,2,18,7,2,18,25,2,9,18,2,11,34,2,20,9,2,18,34,2,34,18,2,34,7,2,18,20,2,9,18,2,21,18,2,11,34,2,18,7,2,18,34,2,34,18,2,132,7,2,18,7,2,9,18,2,34,20,2,21,34,2,18,7,2,9,18,2,34,18,2,84,7,2,18,34] 0=true:=ak
theorem YJ:Fq 3 5 [true,true,true,true,false,false,true,false] [[true,true,true,true,false,false,true], [true,false,true,true,false]] [2,18,34,2,34,18,2,7,13,2,34,132,2,18,9,2,20,18,2,84,18,2,7,34,2,18,20,2,34,18,2,7,13,2,18,34,2,18,9,2,132,18,2,34,13,2,7,34,2,18,84,2,7,18,2,132,84,2,18,34,2,34,18,2,7,18,2,34,11,2,18,9,2,18,9,2,7,18,2,9,34,2,34,11,2,18,9,2,7,18,2,7,18,2,7,34,2,18,9,2,18,34,2,34,18,2,20,132,2,18,20,2,7,18,2,34,84,2,84,34,2,18,132,2,7,18,2,34,18,2,7,13,2,18,34,2,7,18,2,34,20,2,18,13,2,18,9,2,7,18,2,132,34,2,7,13,2,18,34,2,34,18,2,7,18,2,7,34,2,18,11,2,18,34,2,34,18,2,84,20,2,34,11,2,18,9,2,7,18,2,20,34,2,18,9,2,132,18,2,34,18,2,7,13,2,18,34,2,18,132,2,84,18,2,34,11,2,18,9,2,20,18,2,7,34,2,7,13,2,18,34,2,34,18,2,15,18,2,34,11,2,18,84] 0=true:=ak
theorem YI:Fq 5 2 [true,true,false,false,false] [[true,true,false,false], [true,false,false,false]] [2,34,13,15,18,2,15,11,34,50,2,18,50,11,17,2,66,18,11,13,2,13,11,18,34] 0=true:=ak
theorem YH:Fq 5 3 [true,true,true,true,true,false,false] [[true,true,true,true,true,false], [true,false,false]] [2,18,50,34,66,2,19,18,66,13,2,13,34,18,15,2,50,11,11,18,2,34,11,11,50,2,15,11,50,34,2,18,66,11,13,2,66,18,34,50,2,13,50,18,17,2,13,34,11,18,2,13,66,11,18,2,66,34,11,15,2,18,11,11,34,2,34,18,50,66,2,50,11,18,17,2,34,11,18,15,2,13,11,34,18,2,50,11,11,66,2,18,34,66,50,2,15,18,11,34,2,50,18,11,13,2,13,11,18,34,2,34,50,66,18,2,15,66,34,19,2,18,11,50,13] 0=true:=ak
theorem YG:Fq 7 2 [true,true,false,false,false,false] [[true,true,false,false,false], [true,false,false,false,false]] [2,19,17,34,17,50,18,2,50,66,15,21,34,21,2,18,21,15,50,15,66,2,23,18,66,82,15,23,2,17,82,18,34,15,17,2,98,17,15,18,15,34,2,34,50,15,19,18,19] 0=true:=ak
theorem VK:Fq 11 2 [true,true,true,true,false,false,false] [[true,true,true,true,false,false], [true,false,true,false,false,false], [true,true,false,false,false]] [2,31,50,27,29,25,66,34,82,27,18,2,31,82,98,27,50,27,23,23,34,66,2,18,33,66,29,31,23,82,50,98,29,2,82,18,33,98,114,23,66,23,25,25,2,114,23,18,34,35,82,23,33,25,98,2,25,23,27,18,98,34,35,114,130,25,2,25,23,27,114,18,130,25,34,50,37,2,50,23,130,146,27,18,23,25,29,34,2,34,146,27,50,66,23,18,23,25,29,2,162,29,34,25,27,23,50,18,66,25,2,29,66,82,25,34,25,23,23,18,50] 0=true:=ak
theorem VJ:Fq 13 2 [true,false,true,false,true,false,false,false] [[true,false,true,false,true,false,false], [true,true,true,false,false,false], [true,true,false,false,false]] [2,82,31,98,50,29,29,31,35,34,66,31,18,2,66,27,35,31,31,82,50,35,98,114,34,35,2,18,98,33,114,66,27,27,33,37,50,82,33,2,37,18,82,29,37,27,27,98,66,37,114,130,2,98,27,18,34,114,27,130,82,29,29,27,39,2,39,130,146,18,39,34,98,31,39,29,27,114,2,31,27,29,41,18,114,27,34,50,130,27,146,2,33,27,31,29,130,18,27,146,162,34,27,50,2,29,50,66,146,29,162,18,33,29,31,27,34,2,34,27,162,178,50,27,66,18,35,29,27,31,2,31,178,34,35,31,27,27,50,18,31,66,82,2,194,66,29,82,34,27,27,29,33,18,50,29,2,50,27,33,29,29,66,34,33,82,98,18,33] 0=true:=ak
end
theorem ah{P:Prop}(h:P:=by kernel_rfl):P:=h
theorem Az:(Tryz.prog.info? 3).map (fun i=>(i.zero,i.size,i.bytes))=some (some (.int .i64 0),1,8):=ah
theorem LO:(Tryz.prog.info? 4).map (fun i=>(i.zero,i.size,i.bytes))=some (some (.bool false),1,1):=ah
def CG(p m:Int):Int:=if 2<=p/\1<=m/\m<=8/\p^m.toNat<=256 then p^m.toNat else 0
theorem Jm{p:Int}(h:2<=p){i j:Nat}(hij:i<=j):p^i<=p^j:=by
 obtain⟨k,rfl⟩:∃k,j=i+k:=⟨j-i,ac⟩;rw[Int.pow_add];have h1:1<=p^k:=Int.pow_pos ac;have h2:1<=p^i:=Int.pow_pos ac;have:=Int.mul_le_mul_of_nonneg_left h1 (show 0<=p^i by omega);omega
theorem ZJ{p:Int}(h:2<=p){i:Nat}(hi:1<=i):p<=p^i:=by
 have:=Jm h hi;have e:p^1=p:=Int.pow_one p;omega
theorem zbs{P:Prop}(h:P:=by
 generalize p^i=y at *
 go_wp2
 go_round
 case rel=>exact⟨i+1,by omega,by go_num,by rw[HE.o],by rw[HE.o];omega,by rw[HE.o];omega⟩
 case measure=>simp[intOf];omega):P:=h
theorem zcR{P:Prop}(h:P:=by
 have:=Int.mul_pos (show 0<p^i by omega) (show 0<p by omega);omega):P:=h
theorem Jn(p m:Int)(w:World):
  Calls Tryz.prog 112 #[p,m] w fun r w'=>r= .returned (.int .i64 (CG p m))/\w=w':=by
 by_cases h:2<=p/\p<=256/\1<=m/\m<=8
 .obtain⟨h1,h2,h3,h4⟩:=h;have HO:=Aa (show CG p m=if p^m.toNat<=256 then p^m.toNat else 0 by unfold CG;by_cases h:p^m.toNat<=256 <;> simp[h,h1,h3,h4]);go_enter Tryz.func112,Tryz.ntmps112
  go_wp2
  go_loop [5,21] (fun q' i'=>∃i:Nat,i<=m.toNat/\i'= .int .i64 i/\q'= .int .i64 (p^i)/\1<=p^i/\p^i<=256) (fun _ i'=>m.toNat-(intOf i').toNat)
  case atStart=>exact⟨0,ac,rfl,ag,ag,ag⟩
  case round=>
   obtain⟨i,hi,rfl,rfl,q1,q2⟩:=hrel;have HS:=Aa (Int.pow_succ p i);have HM:=Aa (show i<m.toNat->p^(i+1)<=p^m.toNat from fun h=>Jm h1 h);have q3:p^i*p<=65536:=by
    have:=Int.mul_le_mul q2 h2 ac ac;omega
   have q4:1<=p^i*p:=by
    exact zcR
   by_cases hlt:(i:Int)<m
   .by_cases hq:256<p^i*p
    .have HB:=HM.o ac;rw[HS.o]at HB;have HN:=Aa (show ¬p^m.toNat<=256 by omega);clear HB HM;generalize p^i=y at *
     go_wp2
     go_ret;exact⟨Af (by rw[HO.o,if_neg (by have:=HN.o;omega)]),rfl⟩
    .have HE:=Aa (show p^(i+1)=p^i*p from HS.o);clear HM HS;exact zbs
   .have aA:i=m.toNat:=by omega
    have HN:=Aa (show p^m.toNat=p^i by rw[aA]);clear HM HS;generalize p^i=y at *
    go_wp2
    go_ret;exact⟨Af (by rw[HO.o,HN.o,if_pos q2]),rfl⟩
 .have HO:=Aa (show CG p m=0 by
   unfold CG;rw[if_neg];rintro⟨h1,h2,h3,h4⟩;have:=ZJ h1 (show 1<=m.toNat by omega);exact h ⟨h1,ac,h2,h3⟩)
  have c:p<2∨(2<=p/\256<p)∨(2<=p/\p<=256/\m<1)∨(2<=p/\p<=256/\1<=m/\8<m):=ac;clear h;rcases c with c|⟨c1,c2⟩|⟨c1,c2,c3⟩|⟨c1,c2,c3,c4⟩
  all_goals
   go_enter Tryz.func112,Tryz.ntmps112
   go_wp2
   go_ret;exact⟨Af HO.o.symm,rfl⟩
def Jl(n:Nat):Bool:=decide (2<=n/\∀d,d<n->2<=d->n%d≠0)
theorem prB_no{n d:Nat}(h2:2<=d)(h:d*d<=n)(hd:n%d=0):Jl n=false:=by
 unfold Jl;rw[decide_eq_false_iff_not];rintro⟨h1,h3⟩;have h4:d<n:=by
  have:=Nat.mul_le_mul_right d h2;omega
 exact h3 d h4 h2 hd
theorem Zs{n k:Nat}(hn:2<=n)(hk:n<k*k)(h:∀d,2<=d->d<k->n%d≠0):Jl n=true:=by
 unfold Jl;rw[decide_eq_true_iff];refine⟨hn,fun d h1 h2 h3=>?_⟩;rcases Nat.lt_or_ge d k with h4|h4
 .exact h d h2 h4 h3
 .have h5:=Nat.div_mul_cancel (Nat.dvd_of_mod_eq_zero h3);have h6:n/d<k:=by
   rcases Nat.lt_or_ge (n/d) k with h7|h7
   .exact h7
   .have:=Nat.mul_le_mul h7 h4;omega
  have h7:2<=n/d:=by
   generalize n/d=q at *;rcases Nat.lt_or_ge q 2 with h8|h8
   .have h9:q=0∨q=1:=by omega
    rcases h9 with e|e <;> rw[e]at h5 <;> omega
   .exact h8
  exact h (n/d) h7 h6 (Nat.mod_eq_zero_of_dvd ⟨d,h5.symm⟩)
theorem zbS{P:Prop}(h:P:=by
 go_wp2
 go_round
 case rel=>exact⟨d+1,by omega,by omega,by go_num,HA⟩
 case measure=>simp[intOf];omega):P:=h
theorem zdc{P:Prop}(h:P:=by
 go_wp2
 go_ret;exact⟨Aq HR.o.symm,rfl⟩):P:=h
theorem Qm(n:Nat)(w:World)(h1:2<=n)(h2:n<=256):
  Calls Tryz.prog 164 #[n] w fun r w'=>r= .returned (.bool (Jl n))/\w=w':=by
 go_enter Tryz.func164,Tryz.ntmps164
 go_wp2
 go_loop [3] (fun d'=>∃d:Nat,2<=d/\d<=17/\d'= .int .i64 d/\Hia (∀c,2<=c->c<d->n%c≠0)) (fun d'=>17-(intOf d').toNat)
 case atStart=>exact⟨2,ac,ac,rfl,Aa (fun c a b=>ac)⟩
 case round=>
  obtain⟨d,d1,d2,rfl,aA⟩:=hrel;have aB:(d:Int)*d=((d*d:Nat):Int):=ag;have q1:d*d<=289:=Nat.mul_le_mul d2 d2;have q2:17*17<=d*d∨d<17:=by
   rcases Nat.lt_or_ge d 17 with h|h
   .exact .inr h
   .exact .inl (Nat.mul_le_mul h h)
  by_cases hlt:d*d<=n
  .have aD:=Aa (fun h=>prB_no d1 hlt h);have q3:0<=(d:Int)*d:=by omega
   have q4:(d:Int)*d<=289:=ac;have q5:(d:Int)*d<=n:=ac;by_cases hd:n%d=0
   .have aC:((n:Int)%(d:Int)==0)=true:=by simp;omega
    have HR:=Aa (aD.o hd);clear hd aB;exact zdc
   .have aC:((n:Int)%(d:Int)==0)=false:=by simp;omega
    have HA:=Aa (show ∀c,2<=c->c<d+1->n%c≠0 from fun c a b=>by
     by_cases e:c=d
     .subst e;exact hd
     .exact aA.o c a ac)
    clear hd aB;exact zbS
  .have HR:=Aa (Zs h1 ac aA.o);have q3:0<=(d:Int)*d:=by omega
   have q4:(d:Int)*d<=289:=ac;have q5:(n:Int)<(d:Int)*d:=ac;clear aB
   go_wp2
   go_ret;exact⟨Aq (by rw[HR.o];simp;omega),rfl⟩
theorem zag{P:Prop}(h:P:=by
 have hf:=aA.frz k;have hc:=aA.cell hlt;have HO:=Aa (aA.set k (.int .i64 ((y:Int)%(p:Int))));have HE:=Aa (aA.exSet (by rw[HG.o];exact Nat.le_refl _) aD k (.int .i64 ((y:Int)%(p:Int))));clear aA aD;go_wp2_with fail
 go_roundw
 case rel=>
  refine⟨k+1,by omega,by go_num,by rw[HS.o,It _ _ (by omega)],?_,HE.o⟩;have:=HO.o;rw[CD]at this;refine this.icongr fun j hj=>?_;unfold Ay;dsimp only;by_cases h:j=k
  .subst h;rw[if_pos rfl,if_pos (by omega),HD.o hlt];simp
  .rw[if_neg h];by_cases h2:j<k
   .rw[if_pos h2,if_pos (by omega)]
   .rw[if_neg h2,if_neg (by omega)]
 case measure=>simp[intOf];omega):P:=h
theorem OY(x p m:Nat)(w:World)(hx:x<=65536)(hp:1<=p)(hp':p<=256)(hm:m<=256):
  Calls Tryz.prog 205 #[x,p,m] w fun r w'=>∃v,r= .returned v/\Aj w' v (il m (AK p m x))/\Ex w w':=by
 go_enter Tryz.func205,Tryz.ntmps205
 go_wp2_with (at_make;refine Ar _ rfl _ _ 22 rfl 3 (.int .i64 0) 8 Tryz.underlying22 Az rfl _ m rfl rfl rfl ac ai ?_)
 intro w1 aA aD;have aE:w.heap.size<=w.heap.size:=Nat.le_refl _;have HB:=Aa aE;clear aE;obtain⟨g,hg⟩:=nA w.heap.size;have aB:AF w1 g 3 g m (iv fun j=>if j<0 then AK p m x j else 0):=by
  rw[hg]at aA;exact aA.congr fun j _=>by simp[iv]
 have HG:=Aa hg;simp only[hg];clear aA hg;go_wp2_with fail
 go_loopw [0,8,13] (fun x' _ k' wr=>∃k:Nat,k<=m/\k'= .int .i64 k/\x'= .int .i64 ((x/p^k:Nat):Int)/\AF wr g 3 g m (iv fun j=>if j<k then AK p m x j else 0)/\Ex w wr) (fun _ _ k' _=>m-(intOf k').toNat)
 case atStart=>exact⟨0,ac,rfl,ag,aB,aD⟩
 case round=>
  clear aB aD;obtain⟨k,hk,rfl,rfl,aA,aD⟩:=hrel;have hxk:x/p^k<=65536:=Nat.le_trans (Nat.div_le_self _ _) hx;have HS:=Aa (show x/p^(k+1)=x/p^k/p by rw[Nat.pow_succ,Nat.div_div_eq_div_mul]);have HD:=Aa (show k<m->AK p m x k=((x/p^k%p:Nat):Int) from fun h=>by unfold AK;rw[if_pos h]);generalize x/p^k=y at *;by_cases hlt:k<m
  .exact zag
  .obtain rfl:k=m:=by omega
   have aC:AF wr g 3 g k (iv (AK p k x)):=aA.icongr fun j hj=>by rw[if_pos hj]
   have HO:=Aa aC.isl;clear aA aC HD HS;go_wp2_with fail
   go_ret;exact⟨_,rfl,HO.o,aD⟩
def vl(p:Nat):List Int->Int
 | []=>0
 | a :: l=>vl p l*p+a
theorem codGo(p:Nat)(l:List Int)(k:Nat)(x:Int)(h:l[k]?=some x):vl p (l.drop k)=vl p (l.drop (k+1))*(p:Int)+x:=by
 obtain⟨hk,rfl⟩:=List.getElem?_eq_some_iff.1 h;rw[List.drop_eq_getElem_cons hk];rfl
theorem Rc{p:Nat}(hp:1<=p):∀(l:List Int),(∀x∈l,0<=x/\x<p)->0<=vl p l/\vl p l<((p^l.length:Nat):Int)
 | [],_=>by simp[vl]
 | x :: l,h=>by
  obtain⟨h1,h2⟩:=Rc hp l fun y hy=>h y (List.mem_cons_of_mem _ hy);obtain⟨h3,h4⟩:=h x (List.mem_cons_self ..);show 0<=vl p l*p+x/\vl p l*p+x<_
  have h5:0<=vl p l*p:=Int.mul_nonneg h1 ac;have h6:(vl p l+1)*(p:Int)<=((p^l.length:Nat):Int)*p:=Int.mul_le_mul_of_nonneg_right ac ac;rw[List.length_cons,Nat.pow_succ,Int.natCast_mul];rw[Int.add_mul]at h6;omega
theorem Pp(p:Nat):∀(m:Nat) (f:Nat->Int),vl p (il m f)=EJ p m f
 | 0,f=>by simp[il,vl,EJ]
 | m+1,f=>by
  have aA:∀(l:List Int) (x:Int),vl p (l ++ [x])=vl p l+x*((p^l.length:Nat):Int):=by
   intro l
   induction l with
   | nil=>intro x;simp[vl]
   | cons a l ih=>
    intro x;show vl p (l ++ [x])*p+a=vl p l*p+a+_
    rw[ih,List.length_cons,Nat.pow_succ,Int.natCast_mul,Int.add_mul,Int.mul_assoc];omega
  simp only[EJ];rw[show il (m+1) f=il m f ++ [f m] by simp[il,List.range_succ],aA,Pp p m f,Ao]
theorem zc3{P:Prop}(h:P:=by
 go_wp2_with fail
 go_ret;exact⟨Af HF.o.symm,rfl⟩):P:=h
theorem Pq(l:List Int)(v:Value)(p:Nat)(w:World)(hl:Aj w v l)(hp:1<=p)(hp':p<=256)(hb:∀x∈l,0<=x/\x<p)(hq:p^l.length<=65536):
  Calls Tryz.prog 206 #[v,p] w fun r w'=>r= .returned (.int .i64 (vl p l))/\w=w':=by
 obtain⟨a,cap,rfl,s1,s2,s3⟩:=hl.open;unfold maxLen at s2;have S3:=Aa s3;have HV:=Aa (show vl p l=vl p (l.drop 0) from rfl);have HR:=Aa (show ∀k,0<=vl p (l.drop k)/\vl p (l.drop k)*(p:Int)<=16777216/\vl p (l.drop k)<=65536 from fun k=>by
  obtain⟨h1,h2⟩:=Rc hp (l.drop k) fun x hx=>hb x (List.mem_of_mem_drop hx);have h3:p^(l.drop k).length<=p^l.length:=Nat.pow_le_pow_right hp (by rw[List.length_drop];omega);have h4:=Int.mul_le_mul (show vl p (l.drop k)<=65536 by omega) (show(p:Int)<=256 by omega) ac ac;exact⟨h1,h4,by
    have:vl p (l.drop k)<=65536:=ac;exact this⟩)
 have HX:=Aa (show ∀(k:Nat) (x:Int),l[k]?=some x->0<=x/\x<=256 from fun k x h=>by have:=hb x (List.mem_of_getElem? h);omega);have HN:=Aa (show vl p (l.drop l.length)=0 by rw[List.drop_length];rfl);clear hl s3 hb hq;go_enter Tryz.func206,Tryz.ntmps206
 go_wp2_with fail
 go_loop [5,6] (fun x' i'=>∃k:Nat,k<=l.length/\i'= .int .i64 ((k:Int)-1)/\x'= .int .i64 (vl p (l.drop k))) (fun _ i'=>(intOf i'+1).toNat)
 case atStart=>exact⟨l.length,ac,rfl,by rw[HN.o]⟩
 case round=>
  obtain⟨k,hk,rfl,rfl⟩:=hrel;obtain⟨r1,r2,r3⟩:=HR.o k;rcases k with _|k
  .have HF:=Aa HV.o;generalize vl p (l.drop 0)=y at *;exact zc3
  .have r0:0<=vl p (l.drop (k+1))*(p:Int):=Int.mul_nonneg r1 ac;obtain⟨x,hx⟩:∃x,l[k]?=some x:=⟨_,List.getElem?_eq_getElem ac⟩;obtain⟨b,o,rfl,hc⟩:=S3.o ac;have c1:=hc k x hx;obtain⟨x1,x2⟩:=HX.o k x hx;have HG:=Aa (codGo p l k x hx);have e:(((k+1:Nat)):Int)-1=k:=by omega
   rw[e];clear hc hx e;generalize vl p (l.drop (k+1))=y at *;go_wp2_with fail
   go_round
   case rel=>exact⟨k,ac,rfl,by rw[HG.o]⟩
   case measure=>simp[intOf]
structure Hh(p m:Nat)(ml:List Int):Prop where
 p2:2<=p
 m1:1<=m
 m8:m<=8
 q:p^m<=256
 len:ml.length=if m=1 then 0 else m
 rng:∀x∈ml,0<=x/\x<p
def lw(ml:List Int):Vc:=fun j=>ml.getD j 0
theorem Hh.p256{p m:Nat}{ml:List Int}(h:Hh p m ml):p<=256:=by
 have h1:p^1<=p^m:=Nat.pow_le_pow_right (by have:=h.p2;omega) h.m1;have:=h.q;rw[Nat.pow_one]at h1;omega
def BC(p m:Nat)(low x y:Vc)(k:Nat):Vc:=fun j=>DX m low x (m-k) (fun t=>y (k+t)) j%(p:Int)
theorem ZW(p m:Nat)(low x y:Vc)(j:Nat):BC p m low x y m j=0:=by
 unfold BC;rw[Nat.sub_self];simp[DX]
theorem ZX{p:Nat}(hp:1<=p)(m:Nat)(low x y:Vc)(k j:Nat):0<=BC p m low x y k j/\BC p m low x y k j<p:=
 ⟨Int.emod_nonneg _ ac,Int.emod_lt_of_pos _ ac⟩
theorem Xh{p m:Nat}(low x y:Vc){k j:Nat}(hk:k<m)(hj:j<m):
  BC p m low x y k j=((if j=0 then 0 else BC p m low x y (k+1) (j-1))+((p:Int)-BC p m low x y (k+1) (m-1))*low j+y k*x j)%(p:Int):=by
 unfold BC;rw[show m-k=(m-(k+1))+1 by omega,DX];have e:(fun t=>y (k+(t+1)))=fun t=>y (k+1+t):=by funext t;rw[show k+(t+1)=k+1+t by omega]
 rw[e];generalize DX m low x (m-(k+1)) (fun t=>y (k+1+t))=H;unfold sX;show((if j<m then(if j=0 then 0 else H (j-1))-H (m-1)*low j else 0)+y (k+0)*x j)%(p:Int)=_
 rw[if_pos hj,Nat.add_zero];refine ED ?_ rfl;have h1:((if j=0 then 0 else H (j-1))-H (m-1)*low j)%(p:Int)=((if j=0 then 0 else H (j-1))+((p:Int)-H (m-1))*low j)%(p:Int):=by
  refine Cy.2 ⟨- low j,?_⟩;generalize (if j=0 then 0 else H (j-1))=z
  grind
 rw[h1];refine ED ?_ (F9 (IP rfl (Int.emod_emod_of_dvd _ (Int.dvd_refl _)).symm) rfl);split
 .rfl
 .exact(Int.emod_emod_of_dvd _ (Int.dvd_refl _)).symm
theorem ZY{p:Nat}(hp:1<=p)(m:Nat)(low:Vc)(x y:Nat):EJ p m (BC p m low (AK p m x) (AK p m y) 0)=((Al p m low x y:Nat):Int):=by
 unfold Al rep Fn;rw[Int.toNat_of_nonneg (Di (fun j=>⟨Int.emod_nonneg _ ac,Int.emod_lt_of_pos _ ac⟩) m).1];refine DY m fun j _=>?_;unfold BC;rw[Nat.sub_zero,OJ];simp only[Nat.zero_add]
def Za(o:Nat->Int):Nat->Int:=fun j=>if j=0 then 0 else o (j-1)
theorem N0(n:Nat)(o:Nat->Int):splice (vs (n+1) (iv o)) 1 (vs n (iv o))=vs (n+1) (iv fun j=>if j=0 then o 0 else o (j-1)):=by
 unfold splice;apply List.ext_getElem?;intro j;rcases j with _|j
 .simp[vs,iv,List.range_succ_eq_map]
 .by_cases hj:j<n
  .simp[vs,iv,hj,List.getElem?_append]
  .simp[vs,iv,hj,List.getElem?_append];omega
theorem zaG{P:Prop}(h:P:=by
 rw[if_neg h1];by_cases h2:t<j
 .rw[if_pos h2,if_pos (by omega)]
 .rw[if_neg h2,if_neg (by omega)]):P:=h
theorem br{P:Prop}(h:P:=by rfl):P:=h
theorem bu{P:Prop}(h:P:=by omega):P:=h
theorem cq{P:Prop}(h:P:=by rw[<-aE];simp):P:=h
theorem IF(p m x y:Nat)(ml:List Int)(mv:Value)(w:World)(hf:Hh p m ml)(aU:Aj w mv ml)(hx:x<p^m)(hy:y<p^m):
  Calls Tryz.prog 166 #[.agg #[p,m,mv],x,y] w fun r w'=>r= .returned (.int .i64 (Al p m (lw ml) x y))/\Ex w w':=by
 obtain⟨p2,m1,m8,q,aL,aK⟩:=hf;have p256:=Hh.p256 ⟨p2,m1,m8,q,aL,aK⟩;obtain⟨xb,aE⟩:=nA w.heap.size;have HX:=Aa aE;go_enter Tryz.func166,Tryz.ntmps166
 go_wp2_with fail
 try simp only[aE]
 have d0:(w.alloc (.cells #[p,m,mv] 24)).cell? (xb,0)=some (.int .i64 p):=cq;have d1:(w.alloc (.cells #[p,m,mv] 24)).cell? (xb,1)=some (.int .i64 m):=cq;have d2:(w.alloc (.cells #[p,m,mv] 24)).cell? (xb,2)=some mv:=cq;have e0:Ex w (w.alloc (.cells #[p,m,mv] 24)):=(Ex.refl _).alloc _;generalize w.alloc (.cells #[p,m,mv] 24)=w1 at *;clear aE
 go_region_held3 (fun w'=>w'.cell? (xb,0)=some (.int .i64 p)/\w'.cell? (xb,1)=some (.int .i64 m)/\w'.cell? (xb,2)=some mv/\Ex w w')
  (first|exact⟨d0,d1,d2,e0.drew⟩|exact⟨hx1.cell d0,hx1.cell d1,hx1.cell d2,e0.drew.trans hx1⟩|(obtain⟨k0,k1,k2,k3⟩:=‹_/\_/\_/\Ex w _›;exact⟨hx1.cell k0,hx1.cell k1,hx1.cell k2,k3.trans hx1⟩))
  ((go_at_call 205;refine(OY _ _ _ _ ac ac ac ac).mono ?_;rintro e w2⟨v,rfl,hs,hx1⟩))
 have aT:=‹Aj _ _ (il m (AK p m x))›.ex hx1;have aS:=hs;obtain⟨k0,k1,k2,k3⟩:=‹_/\_/\_/\Ex w _›;clear d0 d1 d2 e0 hx1;obtain⟨aa,ca,rfl,a1,a2,a3⟩:=aT.open;obtain⟨ab,cb,rfl,b1,b2,b3⟩:=aS.open;have aF:=aU.ex k3;obtain⟨am,cm,rfl,c1,c2,c3⟩:=aF.open;simp only[Ao]at *;obtain⟨aab,aao,rfl,a4⟩:=a3 ac;obtain⟨abb,abo,rfl,b4⟩:=b3 ac;obtain⟨A4,B4,C3,aW⟩:=Eq (fun j (hj:j<m)=>a4 j _ (AQ hj _)) (fun j (hj:j<m)=>b4 j _ (AQ hj _)) c3 aL;unfold maxLen at a2 b2 c2;have bU:=Aa (show ∀j,0<=lw ml j/\lw ml j<p from fun j=>by
  unfold lw;rw[List.getD_eq_getElem?_getD];rcases h:ml[j]? with _|z
  .simp;omega
  .exact aK z (List.mem_of_getElem? h))
 have bN:=Aa (DF (show 1<=p by omega) m x);have bM:=Aa (DF (show 1<=p by omega) m y);clear a3 b3 c3 a4 b4 aT aS aF aU aK aL;go_wp2_with (at_make;refine Ar _ rfl _ _ 22 rfl 3 (.int .i64 0) 8 Tryz.underlying22 Az rfl _ m rfl rfl rfl ac ai ?_)
 intro w4 aA aH;obtain⟨g,hg⟩:=nA w2.heap.size;have aC:AF w4 g 3 g m (iv (BC p m (lw ml) (AK p m x) (AK p m y) m)):=by
  rw[hg]at aA;exact aA.congr fun j _=>by unfold iv;rw[ZW]
 obtain⟨HG,bV,bW,bP,aN⟩:=Of hg (fun (wr:World) (h:AF wr g 3 g m (iv (BC p m (lw ml) (AK p m x) (AK p m y) 0)))=>h.isl) (ZY (show 1<=p by omega) m (lw ml) x y) (fun k j (hk:k<m) (hj:j<m)=>Xh (p:=p) (lw ml) (AK p m x) (AK p m y) hk hj) (fun k j=>ZX (show 1<=p by omega) m (lw ml) (AK p m x) (AK p m y) k j);have bK:xb<g:=by rw[<-hg];exact World.block_lt_of_cell? _ _ k0
 simp only[hg];clear aA hg;generalize BC p m (lw ml) (AK p m x) (AK p m y)=H at *;have q0:=aH.cell k0;have q1:=aH.cell k1;go_wp2_with fail
 clear q0 q1
 go_loopw [10] (fun i' wr=>∃k:Nat,k<=m/\i'= .int .i64 ((k:Int)-1)/\AF wr g 3 g m (iv (H k))/\Ex w2 wr) (fun i' _=>(intOf i'+1).toNat)
 case atStart=>exact⟨m,ac,rfl,aC,aH⟩
 case round=>
  clear aC aH;obtain⟨k,hk,rfl,aA,aD⟩:=hrel;have r0:=aD.cell k0;have r1:=aD.cell k1;have r2:=aD.cell k2;rcases k with _|k
  .have aR:=bV.o _ aA;have HQ:=Aa aR;have bR:=Aa (show ∀z∈il m (H 0),0<=z/\z<p from fun z hz=>by
    obtain⟨j,_,rfl⟩:=List.mem_map.1 hz;exact aN.o 0 j)
   have bS:=Aa (show p^(il m (H 0)).length<=65536 by rw[Ao];omega);have bO:=Aa (show vl p (il m (H 0))=((Al p m (lw ml) x y:Nat):Int) by rw[Pp];exact bW.o);clear aR aA;go_wp2_with fail
   refine(Pq _ _ _ _ HQ.o ac ac bR.o bS.o).mono ?_;rintro e w9⟨rfl,rfl⟩;go_wp2_with fail
   go_ret;exact⟨Af bO.o,k3.trans aD⟩
  .have aV:=aA.cell (show m-1<m by omega);have bL:wr.cell? (g,m-1)=some (.int .i64 (H (k+1) (m-1))):=aV;have e:(((k+1:Nat)):Int)-1=k:=by omega
   rw[e];clear aV e;have aQ:Below g w2 wr:=by rw[<-HG.o];exact aD
   obtain⟨bG,HO,aM,aX⟩:=Eq (show m=(m-1)+1 by omega) aA aD aQ;clear aA aD aQ;go_wp2_with fail
   have i1:(1:Int)<=(m:Int):=ac;have i3:(0:Int)<=(m:Int)-1:=ac;have i4:(m:Int)-1<=(m:Int):=ac;have i5:((m:Int)-1).toNat=m-1:=ac;have i7:IntKind.i64.wrap ((m:Int)-1)=(m:Int)-1:=IntWalk.i64_in _ ac;have HP:=Aa (show wr.drew.heap[g]?=some (.cells (vs m (iv (H (k+1)))).toArray 3 (0,0)) from HO.o.drew.heap);have HQ:=Aa (show ∀(j:Nat) (v:Value),(vs (m-1) (iv (H (k+1))))[j]?=some v->wr.drew.cell? ((⟨g,0,none⟩:Addr).add j)=some v from fun j v h=>by
    have hj:j<m-1:=by have:=(List.getElem?_eq_some_iff.1 h).1;rwa[Bm]at this
    rw[Dj hj]at h;injection h with h;have h2:(⟨g,0,none⟩:Addr).add j=⟨g,j,none⟩:=dh;rw[h2,<-h];exact HO.o.drew.cell ac)
   have HN:=Aa (show(vs (m-1) (iv (H (k+1)))).length=Nat.min (m-1) (m-1) by rw[Bm];exact(Nat.min_self _).symm);have bF:=Aa (show 0<(vs (m-1) (iv (H (k+1)))).length->¬m=1 by rw[Bm];omega);have HF:=Aa (show 1+(vs (m-1) (iv (H (k+1)))).length<=(vs m (iv (H (k+1)))).length by rw[Bm,Bm];omega);have bE:=Aa (show ∀v∈vs (m-1) (iv (H (k+1))),v.oneCell'=true from fun v h=>by
    obtain⟨j,_,rfl⟩:=List.mem_map.1 h;rfl)
   have bH:=Aa (show Below g w2 wr.drew from Below.drew aX.o)
   go_region_law ((go_loud (refine step_copy_splice br _ _ _ _ br 3 Tryz.underlying22 ah _ _ _ _ _ _ br br g 1 (vs m (iv (H (k+1)))) 3 HP.o (vs (m-1) (iv (H (k+1)))) HN.o (fun h=>⟨if_neg (bF.o h),_,rfl,HQ.o⟩) HF.o bE.o g w2 bH.o (Nat.le_refl _) ?_);intro w5 hw5 hb5))
   all_goals
    generalize (if m=1 then some (⟨g,0,none⟩:Addr) else some ⟨g,1,none⟩)=sd;clear i1 i3 i4 i5 i7 HP HQ HF bE bH bF HN aX;have aG:Hia (AF w5 g 3 g m (iv fun j=>if j=0 then H (k+1) 0 else H (k+1) (j-1))):=by
     apply Aa;refine AF.of_heap ?_ (Nat.le_refl _) ai;have h:=hw5.out;rw[bG.o,Nat.add_sub_cancel,N0]at h;rw[bG.o];exact h
    have bA:Hia (Ex w2 w5):=Aa (by rw[<-HG.o]at hb5;exact hb5);clear hw5 hb5;have bD:=Aa (aG.o.set 0 (.int .i64 0));have aZ:=Aa (aG.o.exSet (by rw[HG.o];exact Nat.le_refl _) bA.o 0 (.int .i64 0));have f5:=aG.o.frz 0;have m0:0<m:=by omega
    have m0':(0:Int)<(m:Int):=ac;have c5:=aG.o.cell (show 0<m by omega);clear r0 r1 r2 HO aM bL;go_wp2_with fail
    generalize w5.setCell (g,0) (.int .i64 0)=w6 at *;have bC:Hia (AF w6 g 3 g m (iv fun t=>if t<0 then H k t else Za (H (k+1)) t)):=by
     apply Aa;have:=bD.o;rw[CD]at this;refine this.icongr fun j hj=>?_;unfold Ay Za;rw[if_neg (show ¬j<0 by omega)];by_cases h:j=0
     .rw[if_pos h,if_pos h]
     .rw[if_neg h,if_neg h];exact if_neg h
    clear aG bA bD f5 c5
    go_loopw [12,13,54] (fun _ _ j' wz=>∃j:Nat,j<=m/\j'= .int .i64 j/\Hia (AF wz g 3 g m (iv fun t=>if t<j then H k t else Za (H (k+1)) t))/\Ex w2 wz) (fun _ _ j' _=>m-(intOf j').toNat)
    case atStart=>exact⟨0,ac,rfl,bC,aZ.o⟩
    case round=>
     clear bC aZ;obtain⟨j,hj,rfl,HO,aB⟩:=hrel;have r0:=aB.cell k0;have r1:=aB.cell k1;have r2:=aB.cell k2;by_cases hlt:j<m
     .have hoj:wr.cell? (g,j)=some (.int .i64 (Za (H (k+1)) j)):=by
       have h:=HO.o.cell hlt;rw[h];unfold iv;simp
      have hfj:=HO.o.frz j;have ha:=aB.cell (A4.o j hlt);have hb:=aB.cell (B4.o k ac);have BC:=bP.o k j ac hlt;have HS:Hia ((Za (H (k+1)) j+((p:Int)-H (k+1) (m-1))*lw ml j+AK p m y k*AK p m x j)%(p:Int)=H k j):=Aa (by rw[BC];rfl);obtain⟨t1,t2⟩:=aN.o (k+1) (m-1);obtain⟨l1,l2⟩:=bU.o j;obtain⟨u1,u2⟩:=bN.o j;obtain⟨v1,v2⟩:=bM.o k;have bJ:0<=Za (H (k+1)) j/\Za (H (k+1)) j<p:=by
       unfold Za;split
       .omega
       .exact aN.o _ _
      obtain⟨s1,s2⟩:=bJ;have bB:=Aa (fun z=>HO.o.set j (.int .i64 z));have aY:=Aa (fun z=>HO.o.exSet (by rw[HG.o];exact Nat.le_refl _) aB j (.int .i64 z));have aO:=Aa (show ¬1<m->lw ml j=0 from fun h=>by
       unfold lw;have hl:=aW.o;rw[if_pos ac]at hl;rw[List.eq_nil_of_length_eq_zero hl];rfl)
      have aP:=Aa (show 1<m->∃b o,am=some ⟨b,o,none⟩/\wr.cell? ⟨b,o+j,none⟩=some (.int .i64 (lw ml j))/\j<ml.length from fun h=>by
       have hl:=aW.o;rw[if_neg ac]at hl;obtain⟨b,o,e,hc⟩:=C3.o ac;refine⟨b,o,e,aB.cell (hc j _ ?_),ac⟩;unfold lw;rw[List.getD_eq_getElem?_getD,List.getElem?_eq_getElem ac];rfl)
      generalize Za (H (k+1)) j=sj at *;generalize H (k+1) (m-1)=tp at *;generalize lw ml j=lj at *;generalize AK p m x j=xj at *;generalize AK p m y k=yk at *;have p1:0<=((p:Int)-tp)*lj:=Int.mul_nonneg ac l1;have p3:((p:Int)-tp)*lj<=65536:=by
       have:=Int.mul_le_mul (show(p:Int)-tp<=256 by omega) (show lj<=256 by omega) l1 ac;omega
      have p4:0<=yk*xj:=Int.mul_nonneg v1 u1;have p5:yk*xj<=65536:=by
       have:=Int.mul_le_mul (show yk<=256 by omega) (show xj<=256 by omega) u1 ac;omega
      have hkm:k<m:=ac;clear BC hk bK;by_cases hm1:1<m
      .obtain⟨bb,oo,rfl,hcm,hjl⟩:=aP.o hm1;clear aP aO;go_wp2_with fail
       have w1:IntKind.i64.wrap ((p:Int)-tp)=(p:Int)-tp:=IntWalk.i64_in _ ac;have bI:IntKind.i64.wrap (((p:Int)-tp)*lj)=((p:Int)-tp)*lj:=IntWalk.i64_in _ ac;have w3:IntKind.i64.wrap (sj+((p:Int)-tp)*lj)=sj+((p:Int)-tp)*lj:=IntWalk.i64_in _ ac;have aJ:IntKind.i64.wrap (yk*xj)=yk*xj:=IntWalk.i64_in _ ac;have aI:IntKind.i64.wrap (sj+((p:Int)-tp)*lj+yk*xj)=sj+((p:Int)-tp)*lj+yk*xj:=IntWalk.i64_in _ ac;have w6:(sj+((p:Int)-tp)*lj+yk*xj).tmod (p:Int)=(sj+((p:Int)-tp)*lj+yk*xj)%(p:Int):=Int.tmod_eq_emod_of_nonneg ac;have p0:¬p=0:=bu
       go_still_tail 27,ah
       change wpList _ _ _ _ _ wr.drew
       clear w1 bI w3 aJ aI w6;go_wp2_with fail
       go_roundw
       case rel=>
        refine⟨j+1,ac,by go_num,?_,(aY.o _).drew⟩;have h:=(bB.o ((sj+((p:Int)-tp)*lj+yk*xj)%(p:Int))).drew;rw[CD]at h;refine Aa (h.icongr fun t ht=>?_);unfold Ay;dsimp only;by_cases h1:t=j
        .subst h1;rw[if_pos rfl,if_pos ac,HS.o]
        .exact zaG
       case measure=>simp[intOf];omega
      .obtain rfl:lj=0:=aO.o hm1;clear aP aO;have bQ:Hia ((sj+yk*xj)%(p:Int)=H k j):=Aa (by have:=HS.o;rwa[Int.mul_zero,Int.add_zero]at this);clear p1 p3;go_wp2_with fail
       have w1:IntKind.i64.wrap ((p:Int)-tp)=(p:Int)-tp:=IntWalk.i64_in _ ac;have w3:IntKind.i64.wrap sj=sj:=IntWalk.i64_in _ ac;have aJ:IntKind.i64.wrap (yk*xj)=yk*xj:=IntWalk.i64_in _ ac;have aI:IntKind.i64.wrap (sj+yk*xj)=sj+yk*xj:=IntWalk.i64_in _ ac;have w6:(sj+yk*xj).tmod (p:Int)=(sj+yk*xj)%(p:Int):=Int.tmod_eq_emod_of_nonneg ac;have p0:¬p=0:=bu
       go_still_tail 27,ah
       change wpList _ _ _ _ _ wr.drew
       clear w1 w3 aJ aI w6;go_wp2_with fail
       go_roundw
       case rel=>
        refine⟨j+1,ac,by go_num,?_,(aY.o _).drew⟩;have h:=(bB.o ((sj+yk*xj)%(p:Int))).drew;rw[CD]at h;refine Aa (h.icongr fun t ht=>?_);unfold Ay;dsimp only;by_cases h1:t=j
        .subst h1;rw[if_pos rfl,if_pos ac,bQ.o]
        .exact zaG
       case measure=>simp[intOf];omega
     .obtain rfl:j=m:=by omega
      have bT:=HO.o.icongr (h:=H k) fun t ht=>if_pos ht;clear HO;go_wp2_with fail
      go_roundw
      case rel=>exact⟨k,ac,rfl,bT,aB⟩
      case measure=>simp[intOf]
def Lf(p m:Nat)(ml:List Int)(x:Nat):Nat->Int:=fun k=>((BO p m (lw ml) x k:Nat):Int)
theorem TE(n:Nat)(f:Nat->Int):il (n+1) f=il n f ++ [f n]:=by simp[il,List.range_succ]
def JO(p m:Nat)(ml:List Int)(x k:Nat):Nat->Bool:=fun z=>decide (∃i,i<k/\BO p m (lw ml) x i=z)
theorem zcV{P:Prop}(h:P:=by
 go_wp2_with fail
 go_ret;exact⟨_,k,rfl,aI.o,aH.o,e0.trans aF⟩):P:=h
theorem ae{P:Prop}(h:P:=by decide):P:=h
theorem aj{P:Prop}(h:P:=by simp[Value.oneCell']):P:=h
theorem RF(p m x:Nat)(ml:List Int)(mv:Value)(w:World)(hf:Hh p m ml)(bD:Aj w mv ml)(hx:x<p^m):
  Calls Tryz.prog 165 #[.agg #[p,m,mv],((p^m:Nat):Int),x] w fun r w'=>∃v L,r= .returned v/\Mr p m (lw ml) x L/\Aj w' v (il L (Lf p m ml x))/\Ex w w':=by
 have hp:=hf.p2;have hm:=hf.m1;have HF:=Aa hf;have bU:=Aa bD;have hq:=hf.q;have bA:1<p^m:=Bw hp hm;obtain⟨HL,HM,bR,bL,bP⟩:=Of (fun k=>Dn (low:=lw ml) hp hm x k) (fun (y:Nat) (w':World) (h:y<p^m) (h':Aj w' mv ml)=>IF p m y x ml mv w' hf h' h hx) (JB.one (low:=lw ml) hp hm x) (fun k (h:JB p m (lw ml) x k)=>h.len hp hm) (show BO p m (lw ml) x 1=x by simp only[BO];exact Cr hp hm hx);clear hf bD hm;obtain⟨q,aT⟩:=nA (p^m);simp only[aT]at hq bA HL HM bL hx ⊢;have HQ:=Aa aT;clear aT;obtain⟨xb,aX⟩:=nA w.heap.size;have aP:=Aa aX;go_enter Tryz.func165,Tryz.ntmps165
 go_wp2_with (at_make;refine Ar _ rfl _ _ 168 rfl 4 (.bool false) 1 Tryz.underlying168 LO rfl _ q rfl rfl rfl ac ai ?_)
 intro w3 aL aS;clear aX;have d0:(w.alloc (.cells #[p,m,mv] 24)).cell? (xb,0)=some (.int .i64 p):=by rw[<-aP.o];simp
 have d1:(w.alloc (.cells #[p,m,mv] 24)).cell? (xb,1)=some (.int .i64 m):=by rw[<-aP.o];simp
 have d2:(w.alloc (.cells #[p,m,mv] 24)).cell? (xb,2)=some mv:=by rw[<-aP.o];simp
 have d3:(w.alloc (.cells #[p,m,mv] 24)).heap.size=xb+1:=by rw[<-aP.o];simp
 have e0:Ex w (w.alloc (.cells #[p,m,mv] 24)):=(Ex.refl _).alloc _;generalize w.alloc (.cells #[p,m,mv] 24)=w1 at *;have o1:(w1.alloc (.cells #[(1:Int)] 3)).ownsRow (xb+1) 3 1 (.slice (some (xb+1,0)) 1 1) 1 (vs 1 (iv (Lf p m ml x))):=by
  have:=Fy w1 (.int .i64 1) 3;rw[d3]at this;exact this
 have e1:Ex w1 (w1.alloc (.cells #[(1:Int)] 3)):=(Ex.refl _).alloc _;have g2:(w1.alloc (.cells #[(1:Int)] 3)).heap.size=xb+2:=by simp[d3]
 generalize w1.alloc (.cells #[(1:Int)] 3)=w2 at *;have o2:=Ai o1 aS;have aA:AF w3 (xb+1) 4 (xb+1+1) q (bv fun _=>false):=aL.mono ac;have bE:Ex w1 w3:=e1.trans aS;have f1:=aA.frz 1;have c1:=aA.cell bA;have q1:(1:Int)<(q:Int):=bu;have bH:=Aa (aA.set 1 (.bool true));have bN:=Aa (aA.exSet (a:=w1) ac bE 1 (.bool true));have bK:=Aa (Ac o2 (a:=(xb+1+1,1)) (by simp[Value.ownBlock]) (.bool true));clear aL aS o1 g2 o2 aA bE e1 w2;go_wp2_with fail
 generalize w3.setCell (xb+1+1,1) (.bool true)=w4 at *;have aW:Hia (AF w4 (xb+1) 4 (xb+1+1) q (bv (JO p m ml x 1))):=Aa (by
  have:=bH.o;rw[Su]at this;refine this.bcongr fun j hj=>?_;unfold Ay JO;rw[Bool.eq_iff_iff];by_cases h:j=1
  .subst h;simp;rfl
  .simp[h];simp only[BO];exact fun e=>h e.symm)
 clear bH f1 c1 w3;obtain⟨g,hg⟩:=nA (xb+1+1);have HG:=Aa (show xb+1<g by omega);rw[hg]at aW
 try simp only[hg]
 have bM:Hia (Value.ownBlock (.slice (some (xb+1,0)) 1 1)≠some g):=Aa (by simp[Value.ownBlock];omega);clear hg
 go_loopw [7,9] (fun o' y' wr=>∃k:Nat,1<=k/\Hia (JB p m (lw ml) x k)/\y'= .int .i64 ((BO p m (lw ml) x k:Nat):Int)/\Hia (wr.ownsRow (xb+1) 3 1 o' k (vs k (iv (Lf p m ml x))))/\
  Hia (AF wr (xb+1) 4 g q (bv (JO p m ml x k)))/\Hia (o'.ownBlock≠some g)/\Ex w1 wr) (fun o' _ _=>q-lenV o')
 case atStart=>exact⟨1,ac,bR,by rw[bP.o],bK,aW,bM,bN.o⟩
 case round=>
  clear bK aW bM bN;obtain⟨k,aU,aN,rfl,aC,aB,bB,aF⟩:=hrel;have hkq:=bL.o k aN.o;have aD:=Qd aC.o;have r0:=aF.cell d0;have r1:=aF.cell d1;have r2:=aF.cell d2;have aQ:=HL.o k;obtain⟨oa,aJ,ho,ho2,ho3⟩:=Fx aC.o aU;subst ho;have HY:=Aa (show BO p m (lw ml) x (k+1)=Al p m (lw ml) (BO p m (lw ml) x k) x from rfl);obtain⟨y,hy⟩:=nA (BO p m (lw ml) x k);have aG:=Aa hy;rw[hy]at aQ HY ⊢;by_cases h0:y=0
  .have aI:Hia (Mr p m (lw ml) x k):=Aa ⟨aU,by have:=HQ.o;omega,aN.o,.inl (by rw[aG.o];exact h0)⟩;have hb:((y:Int) !=0)=false:=by simp;omega
   have aH:=Aa (show Aj wr (.slice (some (oa,0)) k aJ) (il k (Lf p m ml x)) by
    unfold Aj;rw[Ao,Cw];exact Sl.own aC.o)
   clear h0 hy aD;exact zcV
  .have hb:((y:Int) !=0)=true:=by simp;omega
   have aO:=aB.o.cell aQ;have bO:=aB.o.frz y;by_cases hs:JO p m ml x k y=true
   .have aI:Hia (Mr p m (lw ml) x k):=Aa ⟨aU,by have:=HQ.o;omega,aN.o,.inr (by
     unfold JO at hs;obtain⟨i,hi,e⟩:=of_decide_eq_true hs;exact⟨i,hi,by rw[e,aG.o]⟩)⟩
    have aM:wr.cell? (g,y)=some (.bool true):=by rw[aO];unfold bv;rw[hs]
    have aH:=Aa (show Aj wr (.slice (some (oa,0)) k aJ) (il k (Lf p m ml x)) by
     unfold Aj;rw[Ao,Cw];exact Sl.own aC.o)
    clear h0 hy aD aO hs;exact zcV
   .have aZ:JO p m ml x k y=false:=by simpa using hs
    have aM:wr.cell? (g,y)=some (.bool false):=by rw[aO];unfold bv;rw[aZ]
    have bS:Hia (JB p m (lw ml) x (k+1)):=Aa (aN.o.succ (by rw[aG.o];exact h0) (fun j hj e=>by
     rw[aG.o]at e;exact hs (decide_eq_true ⟨j,hj,e⟩)))
    have bV:=Aa aD;clear h0 hy aD aO hs aZ;have bG:Hia (AF (wr.setCell (g,y) (.bool true)) (xb+1) 4 g q (bv (JO p m ml x (k+1)))):=Aa (by
     have:=aB.o.set y (.bool true);rw[Su]at this;refine this.bcongr fun j hj=>?_;unfold Ay JO;rw[Bool.eq_iff_iff];by_cases h:j=y
     .rw[if_pos h];simp;exact⟨k,ac,by rw[aG.o,h]⟩
     .rw[if_neg h];simp;constructor
      .rintro⟨i,hi,e⟩;exact⟨i,ac,e⟩
      .rintro⟨i,hi,e⟩;by_cases h3:i=k
       .subst h3;rw[aG.o]at e;exact absurd e.symm h
       .exact⟨i,ac,e⟩)
    have bJ:=Aa (Ac aC.o (a:=(g,y)) bB.o (.bool true));have aV:=Aa (aB.o.exSet (a:=w1) ac aF y (.bool true));have bF:=Aa (show xb+1<=(wr.setCell (g,y) (.bool true)).heap.size by have:=aV.o.size;omega);go_wp2_with (at_builtin;go_loud (refine Am _ rfl _ _ 22 rfl (xb+1) 3 (.int .i64 0) 1 8 Tryz.underlying22 Az rfl ae _ k _ rfl bJ.o [.int .i64 (y:Int)] 3 _ rfl ag rfl aj ai ac bF.o ?_))
    intro v' w5 aE;have bI:Hia (w5.ownsRow (xb+1) 3 1 v' (k+1) (vs (k+1) (iv (Lf p m ml x)))):=Aa (by
     have:=aE.own;rw[SQ];unfold iv Lf;rw[aG.o];exact this)
    obtain⟨aY,bC⟩:=aE.arr bG.o bB.o;have bQ:=Aa aY;have bT:=Aa bC;have aK:=aE.ex aV.o ac;have bW:=Aa (Qd bI.o);have r0:=aK.cell d0;have r1:=aK.cell d1;have r2:=aK.cell d2;clear aE aY bC bG bJ aV bF aM bO hb aF;go_wp2_with fail
    refine(HM.o y w5 aQ (bU.o.ex (e0.trans aK))).mono ?_;rintro e w6⟨rfl,aR⟩;go_wp2_with fail
    go_roundw
    case rel=>exact⟨k+1,ac,bS,by rw[HY.o],Aa (Ai bI.o aR),Aa (bQ.o.ex aR),bT,aK.trans aR⟩
    case measure=>rw[bW.o,bV.o];omega
def Pg(p m:Nat)(ml:List Int)(w':World)(v:Value):Prop:=
 (∃x,1<=x/\x<p^m/\De p m (lw ml) x/\Aj w' v (il (p^m-1) (Lf p m ml x)))∨(¬Hr p m (lw ml)/\v= .slice none 0 0)
theorem Hw(p m:Nat)(ml:List Int)(mv:Value)(w:World)(hf:Hh p m ml)(aK:Aj w mv ml):
  Calls Tryz.prog 113 #[.agg #[p,m,mv],((p^m:Nat):Int)] w fun r w'=>∃v,r= .returned v/\Pg p m ml w' v/\Ex w w':=by
 have hp:=hf.p2;have hm:=hf.m1;have aN:=Aa aK;have hq:=hf.q;have aS:1<p^m:=Bw hp hm;obtain⟨aL,HM,HL,aF,aM,aJ,aP,HK⟩:=On (fun (x:Nat) (w':World) (h:x<p^m) (h':Aj w' mv ml)=>RF p m x ml mv w' hf h' h) (fun (x y:Nat) (w':World) (h:y<p^m) (hx:x<p^m) (h':Aj w' mv ml)=>IF p m y x ml mv w' hf h' h hx) (fun x k=>Dn (low:=lw ml) hp hm x k) (fun x L (h:Mr p m (lw ml) x L)=>h.gen hp hm) (fun x L (h:Mr p m (lw ml) x L)=>h.2.1) (show ∀w' v,Pg p m ml w' v↔((∃x,1<=x/\x<p^m/\De p m (lw ml) x/\Aj w' v (il (p^m-1) (Lf p m ml x)))∨(¬Hr p m (lw ml)/\v= .slice none 0 0)) from fun _ _=>Iff.rfl) (show Hr p m (lw ml)↔∃x,1<=x/\x<p^m/\De p m (lw ml) x from Iff.rfl) (show ∀x k,BO p m (lw ml) x (k+1)=Al p m (lw ml) (BO p m (lw ml) x k) x from fun _ _=>rfl);clear hf aK hm;obtain⟨q,aH⟩:=nA (p^m);simp only[aH]at hq aS aL HM HL aF aM aJ aP ⊢;have HQ:=Aa aH;clear aH;obtain⟨xb,aG⟩:=nA w.heap.size;have d0:(w.alloc (.cells #[p,m,mv] 24)).cell? (xb,0)=some (.int .i64 p):=by rw[<-aG];simp
 have d1:(w.alloc (.cells #[p,m,mv] 24)).cell? (xb,1)=some (.int .i64 m):=by rw[<-aG];simp
 have d2:(w.alloc (.cells #[p,m,mv] 24)).cell? (xb,2)=some mv:=by rw[<-aG];simp
 have D0:=Aa d0;have D1:=Aa d1;have D2:=Aa d2;clear d0 d1 d2;go_enter Tryz.func113,Tryz.ntmps113
 go_wp2_with fail
 clear aG;have d0:=D0.o;have d1:=D1.o;have d2:=D2.o;clear D0 D1 D2;have e0:Ex w (w.alloc (.cells #[p,m,mv] 24)):=(Ex.refl _).alloc _;generalize w.alloc (.cells #[p,m,mv] 24)=w1 at *
 go_loopw [5] (fun x' wr=>∃x:Nat,1<=x/\x<=q/\x'= .int .i64 x/\Hia (∀y,1<=y->y<x->¬De p m (lw ml) y)/\Ex w1 wr) (fun x' _=>q-(intOf x').toNat)
 case atStart=>exact⟨1,ac,ac,rfl,Aa (fun y a b=>ac),Ex.refl _⟩
 case round=>
  obtain⟨x,aR,hx2,rfl,aC,aB⟩:=hrel;have r0:=aB.cell d0;have r1:=aB.cell d1;have r2:=aB.cell d2;by_cases hlt:x<q
  .go_wp2_with fail
   refine(aL.o x _ hlt (aN.o.ex (e0.trans aB))).mono ?_;rintro e w5⟨v,L,rfl,aA,hv,aE⟩;have s0:=aE.cell r0;have s1:=aE.cell r1;have s2:=aE.cell r2;have hLq:=aM.o x L aA;obtain⟨va,vc,rfl,v1,v2,v3⟩:=hv.open;have HV:=Aa hv;have HG:=Aa (aF.o x L aA);have hL1:=aA.1;rw[Ao]at *;obtain⟨vb,vo,rfl,v4⟩:=v3 ac;have aD:=aB.trans aE;unfold maxLen at v2;clear r0 r1 r2 v3 hv aA aB aE;have k1:IntKind.i64.wrap ((q:Int)-1)=(q:Int)-1:=IntWalk.i64_in _ ac;by_cases hLe:L=q-1
   .have hc:=v4 (q-2) (Lf p m ml x (q-2)) (AQ ac _);have hb:((L:Int)==(q:Int)-1)=true:=by simp;omega
    obtain⟨y,hy⟩:=nA (BO p m (lw ml) x (q-2));have aQ:y<q:=by rw[<-hy];exact HL.o x (q-2)
    unfold Lf at hc;rw[hy]at hc;have HY:=Aa (show BO p m (lw ml) x (q-1)=Al p m (lw ml) y x by rw[show q-1=(q-2)+1 by omega,HK.o,hy]);have k2:IntKind.i64.wrap ((q:Int)-2)=(q:Int)-2:=IntWalk.i64_in _ ac;have k3:((q:Int)-2).toNat=q-2:=by omega
    have k4:(0:Int)<=(q:Int)-2:=ac;have k5:(q:Int)-2<(L:Int):=ac;have k6:(2:Int)<=(q:Int):=ac;have k7:(q:Int)<(L:Int)+2:=ac;have k8:2<=q:=ac;have aO:=Aa hLe;clear v4 hy hLe;go_wp2_with fail
    go_region_held3 (fun w'=>w'.cell? (xb,0)=some (.int .i64 p)/\w'.cell? (xb,1)=some (.int .i64 m)/\w'.cell? (xb,2)=some mv/\w'.cell? (vb,vo+(q-2))=some (.int .i64 y)/\Ex w1 w')
     (first|exact⟨s0,s1,s2,hc,aD.drew⟩|exact⟨hx6.cell s0,hx6.cell s1,hx6.cell s2,hx6.cell hc,aD.drew.trans hx6⟩)
     ((go_at_call 166;refine(HM.o x y _ aQ hlt (aN.o.ex ((e0.trans aD).drew))).mono ?_;rintro e w6⟨rfl,hx6⟩))
    by_cases h1:Al p m (lw ml) y x=1
    .have aT:(((Al p m (lw ml) y x:Nat):Int)==1)=true:=by simp;omega
     have aV:=Aa (HG.o.2 ⟨aO.o,by rw[HY.o];exact h1⟩);have aI:=Aa (show Aj w6 (.slice (some (vb,vo)) L vc) (il (q-1) (Lf p m ml x)) by
      have:=HV.o.ex ((Ex.refl _).drew.trans hx6)
      rwa[show il L (Lf p m ml x)=il (q-1) (Lf p m ml x) by rw[aO.o]]at this)
     clear h1;go_wp2_with fail
     go_ret;exact⟨_,rfl,(aJ.o _ _).2 (.inl ⟨x,aR,hlt,aV.o,aI.o⟩),e0.trans (aD.drew.trans hx6)⟩
    .have aT:(((Al p m (lw ml) y x:Nat):Int)==1)=false:=by simp;omega
     have HN:=Aa (show ¬De p m (lw ml) x from fun h=>h1 (by rw[<-HY.o];exact(HG.o.1 h).2));clear h1;go_wp2_with fail
     go_roundw
     case rel=>exact⟨x+1,ac,ac,by go_num,Aa (fun z a b=>by
      by_cases e:z=x
      .subst e;exact HN.o
      .exact aC.o z a ac),aD.drew.trans hx6⟩
     case measure=>simp[intOf];omega
   .have hb:((L:Int)==(q:Int)-1)=false:=by simp;omega
    have HN:=Aa (show ¬De p m (lw ml) x from fun h=>hLe (HG.o.1 h).1);clear hLe v4;go_wp2_with fail
    go_quiet (fail)
    go_wp2_with fail
    go_roundw
    case rel=>exact⟨x+1,ac,ac,by go_num,Aa (fun y a b=>by
     by_cases e:y=x
     .subst e;exact HN.o
     .exact aC.o y a ac),aD.drewN _⟩
    case measure=>simp[intOf];omega
  .obtain rfl:x=q:=by omega
   have aU:=Aa (show ¬Hr p m (lw ml) from fun h=>by
    obtain⟨y,a,b,c⟩:=aP.o.1 h;exact aC.o y a b c)
   go_wp2_with fail
   go_ret;exact⟨_,rfl,(aJ.o _ _).2 (.inr ⟨aU.o,rfl⟩),e0.trans aB⟩
end Go.Proofs.YtehieobniamagaaGreat
