/- Arrays that a call has made itself, read as functions; make as a law of the walk. -/
import Derived.OwnWalk
import Derived.Laws.OwnMore
import Derived.Maps.AppendAt
import Derived.Deep.Upon
import Derived.Deep.RegionLaw
import Derived.Laws.Cover3
import Derived.Test.YtehieobniamagaaGreatZi00
namespace Go.Proofs.YtehieobniamagaaGreat
open List renaming range→ξ,ext_getElem?→γs,range_succ→γg,take_of_length_le→γm,map_toArray→μs,map_cons→ηk,map_nil→μi,length_cons→γk
open Nat renaming le_trans→μ,le_refl→ζ,mul_one→δq,div_le_self→ζo,beq→θg,div→κw,lt_or_ge→ζq,mul_le_mul→γo,pow_succ→γp
open Int renaming pow_pos→οa,mul_le_mul→δv,mul_nonneg→δd,natCast_mul→γb,add_mul→μv
open Go.RowKit
set_option linter.all false
set_option maxRecDepth 100000
set_option maxRecDepth 100000
set_option maxHeartbeats 1000000
def vs(n:Nat)(c:Nat->Value):List Value:=(ξ n).map c
theorem Bl(n:Nat)(c:Nat->Value):(vs n c).length=n:=by simp[vs]
theorem Dn{n j:Nat}(h:j<n)(c:Nat->Value):(vs n c)[j]?=some (c j):=by simp[vs,h]
def Ay{α:Type}(c:Nat->α)(k:Nat)(u:α):Nat->α:=fun j=>if j=k then u else c j
theorem VV(n k:Nat)(c:Nat->Value)(u:Value):(vs n c).set k u=vs n (Ay c k u):=by
 apply γs;intro j;rw[List.getElem?_set];by_cases h:k=j
 .subst h;by_cases hk:k<n
  .simp[vs,Ay,hk]
  .simp[vs,hk]
 .rw[if_neg h];by_cases hj:j<n
  .rw[Dn hj,Dn hj];unfold Ay;rw[if_neg (fun e=>h e.symm)]
  .simp[vs,hj]
theorem S2(n:Nat)(c:Nat->Value):vs (n+1) c=vs n c ++ [c n]:=by simp[vs,γg]
theorem Pp{n:Nat}{c d:Nat->Value}(h:∀j,j<n->c j=d j):vs n c=vs n d:=
 List.map_congr_left fun j hj=>h j (List.mem_range.1 hj)
theorem Ig(n:Nat)(u:Value):List.replicate n u=vs n (fun _=>u):=by
 apply γs;intro j;by_cases hj:j<n <;> simp[vs,hj]
def AJ(w:World)(base:Nat)(e:TypeId)(g n:Nat)(c:Nat->Value):Prop:=w.ownsRow base e 1 (.slice (some (g,0)) n n) n (vs n c)
section
variable {w:World} {base:Nat} {e:TypeId} {g n:Nat} {c:Nat->Value}
theorem AJ.cell(h:AJ w base e g n c){j:Nat}(hj:j<n):w.cell? (g,j)=some (c j):=by
 rw[World.ownsRow.cellAt h j ac,Dn hj]
theorem AJ.frz(h:AJ w base e g n c)(j:Nat):w.frozen? (g,j)=false:=World.ownsRow.frozenAt h j
theorem AJ.set(h:AJ w base e g n c)(j:Nat)(u:Value):AJ (w.setCell (g,j) u) base e g n (Ay c j u):=by
 have:=(World.ownsRow.stored h j u).1
 rwa[VV]at this
theorem AJ.congr{d:Nat->Value}(h:AJ w base e g n c)(hc:∀j,j<n->c j=d j):AJ w base e g n d:=by
 unfold AJ at *
 rwa[Pp hc]at h
theorem AJ.ex{w':World}(h:AJ w base e g n c)(hx:Ex w w'):AJ w' base e g n c:=Ag h hx
theorem AJ.drew(h:AJ w base e g n c):AJ w.drew base e g n c:=h
theorem AJ.drewN(h:AJ w base e g n c)(k:Nat):AJ (w.drewN k) base e g n c:=h.ex ((Ex.refl w).drewN k)
theorem AJ.alloc(h:AJ w base e g n c)(o:Obj):AJ (w.alloc o) base e g n c:=World.ownsRow.alloc h o
theorem AJ.lt(h:AJ w base e g n c):base<=g/\g<w.heap.size:=World.ownsRow.lt h g rfl
theorem AJ.le(h:AJ w base e g n c):n<=maxLen:=by
 rcases h.2 with⟨h',_⟩|⟨g',cap',cur,h',_,hg,h1,h2,_⟩
 .simp at h'
 .omega
theorem AJ.other(h:AJ w base e g n c){a:Addr}(ha:g≠a.block)(u:Value):AJ (w.setCell a u) base e g n c:=
 Ae h (fun e=>ha (by simpa[Value.ownBlock]using e)) u
theorem AJ.exSet{a:World}(h:AJ w base e g n c)(hb:a.heap.size<=base)(hx:Ex a w)(j:Nat)(u:Value):Ex a (w.setCell (g,j) u):=
 hx.setCell (p:=⟨g,j,none⟩) (μ hb h.lt.1) u
theorem AJ.sl(h:AJ w base e g n c):Sl w (.slice (some (g,0)) n n) n 1 (vs n c):=Sl.own h
theorem za7{P:Prop}(h:P:=by
 exact .inr ⟨g',cap,cur,h1,Nat.le_trans hb h2,h3⟩):P:=h
theorem zce{P:Prop}(h:P:=by
 refine⟨h.1,?_⟩;rcases h.2 with h1|⟨g',cap,cur,h1,h2,h3⟩
 .exact .inl h1
 .exact za7):P:=h
theorem AJ.mono{b':Nat}(h:AJ w base e g n c)(hb:b'<=base):AJ w b' e g n c:=by
 exact zce
end
theorem AJ.heap{w:World}{base:Nat}{e:TypeId}{g n:Nat}{c:Nat->Value}(h:AJ w base e g n c):w.heap[g]?=some (.cells (vs n c).toArray e (0,0)):=by
 rcases h.2 with⟨h',_⟩|⟨g',cap',cur,h',hb,hg,hnc,hcm,hcs,htake⟩
 .simp at h'
 .simp only[Value.slice.injEq,Option.some.injEq,Addr.mk.injEq,and_true,true_and]at h';obtain⟨rfl,rfl⟩:=h';rw[γm (by rw[Array.length_toList,hcs];exact ζ _)]at htake;rw[hg,<-htake]
theorem AJ.of_heap{w:World}{base:Nat}{e:TypeId}{g n:Nat}{c:Nat->Value}(h:w.heap[g]?=some (.cells (vs n c).toArray e (0,0)))(hb:base<=g)(hn:n<=maxLen):AJ w base e g n c:=
 ⟨by rw[Bl,δq],.inr ⟨g,n,(vs n c).toArray,rfl,hb,h,ζ _,hn,by simp[Bl],by rw[γm (by simp[Bl])]⟩⟩
theorem Ar{P:Program}(w:World){ops:Array Oper}{rest:List Oper}{o:Oper}{a:Act}{Q:Exit->Act->World->Prop}
  (hg:o.guard=none) (l c:Operand) (t:TypeId) (aF:o.op=Op.makeSlice t l c)
  (e:TypeId) (z:Value) (aA:Nat) (h1:P.underlying t=some (.slice e)) (hi:(P.info? e).map (fun i=>(i.zero,i.size,i.bytes))=some (some z,1,aA)) (hz:z.cells= #[z])
  (L:Int) (n:Nat) (hl:a.eval l= .int .i64 L) (hc:a.eval c= .int .i64 L) (hL:L=(n:Int)) (b2:aA*n<=281474976710656) (b3:n<=maxLen)
  (hK:∀w',AJ w' w.heap.size e w.heap.size n (fun _=>z)->Ex w w'->wpList P ops Q rest (a.put o.dst (.slice (some (w.heap.size,0)) n n)) w'):
  wpList P ops Q (o :: rest) a w:=by
 obtain⟨i,aG,aE,aD,aC⟩:=info_parts hi;refine wpList_make_full w hg l c t aF w.heap.size e i z 1 h1 aG aE aD .i64 .i64 L L n hl hc hL hL (by rw[aC];exact b2) b3 (ζ _) ?_;intro w' aB aH;rw[hz,δq,toList_madeCells_one,Ig]at aB;exact hK w' aB (Below.grown (Below.refl _ _) aH (ζ _) (fun k hk=>by cases hk))
def iv(f:Nat->Int):Nat->Value:=fun j=> .int .i64 (f j)
theorem CF(f:Nat->Int)(k:Nat)(y:Int):Ay (iv f) k (.int .i64 y)=iv (Ay f k y):=by
 funext j;by_cases h:j=k <;> simp[Ay,iv,h]
theorem AJ.icongr{w:World}{base:Nat}{e:TypeId}{g n:Nat}{f h:Nat->Int}(hf:AJ w base e g n (iv f))(hc:∀j,j<n->f j=h j):AJ w base e g n (iv h):=
 hf.congr fun j hj=>congrArg (Value.int .i64) (hc j hj)
def il(n:Nat)(f:Nat->Int):List Int:=(ξ n).map f
theorem Ao(n:Nat)(f:Nat->Int):(il n f).length=n:=by simp[il]
theorem AT{n j:Nat}(h:j<n)(f:Nat->Int):(il n f)[j]?=some (f j):=by simp[il,h]
theorem Cy(n:Nat)(f:Nat->Int):Aj (il n f)=vs n (iv f):=by simp[Aj,il,vs,iv]
theorem AJ.isl{w:World}{base:Nat}{e:TypeId}{g n:Nat}{f:Nat->Int}(h:AJ w base e g n (iv f)):Ak w (.slice (some (g,0)) n n) (il n f):=by
 unfold Ak;rw[Ao,Cy];exact h.sl
def bv(f:Nat->Bool):Nat->Value:=fun j=> .bool (f j)
theorem SA(f:Nat->Bool)(k:Nat)(y:Bool):Ay (bv f) k (.bool y)=bv (Ay f k y):=by
 funext j;by_cases h:j=k <;> simp[Ay,bv,h]
theorem AJ.bcongr{w:World}{base:Nat}{e:TypeId}{g n:Nat}{f h:Nat->Bool}(hf:AJ w base e g n (bv f))(hc:∀j,j<n->f j=h j):AJ w base e g n (bv h):=
 hf.congr fun j hj=>congrArg Value.bool (hc j hj)
theorem Ie(y p:Nat)(h:y<=9223372036854775807):wrap64 ((y:Int)/(p:Int))=((y/p:Nat):Int):=by
 have h1:=ζo y p;rw[<-Int.natCast_ediv];generalize y/p=q at *;exact w64 ac ac
theorem Ab{α:Type}(c:Nat->α)(k:Nat)(u:α):Ay c k u k=u:=by unfold Ay;rw[if_pos rfl]
theorem Ac{α:Type}(c:Nat->α){k j:Nat}(u:α)(h:j≠k):Ay c k u j=c j:=by unfold Ay;rw[if_neg h]
def AD(u v:Value):Prop:=u.ownBlock=none∨u.ownBlock≠v.ownBlock
theorem AD.symm{u v:Value}(h:AD u v):AD v u:=by
 unfold AD at *;rcases h with h|h
 .rcases hv:v.ownBlock with _|b
  .exact .inl rfl
  .right;rw[h];simp
 .exact .inr fun e=>h e.symm
theorem AD.nil(v:Value):AD (.slice none 0 0) v:= .inl rfl
structure Bz(w w':World)(base:Nat)(e:TypeId)(size:Nat)(v v':Value)(n:Nat)(xs news:List Value):Prop where
 own:w'.ownsRow base e size v' (n+1) (xs++news)
 gr:∃o,(w.alloc o).grownBy w' v.ownBlock
 at_:v'.ownBlock=v.ownBlock∨v'.ownBlock=some (w.heap.size+1)
 old:w.ownsRow base e size v n xs
section
variable {w w':World} {base:Nat} {e:TypeId} {size:Nat} {v v':Value} {n:Nat} {xs news:List Value}
theorem Bz.grow(h:Bz w w' base e size v v' n xs news):w.heap.size<w'.heap.size:=by
 obtain⟨o,hg⟩:=h.gr;have:=hg.size;simp at this;omega
theorem Bz.ex(h:Bz w w' base e size v v' n xs news){a:World}(hx:Ex a w)(hb:a.heap.size<=base):Ex a w':=by
 obtain⟨o,hg⟩:=h.gr;exact Ex.grown (hx.alloc o) (h.old.alloc o) hb hg
theorem Bz.cell(h:Bz w w' base e size v v' n xs news){a:Addr}{u:Value}(hc:w.cell? a=some u)(aA:some a.block≠v.ownBlock):w'.cell? a=some u:=by
 obtain⟨o,hg⟩:=h.gr;exact hg.cell (by rw[World.cell?_alloc_lt _ _ _ (World.block_lt_of_cell? _ _ hc)];exact hc) aA
theorem zav{P:Prop}(h:P:=by
 right;have hlt:=(k.lt b h2).2;rcases h.at_ with h3|h3
 .rw[h3,<-h2];rcases ha with ha|ha
  .rw[h2]at ha;cases ha
  .exact ha
 .rw[h3];intro e;injection e with e;omega):P:=h
theorem zc0{P:Prop}(h:P:=by
 unfold AD;rcases h2:v2.ownBlock with _|b
 .exact .inl rfl
 .exact zav):P:=h
theorem Bz.row(h:Bz w w' base e size v v' n xs news){b2:Nat}{e2:TypeId}{s2:Nat}{v2:Value}{n2:Nat}{ys:List Value}(k:w.ownsRow b2 e2 s2 v2 n2 ys)(ha:AD v2 v):
  w'.ownsRow b2 e2 s2 v2 n2 ys/\AD v2 v':=by
 obtain⟨o,hg⟩:=h.gr;refine⟨(k.alloc o).kept hg ha,?_⟩;exact zc0
theorem Bz.arr(h:Bz w w' base e size v v' n xs news){b2:Nat}{e2:TypeId}{g m:Nat}{c:Nat->Value}(k:AJ w b2 e2 g m c)(ha:v.ownBlock≠some g):
  AJ w' b2 e2 g m c/\v'.ownBlock≠some g:=by
 have h1:=h.row k (.inr (fun e=>ha e.symm));refine⟨h1.1,?_⟩;rcases h1.2 with h2|h2
 .cases h2
 .exact fun e=>h2 e.symm
end
theorem aq{P:Prop}(h:P:=by simp;omega):P:=h
theorem dj{P:Prop}(h:P:=by unfold Addr.add;split <;> simp_all):P:=h
theorem Al{P:Program}(w:World){ops:Array Oper}{rest:List Oper}{o:Oper}{a:Act}{Q:Exit->Act->World->Prop}(aL:o.guard=none)(s x:Operand)(t:TypeId)
  (ho:o.op= .call { callee:= .builtin .append,args:= #[s,x],argTypes:= #[t,t] })
  (base:Nat) (e:TypeId) (z:Value) (size aA:Nat) (ht:P.underlying t=some (.slice e)) (hi:(P.info? e).map (fun i=>(i.zero,i.size,i.bytes))=some (some z,size,aA))
  (aF:z.cells.size=size) (aJ:0<size)
  (v:Value) (n:Nat) (xs:List Value) (hs:a.eval s=v) (aC:w.ownsRow base e size v n xs)
  (news:List Value) (te:TypeId) (B:Nat) (hx:a.eval x= .slice (some (B,0)) 1 1) (hB:w.heap.size=B) (hl:news.length=size) (h1:∀u∈news,u.oneCell'=true)
  (aM:n+1<=maxLen) (aB:(n+1)*aA<=140737488355328) (hbase:base<=w.heap.size)
  (h:∀v' w',Bz w w' base e size v v' n xs news->wpList P ops Q rest (a.put o.dst v') w'):
  wpList P ops Q (o :: rest) a (w.alloc (.cells news.toArray te)):=by
 subst hB;obtain⟨i,aK,aI,aH,aG⟩:=info_parts hi;refine wpList_plain aL fun K hK=>?_;have aD:∀j u,news[j]?=some u->(w.alloc (.cells news.toArray te)).cell? ((⟨w.heap.size,0,none⟩:Addr).add j)=some u:=by
  intro j u hu;have aE:(⟨w.heap.size,0,none⟩:Addr).add j=⟨w.heap.size,j,none⟩:=dj;rw[aE];simpa using hu
 obtain⟨v',w',hr,h2,h3,h4,h5⟩:=run_append_own_at (P:=P) (w.alloc (.cells news.toArray te)) base t o.type e i z size aA ht aK aI aH aG aF aJ v n xs (aC.alloc _) ⟨w.heap.size,0,none⟩ 1 1 news (by rw[hl,Nat.one_mul]) aD h1 aM aB aq;unfold Oper.wp execOp;simp only[ho,resolve,invoke,builtin,Sem.run_bind,Sem.run_pure,Result.andThen_ok,μs,ηk,μi,hs,hx,hr];exact hK _ _ (h v' w' ⟨h2,⟨_,h3⟩,by simpa using h5,aC⟩)
def lenV:Value->Nat
 | .slice _ n _=>n
 | _=>0
theorem Qc{w:World}{base:Nat}{e:TypeId}{size:Nat}{v:Value}{n:Nat}{xs:List Value}(h:w.ownsRow base e size v n xs):lenV v=n:=by
 rcases h.2 with⟨rfl,rfl⟩|⟨g,cap,cur,rfl,_⟩ <;> rfl
theorem Dz{w:World}{base:Nat}{e:TypeId}{size:Nat}{v:Value}{n:Nat}{xs:List Value}(h:w.ownsRow base e size v n xs)(hn:1<=n):
  ∃g cap,v= .slice (some ⟨g,0,none⟩) n cap/\n<=cap/\cap<=maxLen:=by
 rcases h.2 with⟨_,h0⟩|⟨g,cap,cur,rfl,_,_,h1,h2,_⟩
 .omega
 .exact⟨g,cap,rfl,h1,h2⟩
theorem Ad{w:World}{base:Nat}{e:TypeId}{size:Nat}{v:Value}{n:Nat}{xs:List Value}(h:w.ownsRow base e size v n xs):∃a c,v= .slice a n c:=by
 rcases h.2 with⟨rfl,rfl⟩|⟨g,cap,cur,rfl,_⟩
 .exact⟨none,0,rfl⟩
 .exact⟨_,_,rfl⟩
theorem ai{P:Prop}(h:P:=by unfold maxLen;omega):P:=h
theorem Ee(w:World)(u:Value)(e:TypeId):(w.alloc (.cells #[u] e)).ownsRow w.heap.size e 1 (.slice (some (w.heap.size,0)) 1 1) 1 [u]:=
 World.ownsRow_lit w #[u] 1 (ζ _) ai rfl
theorem E6{P:Program}(w:World)(base:Nat)(t ty e:TypeId)(z:Value)(size aA:Nat)(ht:P.underlying t=some (.slice e))(hi:(P.info? e).map (fun i=>(i.zero,i.size,i.bytes))=some (some z,size,aA))
  (aJ:z.cells.size=size) (aN:0<size) (v:Value) (n:Nat) (xs:List Value) (aB:w.ownsRow base e size v n xs)
  (x:Value) (m:Nat) (news:List Value) (hx:Sl w x m size news) (h1:∀u∈news,u.oneCell'=true)
  (aQ:n+m<=maxLen) (aD:(n+m)*aA<=140737488355328) (aF:base<=w.heap.size):
  ∃v' w',(Builtin.append_ #[t,t] ty #[v,x]).run P w= .ok v' w'/\w'.ownsRow base e size v' (n+m) (xs++news)/\w.grownBy w' v.ownBlock/\(v'.ownBlock=v.ownBlock∨v'.ownBlock=some w.heap.size):=by
 obtain⟨i,aI,aM,aL,aK⟩:=info_parts hi;obtain⟨hl,a,cap,rfl,hmc,hcm,aC⟩:=hx;rcases Nat.eq_zero_or_pos m with h0|h0
 .subst h0;have aO:news= []:=List.eq_nil_of_length_eq_zero (by rw[hl];simp);subst aO;have aG:Src P i.size t (.slice a 0 cap) 0 [] w:=by
   rcases a with _|a
   .exact Src.ofNil w ht cap
   .exact Src.ofSlice w ht a 0 cap [] ag ag ag
  have hv:∃ao c,v= .slice ao n c/\n<=c:=by
   rcases aB.2 with⟨rfl,rfl⟩|⟨g,c,cur,rfl,_,_,h,_⟩
   .exact⟨none,0,rfl,ζ _⟩
   .exact⟨_,_,rfl,h⟩
  obtain⟨ao,c,rfl,aP⟩:=hv;refine⟨_,_,run_append_nothing w t t ty e i ht aI ao n c aP _ aG,by simpa using aB,⟨rfl,rfl,rfl,ζ _,fun _ _ _=>rfl⟩,.inl rfl⟩
 .obtain⟨b,o,rfl,hc⟩:=aC h0;have aE:∀j u,news[j]?=some u->w.cell? ((⟨b,o,none⟩:Addr).add j)=some u:=by
   intro j u hu;have aH:(⟨b,o,none⟩:Addr).add j=⟨b,o+j,none⟩:=dj;rw[aH];exact hc j u hu
  obtain⟨v',w',hr,h2,h3,h4,h5⟩:=run_append_own_at (P:=P) w base t ty e i z size aA ht aI aM aL aK aJ aN v n xs aB ⟨b,o,none⟩ m cap news hl aE h1 aQ aD aF;exact⟨v',w',hr,h2,h3,h5⟩
theorem A6{P:Program}(w:World){ops:Array Oper}{rest:List Oper}{o:Oper}{a:Act}{Q:Exit->Act->World->Prop}(aH:o.guard=none)(s x:Operand)(t:TypeId)
  (ho:o.op= .call { callee:= .builtin .append,args:= #[s,x],argTypes:= #[t,t] })
  (base:Nat) (e:TypeId) (z:Value) (size aA:Nat) (ht:P.underlying t=some (.slice e)) (hi:(P.info? e).map (fun i=>(i.zero,i.size,i.bytes))=some (some z,size,aA))
  (aE:z.cells.size=size) (aF:0<size) (v:Value) (n:Nat) (xs:List Value) (hs:a.eval s=v) (aD:w.ownsRow base e size v n xs)
  (xv:Value) (m:Nat) (news:List Value) (hx:a.eval x=xv) (aG:Sl w xv m size news) (h1:∀u∈news,u.oneCell'=true)
  (aI:n+m<=maxLen) (aB:(n+m)*aA<=140737488355328) (aC:base<=w.heap.size)
  (h:∀v' w',w'.ownsRow base e size v' (n+m) (xs++news)->w.grownBy w' v.ownBlock->(v'.ownBlock=v.ownBlock∨v'.ownBlock=some w.heap.size)->wpList P ops Q rest (a.put o.dst v') w'):
  wpList P ops Q (o :: rest) a w:=by
 refine wpList_plain aH fun K hK=>?_;obtain⟨v',w',hr,h2,h3,h4⟩:=E6 (P:=P) w base t o.type e z size aA ht hi aE aF v n xs aD xv m news aG h1 aI aB aC;unfold Oper.wp execOp;simp only[ho,resolve,invoke,builtin,Sem.run_bind,Sem.run_pure,Result.andThen_ok,μs,ηk,μi,hs,hx,hr];exact hK _ _ (h v' w' h2 h3 h4)
theorem zbz{P:Prop}(h:P:=by
 unfold Oper.wp execOp;simp only[ho,resolve,invoke,builtin,Sem.run_bind,Sem.run_pure,Result.andThen_ok,List.map_toArray,List.map_cons,List.map_nil,hs,hx,hr];exact h v' w' h2 h3 h4):P:=h
theorem Cq{P:Program}{w:World}{ops:Array Oper}{o:Oper}{a:Act}{K:Act->World->Prop}{Q:Exit->Act->World->Prop}{E:Prop}(aH:o.guard=none)(s x:Operand)(t:TypeId)
  (ho:o.op= .call { callee:= .builtin .append,args:= #[s,x],argTypes:= #[t,t] })
  (base:Nat) (e:TypeId) (z:Value) (size aA:Nat) (ht:P.underlying t=some (.slice e)) (hi:(P.info? e).map (fun i=>(i.zero,i.size,i.bytes))=some (some z,size,aA))
  (aE:z.cells.size=size) (aF:0<size) (v:Value) (n:Nat) (xs:List Value) (hs:a.eval s=v) (aD:w.ownsRow base e size v n xs)
  (xv:Value) (m:Nat) (news:List Value) (hx:a.eval x=xv) (aG:Sl w xv m size news) (h1:∀u∈news,u.oneCell'=true)
  (aI:n+m<=maxLen) (aB:(n+m)*aA<=140737488355328) (aC:base<=w.heap.size)
  (h:∀v' w',w'.ownsRow base e size v' (n+m) (xs++news)->w.grownBy w' v.ownBlock->(v'.ownBlock=v.ownBlock∨v'.ownBlock=some w.heap.size)->K (a.put o.dst v') w'):
  if Region.wanted o (yielded ops a.tmps)=true then Oper.wp P o a w K Q else E:=by
 have hw:Region.wanted o (yielded ops a.tmps)=true:=by simp[Region.wanted,aH]
 rw[if_pos hw];obtain⟨v',w',hr,h2,h3,h4⟩:=E6 (P:=P) w base t o.type e z size aA ht hi aE aF v n xs aD xv m news aG h1 aI aB aC;exact zbz
theorem AS{P:Program}(w:World)(t e:TypeId)(a:Option Addr)(l c:Nat)(h:P.underlying t=some (.slice e)):(binOp .eql t (.slice a l c) (.slice none 0 0)).run P w= .ok (.bool a.isNone) w:=by
 simp only[binOp];simp[run_equal_slice_nil w t e a l c h]
theorem Bm(w:World)(e:TypeId):(w.alloc (.cells #[] e)).ownsRow w.heap.size e 1 (.slice (some (w.heap.size,0)) 0 0) 0 []:=
 World.ownsRow_lit w #[] 0 (ζ _) ai rfl
theorem E4{P:Program}{w:World}{o:Oper}{a:Act}{K:Act->World->Prop}{Q:Exit->Act->World->Prop}(t e:TypeId)(z:Value)(aA:Nat)
  (h1:P.underlying t=some (.slice e)) (hi:(P.info? e).map (fun i=>(i.zero,i.size,i.bytes))=some (some z,1,aA)) (hz:z.cells= #[z])
  (n:Nat) (b2:aA*n<=281474976710656) (b3:n<=maxLen)
  (hK:∀w',AJ w' w.heap.size e w.heap.size n (fun _=>z)->Ex w w'->Oper.upon P o a K Q (.ok (.value (.slice (some (w.heap.size,0)) n n)) w')):
  Oper.upon P o a K Q (((Instr.makeSlice t (.int .i64 (n:Int)) (.int .i64 (n:Int))).run P w).andThen fun a w'=>Result.ok (Next.value a) w'):=by
 obtain⟨i,aF,aE,aD,aC⟩:=info_parts hi;obtain⟨w',aB,r1,r2⟩:=run_make_full (P:=P) w w.heap.size t e i z 1 h1 aF aE aD .i64 .i64 n (by rw[aC];exact b2) b3 (ζ _);rw[aB,Result.andThen_ok];rw[hz,δq,toList_madeCells_one,Ig]at r1;exact hK w' r1 (Below.grown (Below.refl _ _) r2 (ζ _) (fun k hk=>by cases hk))
noncomputable section
def allB(f:List Bool->Bool)(l:List (List Bool)):Bool:=@List.rec (List Bool) (fun _=>Bool) true (fun x _ ih=>match f x with|true=>ih|false=>false) l
def dvC(p d u:Nat)(low:List Nat):Bool:=θg (QR p (P4 p (HJ p d u) (HJ p d 0) (HJ p d 1) (low ++ [1]))) 0
def gnC(p m g:Nat)(b1:List Bool)(D:List (List Bool))(low:List Nat):Bool:=
 match θg (pwC p m low (HJ p m 0) g b1 1) 1 with
 | true=>allB (fun b=>match θg (pwC p m low (HJ p m 0) g b 1) 1 with|true=>false|false=>true) D
 | false=>false
def XO(p m:Nat)(b1:List Bool)(D:List (List Bool))(t:Nat)(low:List Nat):Bool:=
 match θg (Nat.mod t 2) 0 with
 | true=>dvC p (Nat.mod (κw t 2) 8) (κw t 16) low
 | false=>gnC p m (κw t 2) b1 D low
def Fh(p m:Nat)(b1:List Bool)(D:List (List Bool))(T:List Nat):Nat->Bool:=
 @List.rec Nat (fun _=>Nat->Bool) (fun _=>true) (fun t _ ih v=>match XO p m b1 D t (HJ p m v) with|true=>ih (Nat.succ v)|false=>false) T
theorem ak{P:Prop}(h:P:=by decide +kernel):P:=h
theorem Y9:Fh 2 2 [true,true] [[true]] [2,18,2,5] 0=true:=ak
theorem Y8:Fh 2 3 [true,true,true] [[true]] [2,18,2,5,2,5,2,18] 0=true:=ak
theorem Y7:Fh 2 4 [true,true,true,true] [[true,false,true], [true,true]] [2,18,2,5,2,52,2,18,2,5,2,18,2,18,2,7] 0=true:=ak
theorem Y6:Fh 2 5 [true,true,true,true,true] [[true]] [2,18,2,52,2,5,2,18,2,5,2,18,2,18,2,5,2,52,2,18,2,18,2,5,2,18,2,5,2,5,2,18] 0=true:=ak
theorem Y4:Fh 2 6 [true,true,true,true,true,true] [[true,false,true,false,true], [true,false,false,true]] [2,18,2,5,2,54,2,18,2,7,2,18,2,18,2,52,2,86,2,18,2,18,2,7,2,18,2,5,2,52,2,18,2,5,2,18,2,18,2,5,2,18,2,52,2,5,2,18,2,18,2,5,2,7,2,18,2,52,2,18,2,18,2,54] 0=true:=ak
theorem YZ:Fh 2 7 [true,true,true,true,true,true,true] [[true]] [2,18,2,5,2,52,2,18,2,5,2,18,2,18,2,5,2,5,2,18,2,18,2,52,2,18,2,86,2,5,2,18,2,52,2,18,2,18,2,5,2,18,2,5,2,54,2,18,2,18,2,52,2,86,2,18,2,5,2,18,2,18,2,5,2,5,2,18,2,18,2,86,2,18,2,5,2,52,2,18,2,18,2,5,2,5,2,18,2,54,2,18,2,18,2,52,2,18,2,54,2,5,2,18,2,52,2,18,2,18,2,5,2,5,2,18,2,18,2,5,2,18,2,52,2,5,2,18] 0=true:=ak
theorem YY:Fh 2 8 [true,true,true,true,true,true,true,true] [[true,false,true,false,true,false,true], [true,true,false,false,true,true], [true,true,true,true]] [2,18,2,52,2,56,2,18,2,54,2,18,2,18,2,86,2,52,2,18,2,18,2,152,2,18,2,7,2,5,2,18,2,86,2,18,2,18,2,52,2,18,2,5,2,5,2,18,2,18,2,54,2,52,2,18,2,7,2,18,2,18,2,7,2,152,2,18,2,18,2,54,2,18,2,52,2,5,2,18,2,18,2,86,2,248,2,18,2,52,2,18,2,18,2,5,2,18,2,5,2,5,2,18,2,5,2,18,2,18,2,52,2,5,2,18,2,18,2,7,2,18,2,19,2,52,2,18,2,52,2,18,2,18,2,5,2,18,2,13,2,5,2,18,2,18,2,52,2,54,2,18,2,86,2,18,2,18,2,7,2,18,2,7,2,52,2,18,2,5,2,18,2,18,2,54,2,13,2,18,2,18,2,52,2,18,2,56,2,15,2,18,2,18,2,5,2,86,2,18,2,52,2,18,2,18,2,5,2,56,2,18,2,18,2,15,2,18,2,52,2,13,2,18,2,54,2,18,2,18,2,5,2,18,2,86,2,52,2,18,2,18,2,13,2,5,2,18,2,7,2,18,2,18,2,52] 0=true:=ak
theorem YX:Fh 3 2 [true,false,false,false] [[true,false,false]] [2,9,18,2,34,7,2,18,7] 0=true:=ak
theorem YW:Fh 3 3 [true,true,false,true,false] [[true,true,false,true], [true,false]] [2,18,34,2,34,18,2,7,13,2,34,11,2,18,9,2,7,18,2,7,18,2,7,34,2,18,9] 0=true:=ak
theorem YV:Fh 3 4 [true,false,true,false,false,false,false] [[true,false,true,false,false,false], [true,false,false,false,false]] [2,84,18,2,34,7,2,18,7,2,18,25,2,9,18,2,11,34,2,20,9,2,18,34,2,34,18,2,34,7,2,18,20,2,9,18,2,21,18,2,11,34,2,18,7,2,18,34,2,34,18,2,132,7,2,18,7,2,9,18,2,34,20,2,21,34,2,18,7,2,9,18,2,34,18,2,84,7,2,18,34] 0=true:=ak
theorem YU:Fh 3 5 [true,true,true,true,false,false,true,false] [[true,true,true,true,false,false,true], [true,false,true,true,false]] [2,18,34,2,34,18,2,7,13,2,34,132,2,18,9,2,20,18,2,84,18,2,7,34,2,18,20,2,34,18,2,7,13,2,18,34,2,18,9,2,132,18,2,34,13,2,7,34,2,18,84,2,7,18,2,132,84,2,18,34,2,34,18,2,7,18,2,34,11,2,18,9,2,18,9,2,7,18,2,9,34,2,34,11,2,18,9,2,7,18,2,7,18,2,7,34,2,18,9,2,18,34,2,34,18,2,20,132,2,18,20,2,7,18,2,34,84,2,84,34,2,18,132,2,7,18,2,34,18,2,7,13,2,18,34,2,7,18,2,34,20,2,18,13,2,18,9,2,7,18,2,132,34,2,7,13,2,18,34,2,34,18,2,7,18,2,7,34,2,18,11,2,18,34,2,34,18,2,84,20,2,34,11,2,18,9,2,7,18,2,20,34,2,18,9,2,132,18,2,34,18,2,7,13,2,18,34,2,18,132,2,84,18,2,34,11,2,18,9,2,20,18,2,7,34,2,7,13,2,18,34,2,34,18,2,15,18,2,34,11,2,18,84] 0=true:=ak
theorem YT:Fh 5 2 [true,true,false,false,false] [[true,true,false,false], [true,false,false,false]] [2,34,13,15,18,2,15,11,34,50,2,18,50,11,17,2,66,18,11,13,2,13,11,18,34] 0=true:=ak
theorem YS:Fh 5 3 [true,true,true,true,true,false,false] [[true,true,true,true,true,false], [true,false,false]] [2,18,50,34,66,2,19,18,66,13,2,13,34,18,15,2,50,11,11,18,2,34,11,11,50,2,15,11,50,34,2,18,66,11,13,2,66,18,34,50,2,13,50,18,17,2,13,34,11,18,2,13,66,11,18,2,66,34,11,15,2,18,11,11,34,2,34,18,50,66,2,50,11,18,17,2,34,11,18,15,2,13,11,34,18,2,50,11,11,66,2,18,34,66,50,2,15,18,11,34,2,50,18,11,13,2,13,11,18,34,2,34,50,66,18,2,15,66,34,19,2,18,11,50,13] 0=true:=ak
theorem YR:Fh 7 2 [true,true,false,false,false,false] [[true,true,false,false,false], [true,false,false,false,false]] [2,19,17,34,17,50,18,2,50,66,15,21,34,21,2,18,21,15,50,15,66,2,23,18,66,82,15,23,2,17,82,18,34,15,17,2,98,17,15,18,15,34,2,34,50,15,19,18,19] 0=true:=ak
theorem V5:Fh 11 2 [true,true,true,true,false,false,false] [[true,true,true,true,false,false], [true,false,true,false,false,false], [true,true,false,false,false]] [2,31,50,27,29,25,66,34,82,27,18,2,31,82,98,27,50,27,23,23,34,66,2,18,33,66,29,31,23,82,50,98,29,2,82,18,33,98,114,23,66,23,25,25,2,114,23,18,34,35,82,23,33,25,98,2,25,23,27,18,98,34,35,114,130,25,2,25,23,27,114,18,130,25,34,50,37,2,50,23,130,146,27,18,23,25,29,34,2,34,146,27,50,66,23,18,23,25,29,2,162,29,34,25,27,23,50,18,66,25,2,29,66,82,25,34,25,23,23,18,50] 0=true:=ak
theorem V4:Fh 13 2 [true,false,true,false,true,false,false,false] [[true,false,true,false,true,false,false], [true,true,true,false,false,false], [true,true,false,false,false]] [2,82,31,98,50,29,29,31,35,34,66,31,18,2,66,27,35,31,31,82,50,35,98,114,34,35,2,18,98,33,114,66,27,27,33,37,50,82,33,2,37,18,82,29,37,27,27,98,66,37,114,130,2,98,27,18,34,114,27,130,82,29,29,27,39,2,39,130,146,18,39,34,98,31,39,29,27,114,2,31,27,29,41,18,114,27,34,50,130,27,146,2,33,27,31,29,130,18,27,146,162,34,27,50,2,29,50,66,146,29,162,18,33,29,31,27,34,2,34,27,162,178,50,27,66,18,35,29,27,31,2,31,178,34,35,31,27,27,50,18,31,66,82,2,194,66,29,82,34,27,27,29,33,18,50,29,2,50,27,33,29,29,66,34,33,82,98,18,33] 0=true:=ak
end
theorem ah{P:Prop}(h:P:=by kernel_rfl):P:=h
theorem Az:(Tryz.prog.info? 3).map (fun i=>(i.zero,i.size,i.bytes))=some (some (.int .i64 0),1,8):=ah
theorem Lj:(Tryz.prog.info? 4).map (fun i=>(i.zero,i.size,i.bytes))=some (some (.bool false),1,1):=ah
def CJ(p m:Int):Int:=if 2<=p/\1<=m/\m<=8/\p^m.toNat<=256 then p^m.toNat else 0
theorem I7{p:Int}(h:2<=p){i j:Nat}(hij:i<=j):p^i<=p^j:=by
 obtain⟨k,rfl⟩:∃k,j=i+k:=⟨j-i,ac⟩;rw[Int.pow_add];have h1:1<=p^k:=οa ac;have h2:1<=p^i:=οa ac;have:=Int.mul_le_mul_of_nonneg_left h1 (show 0<=p^i by omega);omega
theorem ZT{p:Int}(h:2<=p){i:Nat}(hi:1<=i):p<=p^i:=by
 have:=I7 h hi;have e:p^1=p:=Int.pow_one p;omega
theorem zbA{P:Prop}(h:P:=by
 generalize p^i=y at *
 go_wp2
 go_round
 case rel=>exact⟨i+1,by omega,by go_num,by rw[HE.o],by rw[HE.o];omega,by rw[HE.o];omega⟩
 case measure=>exact Ωm):P:=h
theorem zc1{P:Prop}(h:P:=by
 have:=Int.mul_pos (show 0<p^i by omega) (show 0<p by omega);omega):P:=h
theorem I8(p m:Int)(w:World):
  Calls Tryz.prog 112 #[p,m] w fun r w'=>r= .returned (.int .i64 (CJ p m))/\w=w':=by
 by_cases h:2<=p/\p<=256/\1<=m/\m<=8
 .obtain⟨h1,h2,h3,h4⟩:=h;have HO:=Aa (show CJ p m=if p^m.toNat<=256 then p^m.toNat else 0 by unfold CJ;by_cases h:p^m.toNat<=256 <;> simp[h,h1,h3,h4]);go_enter Tryz.func112,Tryz.ntmps112
  go_wp2
  go_loop [5,21] (fun q' i'=>∃i:Nat,i<=m.toNat/\i'= .int .i64 i/\q'= .int .i64 (p^i)/\1<=p^i/\p^i<=256) (fun _ i'=>m.toNat-(intOf i').toNat)
  case atStart=>exact⟨0,ac,rfl,ag,ag,ag⟩
  case round=>
   obtain⟨i,hi,rfl,rfl,q1,q2⟩:=hrel;have HS:=Aa (Int.pow_succ p i);have HM:Hia (i<m.toNat->p^(i+1)<=p^m.toNat):=Aa (fun h=>I7 h1 h);have q3:p^i*p<=65536:=by
    have:=δv q2 h2 ac ac;omega
   have q4:1<=p^i*p:=by
    exact zc1
   by_cases hlt:(i:Int)<m
   .by_cases hq:256<p^i*p
    .have HB:=HM.o ac;rw[HS.o]at HB;have HN:=Aa (show ¬p^m.toNat<=256 by omega);clear HB HM;generalize p^i=y at *
     go_wp2
     go_ret;exact⟨Ai (by rw[HO.o,if_neg (by have:=HN.o;omega)]),rfl⟩
    .have HE:Hia (p^(i+1)=p^i*p):=Aa (HS.o);clear HM HS;exact zbA
   .have aA:i=m.toNat:=by omega
    have HN:=Aa (show p^m.toNat=p^i by rw[aA]);clear HM HS;generalize p^i=y at *
    go_wp2
    go_ret;exact⟨Ai (by rw[HO.o,HN.o,if_pos q2]),rfl⟩
 .have HO:=Aa (show CJ p m=0 by
   unfold CJ;rw[if_neg];rintro⟨h1,h2,h3,h4⟩;have:=ZT h1 (show 1<=m.toNat by omega);exact h ⟨h1,ac,h2,h3⟩)
  have c:p<2∨(2<=p/\256<p)∨(2<=p/\p<=256/\m<1)∨(2<=p/\p<=256/\1<=m/\8<m):=ac;clear h;rcases c with c|⟨c1,c2⟩|⟨c1,c2,c3⟩|⟨c1,c2,c3,c4⟩
  all_goals
   go_enter Tryz.func112,Tryz.ntmps112
   go_wp2
   go_ret;exact⟨Ai HO.o.symm,rfl⟩
def I6(n:Nat):Bool:=decide (2<=n/\∀d,d<n->2<=d->n%d≠0)
theorem prB_no{n d:Nat}(h2:2<=d)(h:d*d<=n)(hd:n%d=0):I6 n=false:=by
 unfold I6;rw[decide_eq_false_iff_not];rintro⟨h1,h3⟩;have h4:d<n:=by
  have:=Nat.mul_le_mul_right d h2;omega
 exact h3 d h4 h2 hd
theorem Zz{n k:Nat}(hn:2<=n)(hk:n<k*k)(h:∀d,2<=d->d<k->n%d≠0):I6 n=true:=by
 unfold I6;rw[decide_eq_true_iff];refine⟨hn,fun d h1 h2 h3=>?_⟩;rcases ζq d k with h4|h4
 .exact h d h2 h4 h3
 .have h5:=Nat.div_mul_cancel (Nat.dvd_of_mod_eq_zero h3);have h6:n/d<k:=by
   rcases ζq (n/d) k with h7|h7
   .exact h7
   .have:=γo h7 h4;omega
  have h7:2<=n/d:=by
   generalize n/d=q at *;rcases ζq q 2 with h8|h8
   .have h9:q=0∨q=1:=by omega
    rcases h9 with e|e <;> rw[e]at h5 <;> omega
   .exact h8
  exact h (n/d) h7 h6 (Nat.mod_eq_zero_of_dvd ⟨d,h5.symm⟩)
theorem zb2{P:Prop}(h:P:=by
 go_wp2
 go_round
 case rel=>exact⟨d+1,by omega,by omega,by go_num,HA⟩
 case measure=>exact Ωm):P:=h
theorem zdi{P:Prop}(h:P:=by
 go_wp2
 go_ret;exact⟨Aq HR.o.symm,rfl⟩):P:=h
theorem Ql(n:Nat)(w:World)(h1:2<=n)(h2:n<=256):
  Calls Tryz.prog 164 #[n] w fun r w'=>r= .returned (.bool (I6 n))/\w=w':=by
 go_enter Tryz.func164,Tryz.ntmps164
 go_wp2
 go_loop [3] (fun d'=>∃d:Nat,2<=d/\d<=17/\d'= .int .i64 d/\Hia (∀c,2<=c->c<d->n%c≠0)) (fun d'=>17-(intOf d').toNat)
 case atStart=>exact⟨2,ac,ac,rfl,Aa (fun c a b=>ac)⟩
 case round=>
  obtain⟨d,d1,d2,rfl,aA⟩:=hrel;have aB:(d:Int)*d=((d*d:Nat):Int):=ag;have q1:d*d<=289:=γo d2 d2;have q2:17*17<=d*d∨d<17:=by
   rcases ζq d 17 with h|h
   .exact .inr h
   .exact .inl (γo h h)
  by_cases hlt:d*d<=n
  .have aD:=Aa (fun h=>prB_no d1 hlt h);have q3:0<=(d:Int)*d:=by omega
   have q4:(d:Int)*d<=289:=ac;have q5:(d:Int)*d<=n:=ac;by_cases hd:n%d=0
   .have aC:((n:Int)%(d:Int)==0)=true:=by simp;omega
    have HR:=Aa (aD.o hd);clear hd aB;exact zdi
   .have aC:((n:Int)%(d:Int)==0)=false:=by simp;omega
    have HA:Hia (∀c,2<=c->c<d+1->n%c≠0):=Aa (fun c a b=>by
     by_cases e:c=d
     .subst e;exact hd
     .exact aA.o c a ac)
    clear hd aB;exact zb2
  .have HR:=Aa (Zz h1 ac aA.o);have q3:0<=(d:Int)*d:=by omega
   have q4:(d:Int)*d<=289:=ac;have q5:(n:Int)<(d:Int)*d:=ac;clear aB
   go_wp2
   go_ret;exact⟨Aq (by rw[HR.o];simp;omega),rfl⟩
theorem zag{P:Prop}(h:P:=by
 have hf:=aA.frz k;have hc:=aA.cell hlt;have HO:=Aa (aA.set k (.int .i64 ((y:Int)%(p:Int))));have HE:=Aa (aA.exSet (by rw[HG.o];exact Nat.le_refl _) aD k (.int .i64 ((y:Int)%(p:Int))));clear aA aD;go_wp2_with fail
 go_roundw
 case rel=>
  refine⟨k+1,by omega,by go_num,by rw[HS.o,Ie _ _ (by omega)],?_,HE.o⟩;have:=HO.o;rw[CF]at this;refine this.icongr fun j hj=>?_;unfold Ay;dsimp only;by_cases h:j=k
  .subst h;rw[if_pos rfl,if_pos (by omega),HD.o hlt];simp
  .rw[if_neg h];by_cases h2:j<k
   .rw[if_pos h2,if_pos (by omega)]
   .rw[if_neg h2,if_neg (by omega)]
 case measure=>exact Ωm):P:=h
theorem OU(x p m:Nat)(w:World)(hx:x<=65536)(hp:1<=p)(hp':p<=256)(hm:m<=256):
  Calls Tryz.prog 205 #[x,p,m] w fun r w'=>∃v,r= .returned v/\Ak w' v (il m (AO p m x))/\Ex w w':=by
 go_enter Tryz.func205,Tryz.ntmps205
 go_wp2_with (at_make;refine Ar _ rfl _ _ 22 rfl 3 (.int .i64 0) 8 Tryz.underlying22 Az rfl _ m rfl rfl rfl ac ai ?_)
 intro w1 aA aD;have aE:w.heap.size<=w.heap.size:=ζ _;have HB:=Aa aE;clear aE;obtain⟨g,hg⟩:=nA w.heap.size;have aB:AJ w1 g 3 g m (iv fun j=>if j<0 then AO p m x j else 0):=by
  rw[hg]at aA;exact aA.congr fun j _=>by simp[iv]
 have HG:=Aa hg;simp only[hg];clear aA hg;go_wp2_with fail
 go_loopw [0,8,13] (fun x' _ k' wr=>∃k:Nat,k<=m/\k'= .int .i64 k/\x'= .int .i64 ((x/p^k:Nat):Int)/\AJ wr g 3 g m (iv fun j=>if j<k then AO p m x j else 0)/\Ex w wr) (fun _ _ k' _=>m-(intOf k').toNat)
 case atStart=>exact⟨0,ac,rfl,ag,aB,aD⟩
 case round=>
  clear aB aD;obtain⟨k,hk,rfl,rfl,aA,aD⟩:=hrel;have hxk:x/p^k<=65536:=μ (ζo _ _) hx;have HS:=Aa (show x/p^(k+1)=x/p^k/p by rw[γp,Nat.div_div_eq_div_mul]);have HD:Hia (k<m->AO p m x k=((x/p^k%p:Nat):Int)):=Aa (fun h=>by unfold AO;rw[if_pos h]);generalize x/p^k=y at *;by_cases hlt:k<m
  .exact zag
  .obtain rfl:k=m:=by omega
   have aC:AJ wr g 3 g k (iv (AO p k x)):=aA.icongr fun j hj=>by rw[if_pos hj]
   have HO:=Aa aC.isl;clear aA aC HD HS;go_wp2_with fail
   go_ret;exact⟨_,rfl,HO.o,aD⟩
def vl(p:Nat):List Int->Int
 | []=>0
 | a :: l=>vl p l*p+a
theorem codGo(p:Nat)(l:List Int)(k:Nat)(x:Int)(h:l[k]?=some x):vl p (l.drop k)=vl p (l.drop (k+1))*(p:Int)+x:=by
 obtain⟨hk,rfl⟩:=List.getElem?_eq_some_iff.1 h;rw[List.drop_eq_getElem_cons hk];rfl
theorem Rk{p:Nat}(hp:1<=p):∀(l:List Int),(∀x∈l,0<=x/\x<p)->0<=vl p l/\vl p l<((p^l.length:Nat):Int)
 | [],_=>by simp[vl]
 | x :: l,h=>by
  obtain⟨h1,h2⟩:=Rk hp l fun y hy=>h y (List.mem_cons_of_mem _ hy);obtain⟨h3,h4⟩:=h x (List.mem_cons_self ..);show 0<=vl p l*p+x/\vl p l*p+x<_
  have h5:0<=vl p l*p:=δd h1 ac;have h6:(vl p l+1)*(p:Int)<=((p^l.length:Nat):Int)*p:=Int.mul_le_mul_of_nonneg_right ac ac;rw[γk,γp,γb];rw[μv]at h6;omega
theorem Pq(p:Nat):∀(m:Nat) (f:Nat->Int),vl p (il m f)=Ev p m f
 | 0,f=>by simp[il,vl,Ev]
 | m+1,f=>by
  have aA:∀(l:List Int) (x:Int),vl p (l ++ [x])=vl p l+x*((p^l.length:Nat):Int):=by
   intro l
   induction l with
   | nil=>intro x;simp[vl]
   | cons a l ih=>
    intro x;show vl p (l ++ [x])*p+a=vl p l*p+a+_
    rw[ih,γk,γp,γb,μv,Int.mul_assoc];omega
  simp only[Ev];rw[show il (m+1) f=il m f ++ [f m] by simp[il,γg],aA,Pq p m f,Ao]
theorem zda{P:Prop}(h:P:=by
 go_wp2_with fail
 go_ret;exact⟨Ai HF.o.symm,rfl⟩):P:=h
theorem Pr(l:List Int)(v:Value)(p:Nat)(w:World)(hl:Ak w v l)(hp:1<=p)(hp':p<=256)(hb:∀x∈l,0<=x/\x<p)(hq:p^l.length<=65536):
  Calls Tryz.prog 206 #[v,p] w fun r w'=>r= .returned (.int .i64 (vl p l))/\w=w':=by
 obtain⟨a,cap,rfl,s1,s2,s3⟩:=hl.open;unfold maxLen at s2;have S3:=Aa s3;have HV:Hia (vl p l=vl p (l.drop 0)):=Aa (rfl);have HR:Hia (∀k,0<=vl p (l.drop k)/\vl p (l.drop k)*(p:Int)<=16777216/\vl p (l.drop k)<=65536):=Aa (fun k=>by
  obtain⟨h1,h2⟩:=Rk hp (l.drop k) fun x hx=>hb x (List.mem_of_mem_drop hx);have h3:p^(l.drop k).length<=p^l.length:=Nat.pow_le_pow_right hp (by rw[List.length_drop];omega);have h4:=δv (show vl p (l.drop k)<=65536 by omega) (show(p:Int)<=256 by omega) ac ac;exact⟨h1,h4,by
    have:vl p (l.drop k)<=65536:=ac;exact this⟩)
 have HX:Hia (∀(k:Nat) (x:Int),l[k]?=some x->0<=x/\x<=256):=Aa (fun k x h=>by have:=hb x (List.mem_of_getElem? h);omega);have HN:=Aa (show vl p (l.drop l.length)=0 by rw[List.drop_length];rfl);clear hl s3 hb hq;go_enter Tryz.func206,Tryz.ntmps206
 go_wp2_with fail
 go_loop [5,6] (fun x' i'=>∃k:Nat,k<=l.length/\i'= .int .i64 ((k:Int)-1)/\x'= .int .i64 (vl p (l.drop k))) (fun _ i'=>(intOf i'+1).toNat)
 case atStart=>exact⟨l.length,ac,rfl,by rw[HN.o]⟩
 case round=>
  obtain⟨k,hk,rfl,rfl⟩:=hrel;obtain⟨r1,r2,r3⟩:=HR.o k;rcases k with _|k
  .have HF:=Aa HV.o;generalize vl p (l.drop 0)=y at *;exact zda
  .have r0:0<=vl p (l.drop (k+1))*(p:Int):=δd r1 ac;obtain⟨x,hx⟩:∃x,l[k]?=some x:=⟨_,List.getElem?_eq_getElem ac⟩;obtain⟨b,o,rfl,hc⟩:=S3.o ac;have c1:=hc k x hx;obtain⟨x1,x2⟩:=HX.o k x hx;have HG:=Aa (codGo p l k x hx);have e:(((k+1:Nat)):Int)-1=k:=by omega
   rw[e];clear hc hx e;generalize vl p (l.drop (k+1))=y at *;go_wp2_with fail
   go_round
   case rel=>exact⟨k,ac,rfl,by rw[HG.o]⟩
   case measure=>simp[intOf]
end Go.Proofs.YtehieobniamagaaGreat
