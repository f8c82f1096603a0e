/- Appending one element to a slice that the call has made itself. -/
import Derived.Maps.AppendAt
import Derived.Deep.Upon
import Derived.Deep.RegionLaw
import Derived.Laws.Cover3
import Derived.Test.YtehieobniamagaaGreatZa00
namespace Go.Proofs.YtehieobniamagaaGreat
open Go.RowKit
set_option linter.all false
set_option maxRecDepth 100000
set_option maxHeartbeats 1000000
def AJ(u v:Value):Prop:=u.ownBlock=none∨u.ownBlock≠v.ownBlock
theorem AJ.symm{u v:Value}(h:AJ u v):AJ v u:=by
 unfold AJ at *;rcases h with h|h
 .rcases hv:v.ownBlock with _|b
  .exact .inl rfl
  .right;rw[h];simp
 .exact .inr fun e=>h e.symm
theorem AJ.nil(v:Value):AJ (.slice none 0 0) v:= .inl rfl
structure AZ(w w':World)(base:Nat)(e:TypeId)(size:Nat)(v v':Value)(n:Nat)(xs news:List Value):Prop where
 own:w'.ownsRow base e size v' (n+1) (xs++news)
 gr:∃o,(w.alloc o).grownBy w' v.ownBlock
 at_:v'.ownBlock=v.ownBlock∨v'.ownBlock=some (w.heap.size+1)
 old:w.ownsRow base e size v n xs
section
variable {w w':World} {base:Nat} {e:TypeId} {size:Nat} {v v':Value} {n:Nat} {xs news:List Value}
theorem AZ.grow(h:AZ w w' base e size v v' n xs news):w.heap.size<w'.heap.size:=by
 obtain⟨o,hg⟩:=h.gr;have:=hg.size;simp at this;omega
theorem AZ.ex(h:AZ w w' base e size v v' n xs news){a:World}(hx:Ex a w)(hb:a.heap.size<=base):Ex a w':=by
 obtain⟨o,hg⟩:=h.gr;exact Ex.grown (hx.alloc o) (h.old.alloc o) hb hg
theorem AZ.cell(h:AZ w w' base e size v v' n xs news){a:Addr}{u:Value}(hc:w.cell? a=some u)(aA:some a.block≠v.ownBlock):w'.cell? a=some u:=by
 obtain⟨o,hg⟩:=h.gr;exact hg.cell (by rw[World.cell?_alloc_lt _ _ _ (World.block_lt_of_cell? _ _ hc)];exact hc) aA
theorem zaq{P:Prop}(h:P:=by
 right;have hlt:=(k.lt b h2).2;rcases h.at_ with h3|h3
 .rw[h3,<-h2];rcases ha with ha|ha
  .rw[h2]at ha;cases ha
  .exact ha
 .rw[h3];intro e;injection e with e;omega):P:=h
theorem zcv{P:Prop}(h:P:=by
 unfold AJ;rcases h2:v2.ownBlock with _|b
 .exact .inl rfl
 .exact zaq):P:=h
theorem AZ.row(h:AZ w w' base e size v v' n xs news){b2:Nat}{e2:TypeId}{s2:Nat}{v2:Value}{n2:Nat}{ys:List Value}(k:w.ownsRow b2 e2 s2 v2 n2 ys)(ha:AJ v2 v):
  w'.ownsRow b2 e2 s2 v2 n2 ys/\AJ v2 v':=by
 obtain⟨o,hg⟩:=h.gr;refine⟨(k.alloc o).kept hg ha,?_⟩;exact zcv
theorem AZ.arr(h:AZ w w' base e size v v' n xs news){b2:Nat}{e2:TypeId}{g m:Nat}{c:Nat->Value}(k:AI w b2 e2 g m c)(ha:v.ownBlock≠some g):
  AI w' b2 e2 g m c/\v'.ownBlock≠some g:=by
 have h1:=h.row k (.inr (fun e=>ha e.symm));refine⟨h1.1,?_⟩;rcases h1.2 with h2|h2
 .cases h2
 .exact fun e=>h2 e.symm
end
theorem aq{P:Prop}(h:P:=by simp;omega):P:=h
theorem c9{P:Prop}(h:P:=by unfold Addr.add;split <;> simp_all):P:=h
theorem Ak{P:Program}(w:World){ops:Array Oper}{rest:List Oper}{o:Oper}{a:Act}{Q:Exit->Act->World->Prop}(aL:o.guard=none)(s x:Operand)(t:TypeId)
  (ho:o.op= .call { callee:= .builtin .append,args:= #[s,x],argTypes:= #[t,t] })
  (base:Nat) (e:TypeId) (z:Value) (size aA:Nat) (ht:P.underlying t=some (.slice e)) (hi:(P.info? e).map (fun i=>(i.zero,i.size,i.bytes))=some (some z,size,aA))
  (aF:z.cells.size=size) (aJ:0<size)
  (v:Value) (n:Nat) (xs:List Value) (hs:a.eval s=v) (aC:w.ownsRow base e size v n xs)
  (news:List Value) (te:TypeId) (B:Nat) (hx:a.eval x= .slice (some ⟨B,0,none⟩) 1 1) (hB:w.heap.size=B) (hl:news.length=size) (h1:∀u∈news,u.oneCell'=true)
  (aM:n+1<=maxLen) (aB:(n+1)*aA<=140737488355328) (hbase:base<=w.heap.size)
  (h:∀v' w',AZ w w' base e size v v' n xs news->wpList P ops Q rest (a.put o.dst v') w'):
  wpList P ops Q (o :: rest) a (w.alloc (.cells news.toArray te)):=by
 subst hB;obtain⟨i,aK,aI,aH,aG⟩:=info_parts hi;refine wpList_plain aL fun K hK=>?_;have aD:∀j u,news[j]?=some u->(w.alloc (.cells news.toArray te)).cell? ((⟨w.heap.size,0,none⟩:Addr).add j)=some u:=by
  intro j u hu;have aE:(⟨w.heap.size,0,none⟩:Addr).add j=⟨w.heap.size,j,none⟩:=c9;rw[aE];simpa using hu
 obtain⟨v',w',hr,h2,h3,h4,h5⟩:=run_append_own_at (P:=P) (w.alloc (.cells news.toArray te)) base t o.type e i z size aA ht aK aI aH aG aF aJ v n xs (aC.alloc _) ⟨w.heap.size,0,none⟩ 1 1 news (by rw[hl,Nat.one_mul]) aD h1 aM aB aq;unfold Oper.wp execOp;simp only[ho,resolve,invoke,builtin,Sem.run_bind,Sem.run_pure,Result.andThen_ok,List.map_toArray,List.map_cons,List.map_nil,hs,hx,hr];exact hK _ _ (h v' w' ⟨h2,⟨_,h3⟩,by simpa using h5,aC⟩)
def YG:Value->Nat
 | .slice _ n _=>n
 | _=>0
theorem ND{w:World}{base:Nat}{e:TypeId}{size:Nat}{v:Value}{n:Nat}{xs:List Value}(h:w.ownsRow base e size v n xs):YG v=n:=by
 rcases h.2 with⟨rfl,rfl⟩|⟨g,cap,cur,rfl,_⟩ <;> rfl
theorem Fj{w:World}{base:Nat}{e:TypeId}{size:Nat}{v:Value}{n:Nat}{xs:List Value}(h:w.ownsRow base e size v n xs)(hn:1<=n):
  ∃g cap,v= .slice (some ⟨g,0,none⟩) n cap/\n<=cap/\cap<=maxLen:=by
 rcases h.2 with⟨_,h0⟩|⟨g,cap,cur,rfl,_,_,h1,h2,_⟩
 .omega
 .exact⟨g,cap,rfl,h1,h2⟩
theorem Ab{w:World}{base:Nat}{e:TypeId}{size:Nat}{v:Value}{n:Nat}{xs:List Value}(h:w.ownsRow base e size v n xs):∃a c,v= .slice a n c:=by
 rcases h.2 with⟨rfl,rfl⟩|⟨g,cap,cur,rfl,_⟩
 .exact⟨none,0,rfl⟩
 .exact⟨_,_,rfl⟩
theorem ai{P:Prop}(h:P:=by unfold maxLen;omega):P:=h
theorem Ei(w:World)(u:Value)(e:TypeId):(w.alloc (.cells #[u] e)).ownsRow w.heap.size e 1 (.slice (some ⟨w.heap.size,0,none⟩) 1 1) 1 [u]:=
 World.ownsRow_lit w #[u] 1 (Nat.le_refl _) ai rfl
theorem D9{P:Program}(w:World)(base:Nat)(t ty e:TypeId)(z:Value)(size aA:Nat)(ht:P.underlying t=some (.slice e))(hi:(P.info? e).map (fun i=>(i.zero,i.size,i.bytes))=some (some z,size,aA))
  (aJ:z.cells.size=size) (aN:0<size) (v:Value) (n:Nat) (xs:List Value) (aB:w.ownsRow base e size v n xs)
  (x:Value) (m:Nat) (news:List Value) (hx:Sl w x m size news) (h1:∀u∈news,u.oneCell'=true)
  (aQ:n+m<=maxLen) (aD:(n+m)*aA<=140737488355328) (aF:base<=w.heap.size):
  ∃v' w',(Builtin.append_ #[t,t] ty #[v,x]).run P w= .ok v' w'/\w'.ownsRow base e size v' (n+m) (xs++news)/\w.grownBy w' v.ownBlock/\(v'.ownBlock=v.ownBlock∨v'.ownBlock=some w.heap.size):=by
 obtain⟨i,aI,aM,aL,aK⟩:=info_parts hi;obtain⟨hl,a,cap,rfl,hmc,hcm,aC⟩:=hx;rcases Nat.eq_zero_or_pos m with h0|h0
 .subst h0;have aO:news= []:=List.eq_nil_of_length_eq_zero (by rw[hl];simp);subst aO;have aG:Src P i.size t (.slice a 0 cap) 0 [] w:=by
   rcases a with _|a
   .exact Src.ofNil w ht cap
   .exact Src.ofSlice w ht a 0 cap [] ag ag ag
  have hv:∃ao c,v= .slice ao n c/\n<=c:=by
   rcases aB.2 with⟨rfl,rfl⟩|⟨g,c,cur,rfl,_,_,h,_⟩
   .exact⟨none,0,rfl,Nat.le_refl _⟩
   .exact⟨_,_,rfl,h⟩
  obtain⟨ao,c,rfl,aP⟩:=hv;refine⟨_,_,run_append_nothing w t t ty e i ht aI ao n c aP _ aG,by simpa using aB,⟨rfl,rfl,rfl,Nat.le_refl _,fun _ _ _=>rfl⟩,.inl rfl⟩
 .obtain⟨b,o,rfl,hc⟩:=aC h0;have aE:∀j u,news[j]?=some u->w.cell? ((⟨b,o,none⟩:Addr).add j)=some u:=by
   intro j u hu;have aH:(⟨b,o,none⟩:Addr).add j=⟨b,o+j,none⟩:=c9;rw[aH];exact hc j u hu
  obtain⟨v',w',hr,h2,h3,h4,h5⟩:=run_append_own_at (P:=P) w base t ty e i z size aA ht aI aM aL aK aJ aN v n xs aB ⟨b,o,none⟩ m cap news hl aE h1 aQ aD aF;exact⟨v',w',hr,h2,h3,h5⟩
theorem A8{P:Program}(w:World){ops:Array Oper}{rest:List Oper}{o:Oper}{a:Act}{Q:Exit->Act->World->Prop}(aH:o.guard=none)(s x:Operand)(t:TypeId)
  (ho:o.op= .call { callee:= .builtin .append,args:= #[s,x],argTypes:= #[t,t] })
  (base:Nat) (e:TypeId) (z:Value) (size aA:Nat) (ht:P.underlying t=some (.slice e)) (hi:(P.info? e).map (fun i=>(i.zero,i.size,i.bytes))=some (some z,size,aA))
  (aE:z.cells.size=size) (aF:0<size) (v:Value) (n:Nat) (xs:List Value) (hs:a.eval s=v) (aD:w.ownsRow base e size v n xs)
  (xv:Value) (m:Nat) (news:List Value) (hx:a.eval x=xv) (aG:Sl w xv m size news) (h1:∀u∈news,u.oneCell'=true)
  (aI:n+m<=maxLen) (aB:(n+m)*aA<=140737488355328) (aC:base<=w.heap.size)
  (h:∀v' w',w'.ownsRow base e size v' (n+m) (xs++news)->w.grownBy w' v.ownBlock->(v'.ownBlock=v.ownBlock∨v'.ownBlock=some w.heap.size)->wpList P ops Q rest (a.put o.dst v') w'):
  wpList P ops Q (o :: rest) a w:=by
 refine wpList_plain aH fun K hK=>?_;obtain⟨v',w',hr,h2,h3,h4⟩:=D9 (P:=P) w base t o.type e z size aA ht hi aE aF v n xs aD xv m news aG h1 aI aB aC;unfold Oper.wp execOp;simp only[ho,resolve,invoke,builtin,Sem.run_bind,Sem.run_pure,Result.andThen_ok,List.map_toArray,List.map_cons,List.map_nil,hs,hx,hr];exact hK _ _ (h v' w' h2 h3 h4)
theorem zbk{P:Prop}(h:P:=by
 unfold Oper.wp execOp;simp only[ho,resolve,invoke,builtin,Sem.run_bind,Sem.run_pure,Result.andThen_ok,List.map_toArray,List.map_cons,List.map_nil,hs,hx,hr];exact h v' w' h2 h3 h4):P:=h
theorem BI{P:Program}{w:World}{ops:Array Oper}{o:Oper}{a:Act}{K:Act->World->Prop}{Q:Exit->Act->World->Prop}{E:Prop}(aH:o.guard=none)(s x:Operand)(t:TypeId)
  (ho:o.op= .call { callee:= .builtin .append,args:= #[s,x],argTypes:= #[t,t] })
  (base:Nat) (e:TypeId) (z:Value) (size aA:Nat) (ht:P.underlying t=some (.slice e)) (hi:(P.info? e).map (fun i=>(i.zero,i.size,i.bytes))=some (some z,size,aA))
  (aE:z.cells.size=size) (aF:0<size) (v:Value) (n:Nat) (xs:List Value) (hs:a.eval s=v) (aD:w.ownsRow base e size v n xs)
  (xv:Value) (m:Nat) (news:List Value) (hx:a.eval x=xv) (aG:Sl w xv m size news) (h1:∀u∈news,u.oneCell'=true)
  (aI:n+m<=maxLen) (aB:(n+m)*aA<=140737488355328) (aC:base<=w.heap.size)
  (h:∀v' w',w'.ownsRow base e size v' (n+m) (xs++news)->w.grownBy w' v.ownBlock->(v'.ownBlock=v.ownBlock∨v'.ownBlock=some w.heap.size)->K (a.put o.dst v') w'):
  if Region.wanted o (yielded ops a.tmps)=true then Oper.wp P o a w K Q else E:=by
 have hw:Region.wanted o (yielded ops a.tmps)=true:=by simp[Region.wanted,aH]
 rw[if_pos hw];obtain⟨v',w',hr,h2,h3,h4⟩:=D9 (P:=P) w base t o.type e z size aA ht hi aE aF v n xs aD xv m news aG h1 aI aB aC;exact zbk
theorem AD{P:Program}(w:World)(t e:TypeId)(a:Option Addr)(l c:Nat)(h:P.underlying t=some (.slice e)):(binOp .eql t (.slice a l c) (.slice none 0 0)).run P w= .ok (.bool a.isNone) w:=by
 simp only[binOp];simp[run_equal_slice_nil w t e a l c h]
theorem Bn(w:World)(e:TypeId):(w.alloc (.cells #[] e)).ownsRow w.heap.size e 1 (.slice (some ⟨w.heap.size,0,none⟩) 0 0) 0 []:=
 World.ownsRow_lit w #[] 0 (Nat.le_refl _) ai rfl
theorem D7{P:Program}{w:World}{o:Oper}{a:Act}{K:Act->World->Prop}{Q:Exit->Act->World->Prop}(t e:TypeId)(z:Value)(aA:Nat)
  (h1:P.underlying t=some (.slice e)) (hi:(P.info? e).map (fun i=>(i.zero,i.size,i.bytes))=some (some z,1,aA)) (hz:z.cells= #[z])
  (n:Nat) (b2:aA*n<=281474976710656) (b3:n<=maxLen)
  (hK:∀w',AI w' w.heap.size e w.heap.size n (fun _=>z)->Ex w w'->Oper.upon P o a K Q (.ok (.value (.slice (some ⟨w.heap.size,0,none⟩) n n)) w')):
  Oper.upon P o a K Q (((Instr.makeSlice t (.int .i64 (n:Int)) (.int .i64 (n:Int))).run P w).andThen fun a w'=>Result.ok (Next.value a) w'):=by
 obtain⟨i,aF,aE,aD,aC⟩:=info_parts hi;obtain⟨w',aB,r1,r2⟩:=run_make_full (P:=P) w w.heap.size t e i z 1 h1 aF aE aD .i64 .i64 n (by rw[aC];exact b2) b3 (Nat.le_refl _);rw[aB,Result.andThen_ok];rw[hz,Nat.mul_one,toList_madeCells_one,Gw]at r1;exact hK w' r1 (Below.grown (Below.refl _ _) r2 (Nat.le_refl _) (fun k hk=>by cases hk))
def Nk(n:Nat):List Oper->Nat->List Nat->Bool
 | [],_,_=>true
 | o :: l,k,seen=>o.guard.isNone&&(o.after.all fun e=>decide (e.on<k))&&(match o.dst with
  | none=>Nk n l (k+1) seen
  | some d=>decide (d<n) && !seen.contains d&&Nk n l (k+1) (d :: seen))
structure Q5(ops:Array Oper)(n:Nat):Prop where
 free:∀(i:Nat) (o:Oper),ops[i]?=some o->o.guard=none
 wait:∀(i:Nat) (o:Oper),ops[i]?=some o->∀e∈o.after,(e:Edge).on<i
 lt:∀(i:Nat) (o:Oper) (d:Nat),ops[i]?=some o->o.dst=some d->d<n
 inj:∀(i j:Nat) (oi oj:Oper) (d:Nat),ops[i]?=some oi->ops[j]?=some oj->oi.dst=some d->oj.dst=some d->i=j
theorem zax{P:Prop}(h:P:=by
 rw[hd]at h3;simp only[Bool.and_eq_true]at h3;refine⟨by simpa using h3.1.1,by simpa using h3.1.2,fun j oj hj=>by omega⟩):P:=h
theorem za8{P:Prop}(h:P:=by
 obtain⟨c1,c2,c3⟩:=c d hd;refine⟨c1,fun h=>c2 (List.mem_cons_of_mem _ h),fun j oj hj ho=>?_⟩
 cases j with
 | zero=>
  simp at ho;subst ho;rw[hdo];intro e;injection e with e;exact c2 (by rw[e];exact List.mem_cons_self ..)
 | succ j=>simp at ho;exact c3 j oj (by omega) ho):P:=h
theorem zbm{P:Prop}(h:P:=by
 obtain⟨c1,c2,c3⟩:=c d hd;refine⟨c1,c2,fun j oj hj ho=>?_⟩
 cases j with
 | zero=>simp at ho;subst ho;rw[hdo];simp
 | succ j=>simp at ho;exact c3 j oj (by omega) ho):P:=h
theorem Hc(n:Nat):∀(l:List Oper) (k:Nat) (aA:List Nat),Nk n l k aA=true->∀(i:Nat) (o:Oper),l[i]?=some o->
  o.guard=none/\(∀e∈o.after,e.on<k+i)/\∀d,o.dst=some d->d<n/\d ∉ aA/\∀j oj,j<i->l[j]?=some oj->oj.dst≠some d
 | [],_,_,_,i,o,h=>by simp at h
 | o :: l,k,aA,h,i,o',hi=>by
  unfold Nk at h;rw[Bool.and_eq_true,Bool.and_eq_true]at h;obtain⟨⟨h1,h2⟩,h3⟩:=h
  cases i with
  | zero=>
   simp at hi;subst hi;refine⟨by simpa using h1,fun e he=>?_,fun d hd=>?_⟩
   .rw[Array.all_eq_true_iff_forall_mem]at h2;have:=h2 e he;simpa using this
   .exact zax
  | succ i=>
   simp at hi
   cases hdo:o.dst with
   | none=>
    rw[hdo]at h3;obtain⟨a,b,c⟩:=Hc n l (k+1) aA h3 i o' hi;refine⟨a,fun e he=>by have:=b e he;omega,fun d hd=>?_⟩;exact zbm
   | some d0=>
    rw[hdo]at h3;simp only[Bool.and_eq_true]at h3;obtain⟨a,b,c⟩:=Hc n l (k+1) (d0 :: aA) h3.2 i o' hi;refine⟨a,fun e he=>by have:=b e he;omega,fun d hd=>?_⟩;exact za8
theorem ay{P:Prop}(h:P:=by simpa using h):P:=h
theorem Xf{l:List Oper}{n:Nat}(h:Nk n l 0 []=true):Q5 l.toArray n:=by
 have aA:=Hc n l 0 [] h;have hg:∀(i:Nat) o,l.toArray[i]?=some o->l[i]?=some o:=fun i o h=>ay;refine⟨fun i o ho=>(aA i o (hg i o ho)).1,fun i o ho e he=>by have:=(aA i o (hg i o ho)).2.1 e he;omega,fun i o d ho hd=>((aA i o (hg i o ho)).2.2 d hd).1,fun i j oi oj d hi hj h1 h2=>?_⟩;rcases Nat.lt_trichotomy i j with e|e|e
 .exact absurd h1 (((aA j oj (hg j oj hj)).2.2 d h2).2.2 i oi e (hg i oi hi))
 .exact e
 .exact absurd h2 (((aA i oi (hg i oi hi)).2.2 d h1).2.2 j oj e (hg j oj hj))
structure EP(ops:Array Oper)(a0:Act)(L:Nat->Bool)(vals:Nat->Value)(a:Act):Prop where
 sz:a.tmps.size=a0.tmps.size
 df:a.defers=a0.defers
 got:∀(i:Nat) (o:Oper) (d:Nat),L i=true->ops[i]?=some o->o.dst=some d->a.tmps[d]?=some (vals i)
 old:∀(s:Nat),(∀(i:Nat) (o:Oper),L i=true->ops[i]?=some o->o.dst≠some s)->a.tmps[s]?=a0.tmps[s]?
section
variable {ops:Array Oper} {a0 a a':Act} {L L':Nat->Bool} {vals:Nat->Value}
theorem EP.congr(h:EP ops a0 L vals a)(hL:∀i,i<ops.size->L i=L' i):EP ops a0 L' vals a:=by
 have hs:∀i o,ops[i]?=some o->i<ops.size:=fun i o h=>(Array.getElem?_eq_some_iff.1 h).1;exact⟨h.sz,h.df,fun i o d hi ho hd=>h.got i o d (by rw[hL i (hs i o ho)];exact hi) ho hd,fun s hn=>h.old s fun i o hi ho=>hn i o (by rw[<-hL i (hs i o ho)];exact hi) ho⟩
theorem EP.uniq(h:EP ops a0 L vals a)(k:EP ops a0 L vals a'):a=a':=by
 have h1:a.tmps=a'.tmps:=by
  apply Array.ext_getElem?;intro s;by_cases hs:∃i o,L i=true/\ops[i]?=some o/\o.dst=some s
  .obtain⟨i,o,h1,h2,h3⟩:=hs;rw[h.got i o s h1 h2 h3,k.got i o s h1 h2 h3]
  .rw[h.old s fun i o h1 h2 h3=>hs ⟨i,o,h1,h2,h3⟩,k.old s fun i o h1 h2 h3=>hs ⟨i,o,h1,h2,h3⟩]
 have h2:a.defers=a'.defers:=h.df.trans k.df.symm;cases a;cases a'
 simp only at h1 h2;subst h1 h2;rfl
theorem zai{P:Prop}(h:P:=by
 show(a.tmps.setIfInBounds d0 v)[d]?=_
 by_cases e:j=i
 .subst e;rw[ho]at aA;injection aA with aA;subst aA;rw[hd]at aB;injection aB with aB;subst aB;rw[Array.getElem?_setIfInBounds_self_of_lt aD,Ad]
 .have aC:d0≠d:=fun e2=>e (H.inj j i oj o d aA ho aB (by rw[hd,e2]));rw[Array.getElem?_setIfInBounds_ne aC,Ae _ _ e];rw[Ae _ _ e]at hj;exact h.got j oj d hj aA aB):P:=h
theorem zaj{P:Prop}(h:P:=by
 show(a.tmps.setIfInBounds d0 v)[s]?=_
 have aC:d0≠s:=fun e2=>hn i o (Ad _ _ _) ho (by rw[hd,e2]);rw[Array.getElem?_setIfInBounds_ne aC];exact h.old s fun j oj hj aA=>by
  by_cases e:j=i
  .subst e;rw[ho]at aA;injection aA with aA;subst aA;rw[hd];intro e2;injection e2 with e2;exact aC e2
  .exact hn j oj (by rw[Ae _ _ e];exact hj) aA):P:=h
theorem zau{P:Prop}(h:P:=by
 by_cases e:j=i
 .subst e;rw[ho]at aA;injection aA with aA;subst aA;rw[hd]at aB;cases aB
 .rw[Ae _ _ e]at hj ⊢;exact h.got j oj d hj aA aB):P:=h
theorem zay{P:Prop}(h:P:=by
 by_cases e:j=i
 .subst e;rw[ho]at aA;injection aA with aA;subst aA;rw[hd];simp
 .exact hn j oj (by rw[Ae _ _ e];exact hj) aA):P:=h
theorem za5{P:Prop}(h:P:=by
 cases hd:o.dst with
 | none=>
  refine⟨h.sz,h.df,fun j oj d hj aA aB=>?_,fun s hn=>h.old s fun j oj hj aA=>?_⟩
  .exact zau
  .exact zay
 | some d0=>
  have aD:d0<a.tmps.size:=by rw[h.sz];exact H.lt i o d0 ho hd
  refine⟨by show(a.tmps.setIfInBounds d0 v).size=_;rw[Array.size_setIfInBounds];exact h.sz,h.df,fun j oj d hj aA aB=>?_,fun s hn=>?_⟩
  .exact zai
  .exact zaj):P:=h
theorem EP.step(H:Q5 ops a0.tmps.size)(h:EP ops a0 L vals a){i:Nat}{o:Oper}(ho:ops[i]?=some o)(v:Value):EP ops a0 (Ax L i true) (Ax vals i v) (a.put o.dst v):=by
 exact za5
def BU(ops:List Oper)(vals:Nat->Value):Nat->Act->Act:=match ops with
 | []=>fun _ a=>a
 | o :: l=>fun k a=>BU l vals (k+1) (a.put o.dst (vals k))
end
theorem di{P:Prop}(h:P:=by cases h):P:=h
theorem EP.init(ops:Array Oper)(a0:Act)(vals:Nat->Value):EP ops a0 (fun _=>false) vals a0:=⟨rfl,rfl,fun i o d h=>di,fun s _=>rfl⟩
theorem zb9{P:Prop}(h:P:=by
 funext i;by_cases e:i=aA.length
 .subst e;rw[Ad];simp
 .rw[Ae _ _ e];simp;omega):P:=h
theorem EP.putK{l0:List Oper}{a0:Act}(H:Q5 l0.toArray a0.tmps.size)(vals:Nat->Value):∀(l aA:List Oper) (a:Act),aA++l=l0->EP l0.toArray a0 (fun i=>decide (i<aA.length)) vals a->EP l0.toArray a0 (fun i=>decide (i<l0.length)) vals (BU l vals aA.length a)
 | [],aA,a,he,h=>by
  rw[List.append_nil]at he;subst he;exact h
 | o :: l,aA,a,he,h=>by
  have ho:l0.toArray[aA.length]?=some o:=by rw[<-he];simp
  have h1:=h.step H ho (vals aA.length);have e1:Ax (fun i=>decide (i<aA.length)) aA.length true=fun i=>decide (i<(aA ++ [o]).length):=by
   exact zb9
  have e2:Ax vals aA.length (vals aA.length)=vals:=by
   funext i;by_cases e:i=aA.length
   .subst e;rw[Ad]
   .rw[Ae _ _ e]
  rw[e1,e2]at h1;have h2:=EP.putK H vals l (aA ++ [o]) (a.put o.dst (vals aA.length)) (by rw[<-he];simp) h1;rw[List.length_append]at h2;exact h2
theorem QR(p:Nat->Bool)(m:Nat): [m].countP p=if p m=true then 1 else 0:=by
 rw[List.countP_cons,List.countP_nil,Nat.zero_add]
theorem ae{P:Prop}(h:P:=by decide):P:=h
theorem MC(L:Nat->Bool)(i:Nat)(hi:L i=false):∀m,(List.range m).countP (fun j=> !(Ax L i true) j)+(if i<m then 1 else 0)=(List.range m).countP (fun j=> !L j)
 | 0=>by simp
 | m+1=>by
  have ih:=MC L i hi m;rw[List.range_succ,List.countP_append,List.countP_append,QR,QR];by_cases e:m=i
  .subst e;rw[if_neg ac]at ih;rw[Ad,hi,if_neg ae,if_pos ac,if_pos ae];omega
  .rw[Ae _ _ e];by_cases e2:i<m
   .rw[if_pos e2]at ih;rw[if_pos (show i<m+1 by omega)];omega
   .rw[if_neg e2]at ih;rw[if_neg (show ¬i<m+1 by omega)];omega
def AG(F:Nat->Oper->Prop):List Oper->Nat->Prop
 | [],_=>True
 | o :: l,k=>F k o/\AG F l (k+1)
theorem AG.get{F:Nat->Oper->Prop}:∀ {l:List Oper} {k i:Nat} {o:Oper},AG F l k->l[i]?=some o->F (k+i) o
 | [],_,_,_,_,hi=>by cases hi
 | o :: l,k,0,o',h,hi=>by
  have:o=o':=Option.some.inj hi;subst this;exact h.1
 | o :: l,k,i+1,o',h,hi=>by
  have h1:F (k+1+i) o':=AG.get (l:=l) h.2 hi;rw[show k+(i+1)=k+1+i from ac];exact h1
section
variable {P:Program} {Q:Exit->Act->World->Prop} {J:(Nat->Bool)->(Nat->Value)->World->Prop} {a0:Act}
def Uz(P:Program)(Q:Exit->Act->World->Prop)(J:(Nat->Bool)->(Nat->Value)->World->Prop)(ops:Array Oper)(a0:Act)(i:Nat)(o:Oper):Prop:=
 ∀L vals a w,EP ops a0 L vals a->J L vals w->L i=false->(∀e∈o.after,Region.binds .any e=true->L e.on=true)->(∀(k:Nat) (o':Oper),L k=true->ops[k]?=some o'->∀e∈o'.after,Region.binds .any e=true->L e.on=true)->
  ∀K:Act->World->Prop,(∀v w',J (Ax L i true) (Ax vals i v) w'->K (a.put o.dst v) w')->o.wp P a w K Q
theorem zaz{P:Prop}(h:P:=by
 rw[Ae _ _ e];rw[Array.getD_eq_getD_getElem?,Array.getD_eq_getD_getElem?,Array.getElem?_setIfInBounds_ne (fun h=>e h.symm)]):P:=h
theorem zbq{P:Prop}(h:P:=by
 have h0:(List.range l.length).countP (fun i=> !listed.getD i false)=0:=by omega
 have:=List.countP_eq_zero.1 h0 i (List.mem_range.2 hi);simpa using this):P:=h
theorem bm{P:Prop}(h:P:=by simpa using (Array.getElem?_eq_some_iff.1 h2).1):P:=h
theorem Vh{l:List Oper}(H:Q5 l.toArray a0.tmps.size)(hs:AG (Uz P Q J l.toArray a0) l 0)
  (he:∀L vals w,(∀i,i<l.length->L i=true)->J L vals w->Q .normal (BU l vals 0 a0) w):
  ∀fuel (listed:Array Bool) a w vals,listed.size=l.length->(List.range l.length).countP (fun i=> !listed.getD i false)<=fuel->(∀(k:Nat) (o':Oper),listed.getD k false=true->l.toArray[k]?=some o'->∀e∈o'.after,Region.binds .any e=true->listed.getD e.on false=true)->EP l.toArray a0 (fun i=>listed.getD i false) vals a->J (fun i=>listed.getD i false) vals w->wpAny P .any l.toArray Q fuel listed a w:=by
 have aE:∀(listed:Array Bool) a w vals,listed.size=l.length->(∀i,i<l.length->listed.getD i false=true)->EP l.toArray a0 (fun i=>listed.getD i false) vals a->J (fun i=>listed.getD i false) vals w->Q .normal a w:=fun listed a w vals aB aA hf hj=>by
  have h1:=he _ vals w aA hj;have h2:=EP.putK H vals l [] a0 rfl ((EP.init l.toArray a0 vals).congr fun i hi=>ag);have h3:=hf.uniq (h2.congr fun i hi=>by
   have aI:i<l.length:=by simpa using hi
   simp only[aI,decide_true];exact(aA i aI).symm)
  rw[h3];exact h1
 have aA:∀(listed:Array Bool),listed.size=l.length->Region.ready .any l.toArray listed= []->∀i,i<l.length->listed.getD i false=true:=fun listed aB hr i=>by
  induction i using Nat.strongRecOn with
  | ind i ih=>
   intro hi
   cases hb:listed.getD i false with
   | true=>rfl
   | false=>
    exfalso;have ho:l.toArray[i]?=some l[i]:=by simp[hi]
    have hm:i∈Region.ready .any l.toArray listed:=mem_ready.2 ⟨by
     have aC:i<listed.size:=ac;simp[Array.getD,aC]at hb ⊢;exact hb,l[i],ho,fun e aM _=>by
     have hw:=H.wait i _ ho e aM;exact ih e.on hw ac⟩
    rw[hr]at hm;cases hm
 intro fuel
 induction fuel with
 | zero=>
  intro listed a w vals aB hc aH hf hj;have ha:∀i,i<l.length->listed.getD i false=true:=fun i hi=>by
   exact zbq
  refine⟨?_,aE listed a w vals aB ha hf hj⟩
  cases hr:Region.ready .any l.toArray listed with
  | nil=>rfl
  | cons x t=>
   exfalso;have hm:x∈Region.ready .any l.toArray listed:=by rw[hr];exact List.mem_cons_self ..
   obtain⟨h1,o,h2,_⟩:=mem_ready.1 hm;have hx:x<l.length:=bm;have h3:=ha x hx;have aC:x<listed.size:=ac;simp[Array.getD,aC]at h1 h3;rw[h1]at h3;cases h3
 | succ fuel ih=>
  intro listed a w vals aB hc aH hf hj;refine⟨fun hr=>aE listed a w vals aB (aA listed aB hr) hf hj,fun i hi=>?_⟩;obtain⟨h1,o,h2,h3⟩:=mem_ready.1 hi;have aL:i<l.length:=bm;have aC:i<listed.size:=ac;have aJ:listed.getD i false=false:=by
   simp[Array.getD,aC]at h1 ⊢;exact h1
  have aP:l[i]?=some o:=by simpa using h2
  have Bd:Uz P Q J l.toArray a0 (0+i) o:=hs.get aP;rw[Nat.zero_add]at Bd;have aF:(fun j=>(listed.setIfInBounds i true).getD j false)=Ax (fun j=>listed.getD j false) i true:=by
   funext j;by_cases e:j=i
   .subst e;rw[Ad];simp[Array.getD,aC]
   .exact zaz
  unfold wpOp;rw[h2];have hw:Region.wanted o (yielded l.toArray a.tmps)=true:=by simp[Region.wanted,H.free i o h2]
  simp only[hw,if_true];refine .inl (Bd _ vals a w hf hj aJ (fun e he hb=>h3 e he hb) aH _ fun v w' aK=>?_);have aG:∀(k:Nat) (o':Oper),(listed.setIfInBounds i true).getD k false=true->l.toArray[k]?=some o'->∀e∈o'.after,Region.binds .any e=true->(listed.setIfInBounds i true).getD e.on false=true:=fun k o' hk aD e he hb=>by
   have e1:=congrFun aF k;have e2:=congrFun aF e.on;rw[e1]at hk;rw[e2];by_cases h0:e.on=i
   .rw[h0,Ad]
   .rw[Ae _ _ h0];by_cases h4:k=i
    .subst h4;rw[h2]at aD;injection aD with aD;subst aD;exact h3 e he hb
    .rw[Ae _ _ h4]at hk;exact aH k o' hk aD e he hb
  refine ih _ _ _ (Ax vals i v) (by rw[Array.size_setIfInBounds];exact aB) ?_ aG (by rw[aF];exact hf.step H h2 v) (by rw[aF];exact aK);have aO:=MC (fun j=>listed.getD j false) i aJ l.length;rw[if_pos aL]at aO;have aN:(List.range l.length).countP (fun j=> !(listed.setIfInBounds i true).getD j false)=(List.range l.length).countP (fun j=> !(Ax (fun j=>listed.getD j false) i true) j):=by
   congr 1
   funext j;rw[<-congrFun aF j]
  rw[aN];omega
theorem EP.in_{l:List Oper}{L:Nat->Bool}{vals:Nat->Value}{a:Act}(hf:EP l.toArray a0 L vals a)(k t:Nat){o:Oper}(hL:L k=true)(ho:l[k]?=some o)(hd:o.dst=some t):a.tmps[t]?=some (vals k):=
 hf.got k o t hL (by simpa using ho) hd
theorem EP.out_{l:List Oper}{L:Nat->Bool}{vals:Nat->Value}{a:Act}(hf:EP l.toArray a0 L vals a)(t:Nat)(hn:(l.all fun o=>o.dst !=some t)=true):a.tmps[t]?=a0.tmps[t]?:=
 hf.old t fun i o _ ho hd=>by
  have aA:l[i]?=some o:=by simpa using ho
  have:=List.all_eq_true.1 hn o (List.mem_of_getElem? aA);rw[hd]at this;simp at this
theorem zbn{P:Prop}(h:P:=by
 funext i;rw[Array.getD_eq_getD_getElem?];by_cases h:i<l.toArray.size
 .rw[Array.getElem?_replicate,if_pos h];rfl
 .rw[Array.getElem?_replicate,if_neg h];rfl):P:=h
theorem Db{id:Nat}{l:List Oper}{w:World}(J:(Nat->Bool)->(Nat->Value)->World->Prop)(hm:P.follows .mixedOrders=true)(hB:Nk a0.tmps.size l 0 []=true)(h0:J (fun _=>false) (fun _=>undef) w.drew)
  (hs:AG (Uz P Q J l.toArray a0) l 0) (he:∀L vals w,(∀i,i<l.length->L i=true)->J L vals w->Q .normal (BU l vals 0 a0) w):(Code.region id l.toArray true).wp P Q a0 w:=by
 refine wp_region_any hm ?_;have hL:(fun i=>(Array.replicate l.toArray.size false).getD i false)=fun _=>false:=by
  exact zbn
 refine Vh (Xf hB) hs he _ _ _ _ (fun _=>undef) ag (Nat.le_trans List.countP_le_length ag) (fun k o' hk=>by have:=congrFun hL k;rw[this]at hk;cases hk) ?_ ?_
 .rw[hL];exact EP.init _ _ _
 .rw[hL];exact h0
theorem Bo{a:Act}{t:Nat}{v:Value}(h:a.tmps[t]?=some v):a.eval (.tmp t)=v:=by
 show a.tmps.getD t undef=v
 rw[Array.getD_eq_getD_getElem?,h];rfl
theorem AX{b:Bool}(h:¬b=true):b=false:=by cases b <;> simp_all
theorem BO{w:World}{o:Oper}{a:Act}{K:Act->World->Prop}(s x:Operand)(t:TypeId)
  (ho:o.op= .call { callee:= .builtin .append,args:= #[s,x],argTypes:= #[t,t] })
  (base:Nat) (e:TypeId) (z:Value) (size aA:Nat) (ht:P.underlying t=some (.slice e)) (hi:(P.info? e).map (fun i=>(i.zero,i.size,i.bytes))=some (some z,size,aA))
  (aE:z.cells.size=size) (aF:0<size) (v:Value) (n:Nat) (xs:List Value) (hs:a.eval s=v) (aD:w.ownsRow base e size v n xs)
  (xv:Value) (m:Nat) (news:List Value) (hx:a.eval x=xv) (aG:Sl w xv m size news) (h1:∀u∈news,u.oneCell'=true)
  (aH:n+m<=maxLen) (aB:(n+m)*aA<=140737488355328) (aC:base<=w.heap.size)
  (h:∀v' w',w'.ownsRow base e size v' (n+m) (xs++news)->w.grownBy w' v.ownBlock->(v'.ownBlock=v.ownBlock∨v'.ownBlock=some w.heap.size)->K (a.put o.dst v') w'):
  Oper.wp P o a w K Q:=by
 obtain⟨v',w',hr,h2,h3,h4⟩:=D9 (P:=P) w base t o.type e z size aA ht hi aE aF v n xs aD xv m news aG h1 aH aB aC;exact zbk
theorem EF:∀(l:List Oper) (k:Nat) (V V':Nat->Value) (a:Act),(∀i o,l[i]?=some o->o.dst≠none->V (k+i)=V' (k+i))->BU l V k a=BU l V' k a
 | [],_,_,_,_,_=>rfl
 | o :: l,k,V,V',a,h=>by
  show BU l V (k+1) (a.put o.dst (V k))=BU l V' (k+1) (a.put o.dst (V' k))
  have e:a.put o.dst (V k)=a.put o.dst (V' k):=by
   cases hd:o.dst with
   | none=>rfl
   | some d=>rw[show V k=V' k from h 0 o rfl (by rw[hd];simp)]
  rw[e];exact EF l (k+1) V V' _ fun i o' hi hd=>by
   rw[show k+1+i=k+(i+1) from ac];exact h (i+1) o' hi hd
def Z7(P:Program)(Q:Exit->Act->World->Prop)(l:List Oper)(a0:Act)(pv:Nat->Value)(wr:World)(F:World->World)(m i:Nat)(o:Oper):Prop:=
 ∀(L:Nat->Bool) (a:Act) (n:Nat),(∀k t o',L k=true->l[k]?=some o'->o'.dst=some t->a.tmps[t]?=some (pv k))->(∀t,(l.all fun o=>o.dst !=some t)=true->a.tmps[t]?=a0.tmps[t]?)->(∀e∈o.after,Region.binds .any e=true->L e.on=true)->
  ∀K:Act->World->Prop,(if i=m then K (a.put o.dst undef) (F (wr.drewN n)) else ∀n',K (a.put o.dst (pv i)) (wr.drewN n'))->o.wp P a (wr.drewN n) K Q
theorem Ln{id:Nat}{l:List Oper}{w:World}(pv:Nat->Value)(F:World->World)(m:Nat)(hm:P.follows .mixedOrders=true)(hB:Nk a0.tmps.size l 0 []=true)
  (hl:(match l[m]? with|some om=>l.length==m+1&&om.dst.isNone&&(List.range m).all fun k=>om.after.any fun e=>e.on==k&&Region.binds .any e|none=>false)=true)
  (hs:AG (Z7 P Q l a0 pv w F m) l 0) (he:∀n,Q .normal (BU l pv 0 a0) (F (w.drewN n))):(Code.region id l.toArray true).wp P Q a0 w:=by
 obtain⟨om,aF⟩:∃om,l[m]?=some om:=by
  cases h:l[m]? with
  | none=>rw[h]at hl;cases hl
  | some om=>exact⟨om,rfl⟩
 rw[aF]at hl;simp only[Bool.and_eq_true,beq_iff_eq]at hl;obtain⟨⟨hlen,aA⟩,aG⟩:=hl;have aM:om.dst=none:=by cases hd:om.dst with|none=>rfl|some d=>rw[hd]at aA;cases aA
 have aE:∀k,k<m->∃e∈om.after,(e:Edge).on=k/\Region.binds .any e=true:=fun k hk=>by
  have:=List.all_eq_true.1 aG k (List.mem_range.2 hk);rw[Array.any_eq_true']at this;obtain⟨e,he,h⟩:=this;rw[Bool.and_eq_true,beq_iff_eq]at h;exact⟨e,he,h.1,h.2⟩
 refine Db (fun L V w'=>(∀k,k≠m->L k=true->V k=pv k)/\(L m=false->∃n,w'=w.drewN n)/\(L m=true->∃n,w'=F (w.drewN n))) hm hB ⟨fun k _ h=>di,fun _=>⟨1,rfl⟩,fun h=>di⟩ ?_ ?_
 .have aI:∀(l':List Oper) (k0:Nat),(∀i o,l'[i]?=some o->l[k0+i]?=some o)->AG (Z7 P Q l a0 pv w F m) l' k0->AG (Uz P Q (fun L V w'=>(∀k,k≠m->L k=true->V k=pv k)/\(L m=false->∃n,w'=w.drewN n)/\(L m=true->∃n,w'=F (w.drewN n))) l.toArray a0) l' k0:=fun l'=>by
   induction l' with
   | nil=>intro _ _ _;trivial
   | cons o l' ih=>
    intro k0 aD h;refine⟨?_,ih (k0+1) (fun i o' hi=>by rw[show k0+1+i=k0+(i+1) from ac];exact aD (i+1) o' hi) h.2⟩;intro L V a w' hf hj hi hd aO K hK;have aJ:l[k0]?=some o:=by have:=aD 0 o rfl;simpa using this
    have hk0:k0<l.length:=(List.getElem?_eq_some_iff.1 aJ).1;have aH:L m=false:=by
     by_cases e:k0=m
     .rw[<-e];exact hi
     .refine AX fun hb=>?_;obtain⟨e2,h1,h2,h3⟩:=aE k0 ac;have:=aO m om hb (by simpa using aF) e2 h1 h3;rw[h2,hi]at this;cases this
    obtain⟨n,rfl⟩:=hj.2.1 aH;refine h.1 L a n (fun k t o' hk aK aN=>?_) (fun t ht=>hf.out_ t ht) hd K ?_
    .have aC:k≠m:=fun e=>by rw[e,aH]at hk;cases hk
     rw[<-hj.1 k aC hk];exact hf.in_ k t hk aK aN
    .by_cases e:k0=m
     .rw[if_pos e];refine hK undef _ ⟨fun k aC hk=>?_,fun h=>?_,fun _=>⟨n,rfl⟩⟩
      .rw[e]at hk ⊢;rw[Ae _ _ aC]at hk ⊢;exact hj.1 k aC hk
      .rw[e,Ad]at h;cases h
     .rw[if_neg e];intro n';refine hK (pv k0) _ ⟨fun k aC hk=>?_,fun _=>⟨n',rfl⟩,fun h=>?_⟩
      .by_cases e2:k=k0
       .rw[e2,Ad]
       .rw[Ae _ _ e2]at hk ⊢;exact hj.1 k aC hk
      .rw[Ae _ _ (fun e3=>e e3.symm),aH]at h;cases h
  exact aI l 0 (fun i o h=>by rw[Nat.zero_add];exact h) hs
 .intro L V w' aB hj;obtain⟨n,rfl⟩:=hj.2.2 (aB m ac);have hp:BU l V 0 a0=BU l pv 0 a0:=EF l 0 V pv a0 fun i o hi hd=>by
   rw[Nat.zero_add];have aL:i<l.length:=(List.getElem?_eq_some_iff.1 hi).1;refine hj.1 i (fun e=>hd ?_) (aB i aL);rw[e,aF]at hi;injection hi with hi;rw[<-hi];exact aM
  rw[hp];exact he n
end
theorem ah{P:Prop}(h:P:=by kernel_rfl):P:=h
theorem Au:(Tryz.prog.info? 3).map (fun i=>(i.zero,i.size,i.bytes))=some (some (.int .i64 0),1,8):=ah
theorem JD:(Tryz.prog.info? 4).map (fun i=>(i.zero,i.size,i.bytes))=some (some (.bool false),1,1):=ah
def CJ(p m:Int):Int:=if 2<=p/\1<=m/\m<=8/\p^m.toNat<=256 then p^m.toNat else 0
theorem Hh{p:Int}(h:2<=p){i j:Nat}(hij:i<=j):p^i<=p^j:=by
 obtain⟨k,rfl⟩:∃k,j=i+k:=⟨j-i,ac⟩;rw[Int.pow_add];have h1:1<=p^k:=Int.pow_pos ac;have h2:1<=p^i:=Int.pow_pos ac;have:=Int.mul_le_mul_of_nonneg_left h1 (show 0<=p^i by omega);omega
theorem VJ{p:Int}(h:2<=p){i:Nat}(hi:1<=i):p<=p^i:=by
 have:=Hh h hi;have e:p^1=p:=Int.pow_one p;omega
theorem zbl{P:Prop}(h:P:=by
 generalize p^i=y at *
 go_wp2
 go_round
 case rel=>exact⟨i+1,by omega,by go_num,by rw[HE.o],by rw[HE.o];omega,by rw[HE.o];omega⟩
 case measure=>simp[intOf];omega):P:=h
theorem zcw{P:Prop}(h:P:=by
 have:=Int.mul_pos (show 0<p^i by omega) (show 0<p by omega);omega):P:=h
theorem Hi(p m:Int)(w:World):
  Calls Tryz.prog 112 #[.int .i64 p,.int .i64 m] w fun r w'=>r= .returned (.int .i64 (CJ p m))/\w=w':=by
 by_cases h:2<=p/\p<=256/\1<=m/\m<=8
 .obtain⟨h1,h2,h3,h4⟩:=h;have HO:=Aa (show CJ p m=if p^m.toNat<=256 then p^m.toNat else 0 by unfold CJ;by_cases h:p^m.toNat<=256 <;> simp[h,h1,h3,h4]);go_enter Tryz.func112,Tryz.ntmps112
  go_wp2
  go_loop [5,21] (fun q' i'=>∃i:Nat,i<=m.toNat/\i'= .int .i64 i/\q'= .int .i64 (p^i)/\1<=p^i/\p^i<=256) (fun _ i'=>m.toNat-(intOf i').toNat)
  case atStart=>exact⟨0,ac,rfl,ag,ag,ag⟩
  case round=>
   obtain⟨i,hi,rfl,rfl,q1,q2⟩:=hrel;have HS:=Aa (Int.pow_succ p i);have HM:=Aa (show i<m.toNat->p^(i+1)<=p^m.toNat from fun h=>Hh h1 h);have q3:p^i*p<=65536:=by
    have:=Int.mul_le_mul q2 h2 ac ac;omega
   have q4:1<=p^i*p:=by
    exact zcw
   by_cases hlt:(i:Int)<m
   .by_cases hq:256<p^i*p
    .have HB:=HM.o ac;rw[HS.o]at HB;have HN:=Aa (show ¬p^m.toNat<=256 by omega);clear HB HM;generalize p^i=y at *
     go_wp2
     go_ret;exact⟨Ag (by rw[HO.o,if_neg (by have:=HN.o;omega)]),rfl⟩
    .have HE:=Aa (show p^(i+1)=p^i*p from HS.o);clear HM HS;exact zbl
   .have aA:i=m.toNat:=by omega
    have HN:=Aa (show p^m.toNat=p^i by rw[aA]);clear HM HS;generalize p^i=y at *
    go_wp2
    go_ret;exact⟨Ag (by rw[HO.o,HN.o,if_pos q2]),rfl⟩
 .have HO:=Aa (show CJ p m=0 by
   unfold CJ;rw[if_neg];rintro⟨h1,h2,h3,h4⟩;have:=VJ h1 (show 1<=m.toNat by omega);exact h ⟨h1,ac,h2,h3⟩)
  have c:p<2∨(2<=p/\256<p)∨(2<=p/\p<=256/\m<1)∨(2<=p/\p<=256/\1<=m/\8<m):=ac;clear h;rcases c with c|⟨c1,c2⟩|⟨c1,c2,c3⟩|⟨c1,c2,c3,c4⟩
  all_goals
   go_enter Tryz.func112,Tryz.ntmps112
   go_wp2
   go_ret;exact⟨Ag HO.o.symm,rfl⟩
def Hg(n:Nat):Bool:=decide (2<=n/\∀d,d<n->2<=d->n%d≠0)
theorem Xl{n d:Nat}(h2:2<=d)(h:d*d<=n)(hd:n%d=0):Hg n=false:=by
 unfold Hg;rw[decide_eq_false_iff_not];rintro⟨h1,h3⟩;have h4:d<n:=by
  have:=Nat.mul_le_mul_right d h2;omega
 exact h3 d h4 h2 hd
theorem Vq{n k:Nat}(hn:2<=n)(hk:n<k*k)(h:∀d,2<=d->d<k->n%d≠0):Hg n=true:=by
 unfold Hg;rw[decide_eq_true_iff];refine⟨hn,fun d h1 h2 h3=>?_⟩;rcases Nat.lt_or_ge d k with h4|h4
 .exact h d h2 h4 h3
 .have h5:=Nat.div_mul_cancel (Nat.dvd_of_mod_eq_zero h3);have h6:n/d<k:=by
   rcases Nat.lt_or_ge (n/d) k with h7|h7
   .exact h7
   .have:=Nat.mul_le_mul h7 h4;omega
  have h7:2<=n/d:=by
   generalize n/d=q at *;rcases Nat.lt_or_ge q 2 with h8|h8
   .have h9:q=0∨q=1:=by omega
    rcases h9 with e|e <;> rw[e]at h5 <;> omega
   .exact h8
  exact h (n/d) h7 h6 (Nat.mod_eq_zero_of_dvd ⟨d,h5.symm⟩)
theorem zbH{P:Prop}(h:P:=by
 go_wp2
 go_round
 case rel=>exact⟨d+1,by omega,by omega,by go_num,HA⟩
 case measure=>simp[intOf];omega):P:=h
theorem zcS{P:Prop}(h:P:=by
 go_wp2
 go_ret;exact⟨Ao HR.o.symm,rfl⟩):P:=h
theorem NJ(n:Nat)(w:World)(h1:2<=n)(h2:n<=256):
  Calls Tryz.prog 164 #[.int .i64 n] w fun r w'=>r= .returned (.bool (Hg n))/\w=w':=by
 go_enter Tryz.func164,Tryz.ntmps164
 go_wp2
 go_loop [3] (fun d'=>∃d:Nat,2<=d/\d<=17/\d'= .int .i64 d/\Hia (∀c,2<=c->c<d->n%c≠0)) (fun d'=>17-(intOf d').toNat)
 case atStart=>exact⟨2,ac,ac,rfl,Aa (fun c a b=>ac)⟩
 case round=>
  obtain⟨d,d1,d2,rfl,aA⟩:=hrel;have aB:(d:Int)*d=((d*d:Nat):Int):=ag;have q1:d*d<=289:=Nat.mul_le_mul d2 d2;have q2:17*17<=d*d∨d<17:=by
   rcases Nat.lt_or_ge d 17 with h|h
   .exact .inr h
   .exact .inl (Nat.mul_le_mul h h)
  by_cases hlt:d*d<=n
  .have aD:=Aa (fun h=>Xl d1 hlt h);have q3:0<=(d:Int)*d:=by omega
   have q4:(d:Int)*d<=289:=ac;have q5:(d:Int)*d<=n:=ac;by_cases hd:n%d=0
   .have aC:((n:Int)%(d:Int)==0)=true:=by simp;omega
    have HR:=Aa (aD.o hd);clear hd aB;exact zcS
   .have aC:((n:Int)%(d:Int)==0)=false:=by simp;omega
    have HA:=Aa (show ∀c,2<=c->c<d+1->n%c≠0 from fun c a b=>by
     by_cases e:c=d
     .subst e;exact hd
     .exact aA.o c a ac)
    clear hd aB;exact zbH
  .have HR:=Aa (Vq h1 ac aA.o);have q3:0<=(d:Int)*d:=by omega
   have q4:(d:Int)*d<=289:=ac;have q5:(n:Int)<(d:Int)*d:=ac;clear aB
   go_wp2
   go_ret;exact⟨Ao (by rw[HR.o];simp;omega),rfl⟩
theorem zag{P:Prop}(h:P:=by
 have hf:=aA.frz k;have hc:=aA.cell hlt;have HO:=Aa (aA.set k (.int .i64 ((y:Int)%(p:Int))));have HE:=Aa (aA.exSet (by rw[HG.o];exact Nat.le_refl _) aD k (.int .i64 ((y:Int)%(p:Int))));clear aA aD;go_wp2_with fail
 go_roundw
 case rel=>
  refine⟨k+1,by omega,by go_num,by rw[HS.o,Gv _ _ (by omega)],?_,HE.o⟩;have:=HO.o;rw[CN]at this;refine this.icongr fun j hj=>?_;unfold Ax;dsimp only;by_cases h:j=k
  .subst h;rw[if_pos rfl,if_pos (by omega),HD.o hlt];simp
  .rw[if_neg h];by_cases h2:j<k
   .rw[if_pos h2,if_pos (by omega)]
   .rw[if_neg h2,if_neg (by omega)]
 case measure=>simp[intOf];omega):P:=h
theorem Mw(x p m:Nat)(w:World)(hx:x<=65536)(hp:1<=p)(hp':p<=256)(hm:m<=256):
  Calls Tryz.prog 205 #[.int .i64 x,.int .i64 p,.int .i64 m] w fun r w'=>∃v,r= .returned v/\Aj w' v (il m (Bt p m x))/\Ex w w':=by
 go_enter Tryz.func205,Tryz.ntmps205
 go_wp2_with (at_make;refine Aq _ rfl _ _ 22 rfl 3 (.int .i64 0) 8 Tryz.underlying22 Au rfl _ m rfl rfl rfl ac ai ?_)
 intro w1 aA aD;have aE:w.heap.size<=w.heap.size:=Nat.le_refl _;have HB:=Aa aE;clear aE;obtain⟨g,hg⟩:=nA w.heap.size;have aB:AI w1 g 3 g m (iv fun j=>if j<0 then Bt p m x j else 0):=by
  rw[hg]at aA;exact aA.congr fun j _=>by simp[iv]
 have HG:=Aa hg;simp only[hg];clear aA hg;go_wp2_with fail
 go_loopw [0,8,13] (fun x' _ k' wr=>∃k:Nat,k<=m/\k'= .int .i64 k/\x'= .int .i64 ((x/p^k:Nat):Int)/\AI wr g 3 g m (iv fun j=>if j<k then Bt p m x j else 0)/\Ex w wr) (fun _ _ k' _=>m-(intOf k').toNat)
 case atStart=>exact⟨0,ac,rfl,ag,aB,aD⟩
 case round=>
  clear aB aD;obtain⟨k,hk,rfl,rfl,aA,aD⟩:=hrel;have hxk:x/p^k<=65536:=Nat.le_trans (Nat.div_le_self _ _) hx;have HS:=Aa (show x/p^(k+1)=x/p^k/p by rw[Nat.pow_succ,Nat.div_div_eq_div_mul]);have HD:=Aa (show k<m->Bt p m x k=((x/p^k%p:Nat):Int) from fun h=>by unfold Bt;rw[if_pos h]);generalize x/p^k=y at *;by_cases hlt:k<m
  .exact zag
  .obtain rfl:k=m:=by omega
   have aC:AI wr g 3 g k (iv (Bt p k x)):=aA.icongr fun j hj=>by rw[if_pos hj]
   have HO:=Aa aC.isl;clear aA aC HD HS;go_wp2_with fail
   go_ret;exact⟨_,rfl,HO.o,aD⟩
def vl(p:Nat):List Int->Int
 | []=>0
 | a :: l=>vl p l*p+a
theorem YZ(p:Nat)(l:List Int)(k:Nat)(x:Int)(h:l[k]?=some x):vl p (l.drop k)=vl p (l.drop (k+1))*(p:Int)+x:=by
 obtain⟨hk,rfl⟩:=List.getElem?_eq_some_iff.1 h;rw[List.drop_eq_getElem_cons hk];rfl
theorem Sk{p:Nat}(hp:1<=p):∀(l:List Int),(∀x∈l,0<=x/\x<p)->0<=vl p l/\vl p l<((p^l.length:Nat):Int)
 | [],_=>by simp[vl]
 | x :: l,h=>by
  obtain⟨h1,h2⟩:=Sk hp l fun y hy=>h y (List.mem_cons_of_mem _ hy);obtain⟨h3,h4⟩:=h x (List.mem_cons_self ..);show 0<=vl p l*p+x/\vl p l*p+x<_
  have h5:0<=vl p l*p:=Int.mul_nonneg h1 ac;have h6:(vl p l+1)*(p:Int)<=((p^l.length:Nat):Int)*p:=Int.mul_le_mul_of_nonneg_right ac ac;rw[List.length_cons,Nat.pow_succ,Int.natCast_mul];rw[Int.add_mul]at h6;omega
theorem WD(p:Nat):∀(m:Nat) (f:Nat->Int),vl p (il m f)=DO p m f
 | 0,f=>by simp[il,vl,DO]
 | m+1,f=>by
  have aA:∀(l:List Int) (x:Int),vl p (l ++ [x])=vl p l+x*((p^l.length:Nat):Int):=by
   intro l
   induction l with
   | nil=>intro x;simp[vl]
   | cons a l ih=>
    intro x;show vl p (l ++ [x])*p+a=vl p l*p+a+_
    rw[ih,List.length_cons,Nat.pow_succ,Int.natCast_mul,Int.add_mul,Int.mul_assoc];omega
  simp only[DO];rw[show il (m+1) f=il m f ++ [f m] by simp[il,List.range_succ],aA,WD p m f,Am]
theorem zcJ{P:Prop}(h:P:=by
 go_wp2_with fail
 go_ret;exact⟨Ag HF.o.symm,rfl⟩):P:=h
theorem M5(l:List Int)(v:Value)(p:Nat)(w:World)(hl:Aj w v l)(hp:1<=p)(hp':p<=256)(hb:∀x∈l,0<=x/\x<p)(hq:p^l.length<=65536):
  Calls Tryz.prog 206 #[v,.int .i64 p] w fun r w'=>r= .returned (.int .i64 (vl p l))/\w=w':=by
 obtain⟨a,cap,rfl,s1,s2,s3⟩:=hl.open;unfold maxLen at s2;have S3:=Aa s3;have HV:=Aa (show vl p l=vl p (l.drop 0) from rfl);have HR:=Aa (show ∀k,0<=vl p (l.drop k)/\vl p (l.drop k)*(p:Int)<=16777216/\vl p (l.drop k)<=65536 from fun k=>by
  obtain⟨h1,h2⟩:=Sk hp (l.drop k) fun x hx=>hb x (List.mem_of_mem_drop hx);have h3:p^(l.drop k).length<=p^l.length:=Nat.pow_le_pow_right hp (by rw[List.length_drop];omega);have h4:=Int.mul_le_mul (show vl p (l.drop k)<=65536 by omega) (show(p:Int)<=256 by omega) ac ac;exact⟨h1,h4,by
    have:vl p (l.drop k)<=65536:=ac;exact this⟩)
 have HX:=Aa (show ∀(k:Nat) (x:Int),l[k]?=some x->0<=x/\x<=256 from fun k x h=>by have:=hb x (List.mem_of_getElem? h);omega);have HN:=Aa (show vl p (l.drop l.length)=0 by rw[List.drop_length];rfl);clear hl s3 hb hq;go_enter Tryz.func206,Tryz.ntmps206
 go_wp2_with fail
 go_loop [5,6] (fun x' i'=>∃k:Nat,k<=l.length/\i'= .int .i64 ((k:Int)-1)/\x'= .int .i64 (vl p (l.drop k))) (fun _ i'=>(intOf i'+1).toNat)
 case atStart=>exact⟨l.length,ac,rfl,by rw[HN.o]⟩
 case round=>
  obtain⟨k,hk,rfl,rfl⟩:=hrel;obtain⟨r1,r2,r3⟩:=HR.o k;rcases k with _|k
  .have HF:=Aa HV.o;generalize vl p (l.drop 0)=y at *;exact zcJ
  .have r0:0<=vl p (l.drop (k+1))*(p:Int):=Int.mul_nonneg r1 ac;obtain⟨x,hx⟩:∃x,l[k]?=some x:=⟨_,List.getElem?_eq_getElem ac⟩;obtain⟨b,o,rfl,hc⟩:=S3.o ac;have c1:=hc k x hx;obtain⟨x1,x2⟩:=HX.o k x hx;have HG:=Aa (YZ p l k x hx);have e:(((k+1:Nat)):Int)-1=k:=by omega
   rw[e];clear hc hx e;generalize vl p (l.drop (k+1))=y at *;go_wp2_with fail
   go_round
   case rel=>exact⟨k,ac,rfl,by rw[HG.o]⟩
   case measure=>simp[intOf]
end Go.Proofs.YtehieobniamagaaGreat
