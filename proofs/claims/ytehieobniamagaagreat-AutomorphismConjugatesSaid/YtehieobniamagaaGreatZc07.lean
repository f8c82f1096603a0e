/- FT with what an operation finds in its slots. -/
import Derived.Deep.CutRange
import Derived.Deep.LoopGhost
import Derived.RegionTactic
import Derived.BigRegion
import Derived.Test.YtehieobniamagaaGreatZc06
namespace Go.Proofs.YtehieobniamagaaGreat
open Go.RowKit
set_option linter.all false
set_option maxRecDepth 100000
set_option maxHeartbeats 4000000
def lkA(l:List Oper)(pv:Nat->Value)(a0:Act)(m ib ia:Nat)(o:Oper)(t:Nat):Option Value:=match WN l 0 t with
 | some j=>if (decide (j<m)&&j !=ib&&j !=ia&&(o.after.toList.any fun e=>e.on==j&&Region.binds .any e))=true then some (pv j) else none
 | none=>a0.tmps[t]?
section
variable {P:Program} {Q:Exit->Act->World->Prop} {a0:Act} {l:List Oper} {pv:Nat->Value} {wr:World} {ib ia fa m i:Nat} {o:Oper}
theorem Tr{L:Nat->Bool}{a:Act}(aB:∀k t o',L k=true->k<m->k≠ib->k≠ia->l[k]?=some o'->o'.dst=some t->a.tmps[t]?=some (pv k))(aA:∀t,(l.all fun o=>o.dst !=some t)=true->a.tmps[t]?=a0.tmps[t]?)(hd:∀e∈o.after,Region.binds .any e=true->L e.on=true):
  ∀t v,lkA l pv a0 m ib ia o t=some v->a.tmps[t]?=some v:=fun t v hv=>by
 unfold lkA at hv
 cases hj:WN l 0 t with
 | none=>rw[hj]at hv;rw[aA t (IJ l 0 t hj)];exact hv
 | some j=>
  rw[hj]at hv;obtain⟨o',_,h2,h3⟩:=II l 0 t j hj;simp only at hv;split at hv
  .rename_i h4;injection hv with hv;simp only[Bool.and_eq_true,decide_eq_true_eq,bne_iff_ne,ne_eq]at h4;obtain⟨e,he,h5⟩:=List.any_eq_true.1 h4.2;have he:=Array.mem_toList_iff.1 he;rw[Bool.and_eq_true,beq_iff_eq]at h5;have hL:=hd e he h5.2;rw[h5.1]at hL;rw[<-hv];exact aB j t o' hL h4.1.1.1 h4.1.1.2 h4.1.2 h2 h3
  .cases hv
theorem I5.go(hi:¬i=fa/\¬(i=m∨i=ia)/\¬i=ib)(h:∀(a:Act) (w:World),(∀t v,lkA l pv a0 m ib ia o t=some v->a.tmps[t]?=some v)->Ex wr w->∀K:Act->World->Prop,(∀w',Ex w w'->K (a.put o.dst (pv i)) w')->o.wp P a w K Q):I5 P Q l a0 pv wr ib ia fa m i o:=by
 intro L a w aB aA hd K;rw[if_neg hi.1,if_neg hi.2.1,if_neg hi.2.2];intro hx hK;exact h a w (Tr aB aA hd) hx K hK
theorem I5.gf(hi:i=fa)(h:∀(a:Act) (w:World),(∀t v,lkA l pv a0 m ib ia o t=some v->a.tmps[t]?=some v)->∀K:Act->World->Prop,K (a.put o.dst (pv i)) w->o.wp P a w K Q):I5 P Q l a0 pv wr ib ia fa m i o:=by
 intro L a w aB aA hd K;rw[if_pos hi];intro hK;exact h a w (Tr aB aA hd) K hK
theorem I5.sk(hi:¬i=fa/\(i=m∨i=ia∨i=ib)):I5 P Q l a0 pv wr ib ia fa m i o:=by
 intro L a w hin hout hd K;rw[if_neg hi.1];by_cases h:i=m∨i=ia
 .rw[if_pos h];trivial
 .have hb:i=ib:=by
   rcases hi.2 with e|e|e
   .exact absurd (.inl e) h
   .exact absurd (.inr e) h
   .exact e
  rw[if_neg h,if_pos hb];intro _;trivial
end
def lkF(l:List Oper)(pv:Nat->Value)(a0:Act)(m ia:Nat)(o:Oper)(t:Nat):Option Value:=match WN l 0 t with
 | some j=>if (decide (j<m)&&j !=ia&&(o.after.toList.any fun e=>e.on==j&&Region.binds .any e))=true then some (pv j) else none
 | none=>a0.tmps[t]?
section
variable {P:Program} {Q:Exit->Act->World->Prop} {a0:Act} {l:List Oper} {pv:Nat->Value} {wr:World} {ia m i:Nat} {o:Oper} {A Fin:Value->World->Prop}
theorem Ou{L:Nat->Bool}{a:Act}(aB:∀k t o',L k=true->k<m->k≠ia->l[k]?=some o'->o'.dst=some t->a.tmps[t]?=some (pv k))(aA:∀t,(l.all fun o=>o.dst !=some t)=true->a.tmps[t]?=a0.tmps[t]?)(hd:∀e∈o.after,Region.binds .any e=true->L e.on=true):
  ∀t v,lkF l pv a0 m ia o t=some v->a.tmps[t]?=some v:=fun t v hv=>by
 unfold lkF at hv
 cases hj:WN l 0 t with
 | none=>rw[hj]at hv;rw[aA t (IJ l 0 t hj)];exact hv
 | some j=>
  rw[hj]at hv;obtain⟨o',_,h2,h3⟩:=II l 0 t j hj;simp only at hv;split at hv
  .rename_i h4;injection hv with hv;simp only[Bool.and_eq_true,decide_eq_true_eq,bne_iff_ne,ne_eq]at h4;obtain⟨e,he,h5⟩:=List.any_eq_true.1 h4.2;have he:=Array.mem_toList_iff.1 he;rw[Bool.and_eq_true,beq_iff_eq]at h5;have hL:=hd e he h5.2;rw[h5.1]at hL;rw[<-hv];exact aB j t o' hL h4.1.1 h4.1.2 h2 h3
  .cases hv
theorem I4.go(hi:¬i=ia/\¬i=m)(h:∀(a:Act) (w:World),(∀t v,lkF l pv a0 m ia o t=some v->a.tmps[t]?=some v)->Ex wr w->∀K:Act->World->Prop,(∀w',Ex w w'->K (a.put o.dst (pv i)) w')->o.wp P a w K Q):I4 P Q l a0 pv wr A Fin ia m i o:=by
 intro L a w aB aA hd hx K;rw[if_neg hi.1,if_neg hi.2];exact h a w (Ou aB aA hd) hx K
theorem I4.ap(hi:i=ia)(h:∀(a:Act) (w:World),(∀t v,lkF l pv a0 m ia o t=some v->a.tmps[t]?=some v)->Ex wr w->∀K:Act->World->Prop,(∀v w',Ex w w'->A v w'->K (a.put o.dst v) w')->o.wp P a w K Q):I4 P Q l a0 pv wr A Fin ia m i o:=by
 intro L a w aB aA hd hx K;rw[if_pos hi];exact h a w (Ou aB aA hd) hx K
theorem I4.st(hi:¬i=ia/\i=m)(h:∀(a:Act) (w:World),(∀t v,lkF l pv a0 m ia o t=some v->a.tmps[t]?=some v)->Ex wr w->∀(K:Act->World->Prop) (v:Value),A v w->(∀t oa,l[ia]?=some oa->oa.dst=some t->a.tmps[t]?=some v)->(∀w',Fin v w'->K (a.put o.dst undef) w')->o.wp P a w K Q):I4 P Q l a0 pv wr A Fin ia m i o:=by
 intro L a w aB aA hd hx K;rw[if_neg hi.1,if_pos hi.2];intro v;exact h a w (Ou aB aA hd) hx K v
end
theorem BG:(Tryz.prog.info? 22).map (fun i=>(i.zero,i.size,i.bytes))=some (some (.slice none 0 0),1,24):=ah
theorem Ex.frz{w w':World}(h:Ex w w'){p:Addr}{u:Value}(hc:w.cell? p=some u)(hf:w.frozen? p=false):w'.frozen? p=false:=
 (Below.frozen h (World.block_lt_of_cell? w _ hc)).trans hf
theorem Bt.frz{w w':World}{base:Nat}{e:TypeId}{size:Nat}{v v':Value}{n:Nat}{xs news:List Value}(h:Bt w w' base e size v v' n xs news){a:Addr}{u:Value}(hc:w.cell? a=some u)(hf:w.frozen? a=false)(aA:some a.block≠v.ownBlock):w'.frozen? a=false:=by
 obtain⟨o,hg⟩:=h.gr;have aB:=World.block_lt_of_cell? _ _ hc;have e1:(w.alloc o).frozen? a=w.frozen? a:=((Ex.refl w).alloc o).frozen aB;rw[<-hf,<-e1];have h2:=hg.block a.block aq aA;unfold World.frozen?;rw[h2]
theorem EP{q:Nat}{aA:Int}{rows:List (List Int)}(h:BV q aA rows=0):0<=aA/\aA<=256/\rows.length<=256/\∀r∈rows,(r.length:Int)=aA/\Ce q r=0:=by
 unfold BV at h;split at h
 .cases h
 .split at h
  .rename_i h2;split at h
   .rename_i h1 h3;refine⟨ac,ac,ac,fun r hr=>⟨?_,?_⟩⟩
    .have:=List.all_eq_true.1 h2 r hr;simpa using this
    .have:=List.all_eq_true.1 h3 r hr;simpa using this
   .cases h
  .cases h
theorem AR(w:World):Aj w (.slice none 0 0) []:=Sl.nil w 1
theorem Bl{w:World}{base b':Nat}{e:TypeId}{size:Nat}{v:Value}{n:Nat}{xs:List Value}(h:w.ownsRow base e size v n xs)(hb:b'<=base):w.ownsRow b' e size v n xs:=by
 exact zb3
theorem Ah{w:World}{a b:Nat}{i j:Nat}{u:Value}(h:a≠b):(w.setCell (a,i) u).cell? (b,j)=w.cell? (b,j):=
 World.cell?_setCell_other _ _ _ _ (by intro e;injection e with e1;exact h e1)
theorem A6(w:World)(u:Value)(t:TypeId){n:Nat}(h:w.heap.size=n):(w.alloc (.cells #[u] t)).cell? (n,0)=some u:=by subst h;simp
theorem Gd(w:World)(u:Value)(t:TypeId){n:Nat}(h:w.heap.size=n):(w.alloc (.cells #[u] t)).frozen? (n,0)=false:=by subst h;simp
structure BF(w:World)(base:Nat)(cv:Value)(M:List (List Int))(vals:List Value):Prop where
 cvo:w.ownsRow base 22 1 cv M.length vals
 row:∀(i:Nat) (r:List Int) (u:Value),M[i]?=some r->vals[i]?=some u->w.ownsRow base 3 1 u r.length (Ap r)
 apart:∀u∈vals,AT u cv
theorem BF.nil(w:World)(base:Nat):BF w base (.slice none 0 0) [] []:=⟨World.ownsRow_nil _ _ _ _,fun i r u h=>by simp at h,fun u h=>by cases h⟩
theorem BF.len{w:World}{base:Nat}{cv:Value}{M:List (List Int)}{vals:List Value}(h:BF w base cv M vals):vals.length=M.length:=by
 have:=h.cvo.1;omega
theorem BF.ex{w w':World}{base:Nat}{cv:Value}{M:List (List Int)}{vals:List Value}(h:BF w base cv M vals)(hx:Ex w w'):BF w' base cv M vals:=
 ⟨Ai h.cvo hx,fun i r u h1 h2=>Ai (h.row i r u h1 h2) hx,h.apart⟩
theorem BF.setNe{w:World}{base:Nat}{cv:Value}{M:List (List Int)}{vals:List Value}(h:BF w base cv M vals){a:Addr}(ha:a.block<base)(u:Value):BF (w.setCell a u) base cv M vals:=by
 have aA:∀ {e:TypeId} {size:Nat} {v:Value} {n:Nat} {xs:List Value},w.ownsRow base e size v n xs->v.ownBlock≠some a.block:=fun k e=>by
  have:=(k.lt _ e).1;omega
 exact⟨Ac h.cvo (aA h.cvo) u,fun i r t h1 h2=>Ac (h.row i r t h1 h2) (aA (h.row i r t h1 h2)) u,h.apart⟩
theorem BF.app{w w':World}{base:Nat}{cv aB l:Value}{M:List (List Int)}{vals:List Value}{L:List Int}(h:BF w base cv M vals)(hl:w.ownsRow base 3 1 l L.length (Ap L))(aA:AT l cv)
  (ha:Bt w w' base 22 1 cv aB M.length vals [l]):BF w' base aB (M ++ [L]) (vals ++ [l]):=by
 have hn:=h.len;have key:∀u∈vals,∃r,w.ownsRow base 3 1 u r (Ap [])∨∃L:List Int,w.ownsRow base 3 1 u L.length (Ap L):=fun u hu=>by
  obtain⟨i,hi,e⟩:=List.getElem_of_mem hu;exact⟨0,.inr ⟨_,h.row i (M[i]'ac) u (List.getElem?_eq_getElem _) au⟩⟩
 refine⟨by simpa using ha.own,fun i r u h1 h2=>?_,fun u hu=>?_⟩
 .by_cases e:i<M.length
  .rw[List.getElem?_append_left e]at h1;rw[List.getElem?_append_left ac]at h2;exact(ha.row (h.row i r u h1 h2) (h.apart u (List.mem_of_getElem? h2))).1
  .rw[List.getElem?_append_right ac]at h1 h2;have hi:i-M.length=0:=by
    have:=(List.getElem?_eq_some_iff.1 h1).1;simp at this;omega
   rw[hi]at h1;rw[hn,hi]at h2;simp at h1 h2;subst h1 h2;exact(ha.row hl aA).1
 .rcases List.mem_append.1 hu with hu|hu
  .obtain⟨i,hi,e⟩:=List.getElem_of_mem hu;exact(ha.row (h.row i (M[i]'ac) u (List.getElem?_eq_getElem _) au) (h.apart u hu)).2
  .simp at hu;subst hu;exact(ha.row hl aA).2
theorem BF.msl{w:World}{base:Nat}{cv:Value}{M:List (List Int)}{vals:List Value}(h:BF w base cv M vals):B9 w cv M:=
 ⟨vals,Sl.own h.cvo,fun i r u h1 h2=>Sl.own (h.row i r u h1 h2)⟩
def Cx(pr:Nat->Bool)(n:Nat):Int:=match (List.range n).find? pr with|some i=>i|none=> -1
theorem CA{pr:Nat->Bool}{n i:Nat}(h:i<n)(hb:pr i=true)(ha:∀j,j<i->pr j=false):Cx pr n=i:=by
 unfold Cx;have:(List.range n).find? pr=some i:=by
  rw[List.find?_range_eq_some];exact⟨hb,List.mem_range.2 h,fun j hj=>by rw[ha j hj];rfl⟩
 rw[this]
theorem BZ{pr:Nat->Bool}{n:Nat}(ha:∀j,j<n->pr j=false):Cx pr n=-1:=by
 unfold Cx;have:(List.range n).find? pr=none:=by
  rw[List.find?_eq_none];intro j hj;rw[ha j (List.mem_range.1 hj)];simp
 rw[this]
theorem Eg(pr:Nat->Bool)(n:Nat):(List.range n).any pr=decide (0<=Cx pr n):=by
 unfold Cx
 cases h:(List.range n).find? pr with
 | some i=>
  have:=List.find?_some h;have hm:=List.mem_of_find?_eq_some h;simp only;rw[List.any_eq_true.2 ⟨i,hm,this⟩];simp
 | none=>
  rw[List.find?_eq_none]at h;simp only;rw[Bool.eq_iff_iff];constructor
  .intro h';obtain⟨i,hi,hb⟩:=List.any_eq_true.1 h';exact absurd hb (h i hi)
  .intro h';simp at h'
theorem zbP{P:Prop}(h:P:=by
 go_wp2_with fail
 go_round
 case rel=>exact⟨i+1,by omega,by go_num,HA⟩
 case measure=>simp[intOf];omega):P:=h
theorem NP(w:World)(l:List Int)(v:Value)(x:Int)(hl:Aj w v l):
  Calls Tryz.prog 155 #[v,x] w fun r w'=>r= .returned (.int .i64 (Cx (fun j=>x==l.getD j 0) l.length))/\w=w':=by
 obtain⟨a,cap,rfl,s1,s2,s3⟩:=hl.open;have S3:=Aa s3;unfold maxLen at s2;obtain⟨pr,aB⟩:∃pr:Nat->Bool,(fun j=>x==l.getD j 0)=pr:=⟨_,rfl⟩;have aC:=Aa (show ∀(j:Nat) (y:Int),l[j]?=some y->pr j=(x==y) from fun j y h=>by rw[<-aB];show(x==l.getD j 0)=_;rw[List.getD_eq_getElem?_getD,h];rfl);rw[aB];clear hl s3 aB;go_enter Tryz.func155,Tryz.ntmps155
 go_wp2_with fail
 go_loop [5,8] (fun _ i'=>∃i:Nat,i<=l.length/\i'= .int .i64 i/\Hia (∀j,j<i->pr j=false)) (fun _ i'=>l.length-(intOf i').toNat)
 case atStart=>exact⟨0,ac,rfl,Aa (fun j hj=>ac)⟩
 case round=>
  obtain⟨i,hi,rfl,aA⟩:=hrel;by_cases hlt:i<l.length
  .obtain⟨y,hy⟩:∃y,l[i]?=some y:=⟨_,List.getElem?_eq_getElem hlt⟩;obtain⟨bb,o,rfl,hc⟩:=S3.o ac;have c1:=hc i y hy;have HP:=Aa (aC.o i y hy);clear hc hy
   cases hb:(x==y) with
   | true=>
    have HF:=Aa (CA hlt (HP.o.trans hb) aA.o);exact zc3
   | false=>
    have HA:=Aa (show ∀j,j<i+1->pr j=false from fun j hj=>by
     by_cases e:j=i
     .subst e;exact HP.o.trans hb
     .exact aA.o j ac)
    exact zbP
  .obtain rfl:i=l.length:=by omega
   have HF:=Aa (BZ aA.o);exact zc3
theorem J8(x:Int)(l:List Int):((List.range l.length).any fun j=>x==l.getD j 0)=l.contains x:=by
 rw[Bool.eq_iff_iff];simp only[List.any_eq_true,List.mem_range,List.contains_iff_mem,beq_iff_eq,List.getD_eq_getElem?_getD];constructor
 .rintro⟨j,hj,e⟩;rw[List.getElem?_eq_getElem hj]at e;rw[e];exact List.getElem_mem hj
 .intro h;obtain⟨j,hj,e⟩:=List.getElem_of_mem h;exact⟨j,hj,by rw[List.getElem?_eq_getElem hj,e];rfl⟩
theorem DJ(w:World)(l:List Int)(v:Value)(x:Int)(hl:Aj w v l):
  Calls Tryz.prog 132 #[v,x] w fun r w'=>r= .returned (.bool (l.contains x))/\w=w':=by
 have HC:=Aa (NP w l v x hl);have HB:=Aa ((J8 x l).symm.trans (Eg _ _));obtain⟨z,hz⟩:∃z,Cx (fun j=>x==l.getD j 0) l.length=z:=⟨_,rfl⟩;rw[hz]at HC HB;clear hz hl;go_enter Tryz.func132,Tryz.ntmps132
 go_wp2_with (go_at_call 155;refine HC.o.mono ?_;rintro e w'⟨rfl,rfl⟩)
 go_ret;exact⟨Aq HB.o.symm,rfl⟩
theorem ZP(l:List Int):Ap l=vs l.length (iv fun j=>l.getD j 0):=by
 apply List.ext_getElem?;intro j;by_cases h:j<l.length
 .rw[Dj h];simp[Ap,iv,h,List.getD_eq_getElem?_getD]
 .rw[List.getElem?_eq_none_iff.2 (by rw[Bf];omega),List.getElem?_eq_none_iff.2 (by rw[Bm];omega)]
theorem JK(w:World)(l:List Int)(v:Value)(hl:Aj w v l)(hn:1<=l.length)(hn2:l.length<=1000):
  Calls Tryz.prog 154 #[v] w fun r w'=>∃g cap,r= .returned (.slice (some ⟨g,0,none⟩) l.length cap)/\Bd w' w.heap.size 3 g l.length cap (iv fun j=>l.getD j 0)/\Ex w w':=by
 have HL:=Aa hl;obtain⟨a,cap,rfl,s1,s2,s3⟩:=hl.open;obtain⟨b,o,rfl,_⟩:=s3 ac;have aC:=fun w'=>AP (P:=Tryz.prog) w' 22 3 (some ⟨b,o,none⟩) l.length cap Tryz.underlying22;simp only[Option.isNone]at aC;have aE:∀u∈Ap l,u.oneCell'=true:=by
  exact zc4
 have aH:=Aa aE;have aI:=Aa (ZP l);clear s3 hl aE;go_enter Tryz.func154,Tryz.ntmps154
 go_wp2_with (at_builtin;refine A9 _ rfl _ _ 22 rfl w.heap.size 3 (.int .i64 0) 1 8 Tryz.underlying22 Az rfl ae _ 0 [] rfl (Bv w 3) (.slice (some (b,o)) l.length cap) l.length (Ap l) rfl (HL.o.ex ((Ex.refl w).alloc _)) aH.o ai ac ag ?_)
 intro v1 w1 aA aF aG;have aD:Ex w w1:=Ex.grown ((Ex.refl w).alloc _) (Bv w 3) (Nat.le_refl _) aF;rw[aI.o]at aA;obtain⟨g,c2,rfl,aB⟩:=Kh aA hn;have HO:=Aa aB;have HX:=Aa aD;clear aB aA aF aG aD aC;go_wp2_with fail
 go_ret;exact⟨g,c2,rfl,HO.o,HX.o⟩
theorem zaK{P:Prop}(h:P:=by
 rw[List.getElem?_eq_none_iff.2 (by omega),List.getElem?_eq_none_iff.2 (by omega)]):P:=h
theorem zck{P:Prop}(h:P:=by
 apply List.ext_getElem?;intro j;by_cases hj:j<l.length
 .exact h j hj
 .exact zaK):P:=h
theorem NC{l k:List Int}(hl:l.length=k.length)(h:∀j,j<l.length->l[j]?=k[j]?):l=k:=by
 exact zck
theorem zae{P:Prop}(h:P:=by
 obtain⟨x,hx⟩:∃x,l[i]?=some x:=⟨_,List.getElem?_eq_getElem hlt⟩;have aE:i<k.length:=by have:=aD.o;omega
 obtain⟨y,hy⟩:∃y,k[i]?=some y:=⟨_,List.getElem?_eq_getElem aE⟩;obtain⟨b,o,rfl,hc⟩:=S3.o (by omega);obtain⟨b2,o2,rfl,aB⟩:=T3.o (by omega);have c1:=((Ex.refl w).drewN n).cell (hc i x hx);have c2:=((Ex.refl w).drewN n).cell (aB i y hy);have i1:(0:Int)<=(i:Int):=by omega
 have i2:(i:Int)<(l.length:Int):=by omega
 have i3:(i:Int)<(k.length:Int):=by omega
 obtain⟨W,hW⟩:=nA (w.drewN n);rw[hW]at c1 c2 ⊢;have aC:=Aa hW;clear hW;by_cases hxy:x=y
 .have HA:=Aa (show ∀j,j<i+1->l[j]?=k[j]? from fun j hj=>by
   by_cases e:j=i
   .subst e;rw[hx,hy,hxy]
   .exact aA.o j (by omega))
  have aF:(x !=y)=false:=by simpa using hxy
  clear hc aB hx hy hxy;go_wp2_with fail
  go_quiet (fail)
  go_wp2_with fail
  go_roundw
  case rel=>exact⟨i+1,_,by omega,by go_num,by rw[<-aC.o,World.drewN_drewN],HA⟩
  case measure=>simp[intOf];omega
 .have HN:=Aa (show ¬l=k from fun e=>hxy (by rw[e,hy]at hx;injection hx with hx;exact hx.symm));have aF:(x !=y)=true:=by simpa using hxy
  clear hc aB hx hy hxy;go_wp2_with fail
  go_quiet (fail)
  go_wp2_with fail
  go_ret;exact⟨Aq (decide_eq_false HN.o).symm,_,by rw[<-aC.o,World.drewN_drewN]⟩):P:=h
theorem zcK{P:Prop}(h:P:=by
 go_wp2_with fail
 go_ret;exact⟨Aq (decide_eq_true HE.o).symm,n,rfl⟩):P:=h
theorem zaw{P:Prop}(h:P:=by
 obtain rfl:i=l.length:=by omega
 have HE:=Aa (NC aD.o aA.o);exact zcK):P:=h
theorem zcf{P:Prop}(h:P:=by
 obtain⟨i,n,hi,rfl,rfl,aA⟩:=hrel;by_cases hlt:i<l.length
 .exact zae
 .exact zaw):P:=h
theorem zcF{P:Prop}(h:P:=by
 go_wp2_with fail
 go_ret;exact⟨Aq (decide_eq_false HN.o).symm,0,rfl⟩):P:=h
theorem DI(w:World)(l k:List Int)(v u:Value)(hl:Aj w v l)(hk:Aj w u k):
  Calls Tryz.prog 19 #[v,u] w fun r w'=>r= .returned (.bool (decide (l=k)))/\∃n,w'=w.drewN n:=by
 obtain⟨a,cap,rfl,s1,s2,s3⟩:=hl.open;obtain⟨c,cc,rfl,t1,t2,t3⟩:=hk.open;have S3:=Aa s3;have T3:=Aa t3;unfold maxLen at s2 t2;clear hl hk s3 t3;by_cases hlk:l.length=k.length
 .have hb:((l.length:Int) !=(k.length:Int))=false:=by simp;omega
  have aD:=Aa hlk;clear hlk;go_enter Tryz.func19,Tryz.ntmps19
  go_wp2_with fail
  go_loopw [5] (fun i' wr=>∃i n:Nat,i<=l.length/\i'= .int .i64 i/\wr=w.drewN n/\Hia (∀j,j<i->l[j]?=k[j]?)) (fun i' _=>l.length-(intOf i').toNat)
  case atStart=>exact⟨0,0,ac,rfl,rfl,Aa (fun j hj=>ac)⟩
  case round=>
   exact zcf
 .have hb:((l.length:Int) !=(k.length:Int))=true:=by simp;omega
  have HN:=Aa (show ¬l=k from fun e=>hlk cw);clear hlk;go_enter Tryz.func19,Tryz.ntmps19
  exact zcF
theorem GC{l k:List (List Int)}(hl:l.length=k.length)(h:∀j,j<l.length->l[j]?=k[j]?):l=k:=by
 exact zck
theorem zax{P:Prop}(h:P:=by
 obtain rfl:i=l.length:=by omega
 have HE:=Aa (GC aI.o aC.o);exact zcK):P:=h
theorem zbG{P:Prop}(h:P:=by
 go_roundw
 case rel=>exact⟨i+1,_,by omega,by go_num,by rw[<-aH.o,World.drewN_drewN],HA⟩
 case measure=>simp[intOf];omega):P:=h
theorem zcd{P:Prop}(h:P:=by
 go_ret;exact⟨Aq (decide_eq_false HN.o).symm,_,by rw[<-aH.o,World.drewN_drewN]⟩):P:=h
theorem EG(w:World)(l k:List (List Int))(v u:Value)(hl:B9 w v l)(hk:B9 w u k):
  Calls Tryz.prog 27 #[v,u] w fun r w'=>r= .returned (.bool (decide (l=k)))/\∃n,w'=w.drewN n:=by
 obtain⟨a,cap,rfl,s1,s2,s3⟩:=hl.open;obtain⟨c,cc,rfl,t1,t2,t3⟩:=hk.open;have S3:=Aa s3;have T3:=Aa t3;unfold maxLen at s2 t2;clear hl hk s3 t3;by_cases hlk:l.length=k.length
 .have hb:((l.length:Int) !=(k.length:Int))=false:=by simp;omega
  have aI:=Aa hlk;clear hlk;go_enter Tryz.func27,Tryz.ntmps27
  go_wp2_with fail
  go_loopw [5] (fun i' wr=>∃i n:Nat,i<=l.length/\i'= .int .i64 i/\wr=w.drewN n/\Hia (∀j,j<i->l[j]?=k[j]?)) (fun i' _=>l.length-(intOf i').toNat)
  case atStart=>exact⟨0,0,ac,rfl,rfl,Aa (fun j hj=>ac)⟩
  case round=>
   obtain⟨i,n,hi,rfl,rfl,aC⟩:=hrel;by_cases hlt:i<l.length
   .obtain⟨x,hx⟩:∃x,l[i]?=some x:=⟨_,List.getElem?_eq_getElem hlt⟩;have aJ:i<k.length:=by have:=aI.o;omega
    obtain⟨y,hy⟩:∃y,k[i]?=some y:=⟨_,List.getElem?_eq_getElem aJ⟩;obtain⟨b,o,rfl,hc⟩:=S3.o ac;obtain⟨b2,o2,rfl,aG⟩:=T3.o ac;obtain⟨u1,e1,aF⟩:=hc i x hx;obtain⟨u2,e2,aE⟩:=aG i y hy;have c1:=((Ex.refl w).drewN n).cell e1;have c2:=((Ex.refl w).drewN n).cell e2;have aB:=aF.ex ((Ex.refl w).drewN n);have aA:=aE.ex ((Ex.refl w).drewN n);have i1:(0:Int)<=(i:Int):=bu;have i2:(i:Int)<(l.length:Int):=ac;have i3:(i:Int)<(k.length:Int):=ac;obtain⟨W,hW⟩:=nA (w.drewN n);rw[hW]at c1 c2 aB aA ⊢;have aH:=Aa hW;have aD:=Aa (fun n'=>DI (W.drewN n') x y u1 u2 (aB.ex ((Ex.refl W).drewN n')) (aA.ex ((Ex.refl W).drewN n')));obtain⟨ua,uc,rfl,_,_,_⟩:=aB.open;obtain⟨va,vc,rfl,_,_,_⟩:=aA.open;by_cases hxy:x=y
    .have HA:=Aa (show ∀j,j<i+1->l[j]?=k[j]? from fun j hj=>by
      by_cases e:j=i
      .subst e;rw[hx,hy,hxy]
      .exact aC.o j ac)
     rw[decide_eq_true hxy]at aD;clear hc aG hx hy hxy hW aF aE e1 e2 aB aA;go_wp2_with fail
     go_quiet ((go_at_call 19;exact Ld (aD.o _)))
     go_wp2_with fail
     exact zbG
    .have HN:=Aa (show ¬l=k from fun e=>hxy (by rw[e,hy]at hx;injection hx with hx;exact hx.symm));rw[decide_eq_false hxy]at aD;clear hc aG hx hy hxy hW aF aE e1 e2 aB aA;go_wp2_with fail
     go_quiet ((go_at_call 19;exact Ld (aD.o _)))
     go_wp2_with fail
     exact zcd
   .exact zax
 .have hb:((l.length:Int) !=(k.length:Int))=true:=by simp;omega
  have HN:=Aa (show ¬l=k from fun e=>hlk cw);clear hlk;go_enter Tryz.func27,Tryz.ntmps27
  exact zcF
theorem zaD{P:Prop}(h:P:=by
 obtain rfl:i=n:=by omega
 have HF:=Aa (BZ aA.o);go_wp2_with fail
 go_ret;exact⟨Af HF.o.symm,aB.o⟩):P:=h
theorem zbU{P:Prop}(h:P:=by
 go_roundg (n-(i+1))
 case measure=>omega
 case rel=>exact⟨i+1,by omega,by omega,by go_num,HX,HA⟩):P:=h
theorem zdf{P:Prop}(h:P:=by
 go_ret;exact⟨Af HF.o.symm,HX.o⟩):P:=h
theorem a8{P:Prop}(h:P:=by rw[HL.o];exact hlt):P:=h
theorem M5(w:World)(p0:Value)(v:Value)(n:Nat)(us:List Value)(hv:Sl w v n 1 us)(pr:Nat->Bool)
  (hp:∀(w1:World) (i:Nat) (u:Value),Ex w w1->us[i]?=some u->Calls Tryz.prog 197 #[u,p0] w1 fun e w'=>e= .returned (.bool (pr i))/\Ex w1 w'):
  Calls Tryz.prog 169 #[v,.func (.func 197) #[] #[p0]] w fun r w'=>r= .returned (.int .i64 (Cx pr n))/\Ex w w':=by
 obtain⟨hl,a,cap,rfl,s1,s2,s3⟩:=hv;rw[Nat.mul_one]at hl;have S3:=Aa s3;have HP:=Aa hp;have HL:=Aa hl;unfold maxLen at s2;clear s3 hp hl;go_enter Tryz.func169,Tryz.ntmps169
 go_wp2_with fail
 go_loopg [5,8] n (fun gg _ i' wr=>∃i:Nat,i<=n/\n-i<=gg/\i'= .int .i64 i/\Hia (Ex w wr)/\Hia (∀j,j<i->pr j=false))
 case atStart=>exact⟨0,ac,ac,rfl,Aa (Ex.refl _),Aa (fun j hj=>ac)⟩
 case round=>
  obtain⟨i,hi,hg,rfl,aB,aA⟩:=hrel;by_cases hlt:i<n
  .obtain⟨u,hu⟩:∃u,us[i]?=some u:=⟨_,List.getElem?_eq_getElem a8⟩;obtain⟨bb,o,rfl,hc⟩:=S3.o ac;have c1:=aB.o.cell (hc i u hu);have HC:=Aa (HP.o wr i u aB.o hu);have hlt':(i:Int)<(n:Int):=by omega
   clear hc hu
   cases hb:pr i with
   | true=>
    rw[hb]at HC;have HF:=Aa (CA hlt hb aA.o);clear hb;go_wp2_with (go_at_call 197;refine HC.o.mono ?_;rintro e w'⟨rfl,hx⟩;have HX:=Aa (aB.o.trans hx);clear hx)
    exact zdf
   | false=>
    rw[hb]at HC;have HA:=Aa (show ∀j,j<i+1->pr j=false from fun j hj=>by
     by_cases e:j=i
     .subst e;exact hb
     .exact aA.o j ac)
    clear hb;go_wp2_with (go_at_call 197;refine HC.o.mono ?_;rintro e w'⟨rfl,hx⟩;have HX:=Aa (aB.o.trans hx);clear hx)
    exact zbU
  .exact zaD
theorem zbf{P:Prop}(h:P:=by
 have HB:=Aa (Eg pr n);obtain⟨z,hz⟩:=nA (Cx pr n);rw[hz]at HC HB;clear hz hp hv;go_enter Tryz.func116,Tryz.ntmps116
 go_wp2_with (go_at_call 169;refine HC.o.mono ?_;rintro e w'⟨rfl,hx⟩;have HX:=Aa hx;clear hx)
 go_ret;exact⟨Aq HB.o.symm,HX.o⟩):P:=h
theorem JH(w:World)(p0:Value)(v:Value)(n:Nat)(us:List Value)(hv:Sl w v n 1 us)(pr:Nat->Bool)
  (hp:∀(w1:World) (i:Nat) (u:Value),Ex w w1->us[i]?=some u->Calls Tryz.prog 197 #[u,p0] w1 fun e w'=>e= .returned (.bool (pr i))/\Ex w1 w'):
  Calls Tryz.prog 116 #[v,.func (.func 197) #[] #[p0]] w fun r w'=>r= .returned (.bool ((List.range n).any pr))/\Ex w w':=by
 have HC:=Aa (M5 w p0 v n us hv pr hp);exact zbf
theorem M6(w:World)(p0:Value)(v:Value)(n:Nat)(us:List Value)(hv:Sl w v n 1 us)(pr:Nat->Bool)
  (hp:∀(w1:World) (i:Nat) (u:Value),Ex w w1->us[i]?=some u->Calls Tryz.prog 198 #[u,p0] w1 fun e w'=>e= .returned (.bool (pr i))/\Ex w1 w'):
  Calls Tryz.prog 169 #[v,.func (.func 198) #[] #[p0]] w fun r w'=>r= .returned (.int .i64 (Cx pr n))/\Ex w w':=by
 obtain⟨hl,a,cap,rfl,s1,s2,s3⟩:=hv;rw[Nat.mul_one]at hl;have S3:=Aa s3;have HP:=Aa hp;have HL:=Aa hl;unfold maxLen at s2;clear s3 hp hl;go_enter Tryz.func169,Tryz.ntmps169
 go_wp2_with fail
 go_loopg [5,8] n (fun gg _ i' wr=>∃i:Nat,i<=n/\n-i<=gg/\i'= .int .i64 i/\Hia (Ex w wr)/\Hia (∀j,j<i->pr j=false))
 case atStart=>exact⟨0,ac,ac,rfl,Aa (Ex.refl _),Aa (fun j hj=>ac)⟩
 case round=>
  obtain⟨i,hi,hg,rfl,aB,aA⟩:=hrel;by_cases hlt:i<n
  .obtain⟨u,hu⟩:∃u,us[i]?=some u:=⟨_,List.getElem?_eq_getElem a8⟩;obtain⟨bb,o,rfl,hc⟩:=S3.o ac;have c1:=aB.o.cell (hc i u hu);have HC:=Aa (HP.o wr i u aB.o hu);have hlt':(i:Int)<(n:Int):=by omega
   clear hc hu
   cases hb:pr i with
   | true=>
    rw[hb]at HC;have HF:=Aa (CA hlt hb aA.o);clear hb;go_wp2_with (go_at_call 198;refine HC.o.mono ?_;rintro e w'⟨rfl,hx⟩;have HX:=Aa (aB.o.trans hx);clear hx)
    exact zdf
   | false=>
    rw[hb]at HC;have HA:=Aa (show ∀j,j<i+1->pr j=false from fun j hj=>by
     by_cases e:j=i
     .subst e;exact hb
     .exact aA.o j ac)
    clear hb;go_wp2_with (go_at_call 198;refine HC.o.mono ?_;rintro e w'⟨rfl,hx⟩;have HX:=Aa (aB.o.trans hx);clear hx)
    exact zbU
  .exact zaD
theorem JI(w:World)(p0:Value)(v:Value)(n:Nat)(us:List Value)(hv:Sl w v n 1 us)(pr:Nat->Bool)
  (hp:∀(w1:World) (i:Nat) (u:Value),Ex w w1->us[i]?=some u->Calls Tryz.prog 198 #[u,p0] w1 fun e w'=>e= .returned (.bool (pr i))/\Ex w1 w'):
  Calls Tryz.prog 116 #[v,.func (.func 198) #[] #[p0]] w fun r w'=>r= .returned (.bool ((List.range n).any pr))/\Ex w w':=by
 have HC:=Aa (M6 w p0 v n us hv pr hp);exact zbf
theorem MW(w:World)(p0:Value)(v:Value)(n:Nat)(us:List Value)(hv:Sl w v n 1 us)(pr:Nat->Bool)
  (hp:∀(w1:World) (i:Nat) (u:Value),Ex w w1->us[i]?=some u->Calls Tryz.prog 223 #[u,p0] w1 fun e w'=>e= .returned (.bool (pr i))/\Ex w1 w'):
  Calls Tryz.prog 169 #[v,.func (.func 223) #[] #[p0]] w fun r w'=>r= .returned (.int .i64 (Cx pr n))/\Ex w w':=by
 obtain⟨hl,a,cap,rfl,s1,s2,s3⟩:=hv;rw[Nat.mul_one]at hl;have S3:=Aa s3;have HP:=Aa hp;have HL:=Aa hl;unfold maxLen at s2;clear s3 hp hl;go_enter Tryz.func169,Tryz.ntmps169
 go_wp2_with fail
 go_loopg [5,8] n (fun gg _ i' wr=>∃i:Nat,i<=n/\n-i<=gg/\i'= .int .i64 i/\Hia (Ex w wr)/\Hia (∀j,j<i->pr j=false))
 case atStart=>exact⟨0,ac,ac,rfl,Aa (Ex.refl _),Aa (fun j hj=>ac)⟩
 case round=>
  obtain⟨i,hi,hg,rfl,aB,aA⟩:=hrel;by_cases hlt:i<n
  .obtain⟨u,hu⟩:∃u,us[i]?=some u:=⟨_,List.getElem?_eq_getElem a8⟩;obtain⟨bb,o,rfl,hc⟩:=S3.o ac;have c1:=aB.o.cell (hc i u hu);have HC:=Aa (HP.o wr i u aB.o hu);have hlt':(i:Int)<(n:Int):=by omega
   clear hc hu
   cases hb:pr i with
   | true=>
    rw[hb]at HC;have HF:=Aa (CA hlt hb aA.o);clear hb;go_wp2_with (go_at_call 223;refine HC.o.mono ?_;rintro e w'⟨rfl,hx⟩;have HX:=Aa (aB.o.trans hx);clear hx)
    exact zdf
   | false=>
    rw[hb]at HC;have HA:=Aa (show ∀j,j<i+1->pr j=false from fun j hj=>by
     by_cases e:j=i
     .subst e;exact hb
     .exact aA.o j ac)
    clear hb;go_wp2_with (go_at_call 223;refine HC.o.mono ?_;rintro e w'⟨rfl,hx⟩;have HX:=Aa (aB.o.trans hx);clear hx)
    exact zbU
  .exact zaD
theorem JE(w:World)(p0:Value)(v:Value)(n:Nat)(us:List Value)(hv:Sl w v n 1 us)(pr:Nat->Bool)
  (hp:∀(w1:World) (i:Nat) (u:Value),Ex w w1->us[i]?=some u->Calls Tryz.prog 223 #[u,p0] w1 fun e w'=>e= .returned (.bool (pr i))/\Ex w1 w'):
  Calls Tryz.prog 116 #[v,.func (.func 223) #[] #[p0]] w fun r w'=>r= .returned (.bool ((List.range n).any pr))/\Ex w w':=by
 have HC:=Aa (MW w p0 v n us hv pr hp);exact zbf
theorem Hy(w:World)(v:Value)(n:Nat)(us:List Value)(hv:Sl w v n 1 us)(pr:Nat->Bool)
  (hp:∀(w1:World) (i:Nat) (u:Value),Ex w w1->us[i]?=some u->Calls Tryz.prog 269 #[u] w1 fun e w'=>e= .returned (.bool (pr i))/\Ex w1 w'):
  Calls Tryz.prog 169 #[v,.func (.func 269) #[] #[]] w fun r w'=>r= .returned (.int .i64 (Cx pr n))/\Ex w w':=by
 obtain⟨hl,a,cap,rfl,s1,s2,s3⟩:=hv;rw[Nat.mul_one]at hl;have S3:=Aa s3;have HP:=Aa hp;have HL:=Aa hl;unfold maxLen at s2;clear s3 hp hl;go_enter Tryz.func169,Tryz.ntmps169
 go_wp2_with fail
 go_loopg [5,8] n (fun gg _ i' wr=>∃i:Nat,i<=n/\n-i<=gg/\i'= .int .i64 i/\Hia (Ex w wr)/\Hia (∀j,j<i->pr j=false))
 case atStart=>exact⟨0,ac,ac,rfl,Aa (Ex.refl _),Aa (fun j hj=>ac)⟩
 case round=>
  obtain⟨i,hi,hg,rfl,aB,aA⟩:=hrel;by_cases hlt:i<n
  .obtain⟨u,hu⟩:∃u,us[i]?=some u:=⟨_,List.getElem?_eq_getElem a8⟩;obtain⟨bb,o,rfl,hc⟩:=S3.o ac;have c1:=aB.o.cell (hc i u hu);have HC:=Aa (HP.o wr i u aB.o hu);have hlt':(i:Int)<(n:Int):=by omega
   clear hc hu
   cases hb:pr i with
   | true=>
    rw[hb]at HC;have HF:=Aa (CA hlt hb aA.o);clear hb;go_wp2_with (go_at_call 269;refine HC.o.mono ?_;rintro e w'⟨rfl,hx⟩;have HX:=Aa (aB.o.trans hx);clear hx)
    exact zdf
   | false=>
    rw[hb]at HC;have HA:=Aa (show ∀j,j<i+1->pr j=false from fun j hj=>by
     by_cases e:j=i
     .subst e;exact hb
     .exact aA.o j ac)
    clear hb;go_wp2_with (go_at_call 269;refine HC.o.mono ?_;rintro e w'⟨rfl,hx⟩;have HX:=Aa (aB.o.trans hx);clear hx)
    exact zbU
  .exact zaD
theorem MY(w:World)(p0:Value)(v:Value)(n:Nat)(us:List Value)(hv:Sl w v n 1 us)(pr:Nat->Bool)
  (hp:∀(w1:World) (i:Nat) (u:Value),Ex w w1->us[i]?=some u->Calls Tryz.prog 262 #[u,p0] w1 fun e w'=>e= .returned (.bool (pr i))/\Ex w1 w'):
  Calls Tryz.prog 129 #[v,.func (.func 262) #[] #[p0]] w fun r w'=>r= .returned (.int .i64 (Cx pr n))/\Ex w w':=by
 obtain⟨hl,a,cap,rfl,s1,s2,s3⟩:=hv;rw[Nat.mul_one]at hl;have S3:=Aa s3;have HP:=Aa hp;have HL:=Aa hl;unfold maxLen at s2;clear s3 hp hl;go_enter Tryz.func129,Tryz.ntmps129
 go_wp2_with fail
 go_loopg [5,8] n (fun gg _ i' wr=>∃i:Nat,i<=n/\n-i<=gg/\i'= .int .i64 i/\Hia (Ex w wr)/\Hia (∀j,j<i->pr j=false))
 case atStart=>exact⟨0,ac,ac,rfl,Aa (Ex.refl _),Aa (fun j hj=>ac)⟩
 case round=>
  obtain⟨i,hi,hg,rfl,aB,aA⟩:=hrel;by_cases hlt:i<n
  .obtain⟨u,hu⟩:∃u,us[i]?=some u:=⟨_,List.getElem?_eq_getElem a8⟩;obtain⟨bb,o,rfl,hc⟩:=S3.o ac;have c1:=aB.o.cell (hc i u hu);have HC:=Aa (HP.o wr i u aB.o hu);have hlt':(i:Int)<(n:Int):=by omega
   clear hc hu
   cases hb:pr i with
   | true=>
    rw[hb]at HC;have HF:=Aa (CA hlt hb aA.o);clear hb;go_wp2_with (go_at_call 262;refine HC.o.mono ?_;rintro e w'⟨rfl,hx⟩;have HX:=Aa (aB.o.trans hx);clear hx)
    exact zdf
   | false=>
    rw[hb]at HC;have HA:=Aa (show ∀j,j<i+1->pr j=false from fun j hj=>by
     by_cases e:j=i
     .subst e;exact hb
     .exact aA.o j ac)
    clear hb;go_wp2_with (go_at_call 262;refine HC.o.mono ?_;rintro e w'⟨rfl,hx⟩;have HX:=Aa (aB.o.trans hx);clear hx)
    exact zbU
  .exact zaD
theorem U5{p m:Nat}(hp:1<=p):CI p m 0=0:=by
 have h:=CR (p:=p) (m:=m) hp 0
 rwa[DO hp (Dg hp 0)]at h
theorem OC{p m a b:Nat}(hp:1<=p)(ha:a<p^m)(hb:b<p^m)(h:AH p m a (CI p m b)=0):a=b:=by
 have h1:AH p m (AH p m a (CI p m b)) b=a:=by
  rw[BI hp,DU (CI p m b),CR hp,Cg hp ha]
 rw[h,DO hp hb]at h1;exact h1.symm
theorem ZK{q:Nat}{x y:Int}(hx:0<=x/\x<q)(hy:0<=y/\y<q)(h:Av q x=Av q y):x=y:=by
 have h1:=GM hx.1 hx.2;have h2:=GM hy.1 hy.2;rw[h]at h1;omega
theorem FZ{p m:Nat}(hp:2<=p)(hm:1<=m):Av (p^m) 1=1:=AA (q:=p^m) (x:=1) (Bw hp hm)
theorem Ug:∀ {l k:List Nat},l.Pairwise (·< ·)->k.Pairwise (·< ·)->(∀x,x∈l↔x∈k)->l=k
 | [], [],_,_,_=>rfl
 | [],y :: k,_,_,h=>by have:=(h y).2 (List.mem_cons_self ..);cases this
 | x :: l, [],_,_,h=>by have:=(h x).1 (List.mem_cons_self ..);cases this
 | x :: l,y :: k,hl,hk,h=>by
  obtain⟨l1,l2⟩:=List.pairwise_cons.1 hl;obtain⟨k1,k2⟩:=List.pairwise_cons.1 hk;have e:x=y:=by
   rcases List.mem_cons.1 ((h x).1 (List.mem_cons_self ..)) with e|e
   .exact e
   .rcases List.mem_cons.1 ((h y).2 (List.mem_cons_self ..)) with e2|e2
    .exact e2.symm
    .have h1:=k1 x e;have h2:=l1 y e2;omega
  subst e;rw[Ug l2 k2 fun z=>?_];constructor
  .intro hz;rcases List.mem_cons.1 ((h z).1 (List.mem_cons_of_mem _ hz)) with e|e
   .have:=l1 z hz;omega
   .exact e
  .intro hz;rcases List.mem_cons.1 ((h z).2 (List.mem_cons_of_mem _ hz)) with e|e
   .have:=k1 z hz;omega
   .exact e
section
variable {p m:Nat} {ml:List Int} {N R:Nat} {a:Nat->Nat->Int} {piv:List Nat} {c0 c:Nat} {x:Nat->Int}
theorem Kv.ex(hP:PV p m R N a piv c0)(aA:∀i:Nat,piv[i]?≠some c):∀k,k<=piv.length->∃x,Kv p m a piv c k x
 | 0,_=>⟨_,Kv.zero⟩
 | k+1,hk=>by
  obtain⟨x,hx⟩:=Kv.ex hP aA k ac;have hq:piv[k]?=some (piv[k]'ac):=List.getElem?_eq_getElem _;exact⟨_,hx.succ hP hq fun e=>aA k (by rw[hq,e])⟩
theorem Jy(hp:2<=p){f:Nat->Int}{k:Nat}(hk:k<N)(h:∀j,j<N->j≠k->f j≠0->x j=0):dt p m ml N f x=Al p m (lw ml) (Av (p^m) (f k)) (Av (p^m) (x k)):=by
 have aA:(il N f).length=N:=AJ _ _;have hg:∀j,j<N->(il N f).getD j 0=f j:=fun j hj=>by
  exact zde
 have e1:Cd p m ml (il N f) (il N x) 0=AH p m (Cd p m ml (il N f) (il N fun _=>(0:Int)) 0) (Al p m (lw ml) (Av (p^m) ((il N f).getD k 0)) (Av (p^m) (x k))):=
  Mb hp aA hk rfl fun j hj aB hr=>h j hj aB (by rwa[hg j hj]at hr)
 have e0:Cd p m ml (il N f) (il N fun _=>(0:Int)) 0=0:=by
  have:=Hf (p:=p) (m:=m) (ml:=ml) (N:=N) hp (f:=fun _=>0) (x:=f) (fun j _=>rfl);rw[Kt]at this;exact this
 show Cd p m ml (il N f) (il N x) 0=_
 rw[e1,e0,hg k hk,DO ac (Bc ac _ _)]
theorem Kv.dt_piv(hp:2<=p)(hm:1<=m)(hc:c<N)(h:Kv p m a piv c piv.length x){f:Nat->Int}{i q:Nat}(hq:piv[i]?=some q)(aC:q<N)(aD:q≠c)(aI:f q=1)(hz:∀k r:Nat,piv[k]?=some r->k≠i->f r=0):
  dt p m ml N f x=AH p m (Av (p^m) (f c)) (CI p m (Av (p^m) (a i c))):=by
 have aB:(il N f).length=N:=AJ _ _;have aE:0<p^m:=Nat.pow_pos ac;have hg:∀j,j<N->(il N f).getD j 0=f j:=fun j hj=>by
  exact zde
 have aH:i<piv.length:=(List.getElem?_eq_some_iff.1 hq).1;have e1:dt p m ml N f (Ay (fun _=>(0:Int)) c 1)=Av (p^m) (f c):=by
  rw[Jy hp hc fun j hj aG _=>(show Ay (fun _=>(0:Int)) c 1 j=0 from Ae _ _ aG),Ab,FZ hp hm,Bz hp hm (Cc aE _)]
 have e2:Cd p m ml (il N f) (il N x) 0=AH p m (Cd p m ml (il N f) (il N (Ay (fun _=>(0:Int)) c 1)) 0) (Al p m (lw ml) (Av (p^m) ((il N f).getD q 0)) (Av (p^m) (x q))):=
  Mb hp aB aC (Ae _ _ aD) fun j hj aF hr=>by
   rw[hg j hj]at hr;by_cases e:j=c
   .rw[e,h.c1,Ab]
   .rw[Ae _ _ e];refine h.z j e fun k hk aA=>?_;by_cases ek:k=i
    .subst ek;rw[hq]at aA;injection aA with aA;exact aF aA.symm
    .exact hr (hz k j aA ek)
 show Cd p m ml (il N f) (il N x) 0=_
 rw[e2];show AH p m (dt p m ml N f (Ay (fun _=>(0:Int)) c 1)) _=_
 rw[e1,hg q aC,aI,h.pv i q aH hq,FZ hp hm,AA (Dg ac _),Cr hp hm (Dg ac _)]
def RR(p m N R:Nat)(a:Nat->Nat->Int)(piv:List Nat):Prop:=∃c,c<=N/\PV p m R N a piv c/\(piv.length=R∨c=N)
theorem RR.sol(hp:2<=p)(hm:1<=m)(h:RR p m N R a piv)(hc:c<N)(aA:∀i:Nat,piv[i]?≠some c)(hx:Kv p m a piv c piv.length x):Cb p m ml N R a x:=by
 obtain⟨c1,h1,h2,h3⟩:=h;exact hx.sol hp hm h2 h3 h1 hc aA
theorem RR.piv_iff(hp:2<=p)(hm:1<=m)(h:RR p m N R a piv)(hc:c<N):c∈piv↔¬∃x,Cb p m ml N R a x/\Av (p^m) (x c)≠0/\∀j,c<j->x j=0:=by
 have h0:=h;obtain⟨c1,h1,hP,h3⟩:=h;constructor
 .rintro aA⟨x,hS,hx,hz⟩;obtain⟨i,hi,e⟩:=List.getElem_of_mem aA;have hq:piv[i]?=some c:=by rw[List.getElem?_eq_getElem hi,e]
  have:=hS i (by have:=hP.le;omega);rw[Jy hp hc fun j hj aD hf=>by
   rcases Nat.lt_or_gt_of_ne aD with e1|e1
   .exact absurd (hP.lead i c j hq e1) hf
   .exact hz j e1,hP.one i c hq,FZ hp hm,Cr hp hm (Cc (Nat.pow_pos ac) _)]at this
  exact hx this
 .intro hn;by_cases aA:c∈piv
  .exact aA
  .exfalso;have aC:∀i:Nat,piv[i]?≠some c:=fun i hi=>aA (List.mem_of_getElem? hi);obtain⟨x,hx⟩:=Kv.ex hP aC piv.length (Nat.le_refl _);refine hn ⟨x,h0.sol hp hm hc aC hx,by rw[hx.c1,FZ hp hm];decide,fun j hj=>?_⟩;by_cases hj2:∃i,i<piv.length/\piv[i]?=some j
   .obtain⟨i,hi,aB⟩:=hj2;rw[hx.pv i j hi aB,hP.lead i j c aB hj,CM,U5 ac];rfl
   .exact hx.z j ac fun i hi aB=>hj2 ⟨i,hi,aB⟩
theorem RR.asc(h:RR p m N R a piv):piv.Pairwise (·< ·)/\∀q∈piv,q<N:=by
 obtain⟨c1,h1,hP,h3⟩:=h;refine⟨List.pairwise_iff_getElem.2 fun i j hi hj aA=>hP.asc i j _ _ aA (List.getElem?_eq_getElem hi) (List.getElem?_eq_getElem hj),fun q hq=>?_⟩;obtain⟨i,hi,e⟩:=List.getElem_of_mem hq;have:=hP.lt i q au;omega
theorem Zd(hp:2<=p)(hm:1<=m){R':Nat}{a':Nat->Nat->Int}{piv':List Nat}(h:RR p m N R a piv)(h':RR p m N R' a' piv')(hS:∀x,Cb p m ml N R a x↔Cb p m ml N R' a' x):
  piv=piv'/\∀i,i<piv.length->∀j,j<N->a i j=a' i j:=by
 have aF:piv=piv':=Ug h.asc.1 h'.asc.1 fun q=>by
  constructor
  .intro hq;have aA:=h.asc.2 q hq;refine(h'.piv_iff (ml:=ml) hp hm aA).2 ?_;rintro⟨x,h1,h2⟩;exact(h.piv_iff (ml:=ml) hp hm aA).1 hq ⟨x,(hS x).2 h1,h2⟩
  .intro hq;have aA:=h'.asc.2 q hq;refine(h.piv_iff (ml:=ml) hp hm aA).2 ?_;rintro⟨x,h1,h2⟩;exact(h'.piv_iff (ml:=ml) hp hm aA).1 hq ⟨x,(hS x).1 h1,h2⟩
 subst aF;refine⟨rfl,fun i hi j hj=>?_⟩;have hq:piv[i]?=some piv[i]:=List.getElem?_eq_getElem hi;obtain⟨q,aE⟩:=nA (piv[i]);rw[aE]at hq;have aA:=h.asc.2 q (List.mem_of_getElem? hq);have aH:=h';obtain⟨c1,h1,hP,h3⟩:=h;obtain⟨c1',h1',aB,h3'⟩:=h';by_cases hjp:∃k:Nat,piv[k]?=some j
 .obtain⟨k,hk⟩:=hjp;by_cases e:k=i
  .subst e;rw[hP.one k j hk,aB.one k j hk]
  .rw[hP.zer k j i hk (by have:=hP.le;omega) (fun e2=>e e2.symm),aB.zer k j i hk (by have:=aB.le;omega) (fun e2=>e e2.symm)]
 .have aC:∀k:Nat,piv[k]?≠some j:=fun k hk=>hjp ⟨k,hk⟩;obtain⟨x,hx⟩:=Kv.ex aB aC piv.length (Nat.le_refl _);have hs:=(hS x).2 (aH.sol hp hm hj aC hx) i (by have:=hP.le;omega);rw[hx.dt_piv hp hm hj hq aA (fun e=>aC i (by rw[<-e];exact hq)) (hP.one i q hq) fun k r hk aG=>hP.zer k r i hk (by have:=hP.le;omega) (fun e=>aG e.symm)]at hs;have aD:0<p^m:=Nat.pow_pos ac;exact ZK (hP.rng i (by have:=hP.le;omega) j hj) (aB.rng i (by have:=aB.le;omega) j hj) (OC ac (Cc aD _) (Cc aD _) hs)
def Cl(p m:Nat)(ml:List Int)(N R:Nat)(a:Nat->Nat->Int)(v:Nat->Int):Prop:=∀x,Cb p m ml N R a x->dt p m ml N v x=0
theorem Cl.sol_iff{R':Nat}{a':Nat->Nat->Int}:(∀i,i<R'->Cl p m ml N R a (a' i))↔∀x,Cb p m ml N R a x->Cb p m ml N R' a' x:=
 ⟨fun h x hx i hi=>h i hi x hx,fun h i hi x hx=>h x hx i hi⟩
structure VB(N:Nat)(a:Nat->Nat->Int)(pl:Nat->Nat)(n:Nat):Prop where
 lt:∀i,i<n->pl i<N
 one:∀i,i<n->a i (pl i)=1
 zer:∀i j,j<i->i<n->a i (pl j)=0
theorem VB.mono{pl:Nat->Nat}{n k:Nat}(h:VB N a pl n)(hk:k<=n):VB N a pl k:=⟨fun i hi=>h.lt i ac,fun i hi=>h.one i ac,fun i j hj hi=>h.zer i j hj ac⟩
theorem VB.solve(hp:2<=p)(hm:1<=m){pl:Nat->Nat}:∀n,VB N a pl n->∀y:Nat->Int,∃x,(∀j,(∀i,i<n->pl i≠j)->x j=y j)/\Cb p m ml N n a x
 | 0,_,y=>⟨y,fun _ _=>rfl,fun i hi=>by omega⟩
 | n+1,h,y=>by
  have hq0:0<p^m:=Nat.pow_pos ac;obtain⟨s,hs⟩:=nA (dt p m ml N (a n) (Ay y (pl n) 0));have hsl:s<p^m:=by rw[<-hs];exact QG hp _ _
  obtain⟨x,aA,aE⟩:=VB.solve hp hm n (h.mono ac) (Ay y (pl n) ((CI p m s:Nat):Int));refine⟨x,fun j hj=>?_,fun i hi=>?_⟩
  .rw[aA j fun i hi=>hj i ac,Ae _ _ (fun e=>hj n ac e.symm)]
  .by_cases e:i=n
   .subst e;have aB:(il N (a i)).length=N:=AJ _ _;have hg:∀j,j<N->(il N (a i)).getD j 0=a i j:=fun j hj=>by
     exact zde
    have aC:=h.lt i ac;have e1:Cd p m ml (il N (a i)) (il N x) 0=AH p m (Cd p m ml (il N (a i)) (il N (Ay y (pl i) 0)) 0) (Al p m (lw ml) (Av (p^m) ((il N (a i)).getD (pl i) 0)) (Av (p^m) (x (pl i)))):=
     Mb hp aB aC (Ab _ _ _) fun j hj aD hr=>by
      rw[hg j hj]at hr;rw[aA j fun k hk e=>hr (by rw[<-e];exact h.zer i k hk ac),Ae _ _ aD,Ae _ _ aD]
    have e3:x (pl i)=((CI p m s:Nat):Int):=by
     rw[aA (pl i) fun k hk e=>by
      have h1:=h.zer i k hk ac;rw[e,h.one i ac]at h1;exact absurd h1 ae,Ab]
    show Cd p m ml (il N (a i)) (il N x) 0=0
    rw[e1,hg _ aC,h.one i ac,e3,FZ hp hm,AA (Dg ac _),Cr hp hm (Dg ac _)];show AH p m (dt p m ml N (a i) (Ay y (pl i) 0)) _=0
    rw[hs,CR ac]
   .exact aE i ac
theorem VB.zero(hp:2<=p)(hm:1<=m){pl:Nat->Nat}{n:Nat}(h:VB N a pl n){r:Nat->Int}(hz:∀i,i<n->r (pl i)=0)(hc:Cl p m ml N n a r){k:Nat}(hk:k<N):Av (p^m) (r k)=0:=by
 by_cases hkp:∃i,i<n/\pl i=k
 .obtain⟨i,hi,rfl⟩:=hkp;rw[hz i hi,CM]
 .obtain⟨x,h1,h2⟩:=VB.solve (ml:=ml) hp hm n h (Ay (fun _=>0) k 1);have h3:=hc x h2;rw[Jy hp hk fun j hj aA hr=>by
   rw[h1 j fun i hi e=>hr (by rw[<-e];exact hz i hi),Ae _ _ aA],h1 k fun i hi e=>hkp ⟨i,hi,e⟩,Ab,FZ hp hm,Bz hp hm (Cc (Nat.pow_pos ac) _)]at h3
  exact h3
end
theorem LW{a b c:World}{row:Option Nat}(h:a.grownBy b row)(k:b.grownBy c row):a.grownBy c row:=
 ⟨k.os.trans h.os,k.tape.trans h.tape,k.output.trans h.output,Nat.le_trans h.size k.size,fun i hi aA=>(k.block i (Nat.lt_of_lt_of_le hi h.size) aA).trans (h.block i hi aA)⟩
theorem ZZ{a b:World}(row:Option Nat)(h:Ex a b):a.grownBy b row:=⟨h.os,h.tape,h.output,h.size,fun i hi _=>h.block i hi⟩
theorem Xn(w:World)(g j:Nat)(u:Value):w.grownBy (w.setCell (g,j) u) (some g):=by
 have h:Below g w (w.setCell (g,j) u):=Below.setCell (Below.refl g w) (Nat.le_refl _) u;refine⟨h.os,h.tape,h.output,h.size,fun k hk aA=>?_⟩;have aB:k≠g:=fun e=>aA cw;by_cases hlt:k<g
 .exact h.block k hlt
 .exact Below.heap_setCell w ⟨g,j,none⟩ u k aB
theorem za4{P:Prop}(h:P:=by
 rw[if_pos h,if_pos (by omega)]):P:=h
theorem WL{p m:Nat}{ml:List Int}{b x0:Nat}(w0 w:World)(hg:Bj w0 b p m ml x0)(hx:Ex w0 w)(N vb cap base:Nat)(f u:Nat->Int)(a:Int)(uv:Value)(hb:w0.heap.size<=base)(hv:Bd w base 3 vb N cap (iv f))(hu:Aj w uv (il N u))(aL:uv.ownBlock≠some vb)(hN:N<=1000):
  Calls Tryz.prog 254 #[.pointer (some (b,0)),.slice (some (vb,0)) N cap,a,uv] w fun r w'=>(∃t,r= .returned t)/\Bd w' base 3 vb N cap (iv (Cn p m ml f (Av (p^m) a) u))/\w.grownBy w' (some vb):=by
 obtain⟨ua,uc,rfl,u1,u2,u3⟩:=hu.open;rw[AJ]at u1 u3 ⊢;unfold maxLen at u2;obtain⟨c1,c2⟩:=hv.caps;unfold maxLen at c2;obtain⟨U3,aQ,HX,aI,HV,HO⟩:=To u3 aL hx hg hv (show Bd w base 3 vb N cap (iv fun j=>if j<0 then Cn p m ml f (Av (p^m) a) u j else f j) from hv.icongr fun j _=>ag);clear u3 hu aL hv hx hg;go_enter Tryz.func254,Tryz.ntmps254
 go_wp2_with fail
 go_loopw [12] (fun k' wr=>∃k:Nat,k<=N/\k'= .int .i64 k/\Hia (Bd wr base 3 vb N cap (iv fun j=>if j<k then Cn p m ml f (Av (p^m) a) u j else f j))/\Hia (w.grownBy wr (some vb))) (fun k' _=>N-(intOf k').toNat)
 case atStart=>exact⟨0,ac,rfl,HO,Aa (World.grownBy.refl _ _)⟩
 case round=>
  clear HO;obtain⟨k,hk,rfl,aA,aD⟩:=hrel;by_cases hkl:k<N
  .obtain⟨ub,uo,rfl,aK⟩:=U3.o ac;have aM:ub≠vb:=fun e=>aQ.o (by rw[e];rfl);have d1:=aD.o.cell (aK k (u k) (AQ hkl u)) (by intro e;injection e with e;exact aM e);have i1:(0:Int)<=(k:Int):=by omega
   have i2:(k:Int)<(N:Int):=ac;have aJ:=Aa (Ex.grown HX.o HV.o hb aD.o);clear aK aM;by_cases h0:u k=0
   .have aP:(u k !=0)=false:=by simp[h0]
    have aF:=Aa (show Bd wr base 3 vb N cap (iv fun j=>if j<k+1 then Cn p m ml f (Av (p^m) a) u j else f j) from aA.o.icongr fun j hj=>by
     by_cases e:j=k
     .subst e;rw[if_neg (show ¬j<j by omega),if_pos (show j<j+1 by omega)];unfold Cn;rw[if_pos h0]
     .by_cases h:j<k
      .rw[if_pos h,if_pos (show j<k+1 by omega)]
      .rw[if_neg h,if_neg (show ¬j<k+1 by omega)])
    clear aA h0;go_wp2_with fail
    go_roundw
    case rel=>exact⟨k+1,ac,by go_num,aF,aD⟩
    case measure=>simp[intOf];omega
   .have aP:(u k !=0)=true:=by simpa using h0
    have aO:wr.cell? (vb,k)=some (.int .i64 (f k)):=by
     rw[aA.o.cell hkl];show some (Value.int .i64 (if k<k then _ else f k))=_;rw[if_neg ac]
    have aN:=aA.o.frz k;obtain⟨K1,aG⟩:∃K,Al p m (lw ml) (Av (p^m) a) (Av (p^m) (u k))=K:=⟨_,rfl⟩;have aE:K1<p^m:=by rw[<-aG];exact Bc (by have:=aI.o.sh.p2;omega) _ _
    have aB:=Aa (fun w' (h:Ex w0 w')=>Fg w' (aI.o.ex h) a (u k));rw[aG]at aB;obtain⟨K2,aH⟩:∃K,AH p m (Av (p^m) (f k)) (Av (p^m) (K1:Nat))=K:=⟨_,rfl⟩;have aC:=Aa (fun w' (h:Ex w0 w')=>KB w' (aI.o.ex h) (f k) (K1:Nat));rw[aH]at aC;have aS:=Aa (show Cn p m ml f (Av (p^m) a) u k=(K2:Nat) from by
     unfold Cn;rw[if_neg h0,aG,<-aH,AA aE])
    clear aG aH aE h0;go_upto_region 4 with fail
    have E1:Ex wr wr.drew:=(Ex.refl wr).drew;have G0:Ex w0 wr.drew:=aJ.o.trans E1
    go_region_law
     ((first
            | (go_simp;go_at_call 106;(with_reducible refine(aB.o _ (aJ.o.drewN _)).mono ?_);rintro e wx1⟨rfl,n1,rfl⟩)
            | (go_simp;go_at_call 106;(with_reducible refine(aB.o _ G0).mono ?_);rintro e wx1⟨rfl,n1,rfl⟩)
            | (go_simp;go_at_call 163;(with_reducible refine(aC.o _ (aJ.o.drewN _)).mono ?_);rintro e wx2⟨rfl,n2,rfl⟩)))
    all_goals
     have aF:=Aa (fun n=>((aA.o.drewN n).set k (.int .i64 (K2:Nat))));have aR:=Aa (fun n=>LW aD.o (LW (ZZ (some vb) ((Ex.refl wr).drewN n)) (Xn (wr.drewN n) vb k (.int .i64 (K2:Nat)))));clear aA aD aB aC E1 G0 aO aN;go_wp2_with fail
     go_roundw
     case rel=>exact⟨k+1,ac,by go_num,Aa ((aF.o _).congr fun j hj=>by
      by_cases e:j=k
      .subst e;rw[Ab];show _=Value.int .i64 (if j<j+1 then Cn p m ml f (Av (p^m) a) u j else f j);rw[if_pos ac,aS.o]
      .rw[Ae _ _ e];show Value.int .i64 (if j<k then Cn p m ml f (Av (p^m) a) u j else f j)=Value.int .i64 (if j<k+1 then Cn p m ml f (Av (p^m) a) u j else f j)
       by_cases h:j<k
       .exact za4
       .rw[if_neg h,if_neg ac]),Aa (aR.o _)⟩
     case measure=>simp[intOf];omega
  .obtain rfl:N=k:=by omega
   have aF:=Aa (show Bd wr base 3 vb N cap (iv (Cn p m ml f (Av (p^m) a) u)) from aA.o.icongr fun j hj=>by rw[if_pos hj]);clear aA;go_wp2_with fail
   go_end0
   exact⟨⟨_,rfl⟩,aF.o,aD.o⟩
theorem NN{p m:Nat}{ml:List Int}{b x0:Nat}(w:World)(hg:Bj w b p m ml x0)(N:Nat)(u:Nat->Int)(a:Int)(uv:Value)(hu:Aj w uv (il N u))(hN:N<=1000):
  Calls Tryz.prog 252 #[.pointer (some (b,0)),a,uv] w fun r w'=>∃g,r= .returned (.slice (some ⟨g,0,none⟩) N N)/\AF w' w.heap.size 3 g N (iv (BT p m ml (Av (p^m) a) u))/\Ex w w':=by
 obtain⟨ua,uc,rfl,u1,u2,u3⟩:=hu.open;rw[AJ]at u1 u3 ⊢;unfold maxLen at u2;have U3:=Aa u3;have aM:=Aa hg;clear u3 hu hg;go_enter Tryz.func252,Tryz.ntmps252
 go_wp2_with (at_make;refine Ar _ rfl _ _ 22 rfl 3 (.int .i64 0) 8 Tryz.underlying22 Az rfl _ N rfl rfl rfl ac ai ?_)
 intro w3 aA aF;obtain⟨g,aC⟩:=nA w.heap.size;have aH:=Aa aC;rw[aC]at aA ⊢
 try simp only[aC]
 have HO:=Aa (show AF w3 g 3 g N (iv fun j=>if j<0 then BT p m ml (Av (p^m) a) u j else 0) from aA.icongr fun j _=>ag);have HX:=Aa aF;clear aA aF aC;go_wp2_with fail
 go_loopw [15] (fun k' wr=>∃k:Nat,k<=N/\k'= .int .i64 k/\Hia (AF wr g 3 g N (iv fun j=>if j<k then BT p m ml (Av (p^m) a) u j else 0))/\Hia (Ex w wr)) (fun k' _=>N-(intOf k').toNat)
 case atStart=>exact⟨0,ac,rfl,HO,HX⟩
 case round=>
  clear HO HX;obtain⟨k,hk,rfl,aA,hx⟩:=hrel;by_cases hkl:k<N
  .obtain⟨ub,uo,rfl,aG⟩:=U3.o ac;have d1:=hx.o.cell (aG k (u k) (AQ hkl u));have i1:(0:Int)<=(k:Int):=by omega
   have i2:(k:Int)<(N:Int):=ac;have aJ:=aA.o.cell hkl;have aI:=aA.o.frz k;obtain⟨K1,aD⟩:∃K,Al p m (lw ml) (Av (p^m) a) (Av (p^m) (u k))=K:=⟨_,rfl⟩;have aB:=Aa (Fg wr (aM.o.ex hx.o) a (u k));rw[aD]at aB;have aL:=Aa (show BT p m ml (Av (p^m) a) u k=(K1:Nat) from by unfold BT;rw[aD]);clear aD aG;go_wp2_with (go_at_call 106;refine aB.o.mono ?_;rintro e w4⟨rfl,n,rfl⟩)
   have aE:=Aa (fun n=>(aA.o.drewN n).set k (.int .i64 (K1:Nat)));have aK:=Aa (fun n=>(aA.o.drewN n).exSet (a:=w) (by have:=aH.o;omega) (hx.o.drewN n) k (.int .i64 (K1:Nat)));clear aA hx aB aJ aI d1;go_roundw
   case rel=>exact⟨k+1,ac,by go_num,Aa ((aE.o _).congr fun j hj=>by
    by_cases e:j=k
    .subst e;rw[Ab];show _=Value.int .i64 (if j<j+1 then BT p m ml (Av (p^m) a) u j else 0);rw[if_pos ac,aL.o]
    .rw[Ae _ _ e];show Value.int .i64 (if j<k then BT p m ml (Av (p^m) a) u j else 0)=Value.int .i64 (if j<k+1 then BT p m ml (Av (p^m) a) u j else 0)
     by_cases h:j<k
     .exact za4
     .rw[if_neg h,if_neg ac]),Aa (aK.o _)⟩
   case measure=>simp[intOf];omega
  .obtain rfl:N=k:=by omega
   have aE:=Aa (show AF wr g 3 g N (iv (BT p m ml (Av (p^m) a) u)) from aA.o.icongr fun j hj=>by rw[if_pos hj]);clear aA;go_wp2_with fail
   go_ret;exact⟨g,rfl,by rw[aH.o];exact aE.o,hx.o⟩
def Eo(blk cap:Nat->Nat)(N i:Nat):Value:= .slice (some (blk i,0)) N (cap i)
structure EM(w:World)(base g R N:Nat)(blk cap:Nat->Nat)(a:Nat->Nat->Int)(avs:List Nat):Prop where
 arr:AF w base 22 g R (Eo blk cap N)
 row:∀i,i<R->Bd w base 3 (blk i) N (cap i) (iv (a i))
 apart:∀i j,i<R->j<R->i≠j->blk i≠blk j
 off:∀i,i<R->blk i≠g
 av:∀B∈avs,B<w.heap.size/\g≠B/\∀i,i<R->blk i≠B
def Kp(w w':World)(avs:List Nat):Prop:=∀B∈avs,w'.heap[B]?=w.heap[B]?
theorem Kp.trans{a b c:World}{avs:List Nat}(h:Kp a b avs)(k:Kp b c avs):Kp a c avs:=fun B hB=>(k B hB).trans (h B hB)
theorem Kp.cell{w w':World}{avs:List Nat}(h:Kp w w' avs){B o:Nat}{v:Value}(hB:B∈avs)(hc:w.cell? (B,o)=some v):w'.cell? (B,o)=some v:=by
 rw[World.cell?_of_block (h B hB)];exact hc
section
variable {w:World} {base g R N:Nat} {blk cap:Nat->Nat} {a:Nat->Nat->Int} {avs:List Nat}
theorem EM.ex(h:EM w base g R N blk cap a avs){w':World}(hx:Ex w w'):EM w' base g R N blk cap a avs:=
 ⟨h.arr.ex hx,fun i hi=>(h.row i hi).ex hx,h.apart,h.off,fun B hB=>by obtain⟨h1,h2⟩:=h.av B hB;exact⟨Nat.lt_of_lt_of_le h1 hx.size,h2⟩⟩
theorem EM.kpx(h:EM w base g R N blk cap a avs){w':World}(hx:Ex w w'):Kp w w' avs:=fun B hB=>hx.block B (h.av B hB).1
theorem EM.less(h:EM w base g R N blk cap a avs){bvs:List Nat}(hs:∀B∈bvs,B∈avs):EM w base g R N blk cap a bvs:=⟨h.arr,h.row,h.apart,h.off,fun B hB=>h.av B (hs B hB)⟩
theorem EM.box(h:EM w base g R N blk cap a avs)(o:Obj):EM (w.alloc o) base g R N blk cap a (w.heap.size :: avs):=by
 have h1:=h.ex ((Ex.refl w).alloc o);refine⟨h1.arr,h1.row,h1.apart,h1.off,fun C hC=>?_⟩;rcases List.mem_cons.1 hC with rfl|hC
 .refine⟨ag,fun e=>?_,fun i hi e=>?_⟩
  .have:=h.arr.lt.2;omega
  .have:=(h.row i hi).lt.2;omega
 .exact h1.av C hC
theorem Dc(w:World)(x:Addr)(u:Value):(w.setCell x u).heap.size=w.heap.size:=ag
theorem EM.setBox(h:EM w base g R N blk cap a avs){B j:Nat}(hB:B∈avs)(u:Value):EM (w.setCell (B,j) u) base g R N blk cap a avs:=by
 obtain⟨_,h2,h3⟩:=h.av B hB;exact⟨h.arr.other h2 u,fun i hi=>(h.row i hi).other (h3 i hi) u,h.apart,h.off,fun C hC=>by rw[Dc];exact h.av C hC⟩
theorem EM.put(h:EM w base g R N blk cap a avs){s nb nc:Nat}{f:Nat->Int}(hs:s<R)(hn:Bd w base 3 nb N nc (iv f))(hb:∀i,i<R->i≠s->blk i≠nb)(hg:nb≠g)(ha:∀B∈avs,nb≠B):
  EM (w.setCell (g,s) (.slice (some (nb,0)) N nc)) base g R N (Ay blk s nb) (Ay cap s nc) (Ay a s f) avs:=by
 have hu:∀i,i≠s->Ay blk s nb i=blk i:=fun i hi=>Ae _ _ hi;refine⟨?_,fun i hi=>?_,fun i j hi hj aA=>?_,fun i hi=>?_,fun B hB=>?_⟩
 .refine(h.arr.set s _).congr fun i hi=>?_;unfold Eo;by_cases e:i=s
  .subst e;rw[Ab,Ab,Ab]
  .rw[Ae _ _ e,Ae _ _ e,Ae _ _ e]
 .by_cases e:i=s
  .subst e;rw[Ab,Ab,Ab];exact hn.other hg _
  .rw[Ae _ _ e,Ae _ _ e,Ae _ _ e];exact(h.row i hi).other (h.off i hi) _
 .by_cases e:i=s
  .subst e;rw[Ab,hu j (fun e=>aA e.symm)];exact fun e=>hb j hj (fun e=>aA e.symm) e.symm
  .by_cases e2:j=s
   .subst e2;rw[Ab,hu i e];exact hb i hi e
   .rw[hu i e,hu j e2];exact h.apart i j hi hj aA
 .by_cases e:i=s
  .subst e;rw[Ab];exact hg
  .rw[hu i e];exact h.off i hi
 .rw[Dc];obtain⟨h1,h2,h3⟩:=h.av B hB;refine⟨h1,h2,fun i hi=>?_⟩;by_cases e:i=s
  .subst e;rw[Ab];exact ha B hB
  .rw[hu i e];exact h3 i hi
theorem EM.rowAt(h:EM w base g R N blk cap a avs){w':World}{s:Nat}{f:Nat->Int}(hs:s<R)(hn:Bd w' base 3 (blk s) N (cap s) (iv f))(hg:w.grownBy w' (some (blk s))):EM w' base g R N blk cap (Ay a s f) avs/\Kp w w' avs:=by
 refine⟨⟨?_,fun i hi=>?_,h.apart,h.off,fun B hB=>?_⟩,fun B hB=>?_⟩
 .exact World.ownsRow.kept h.arr hg (.inr (by show some g≠some (blk s);intro e;injection e with e;exact h.off s hs e.symm))
 .by_cases e:i=s
  .subst e;rw[Ab];exact hn
  .rw[Ae _ _ e];exact World.ownsRow.kept (h.row i hi) hg (.inr (by show some (blk i)≠some (blk s);intro e2;injection e2 with e2;exact h.apart i s hi hs e e2))
 .obtain⟨h1,h2⟩:=h.av B hB;exact⟨Nat.lt_of_lt_of_le h1 hg.size,h2⟩
 .obtain⟨h1,h2,h3⟩:=h.av B hB;exact hg.block B h1 (by intro e;injection e with e;exact h3 s hs e.symm)
theorem EM.cell(h:EM w base g R N blk cap a avs){i:Nat}(hi:i<R):w.cell? (g,i)=some (.slice (some (blk i,0)) N (cap i)):=h.arr.cell hi
theorem EM.ent(h:EM w base g R N blk cap a avs){i j:Nat}(hi:i<R)(hj:j<N):w.cell? (blk i,j)=some (.int .i64 (a i j)):=(h.row i hi).cell hj
def Ut(b:Nat->Nat)(s k:Nat):Nat->Nat:=fun i=>if i=s then b k else if i=k then b s else b i
theorem EM.swp(h:EM w base g R N blk cap a avs){s k:Nat}(hs:s<R)(hk:k<R)(aB:s≠k):
  EM ((w.setCell (g,s) (Eo blk cap N k)).setCell (g,k) (Eo blk cap N s)) base g R N (Ut blk s k) (Ut cap s k) (DK a s k) avs:=by
 have aC:((w.setCell (g,s) (Eo blk cap N k)).setCell (g,k) (Eo blk cap N s)).heap.size=w.heap.size:=by rw[Dc,Dc]
 have aA:∀i,i<R->∃j,j<R/\Ut blk s k i=blk j/\Ut cap s k i=cap j/\DK a s k i=a j/\((i=s/\j=k)∨(i=k/\i≠s/\j=s)∨(i≠s/\i≠k/\j=i)):=fun i hi=>by
  unfold Ut DK;by_cases e:i=s
  .exact⟨k,hk,by rw[if_pos e],by rw[if_pos e],by rw[if_pos e],.inl ⟨e,rfl⟩⟩
  .by_cases e2:i=k
   .exact⟨s,hs,by rw[if_neg e,if_pos e2],by rw[if_neg e,if_pos e2],by rw[if_neg e,if_pos e2],.inr (.inl ⟨e2,e,rfl⟩)⟩
   .exact⟨i,hi,by rw[if_neg e,if_neg e2],by rw[if_neg e,if_neg e2],by rw[if_neg e,if_neg e2],.inr (.inr ⟨e,e2,rfl⟩)⟩
 refine⟨?_,fun i hi=>?_,fun i j hi hj hij=>?_,fun i hi=>?_,fun B hB=>?_⟩
 .refine((h.arr.set s (Eo blk cap N k)).set k (Eo blk cap N s)).congr fun i hi=>?_;unfold Eo Ut;by_cases e:i=k
  .subst e;rw[Ab,if_neg (fun e=>aB e.symm),if_pos rfl,if_neg (fun e=>aB e.symm),if_pos rfl]
  .rw[Ae _ _ e];by_cases e2:i=s
   .subst e2;rw[Ab,if_pos rfl,if_pos rfl]
   .rw[Ae _ _ e2,if_neg e2,if_neg e,if_neg e2,if_neg e]
 .obtain⟨j,hj,e1,e2,e3,_⟩:=aA i hi;rw[e1,e2,e3];exact((h.row j hj).other (h.off j hj) _).other (h.off j hj) _
 .obtain⟨i',aE,e1,_,_,c1⟩:=aA i hi;obtain⟨j',aD,e2,_,_,c2⟩:=aA j hj;rw[e1,e2];exact h.apart i' j' aE aD ac
 .obtain⟨j,hj,e1,_⟩:=aA i hi;rw[e1];exact h.off j hj
 .rw[aC];obtain⟨h1,h2,h3⟩:=h.av B hB;exact⟨h1,h2,fun i hi=>by obtain⟨j,hj,e1,_⟩:=aA i hi;rw[e1];exact h3 j hj⟩
theorem EM.kpg(h:EM w base g R N blk cap a avs)(s:Nat)(u:Value):Kp w (w.setCell (g,s) u) avs:=fun B hB=>by
 obtain⟨_,h2,_⟩:=h.av B hB;exact Below.heap_setCell w ⟨g,s,none⟩ u B (fun e=>h2 e.symm)
end
def Stp(w:World)(base g R N:Nat)(a':Nat->Nat->Int)(avs:List Nat)(r:Ending)(w':World):Prop:=
 (∃t,r= .returned t)/\(∃aB aA,EM w' base g R N aB aA a' avs)/\Kp w w' avs/\∀w0,Ex w0 w->w0.heap.size<=base->Ex w0 w'
theorem Xy(w:World){base g R N:Nat}{blk cap:Nat->Nat}{a:Nat->Nat->Int}{avs:List Nat}(h:EM w base g R N blk cap a avs)(Bk Ba:Nat)(s k:Nat)(hs:s<R)(hk:k<R)(aA:s≠k)(aB:Bk∈avs)(aC:Ba∈avs)
  (ck:w.cell? (Bk,0)=some (.int .i64 k)) (ca:w.cell? (Ba,0)=some (.int .i64 s)):
  Calls Tryz.prog 249 #[.slice (some (g,0)) R R,.pointer (some (Bk,0)),.pointer (some (Ba,0))] w (Stp w base g R N (DK a s k) avs):=by
 have c1:=h.cell hs;have c2:=h.cell hk;have f1:=h.arr.frz s;have f2:=h.arr.frz k;have i1:(0:Int)<=(s:Int):=ac;have i2:(s:Int)<(R:Int):=ac;have i3:(0:Int)<=(k:Int):=ac;have i4:(k:Int)<(R:Int):=ac;have n1:¬s=k:=aA;have n2:¬k=s:=fun e=>aA e.symm;have ck2:(w.setCell (g,s) (.slice (some (blk k,0)) N (cap k))).cell? (Bk,0)=some (.int .i64 k):=by rw[Ah (h.av Bk aB).2.1];exact ck
 have ca2:(w.setCell (g,s) (.slice (some (blk k,0)) N (cap k))).cell? (Ba,0)=some (.int .i64 s):=by rw[Ah (h.av Ba aC).2.1];exact ca
 have ck3:(w.setCell (g,k) (.slice (some (blk s,0)) N (cap s))).cell? (Bk,0)=some (.int .i64 k):=by rw[Ah (h.av Bk aB).2.1];exact ck
 have ca3:(w.setCell (g,k) (.slice (some (blk s,0)) N (cap s))).cell? (Ba,0)=some (.int .i64 s):=by rw[Ah (h.av Ba aC).2.1];exact ca
 have HE:=Aa (h.ex (Ex.refl w).drew);have HS:=Aa (HE.o.swp hs hk aA);have HM:=Aa (h.ex (Ex.refl w).drew |>.arr.set s (Eo blk cap N k));obtain⟨aE,aD,HB,HR⟩:=Eq (show Kp (w.drew.setCell (g,s) (Eo blk cap N k)) ((w.drew.setCell (g,s) (Eo blk cap N k)).setCell (g,k) (Eo blk cap N s)) avs from fun B hB=>Below.heap_setCell _ ⟨g,k,none⟩ _ B (fun e=>(h.av B hB).2.1 e.symm)) (show ∀w0,Ex w0 w->w0.heap.size<=base->Ex w0 ((w.drew.setCell (g,s) (Eo blk cap N k)).setCell (g,k) (Eo blk cap N s)) from fun w0 hx hb=>HM.o.exSet hb (HE.o.arr.exSet hb hx.drew s _) k _) h (show s<R/\k<R/\s≠k from⟨hs,hk,aA⟩);clear h hs hk aA;go_enter Tryz.func249,Tryz.ntmps249
 go_wp2_with fail
 go_region
 all_goals
  go_wp2_with fail
  go_end0
  refine⟨⟨_,rfl⟩,⟨_,_,HS.o⟩,?_,fun w0 hx hb=>?_⟩
  .exact((HB.o.kpx (Ex.refl w).drew).trans (HE.o.kpg s (Eo blk cap N k))).trans (aE.o)
  .exact(aD.o w0 hx hb)
theorem Xz{p m:Nat}{ml:List Int}{b x0:Nat}(w0 w:World)(hg:Bj w0 b p m ml x0)(aC:Ex w0 w){base g R N:Nat}{blk cap:Nat->Nat}{a:Nat->Nat->Int}{avs:List Nat}(h:EM w base g R N blk cap a avs)(hb:w0.heap.size<=base)(hN:N<=1000)(Bg Bi Ba:Nat)(s:Nat)(aB:Int)(hs:s<R)(hBg:Bg∈avs)(hBi:Bi∈avs)(hBa:Ba∈avs)
  (cg:w.cell? (Bg,0)=some (.pointer (some (b,0)))) (ci:w.cell? (Bi,0)=some (.int .i64 aB)) (ca:w.cell? (Ba,0)=some (.int .i64 s)):
  Calls Tryz.prog 251 #[.slice (some (g,0)) R R,.pointer (some (Bg,0)),.pointer (some (Bi,0)),.pointer (some (Ba,0))] w (Stp w base g R N (Ay a s (BT p m ml (Av (p^m) aB) (a s))) avs):=by
 have c1:=h.cell hs;have f1:=h.arr.frz s;have i1:(0:Int)<=(s:Int):=ac;have i2:(s:Int)<(R:Int):=ac;obtain⟨k1,k2⟩:=(h.row s hs).caps;unfold maxLen at k2;obtain⟨HB,HR,HX0,HBB,aL,aO,aN,aF⟩:=On h hs aC hb (fun w' (hx:Ex w w')=>NN w' (hg.ex (aC.trans hx)) N (a s) aB (.slice (some (blk s,0)) N (cap s)) (((h.row s hs).isl).ex hx) hN) ca f1 c1;clear h hs hg aC hb;go_enter Tryz.func251,Tryz.ntmps251
 go_wp2_with fail
 have E0:Ex w w.drew:=(Ex.refl w).drew
 go_region_law
  ((first
      | (go_simp;go_at_call 252;(with_reducible refine(aL.o _ E0).mono ?_);rintro e wx⟨gg,rfl,aA,hy⟩;have aD:=hy.cell (E0.cell aO.o);have aJ:=hy.cell (E0.cell aF.o);have aI:=hy.frz (E0.cell aF.o) (E0.frz aF.o aN.o))))
 all_goals
  have EX:=Aa (E0.trans hy);have aG:=Aa (HB.o.ex EX.o);have aH:=aA.lt.1;have aE:=Aa (aG.o.put HR.o (aA.mono (b':=base) (by have:=HB.o.arr.lt;have:=E0.size;omega):Bd wx base 3 gg N N _) (fun i hi _ e=>by have:=(HB.o.row i hi).lt.2;have:=E0.size;omega) (fun e=>by have:=HB.o.arr.lt.2;have:=E0.size;omega) (fun B hB e=>by have:=(HB.o.av B hB).1;have:=E0.size;omega));have aM:=Aa ((HB.o.kpx EX.o).trans (aG.o.kpg s (.slice (some (gg,0)) N N)));have aK:=Aa (show ∀w0,Ex w0 w->w0.heap.size<=base->Ex w0 (wx.setCell (g,s) (.slice (some (gg,0)) N N)) from fun w0 hx hb=>aG.o.arr.exSet hb (hx.trans EX.o) s _);clear aA hy aD aJ aI aH E0 ca c1 f1;go_wp2_with fail
  go_end0
  exact⟨⟨_,rfl⟩,⟨_,_,aE.o⟩,aM.o,aK.o⟩
theorem XE{p m:Nat}{ml:List Int}{b x0:Nat}(w0 w:World)(hg:Bj w0 b p m ml x0)(aG:Ex w0 w){base g R N:Nat}{blk cap:Nat->Nat}{a:Nat->Nat->Int}{avs:List Nat}(h:EM w base g R N blk cap a avs)(hb:w0.heap.size<=base)(hN:N<=1000)(Bg Bi Bx Ba:Nat)(s i:Nat)(x:Int)(hs:s<R)(hi:i<R)(aH:i≠s)(aS:Bg∈avs)(aR:Bi∈avs)(aQ:Bx∈avs)(aT:Ba∈avs)
  (cg:w.cell? (Bg,0)=some (.pointer (some (b,0)))) (ci:w.cell? (Bi,0)=some (.int .i64 i)) (cx:w.cell? (Bx,0)=some (.int .i64 x)) (ca:w.cell? (Ba,0)=some (.int .i64 s)):
  Calls Tryz.prog 253 #[.slice (some (g,0)) R R,.pointer (some (Bg,0)),.pointer (some (Bi,0)),.pointer (some (Bx,0)),.pointer (some (Ba,0))] w (Stp w base g R N (Ay a i (Cn p m ml (a i) (CI p m (Av (p^m) x)) (a s))) avs):=by
 have p2:=hg.sh.p2;have c1:=h.cell hs;have c2:=h.cell hi;have i1:(0:Int)<=(s:Int):=ac;have i2:(s:Int)<(R:Int):=ac;have i3:(0:Int)<=(i:Int):=ac;have i4:(i:Int)<(R:Int):=ac;obtain⟨HB,aV,HBB,HR⟩:=Eq h aG hb (show s<R/\i<R/\i≠s from⟨hs,hi,aH⟩);obtain⟨K1,aI⟩:∃K,CI p m (Av (p^m) x)=K:=⟨_,rfl⟩;have aB:=Aa (fun w' (h:Ex w0 w')=>Pa w' (hg.ex h) x);have aD:K1<p^m:=by rw[<-aI];exact Dg ac _
 rw[aI]at aB ⊢;have aE:=Aa (show ∀n,Calls Tryz.prog 254 #[.pointer (some (b,0)),.slice (some (blk i,0)) N (cap i),(K1:Nat),.slice (some (blk s,0)) N (cap s)] (w.drewN n) fun r w'=>(∃t,r= .returned t)/\Bd w' base 3 (blk i) N (cap i) (iv (Cn p m ml (a i) K1 (a s)))/\(w.drewN n).grownBy w' (some (blk i)) from fun n=>by
  have:=WL w0 (w.drewN n) hg (aG.drewN n) N (blk i) (cap i) base (a i) (a s) (K1:Nat) (.slice (some (blk s,0)) N (cap s)) hb ((h.row i hi).drewN n) (((h.row s hs).drewN n).isl) (by show some (blk s)≠some (blk i);intro e;injection e with e;exact h.apart s i hs hi (fun e=>aH e.symm) e) hN;rw[AA aD]at this;exact this)
 obtain⟨aL,aK,aJ,aM,aO,aN,aC⟩:=OK cg ci cx ca c1 c2 (show(∀B∈avs,some B≠some (blk i))/\some g≠some (blk i) from⟨fun B hB e=>by injection e with e;exact(h.av B hB).2.2 i hi e.symm,fun e=>by injection e with e;exact h.off i hi e.symm⟩);clear h hs hi aH hg aG hb aI aD p2;go_enter Tryz.func253,Tryz.ntmps253
 go_wp2_with fail
 have E0:Ex w w.drew:=(Ex.refl w).drew;have G0:Ex w0 w.drew:=aV.o.trans E0
 go_region_held3 (fun w'=>w'.cell? (Bg,0)=some (.pointer (some (b,0)))/\w'.cell? (Bi,0)=some (.int .i64 i)/\w'.cell? (Bx,0)=some (.int .i64 x)/\w'.cell? (Ba,0)=some (.int .i64 s)/\w'.cell? (g,i)=some (.slice (some (blk i,0)) N (cap i))/\w'.cell? (g,s)=some (.slice (some (blk s,0)) N (cap s)))
  (first|with_reducible exact⟨E0.cell aL.o,E0.cell aK.o,E0.cell aJ.o,E0.cell aM.o,E0.cell aN.o,E0.cell aO.o⟩|with_reducible exact⟨((Ex.refl w).drewN _).cell aL.o,((Ex.refl w).drewN _).cell aK.o,((Ex.refl w).drewN _).cell aJ.o,((Ex.refl w).drewN _).cell aM.o,((Ex.refl w).drewN _).cell aN.o,((Ex.refl w).drewN _).cell aO.o⟩|with_reducible exact⟨hgr.cell (((Ex.refl w).drewN _).cell aL.o) (aC.o.1 _ aS),hgr.cell (((Ex.refl w).drewN _).cell aK.o) (aC.o.1 _ aR),hgr.cell (((Ex.refl w).drewN _).cell aJ.o) (aC.o.1 _ aQ),hgr.cell (((Ex.refl w).drewN _).cell aM.o) (aC.o.1 _ aT),hgr.cell (((Ex.refl w).drewN _).cell aN.o) aC.o.2,hgr.cell (((Ex.refl w).drewN _).cell aO.o) aC.o.2⟩)
  ((first
      | (go_at_call 158;(with_reducible refine(aB.o _ G0).mono ?_);rintro e wx1⟨rfl,n1,rfl⟩)
      | (go_at_call 254;(with_reducible refine(aE.o _).mono ?_);rintro e wx2⟨⟨t,rfl⟩,hown,hgr⟩)))
 have aP:=Aa (fun n=>HB.o.ex ((Ex.refl w).drewN n));have aA:=Aa ((aP.o _).rowAt HR.o.2.1 hown hgr);have aW:=Aa ((HB.o.kpx ((Ex.refl w).drewN _)).trans aA.o.2);have aU:=Aa (show ∀aF,Ex aF w->aF.heap.size<=base->Ex aF wx2 from fun aF hx hb=>Ex.grown (hx.drewN _) ((aP.o _).row i HR.o.2.1) hb hgr);have aX:=Aa aA.o.1;clear hown hgr E0 G0 aA aE aB;go_wp2_with fail
 go_end0
 exact⟨⟨_,rfl⟩,⟨_,_,aX.o⟩,aW.o,aU.o⟩
theorem XF(w:World){base g R N:Nat}{blk cap:Nat->Nat}{a:Nat->Nat->Int}{avs:List Nat}(h:EM w base g R N blk cap a avs)(Br Bs Bk Ba:Nat)(s k:Nat)(hs:s<R)(hk:k<R)(aA:s≠k)(aC:Bs∈avs)(aD:Bk∈avs)(aE:Ba∈avs)
  (cr:w.cell? (Br,0)=some (.slice (some (g,0)) R R)) (cs:w.cell? (Bs,0)=some (.slice none 0 0)) (ck:w.cell? (Bk,0)=some (.int .i64 k)) (ca:w.cell? (Ba,0)=some (.int .i64 s)):
  Calls Tryz.prog 248 #[.func (.func 249) #[] #[.pointer (some (Bk,0)),.pointer (some (Ba,0))],.pointer (some (Br,0)),.pointer (some (Bs,0))] w (Stp w base g R N (DK a s k) avs):=by
 have HC:=Aa (Xy w h Bk Ba s k hs hk aA aD aE ck ca);have aH:=Aa aC;have aG:=Aa cs;clear h hs hk aA aC aD aE ck ca cs;go_enter Tryz.func248,Tryz.ntmps248
 go_wp2_with (go_at_call 249;refine HC.o.mono ?_;rintro e w2⟨⟨t,rfl⟩,BC,aB,aF⟩;have hcs:=aB.cell aH.o aG.o)
 go_end0
 exact⟨⟨_,rfl⟩,BC,aB,aF⟩
theorem XG{p m:Nat}{ml:List Int}{b x0:Nat}(w0 w:World)(hg:Bj w0 b p m ml x0)(aB:Ex w0 w){base g R N:Nat}{blk cap:Nat->Nat}{a:Nat->Nat->Int}{avs:List Nat}(h:EM w base g R N blk cap a avs)(hb:w0.heap.size<=base)(hN:N<=1000)(Br Bs Bg Bi Ba:Nat)(s:Nat)(aA:Int)(hs:s<R)(aD:Bs∈avs)(aF:Bg∈avs)(aE:Bi∈avs)(aG:Ba∈avs)
  (cr:w.cell? (Br,0)=some (.slice (some (g,0)) R R)) (cs:w.cell? (Bs,0)=some (.slice none 0 0)) (cg:w.cell? (Bg,0)=some (.pointer (some (b,0)))) (ci:w.cell? (Bi,0)=some (.int .i64 aA)) (ca:w.cell? (Ba,0)=some (.int .i64 s)):
  Calls Tryz.prog 248 #[.func (.func 251) #[] #[.pointer (some (Bg,0)),.pointer (some (Bi,0)),.pointer (some (Ba,0))],.pointer (some (Br,0)),.pointer (some (Bs,0))] w (Stp w base g R N (Ay a s (BT p m ml (Av (p^m) aA) (a s))) avs):=by
 have HC:=Aa (Xz w0 w hg aB h hb hN Bg Bi Ba s aA hs aF aE aG cg ci ca);have aJ:=Aa aD;have aI:=Aa cs;clear h hs aD aF aE aG cg ci ca cs hg aB hb;go_enter Tryz.func248,Tryz.ntmps248
 go_wp2_with (go_at_call 251;refine HC.o.mono ?_;rintro e w2⟨⟨t,rfl⟩,BC,aC,aH⟩;have hcs:=aC.cell aJ.o aI.o)
 go_end0
 exact⟨⟨_,rfl⟩,BC,aC,aH⟩
theorem XH{p m:Nat}{ml:List Int}{b x0:Nat}(w0 w:World)(hg:Bj w0 b p m ml x0)(aA:Ex w0 w){base g R N:Nat}{blk cap:Nat->Nat}{a:Nat->Nat->Int}{avs:List Nat}(h:EM w base g R N blk cap a avs)(hb:w0.heap.size<=base)(hN:N<=1000)(Br Bs Bg Bi Bx Ba:Nat)(s i:Nat)(x:Int)(hs:s<R)(hi:i<R)(aB:i≠s)(aE:Bs∈avs)(aG:Bg∈avs)(aF:Bi∈avs)(aD:Bx∈avs)(aH:Ba∈avs)
  (cr:w.cell? (Br,0)=some (.slice (some (g,0)) R R)) (cs:w.cell? (Bs,0)=some (.slice none 0 0)) (cg:w.cell? (Bg,0)=some (.pointer (some (b,0)))) (ci:w.cell? (Bi,0)=some (.int .i64 i)) (cx:w.cell? (Bx,0)=some (.int .i64 x)) (ca:w.cell? (Ba,0)=some (.int .i64 s)):
  Calls Tryz.prog 248 #[.func (.func 253) #[] #[.pointer (some (Bg,0)),.pointer (some (Bi,0)),.pointer (some (Bx,0)),.pointer (some (Ba,0))],.pointer (some (Br,0)),.pointer (some (Bs,0))] w (Stp w base g R N (Ay a i (Cn p m ml (a i) (CI p m (Av (p^m) x)) (a s))) avs):=by
 have HC:=Aa (XE w0 w hg aA h hb hN Bg Bi Bx Ba s i x hs hi aB aG aF aD aH cg ci cx ca);have aK:=Aa aE;have aJ:=Aa cs;clear h hs hi aB aE aG aF aD aH cg ci cx ca cs hg aA hb;go_enter Tryz.func248,Tryz.ntmps248
 go_wp2_with (go_at_call 253;refine HC.o.mono ?_;rintro e w2⟨⟨t,rfl⟩,BC,aC,aI⟩;have hcs:=aC.cell aK.o aJ.o)
 go_end0
 exact⟨⟨_,rfl⟩,BC,aC,aI⟩
end Go.Proofs.YtehieobniamagaaGreat
