/- Plain: the rows of a Code value are determined; the examples of chapter 31, computed. -/
import Derived.Test.YtehieobniamagaaGreatZs19
namespace Go.Proofs.YtehieobniamagaaGreat
open Go.RowKit
set_option linter.all false
set_option maxRecDepth 100000
set_option maxHeartbeats 8000000
theorem Ly{p m:Nat}{ml:List Int}{N R R2:Nat}{a b a1 a2:Nat->Nat->Int}{aA piv2:List Nat}(hp:2<=p)(hm:1<=m)(aB:∀x,BY p m ml N R a x↔BY p m ml N R2 b x)(h1:H7 p m ml N R a a1 aA)(h2:H7 p m ml N R2 b a2 piv2):Aw N aA.length a1=Aw N piv2.length a2/\aA=piv2:=by
 obtain⟨c1,x1,y1,z1,s1⟩:=h1;obtain⟨c2,x2,y2,z2,s2⟩:=h2;obtain⟨e1,e2⟩:=YJ (ml:=ml) hp hm ⟨c1,x1,y1,z1⟩ ⟨c2,x2,y2,z2⟩ fun x=>((s1 x).trans (aB x)).trans (s2 x).symm;subst e1;refine⟨List.map_congr_left fun i hi=>List.map_congr_left fun j hj=>e2 i (List.mem_range.1 hi) j (List.mem_range.1 hj),rfl⟩
theorem Lz{p m:Nat}{ml:List Int}{N R:Nat}{a:Nat->Nat->Int}{piv:List Nat}{c:Nat}(h:PV p m R N a piv c)(hc:c<=N)(hr:piv.length=R):H7 p m ml N R a a piv:=⟨c,hc,h,.inl hr,fun x=>Iff.rfl⟩
theorem BW{p m n:Int}{ml:List Int}{rows:List (List Int)}{e e':Int}(h:BI p m ml n rows e)(h':BI p m ml n rows e'):e=e':=by
 rcases h with⟨a,rfl⟩|⟨a,b,rfl⟩|⟨a,b,h⟩ <;> rcases h' with⟨a',rfl⟩|⟨a',b',rfl⟩|⟨a',b',h'⟩ <;> first|rfl|contradiction|skip
 rcases h with⟨c,rfl⟩|⟨c,pn,mn,N,piv,a1,rfl,rfl,rfl,hF,_,hE,rfl⟩ <;> rcases h' with⟨c',rfl⟩|⟨c',pn',mn',N',piv',a1',e1,e2,e3,hF',_,aB,rfl⟩ <;> first|rfl|contradiction|skip
 obtain rfl:pn'=pn:=ac;obtain rfl:mn'=mn:=ac;obtain rfl:N'=N:=ac;obtain⟨p1,m1,e1,e2,aA,_⟩:=hF;obtain rfl:p1=pn':=ac;obtain rfl:m1=mn':=ac;rw[(Ly aA.p2 aA.m1 (fun _=>Iff.rfl) hE aB).1]
theorem VX{p m N q:Nat}{r:List Int}(hq:q<N)(h0:∀j,j<N->0<=r.getD j 0/\r.getD j 0<((p^m:Nat):Int))(h1:r.getD q 0=1)(h2:∀k,k<q->r.getD k 0=0):PV p m 1 N (Ak [r]) [q] (q+1) where
 le:=ag
 rng:=fun i hi j hj=>by
  obtain rfl:i=0:=ac;exact h0 j hj
 lt:=fun j q' h=>by
  rcases j with _|j
  .simp at h;omega
  .simp at h
 one:=fun j q' h=>by
  rcases j with _|j
  .simp at h;subst h;exact h1
  .simp at h
 zer:=fun j q' i h hi hne=>by
  rcases j with _|j
  .omega
  .simp at h
 tail:=fun i j h hi _=>by simp at h;omega
 lead:=fun j q' k h hk=>by
  rcases j with _|j
  .simp at h;subst h;exact h2 k hk
  .simp at h
 asc:=fun i j q' r' hij h h'=>by
  rcases j with _|j
  .omega
  .simp at h'
theorem il_row{N:Nat}{r:List Int}(h:r.length=N):il N (Ak [r] 0)=r:=by
 subst h;refine List.ext_getElem? fun j=>?_;by_cases hj:j<r.length
 .rw[AQ hj,List.getElem?_eq_getElem hj];show some (r.getD j 0)=_
  rw[List.getD_eq_getElem?_getD,List.getElem?_eq_getElem hj];rfl
 .exact zaP
theorem QH{p m N q:Nat}{ml:List Int}{r:List Int}{e:Int}(hF:Ga p m ml)(hc:DI p m ml N [r]=0)(hl:ET N=0)(hk:B6 (p^m) N [r]=0)(hr:r.length=N)(hv:PV p m 1 N (Ak [r]) [q] (q+1))(hq:q<N)(h:BI p m ml N [r] e):e=0:=by
 have aA:Ce p m ml=0:=by
  apply Classical.byContradiction;intro h;unfold DI at hc;rw[if_pos h]at hc;cases hc
 refine BW h (.inr (.inr ⟨aA,hl,.inr ⟨hc,p,m,N, [q],Ak [r],rfl,rfl,rfl,hF,hk,Lz hv ac rfl,?_⟩⟩));rw[if_pos];show [il N (Ak [r] 0)]= [r]
 rw[il_row hr]
def eC:AT:=⟨2,1, [],3, [[1,1,0]]⟩
theorem e21:Ga 2 1 []:=⟨2,1,rfl,rfl,⟨ac,ac,ac,ae,rfl,by intro x hx;cases hx⟩,ae,(G7 (p:=2) (m:=1) (ml:= []) ⟨ac,ac,ac,ae,rfl,by intro x hx;cases hx⟩ ae).2 (.inl rfl)⟩
theorem Xs:PV 2 1 1 3 (Ak [[1,1,0]]) [0] 1:=VX ac ae rfl ae
theorem OI{e:Int}(h:BI 2 1 [] 3 [[1,1,0]] e):e=0:=QH (p:=2) (m:=1) (N:=3) e21 ak ak ak rfl Xs ac h
theorem RL{mb:List Nat}{w w1:World}{base:Nat}{e:TypeId}{size:Nat}{v v':Value}{n:Nat}{xs news:List Value}(ha:Bv w w1 base e size v v' n xs news)(hv:∀B,v.ownBlock=some B->B∈mb){cb j:Nat}{u:Value}(hc:cb∈mb):
  Mx mb (v'.ownBlock.toList++mb) w (w1.setCell (cb,j) u):=by
 obtain⟨o,hg⟩:=ha.gr;have hgs:=ha.grow;have aA:(w1.setCell (cb,j) u).heap.size=w1.heap.size:=b8;refine⟨hg.os.trans rfl,hg.tape.trans rfl,hg.output.trans rfl,by rw[aA];omega,fun i hi hn=>?_,fun B hB=>?_⟩
 .rw[Below.heap_setCell _ _ _ _ (fun e=>hn (by have e:i=cb:=e;rw[e];exact hc))];rw[hg.block i aq (fun e=>hn (hv i e.symm))];exact((Ex.refl w).alloc o).block i hi
 .rcases List.mem_append.1 hB with h1|h1
  .have h1:v'.ownBlock=some B:=by simpa using h1
   rcases ha.at_ with h2|h2
   .rw[h2]at h1;exact .inl (hv B h1)
   .rw[h2]at h1;injection h1 with h1;exact .inr ac
  .exact .inl h1
theorem FZ(w:World)(a b:Addr)(u:Value):(w.setCell a u).frozen? b=w.frozen? b:=ag
structure Mz(w0 wr:World)(q n b ob lb:Nat)(lv:Value)(L:List Lv)(os:List (Value × Value))(ov:Value)(orb:List Int)(rv:Value)(reps:List (List Int))(vals:List Value)(mb:List Nat):Prop where
 oc0:wr.cell? (ob,0)=some (.int .i64 n)
 oc1:wr.cell? (ob,1)=some lv
 of1:wr.frozen? (ob,1)=false
 lc0:wr.cell? (lb,0)=some (.int .i64 b)
 lc1:wr.cell? (lb,1)=some ov
 lc2:wr.cell? (lb,2)=some rv
 lf1:wr.frozen? (lb,1)=false
 lf2:wr.frozen? (lb,2)=false
 ne:ob≠lb
 ch:X8 wr w0.heap.size q mb lv L os
 ovo:wr.ownsRow w0.heap.size 3 1 ov orb.length (Ao orb)
 rvo:wr.ownsRow w0.heap.size 22 1 rv reps.length vals
 rows:∀(i:Nat) (r:List Int) (u:Value),reps[i]?=some r->vals[i]?=some u->SI wr (q :: mb) u r
 a1:AR ov lv
 a2:AR rv lv
 a3:AR ov rv
 nov:∀B,ov.ownBlock=some B->B≠ob/\B≠lb/\B∈mb
 nrv:∀B,rv.ownBlock=some B->B≠ob/\B≠lb/\B∈mb
 nlv:∀B,lv.ownBlock=some B->B≠ob/\B≠lb/\B∈mb
 om:ob∈mb
 ql:q<w0.heap.size
 lm:lb∈mb
 lo:∀B∈mb,w0.heap.size<=B/\B<wr.heap.size
 ex:Ex w0 wr
section
variable {w0 wr:World} {q n b ob lb:Nat} {lv:Value} {L:List Lv} {os:List (Value × Value)} {ov:Value} {orb:List Int} {rv:Value} {reps:List (List Int)} {vals:List Value} {mb:List Nat}
theorem Mz.later(h:Mz w0 wr q n b ob lb lv L os ov orb rv reps vals mb){w':World}(hx:Ex wr w'):Mz w0 w' q n b ob lb lv L os ov orb rv reps vals mb:=
 ⟨hx.cell h.oc0,hx.cell h.oc1,hx.frz h.oc1 h.of1,hx.cell h.lc0,hx.cell h.lc1,hx.cell h.lc2,hx.frz h.lc1 h.lf1,hx.frz h.lc2 h.lf2,h.ne,h.ch.ex hx,Aj h.ovo hx,Aj h.rvo hx,fun i r u a c=>(h.rows i r u a c).mx (Mx.ofEx hx (q :: mb)),h.a1,h.a2,h.a3,h.nov,h.nrv,h.nlv,h.om,h.ql,h.lm,fun B hB=>⟨(h.lo B hB).1,Nat.lt_of_lt_of_le (h.lo B hB).2 hx.size⟩,h.ex.trans hx⟩
theorem zb9{P:Prop}(h:P:=by
 rw[World.cell?_setCell_other _ _ _ _ (by intro e;injection e with e;exact h.ne e.symm)];exact k):P:=h
theorem zcd{P:Prop}(h:P:=by
 rcases List.mem_append.1 hB with h1|h1
 .exact ha.own.lt B (by simpa using h1)
 .exact za3):P:=h
theorem Mz.appOrb(h:Mz w0 wr q n b ob lb lv L os ov orb rv reps vals mb){w1:World}{ov':Value}{x:Int}(ha:Bv wr w1 w0.heap.size 3 1 ov ov' orb.length (Ao orb) [.int .i64 x]):
  ∃aH,Mz w0 (w1.setCell (lb,1) ov') q n b ob lb lv L os ov' (orb ++ [x]) rv reps vals aH/\Mx mb aH wr (w1.setCell (lb,1) ov'):=by
 have aF:=RL (j:=1) (u:=ov') ha (fun B e=>(h.nov B e).2.2) h.lm;have aK:(w1.setCell (lb,1) ov').heap.size=w1.heap.size:=b8;have hgs:=ha.grow;have aB:some ob≠ov.ownBlock:=fun e=>(h.nov ob e.symm).1 rfl;have aA:some lb≠ov.ownBlock:=fun e=>(h.nov lb e.symm).2.1 rfl;have obl:=(h.lo ob h.om).2;have lbl:=(h.lo lb h.lm).2;have aG:∀B,ov'.ownBlock=some B->B≠ob/\B≠lb:=fun B e=>by
  rcases ha.at_ with h1|h1
  .rw[h1]at e;exact⟨(h.nov B e).1,(h.nov B e).2.1⟩
  .rw[h1]at e;injection e with e;omega
 have aC:∀ {j:Nat} {v:Value},w1.cell? (ob,j)=some v->(w1.setCell (lb,1) ov').cell? (ob,j)=some v:=fun k=>by
  exact zb9
 have aD:∀ {j:Nat} {v:Value},1≠j->w1.cell? (lb,j)=some v->(w1.setCell (lb,1) ov').cell? (lb,j)=some v:=fun hj k=>by
  rw[Ag hj];exact k
 have aE:∀ {e:TypeId} {size:Nat} {v:Value} {m:Nat} {xs:List Value},wr.ownsRow w0.heap.size e size v m xs->AR v ov->(∀B,v.ownBlock=some B->B≠lb)->(w1.setCell (lb,1) ov').ownsRow w0.heap.size e size v m xs/\AR v ov':=fun k hk hb=>
  ⟨Ac (ha.row k hk).1 (fun e=>hb _ e rfl) _,(ha.row k hk).2⟩
 have aJ:=aE h.ch.own h.a1.symm (fun B e=>(h.nlv B e).2.1);have aI:=aE h.rvo h.a3.symm (fun B e=>(h.nrv B e).2.1);refine⟨ov'.ownBlock.toList++mb,⟨aC (ha.cell h.oc0 aB),aC (ha.cell h.oc1 aB),by rw[FZ];exact ha.frz h.oc1 h.of1 aB,aD ae (ha.cell h.lc0 aA),?_,aD ae (ha.cell h.lc2 aA),by rw[FZ];exact ha.frz h.lc1 h.lf1 aA,by rw[FZ];exact ha.frz h.lc2 h.lf2 aA,h.ne,h.ch.mx aF aJ.1 (fun B e=>List.mem_append_right _ (h.nlv B e).2.2),?_,aI.1,fun i r u a c=>(h.rows i r u a c).mx (aF.cons q),aJ.2.symm,h.a2,aI.2.symm,fun B e=>⟨(aG B e).1,(aG B e).2,List.mem_append_left _ (by rw[e];simp)⟩,fun B e=>⟨(h.nrv B e).1,(h.nrv B e).2.1,List.mem_append_right _ (h.nrv B e).2.2⟩,fun B e=>⟨(h.nlv B e).1,(h.nlv B e).2.1,List.mem_append_right _ (h.nlv B e).2.2⟩,List.mem_append_right _ h.om,h.ql,List.mem_append_right _ h.lm,fun B hB=>?_,aF.ex h.ex (fun B hB=>(h.lo B hB).1)⟩,aF⟩
 .exact World.cell?_setCell_same _ _ _ (ha.cell h.lc1 aA)
 .have:=ha.own;rw[List.length_append];exact Ac (by simpa[Ao]using this) (fun e=>(aG _ e).2 rfl) _
 .rw[aK];exact zcd
theorem zc8{P:Prop}(h:P:=by
 have:=(List.getElem?_eq_some_iff.1 a).1;simp at this;omega):P:=h
theorem Mz.appRep(h:Mz w0 wr q n b ob lb lv L os ov orb rv reps vals mb){w1:World}{rv' z:Value}{r:List Int}(hz:SI wr (q :: mb) z r)(ha:Bv wr w1 w0.heap.size 22 1 rv rv' reps.length vals [z]):
  ∃aH,Mz w0 (w1.setCell (lb,2) rv') q n b ob lb lv L os ov orb rv' (reps ++ [r]) (vals ++ [z]) aH/\Mx mb aH wr (w1.setCell (lb,2) rv'):=by
 have aF:=RL (j:=2) (u:=rv') ha (fun B e=>(h.nrv B e).2.2) h.lm;have aM:(w1.setCell (lb,2) rv').heap.size=w1.heap.size:=b8;have hgs:=ha.grow;have aB:some ob≠rv.ownBlock:=fun e=>(h.nrv ob e.symm).1 rfl;have aA:some lb≠rv.ownBlock:=fun e=>(h.nrv lb e.symm).2.1 rfl;have obl:=(h.lo ob h.om).2;have lbl:=(h.lo lb h.lm).2;have aG:∀B,rv'.ownBlock=some B->B≠ob/\B≠lb:=fun B e=>by
  rcases ha.at_ with h1|h1
  .rw[h1]at e;exact⟨(h.nrv B e).1,(h.nrv B e).2.1⟩
  .rw[h1]at e;injection e with e;omega
 have aC:∀ {j:Nat} {v:Value},w1.cell? (ob,j)=some v->(w1.setCell (lb,2) rv').cell? (ob,j)=some v:=fun k=>by
  exact zb9
 have aD:∀ {j:Nat} {v:Value},2≠j->w1.cell? (lb,j)=some v->(w1.setCell (lb,2) rv').cell? (lb,j)=some v:=fun hj k=>by
  rw[Ag hj];exact k
 have aE:∀ {e:TypeId} {size:Nat} {v:Value} {m:Nat} {xs:List Value},wr.ownsRow w0.heap.size e size v m xs->AR v rv->(∀B,v.ownBlock=some B->B≠lb)->(w1.setCell (lb,2) rv').ownsRow w0.heap.size e size v m xs/\AR v rv':=fun k hk hb=>
  ⟨Ac (ha.row k hk).1 (fun e=>hb _ e rfl) _,(ha.row k hk).2⟩
 have aK:=aE h.ch.own h.a2.symm (fun B e=>(h.nlv B e).2.1);have aI:=aE h.ovo h.a3 (fun B e=>(h.nov B e).2.1);have aL:vals.length=reps.length:=by have:=h.rvo.1;omega
 refine⟨rv'.ownBlock.toList++mb,⟨aC (ha.cell h.oc0 aB),aC (ha.cell h.oc1 aB),by rw[FZ];exact ha.frz h.oc1 h.of1 aB,aD ae (ha.cell h.lc0 aA),aD ae (ha.cell h.lc1 aA),?_,by rw[FZ];exact ha.frz h.lc1 h.lf1 aA,by rw[FZ];exact ha.frz h.lc2 h.lf2 aA,h.ne,h.ch.mx aF aK.1 (fun B e=>List.mem_append_right _ (h.nlv B e).2.2),aI.1,?_,fun i r' u a c=>?_,h.a1,aK.2.symm,aI.2,fun B e=>⟨(h.nov B e).1,(h.nov B e).2.1,List.mem_append_right _ (h.nov B e).2.2⟩,fun B e=>⟨(aG B e).1,(aG B e).2,List.mem_append_left _ (by rw[e];simp)⟩,fun B e=>⟨(h.nlv B e).1,(h.nlv B e).2.1,List.mem_append_right _ (h.nlv B e).2.2⟩,List.mem_append_right _ h.om,h.ql,List.mem_append_right _ h.lm,fun B hB=>?_,aF.ex h.ex (fun B hB=>(h.lo B hB).1)⟩,aF⟩
 .exact World.cell?_setCell_same _ _ _ (ha.cell h.lc2 aA)
 .have:=ha.own;rw[List.length_append];exact Ac this (fun e=>(aG _ e).2 rfl) _
 .by_cases hi:i<reps.length
  .rw[List.getElem?_append_left hi]at a;rw[List.getElem?_append_left ac]at c;exact(h.rows i r' u a c).mx (aF.cons q)
  .rw[List.getElem?_append_right ac]at a;rw[List.getElem?_append_right ac]at c;have aJ:i-reps.length=0:=by
    exact zc8
   rw[aJ]at a;rw[aL,aJ]at c;simp at a c;subst a c;exact hz.mx (aF.cons q)
 .rw[aM];exact zcd
end
structure ChS(w0 wr:World)(q n ob:Nat)(lv:Value)(L:List Lv)(os:List (Value × Value))(mb:List Nat):Prop where
 oc0:wr.cell? (ob,0)=some (.int .i64 n)
 oc1:wr.cell? (ob,1)=some lv
 of1:wr.frozen? (ob,1)=false
 ch:X8 wr w0.heap.size q mb lv L os
 nlv:∀B,lv.ownBlock=some B->B≠ob
 om:ob∈mb
 ql:q<w0.heap.size
 lo:∀B∈mb,w0.heap.size<=B/\B<wr.heap.size
 ex:Ex w0 wr
theorem ChS.begin_{w0 wr:World}{q n b ob:Nat}{lv:Value}{L:List Lv}{os:List (Value × Value)}{mb:List Nat}(h:ChS w0 wr q n ob lv L os mb):
  Mz w0 (wr.alloc (.cells #[b,.slice none 0 0,.slice none 0 0] 90)) q n b ob wr.heap.size lv L os (.slice none 0 0) [] (.slice none 0 0) [] [] (wr.heap.size :: mb)/\Mx mb (wr.heap.size :: mb) wr (wr.alloc (.cells #[b,.slice none 0 0,.slice none 0 0] 90)):=by
 have hx:Ex wr (wr.alloc (.cells #[b,.slice none 0 0,.slice none 0 0] 90)):=(Ex.refl _).alloc _;have aB:(wr.alloc (.cells #[b,.slice none 0 0,.slice none 0 0] 90)).heap.size=wr.heap.size+1:=ag;have aA:Mx mb (wr.heap.size :: mb) wr (wr.alloc (.cells #[b,.slice none 0 0,.slice none 0 0] 90)):=by
  refine⟨hx.os,hx.tape,hx.output,hx.size,fun i hi _=>hx.block i hi,fun B hB=>?_⟩;rcases List.mem_cons.1 hB with e|e
  .exact .inr ac
  .exact .inl e
 have hob:=(h.lo ob h.om).2;refine⟨⟨hx.cell h.oc0,hx.cell h.oc1,hx.frz h.oc1 h.of1,ag,ag,ag,ag,ag,ac,h.ch.mx aA (Aj h.ch.own hx) (fun B e=>List.mem_cons_of_mem _ (h.ch.blk B e)),World.ownsRow_nil _ _ _ _,World.ownsRow_nil _ _ _ _,fun i r u a=>by simp at a,AR.nil _,AR.nil _,AR.nil _,fun B e=>(by cases e),fun B e=>(by cases e),fun B e=>⟨h.nlv B e,by have:=(h.lo B (h.ch.blk B e)).2;omega,List.mem_cons_of_mem _ (h.ch.blk B e)⟩,List.mem_cons_of_mem _ h.om,h.ql,List.mem_cons_self ..,fun B hB=>?_,h.ex.trans hx⟩,aA⟩;rw[aB];rcases List.mem_cons.1 hB with e|e
 .subst e;have:=h.ex.size;omega
 .have:=h.lo B e;omega
theorem Mz.drop{w0 wr:World}{q n b ob lb:Nat}{lv:Value}{L:List Lv}{os:List (Value × Value)}{ov:Value}{orb:List Int}{rv:Value}{reps:List (List Int)}{vals:List Value}{mb:List Nat}(h:Mz w0 wr q n b ob lb lv L os ov orb rv reps vals mb):ChS w0 wr q n ob lv L os mb:=
 ⟨h.oc0,h.oc1,h.of1,h.ch,fun B e=>(h.nlv B e).1,h.om,h.ql,h.lo,h.ex⟩
theorem Mz.keep{w0 wr:World}{q n b ob lb:Nat}{lv:Value}{L:List Lv}{os:List (Value × Value)}{ov:Value}{orb:List Int}{rv:Value}{reps:List (List Int)}{vals:List Value}{mb:List Nat}(h:Mz w0 wr q n b ob lb lv L os ov orb rv reps vals mb){w1:World}{aA:Value}
  (ha:Bv wr w1 w0.heap.size 90 3 lv aA L.length (RQ L os) [.int .i64 b,ov,rv]):
  ∃mb',ChS w0 (w1.setCell (ob,1) aA) q n ob aA (L ++ [⟨b,orb,reps⟩]) (os ++ [(ov,rv)]) mb':=by
 have aB:Mx mb (ob :: lv.ownBlock.toList) wr wr:=⟨rfl,rfl,rfl,Nat.le_refl _,fun _ _ _=>rfl,fun B hB=>by
  rcases List.mem_cons.1 hB with e|e
  .subst e;exact .inl h.om
  .exact .inl (h.nlv B (by simpa using e)).2.2⟩
 have aF:=RL (mb:=ob :: lv.ownBlock.toList) (j:=1) (u:=aA) (cb:=ob) ha (fun B e=>List.mem_cons_of_mem _ (by rw[e];simp)) (List.mem_cons_self ..);have aI:(w1.setCell (ob,1) aA).heap.size=w1.heap.size:=by simp[World.setCell]
 have hgs:=ha.grow;have aC:some ob≠lv.ownBlock:=fun e=>(h.nlv ob e.symm).1 rfl;have obl:=(h.lo ob h.om).2;have aH:∀B,aA.ownBlock=some B->B≠ob:=fun B e=>by
  rcases ha.at_ with h1|h1
  .rw[h1]at e;exact(h.nlv B e).1
  .rw[h1]at e;injection e with e;omega
 have aE:∀B,ov.ownBlock=some B->B ∉ ob :: lv.ownBlock.toList:=fun B e hm=>by
  rcases List.mem_cons.1 hm with e2|e2
  .exact(h.nov B e).1 e2
  .have e2:lv.ownBlock=some B:=by simpa using e2
   rcases h.a1 with k|k
   .rw[k]at e;cases e
   .exact k (by rw[e,e2])
 have aD:∀B,rv.ownBlock=some B->B ∉ ob :: lv.ownBlock.toList:=fun B e hm=>by
  rcases List.mem_cons.1 hm with e2|e2
  .exact(h.nrv B e).1 e2
  .have e2:lv.ownBlock=some B:=by simpa using e2
   rcases h.a2 with k|k
   .rw[k]at e;cases e
   .exact k (by rw[e,e2])
 have aK:SI wr (q :: ob :: lv.ownBlock.toList) ov orb:=⟨Sl.own h.ovo,fun _ B e=>⟨fun hm=>by
  rcases List.mem_cons.1 hm with e2|e2
  .have:=(h.ovo.lt B e).1;have:=h.ql;omega
  .exact aE B e e2,(h.ovo.lt B e).2⟩⟩
 have aJ:SM wr (q :: ob :: lv.ownBlock.toList) rv reps vals:=⟨Sl.own h.rvo,fun _ B e=>⟨fun hm=>by
  rcases List.mem_cons.1 hm with e2|e2
  .have:=(h.rvo.lt B e).1;have:=h.ql;omega
  .exact aD B e e2,(h.rvo.lt B e).2⟩,fun i r u a c=>(h.rows i r u a c).mx (aB.cons q)⟩
 refine⟨aA.ownBlock.toList++(ob :: lv.ownBlock.toList),?_,?_,by rw[FZ];exact ha.frz h.oc1 h.of1 aC,⟨?_,by simp[h.ch.len],fun i l o a c=>?_,fun B e=>List.mem_append_left _ (by rw[e];simp)⟩,aH,List.mem_append_right _ (List.mem_cons_self ..),h.ql,fun B hB=>?_,aF.ex h.ex (fun B hB=>?_)⟩
 .rw[Ag ae];exact ha.cell h.oc0 aC
 .exact World.cell?_setCell_same _ _ _ (ha.cell h.oc1 aC)
 .rw[Tc L os ⟨b,orb,reps⟩ (ov,rv) h.ch.len,List.length_append];exact Ac ha.own (fun e=>aH _ e rfl) _
 .by_cases hi:i<L.length
  .rw[List.getElem?_append_left hi]at a;rw[List.getElem?_append_left (by have:=h.ch.len;omega)]at c;obtain⟨k1,v2,k2⟩:=h.ch.lev i l o a c;exact⟨(k1.mx (aB.cons q)).mx (aF.cons q),v2,(k2.mx (aB.cons q)).mx (aF.cons q)⟩
  .rw[List.getElem?_append_right ac]at a;rw[List.getElem?_append_right (by have:=h.ch.len;omega)]at c;have aG:i-L.length=0:=by
    exact zc8
   rw[aG]at a;rw[h.ch.len,aG]at c;simp at a c;subst a c;exact⟨aK.mx (aF.cons q),vals,aJ.mx (aF.cons q)⟩
 .rw[aI];rcases List.mem_append.1 hB with h1|h1
  .exact ha.own.lt B br
  .rcases List.mem_cons.1 h1 with e|e
   .subst e;exact⟨(h.lo B h.om).1,ac⟩
   .have:=h.lo B (h.nlv B (by simpa using e)).2.2;exact⟨this.1,ac⟩
 .rcases List.mem_cons.1 hB with e|e
  .subst e;exact(h.lo B h.om).1
  .exact(h.lo B (h.nlv B (by simpa using e)).2.2).1
theorem ChS.o{w0 wr:World}{q n ob:Nat}{lv:Value}{L:List Lv}{os:List (Value × Value)}{mb:List Nat}(h:ChS w0 wr q n ob lv L os mb)(u v:Value):DX ((wr.setCell (q,0) u).setCell (q,1) v) lv L:=by
 have aA:lv.ownBlock≠some q:=fun e=>by
  have:=(h.lo q (h.ch.blk q e)).1;have:=h.ql;omega
 have hM:Mx (q :: mb) (q :: mb) wr ((wr.setCell (q,0) u).setCell (q,1) v):=by
  refine⟨rfl,rfl,rfl,by simp[World.setCell],fun i hi hn=>?_,fun B hB=> .inl hB⟩;have aB:i≠q:=fun e=>hn (by rw[e];exact List.mem_cons_self ..);rw[Below.heap_setCell _ _ _ _ aB,Below.heap_setCell _ _ _ _ aB]
 refine⟨os,h.ch.len,Sl.own (Ac (Ac h.ch.own aA u) aA v),fun i l o a c=>?_⟩;obtain⟨k1,vals,k2⟩:=h.ch.lev i l o a c;exact⟨(k1.mx hM).sl,(k2.mx hM).msl⟩
open Classical in
noncomputable def Bp (S:List (Nat->Nat)) (b m:Nat):List Nat:=(List.range m).filter fun x=>decide (∃f,Gn S f/\A5 b f/\f b=x)
open Classical in
theorem M6 (S:List (Nat->Nat)) (b m:Nat):((∃f,Gn S f/\A5 b f/\f b=m)->Bp S b (m+1)=Bp S b m ++ [m])/\(¬(∃f,Gn S f/\A5 b f/\f b=m)->Bp S b (m+1)=Bp S b m):=by
 unfold Bp;rw[List.range_succ,List.filter_append];constructor
 .intro h;simp[List.filter,h]
 .intro h;have h2:decide (∃f,Gn S f/\A5 b f/\f b=m)=false:=decide_eq_false h;simp only[List.filter,h2,List.append_nil]
theorem Fu(S:List (Nat->Nat))(b m:Nat):(Bp S b m).length<=m:=by
 unfold Bp;exact Nat.le_trans (List.length_filter_le _ _) ag
noncomputable def Eb(n:Nat)(S:List (Nat->Nat))(b m:Nat):List (List Int):=(Bp S b m).map fun x=>li n (Fi n S b x)
noncomputable def Fj(n:Nat)(S:List (Nat->Nat))(b:Nat):Lv:=⟨b,CN (Bp S b n),Eb n S b n⟩
noncomputable def Cd(n:Nat)(S:List (Nat->Nat))(m:Nat):List Lv:=((List.range m).map (Fj n S)).filter fun l=>decide (1<l.orb.length)
theorem Nr(n:Nat)(S:List (Nat->Nat))(m:Nat):Cd n S (m+1)=Cd n S m++if 1<(Fj n S m).orb.length then [Fj n S m] else []:=by
 unfold Cd;rw[List.range_succ,List.map_append,List.filter_append]
 congr 1
 by_cases h:1<(Fj n S m).orb.length <;> simp[List.filter,h]
theorem QL(n:Nat)(S:List (Nat->Nat))(m:Nat):(Cd n S m).length<=m:=by
 unfold Cd;refine Nat.le_trans (List.length_filter_le _ _) ag
section
variable {w0 wr:World} {q n b ob lb:Nat} {lv:Value} {L:List Lv} {os:List (Value × Value)} {ov:Value} {orb:List Int} {rv:Value} {reps:List (List Int)} {vals:List Value} {mb:List Nat}
theorem Mz.atOrb(h:Mz w0 wr q n b ob lb lv L os ov orb rv reps vals mb){w1:World}{aA:Value}{x:Int}(ha:Bv wr w1 w0.heap.size 3 1 ov aA orb.length (Ao orb) [.int .i64 x]):w1.cell? (lb,1)=some ov/\w1.frozen? (lb,1)=false:=
 ⟨ha.cell h.lc1 (fun e=>(h.nov lb e.symm).2.1 rfl),ha.frz h.lc1 h.lf1 (fun e=>(h.nov lb e.symm).2.1 rfl)⟩
theorem Mz.atRep(h:Mz w0 wr q n b ob lb lv L os ov orb rv reps vals mb){w1:World}{aA z:Value}(ha:Bv wr w1 w0.heap.size 22 1 rv aA reps.length vals [z]):w1.cell? (lb,2)=some rv/\w1.frozen? (lb,2)=false:=
 ⟨ha.cell h.lc2 (fun e=>(h.nrv lb e.symm).2.1 rfl),ha.frz h.lc2 h.lf2 (fun e=>(h.nrv lb e.symm).2.1 rfl)⟩
theorem Mz.atLev(h:Mz w0 wr q n b ob lb lv L os ov orb rv reps vals mb){w1:World}{aA:Value}{news:List Value}(ha:Bv wr w1 w0.heap.size 90 3 lv aA L.length (RQ L os) news):w1.cell? (ob,1)=some lv/\w1.frozen? (ob,1)=false:=
 ⟨ha.cell h.oc1 (fun e=>(h.nlv ob e.symm).1 rfl),ha.frz h.oc1 h.of1 (fun e=>(h.nlv ob e.symm).1 rfl)⟩
end
theorem U4(w:World){base n tb rb gb:Nat}{rr:Nat->Nat}{bE:List Nat}{t:Tw}{S:List (Nat->Nat)}{k0:Nat}(bZ:U7 w base n tb rb gb rr bE t)(hB:IZ n S t k0)(bJ:S.length<=k0)(hS:∀s∈S,Be n s)(aP:1<=n)(hn:n<=64):
  Calls Tryz.prog 175 #[.pointer (some (tb,0))] w fun r w'=>∃lv,r= .returned (.agg #[n,lv])/\DX w' lv (Cd n S n)/\Ex w w':=by
 obtain⟨gv,V,hM⟩:=bZ;obtain⟨HM,HB,HS,aL,bD⟩:=Of hM hB hS (fun b (hb:b<n) x=>hB.orb aP hS bJ hb x) (fun b x (hb:b<n) r (hr:t.R b x=some r)=>hB.canon aP hS bJ hb hr);have hn0:n<=64:=hn;clear hM hB hS;go_enter Tryz.func175,Tryz.ntmps175
 have ea:Ex w (w.alloc (.cells #[(0:Int),.slice none 0 0] 43)):=(Ex.refl _).alloc _;have eb:Ex (w.alloc (.cells #[(0:Int),.slice none 0 0] 43)) ((w.alloc (.cells #[(0:Int),.slice none 0 0] 43)).alloc (.cells #[n,.slice none 0 0] 43)):=(Ex.refl _).alloc _;have c0:=ea.cell HM.o.c0;have cF:=eb.cell c0;go_wp2_with fail
 obtain⟨q,hq⟩:=nA w.heap.size;have bB:=Aa (HM.o.ex ea);have aJ:(w.alloc (.cells #[(0:Int),.slice none 0 0] 43)).heap.size=q+1:=by simp[hq]
 have q0:(w.alloc (.cells #[(0:Int),.slice none 0 0] 43)).cell? (q,0)=some (.int .i64 0):=by rw[<-hq];simp
 have q1:(w.alloc (.cells #[(0:Int),.slice none 0 0] 43)).cell? (q,1)=some (.slice none 0 0):=by rw[<-hq];simp
 have aS:(w.alloc (.cells #[(0:Int),.slice none 0 0] 43)).frozen? (q,0)=false:=by rw[<-hq];simp
 have aR:(w.alloc (.cells #[(0:Int),.slice none 0 0] 43)).frozen? (q,1)=false:=by rw[<-hq];simp
 try simp only[hq]
 generalize w.alloc (.cells #[(0:Int),.slice none 0 0] 43)=wR at *;have aN:=Aa (show ChS wR (wR.alloc (.cells #[n,.slice none 0 0] 43)) q n (q+1) (.slice none 0 0) [] [] [q+1] from⟨by rw[<-aJ];simp,by rw[<-aJ];simp,by rw[<-aJ];simp,X8.nil _ _ _ _,fun B e=>(by cases e),ag,ac,fun B hB=>by
  rw[List.mem_singleton.1 hB,<-aJ];simp,eb⟩)
 obtain⟨EA,Q0,Q1,cH,cG,bA⟩:=To ea q0 q1 aS aR (show w.heap.size<=q from ac);clear ea eb c0 cF q0 q1 aS aR aJ;generalize wR.alloc (.cells #[n,.slice none 0 0] 43)=wA at *;clear hq
 go_loopw [17] (fun b' wr=>∃(b:Nat) (lv:Value) (os:List (Value × Value)) (mb:List Nat),b<=n/\b'= .int .i64 b/\Hia (ChS wR wr q n (q+1) lv (Cd n S b) os mb)) (fun b' _=>n-(intOf b').toNat)
 case atStart=>exact⟨0,_, [],_,ac,rfl,aN⟩
 case round=>
  clear aN;obtain⟨b,lv,os,mb,hb,rfl,aE⟩:=hrel;have cO:=Aa (QL n S b);by_cases hbn:b<n
  .have i1:(0:Int)<=(b:Int):=by omega
   have i2:(b:Int)<(n:Int):=ac;obtain⟨aH,cC⟩:=aE.o.begin_ (b:=b);have bC:=Aa aH;have bP:=Aa (bB.o.ex aH.ex);have c1:=bP.o.c1;have c3:=bP.o.ro b hbn;clear aH cC aE;go_wp2_with fail
   obtain⟨lb,aX⟩:=nA wr.heap.size;rw[aX]at bC
   try simp only[aX]
   generalize wr.alloc (.cells #[b,.slice none 0 0,.slice none 0 0] 90)=wb at *;clear aX c1 c3
   go_loopw [30] (fun x' wr=>∃(x:Nat) (ov rv:Value) (vals:List Value) (mb:List Nat),x<=n/\x'= .int .i64 x/\Hia (Mz wR wr q n b (q+1) lb lv (Cd n S b) os ov (CN (Bp S b x)) rv (Eb n S b x) vals mb)) (fun x' _=>n-(intOf x').toNat)
   case atStart=>exact⟨0,_,_,_,_,ac,rfl,bC⟩
   case round=>
    clear bC;obtain⟨x,ov,rv,vals,mb,hx,rfl,aG⟩:=hrel;by_cases hxn:x<n
    .have i3:(0:Int)<=(x:Int):=by omega
     have i4:(x:Int)<(n:Int):=ac;have bO:=Aa (bB.o.ex aG.o.ex);have d3:=(bO.o.row b hbn).cell hxn;have aA:=HM.o.rep b x hbn hxn
     cases hR:t.R b x with
     | none=>
      rw[hR]at aA;have aA:V b x= .slice none 0 0:=aA;rw[aA]at d3;have aM:=Aa ((M6 S b x).2 (fun h=>by
       obtain⟨r,hr⟩:=(aL.o b hbn x).2 h;rw[hR]at hr;cases hr))
      have aQ:=Aa (show Eb n S b (x+1)=Eb n S b x from by unfold Eb;rw[aM.o]);clear aA hR;go_wp2_with fail
      go_roundw
      case rel=>exact⟨x+1,ov,rv,vals,mb,ac,by go_num,by rw[aM.o,aQ.o];exact aG⟩
      case measure=>simp[intOf];omega
     | some r=>
      rw[hR]at aA;have aA:Cx _ bE n (V b x) r:=aA;obtain⟨vb,vo,vc,hV,_,_,bG,_⟩:=aA.at_;obtain⟨_,_,bI,cB,cA⟩:=HB.o.good.rep _ _ _ hR;rw[hV]at d3;have aM:=Aa ((M6 S b x).1 ((aL.o b hbn x).1 ⟨r,hR⟩));obtain⟨cM,aQ,bQ,aC⟩:=Eq (Kf HS.o (bD.o b x hbn r hR)) (show Eb n S b (x+1)=Eb n S b x ++ [li n (Fi n S b x)] from by unfold Eb;rw[aM.o,List.map_append];rfl) (show CN (Bp S b (x+1))=CN (Bp S b x) ++ [(x:Int)] from by rw[aM.o,Tn]) aG.o;obtain⟨oa,oc,aV⟩:=Ae aC.o.ovo;subst aV;have c1:=aC.o.lc1;have hol:(CN (Bp S b x)).length<=64:=by rw[Ck];have:=Fu S b x;omega
      obtain⟨aY,cK,cL,cI⟩:=Eq aC.o.ex.size (show Al wR (.slice (some ⟨vb,vo,none⟩) n vc) (li n r) from by rw[<-hV];exact aA.sl.ex EA.o) bI bG;clear aA hV bI cB cA aG bO hR bG;go_upto_region 11 with (at_builtin;refine Am _ rfl _ _ 22 rfl wR.heap.size 3 (.int .i64 0) 1 8 Tryz.underlying22 AC rfl ae _ (CN (Bp S b x)).length _ rfl aC.o.ovo [.int .i64 (x:Int)] 3 _ rfl ag rfl aj ai ac aY.o ?_)
      intro ov' w4 aB;obtain⟨bT,bS,aU⟩:=Ae aB.own;subst aU;obtain⟨e1,e2⟩:=aC.o.atOrb aB;obtain⟨bU,bH,_⟩:=aC.o.appOrb aB;have aF:=Aa bH;clear aB bH d3 c1;go_upto_region 11 with fail
      obtain⟨wo,bF⟩:=nA (w4.setCell (lb,1) (.slice bT ((CN (Bp S b x)).length+1) bS));rw[bF]at aF ⊢;clear bF e1 e2;obtain⟨ra,rc,aT⟩:=Ae aF.o.rvo;subst aT;have c2:=aF.o.lc2;have E0:Ex wo wo.drew:=(Ex.refl wo).drew;have hrl:(Eb n S b x).length<=64:=by unfold Eb;rw[List.length_map];have:=Fu S b x;omega
      have cP:=Aa (fun w5 (h5:Ex wo w5)=>PS w5 (bB.o.ex (aF.o.ex.trans h5)) HB.o.good aP hn _ r b hbn (cK.o.ex (aF.o.ex.trans h5)) cL.o)
      go_region_law ((first|(go_simp;go_at_call 211;(with_reducible refine(cP.o _ E0).mono ?_);rintro e w5⟨z,rfl,hz,bL,bX⟩;have E5:=E0.trans bX;have bN:=E5.cell c2;obtain⟨za,zc,bV,_,_,_⟩:=DU hz;subst bV;have cE:=((Ex.refl w5).alloc (.cells #[.slice za n zc] 22)).cell bN;have HZ:=Aa hz;have cN:=Aa bL;clear hz bL;have aK:=Aa (aF.o.later E5))|(refine Co bp _ _ _ bp wR.heap.size 22 (.slice none 0 0) 1 24 Tryz.underlying37 BU rfl ae (.slice ra (Eb n S b x).length rc) (Eb n S b x).length vals bp (Aj aK.o.rvo ((Ex.refl w5).alloc _)) _ 1 [.slice za n zc] bp (Sl.own (Ft w5 (.slice za n zc) 22)) aj ai ac (Nat.le_trans aK.o.ex.size ag) ?_;intro v6 w6 aD bK bM;have bR:=Aa (show Bv w5 w6 wR.heap.size 22 1 (.slice ra (Eb n S b x).length rc) v6 (Eb n S b x).length vals [.slice za n zc] from⟨aD,⟨_,bK⟩,by simpa using bM,aK.o.rvo⟩);obtain⟨k1,k2⟩:=aK.o.atRep bR.o;obtain⟨va,vc6,bY⟩:=Ae aD;subst bY;clear aD bK bM)))
      all_goals
       have cJ:=Aa (show SI w5 (q :: bU) (.slice za n zc) (li n (Fi n S b x)) from⟨by rw[cM.o];exact HZ.o,fun _ B e=>by
        obtain⟨b',o',bW,cD,_⟩:=Ew HZ.o aP;subst bW;injection e with e;have e:b'=B:=e;subst e;refine⟨fun hm=>?_,cD⟩;have hl:b'=q∨wR.heap.size<=b'/\b'<wo.heap.size:=by
         rcases List.mem_cons.1 hm with e|e
         .exact .inl e
         .exact .inr (aF.o.lo b' e)
        have hqw:=bA.o;have hql:=aF.o.ql;have hws:=aF.o.ex.size;have hea:=EA.o.size;rcases cN.o with h1|⟨g,cap',h1,h2⟩
        .injection h1 with h1 _ _;injection h1 with h1;injection h1 with h1;have:=cI.o;omega
        .injection h1 with h1 _ _;injection h1 with h1;injection h1 with h1;have h2:wo.heap.size<=g:=h2;omega⟩)
       have aZ:=Aa (aK.o.appRep cJ.o bR.o);clear k1 k2 c2 bN cE;go_wp2_with fail
       go_roundw
       case rel=>
        obtain⟨aI,h1⟩:=aZ.o
        first
                | exact⟨x+1,_,_,_,aI,ac,by go_num,by rw[bQ.o,aQ.o];exact Aa h1.1⟩
                | ((repeat apply Exists.intro);exact⟨⟨x+1,_,_,_,aI,ac,by go_num,by rw[bQ.o,aQ.o];exact Aa h1.1⟩,rfl⟩)
       case measure=>simp[intOf];omega
    .obtain rfl:x=n:=by omega
     have aC:=Aa aG.o;obtain⟨oa,oc,aV⟩:=Ae aC.o.ovo;subst aV;have c1:=aC.o.lc1;have hcl:(Cd x S b).length<=64:=by have:=cO.o;omega
     have aY:=Aa aC.o.ex.size;by_cases h1:1<(CN (Bp S b x)).length
     .have aO:=Aa (show Cd x S (b+1)=Cd x S b ++ [⟨b,CN (Bp S b x),Eb x S b x⟩] from by
       rw[Nr,if_pos (show 1<(Fj x S b).orb.length from h1)];rfl)
      have b1:decide (1<((CN (Bp S b x)).length:Int))=true:=aq;have b2:decide (1<(CN (Bp S b x)).length)=true:=br;obtain⟨la,lc,aH⟩:=Ae aC.o.ch.own;obtain⟨ra,rc,aT⟩:=Ae aC.o.rvo;subst aH aT;have l0:=aC.o.lc0;have l2:=aC.o.lc2;have o1:=aC.o.oc1;clear h1 aG;go_wp2_with (at_builtin;refine Am _ rfl _ _ 41 rfl wR.heap.size 90 (.agg #[(0:Int),.slice none 0 0,.slice none 0 0]) 3 56 Tryz.underlying41 UP rfl ae _ (Cd x S b).length _ rfl aC.o.ch.own [.int .i64 b,.slice oa (CN (Bp S b x)).length oc,.slice ra (Eb x S b x).length rc] 90 _ rfl ag rfl aj ai ac aY.o ?_)
      intro lv2 w4 aB;obtain⟨la2,lc2,aW⟩:=Ae aB.own;subst aW;obtain⟨e1,e2⟩:=aC.o.atLev aB;have HK:=Aa (aC.o.keep aB);clear aB l0 l2 o1 c1;go_wp2_with fail
      go_roundw
      case rel=>
       obtain⟨aI,h1⟩:=HK.o
       first
              | exact⟨b+1,_,_,aI,ac,by go_num,by rw[aO.o];exact Aa h1⟩
              | ((repeat apply Exists.intro);exact⟨⟨b+1,_,_,aI,ac,by go_num,by rw[aO.o];exact Aa h1⟩,rfl⟩)
      case measure=>simp[intOf];omega
     .have aO:=Aa (show Cd x S (b+1)=Cd x S b from by
       rw[Nr,if_neg (show ¬1<(Fj x S b).orb.length from h1),List.append_nil])
      have b1:decide (1<((CN (Bp S b x)).length:Int))=false:=aq;have b2:decide (1<(CN (Bp S b x)).length)=false:=br;have HK:=Aa aG.o.drop;clear h1 aG;go_wp2_with fail
      go_roundw
      case rel=>first|exact⟨b+1,lv,os,mb,ac,by go_num,by rw[aO.o];exact HK⟩|((repeat apply Exists.intro);exact⟨⟨b+1,lv,os,mb,ac,by go_num,by rw[aO.o];exact HK⟩,rfl⟩)
      case measure=>simp[intOf];omega
  .obtain rfl:b=n:=by omega
   have o0:=aE.o.oc0;have o1:=aE.o.oc1;obtain⟨la,lc,aH⟩:=Ae aE.o.ch.own;subst aH;have q0:=aE.o.ex.cell Q0.o;have q1:=aE.o.ex.cell Q1.o;have aS:=aE.o.ex.frz Q0.o cH.o;have aR:=aE.o.ex.frz Q1.o cG.o;have aN:=Aa aE.o;clear aE;go_wp2_with fail
   exact bodyPost_ret (v:= .agg #[b,.slice la (Cd b S b).length lc]) (by simp[results,Tryz.results175,go_sem,q0,q1]) rfl ⟨_,rfl,aN.o.o _ _,((EA.o.trans aN.o.ex).setCell (p:=⟨q,0,none⟩) bA.o _).setCell (p:=⟨q,1,none⟩) bA.o _⟩
structure Chn where
 deg:Int
 lev:List Lv
noncomputable def Dd(n:Int)(rows:List (List Int)):Chn × Int:=if Es n rows≠0 then(⟨0, []⟩,Es n rows) else(⟨n,Cd n.toNat (rows.map CL) n.toNat⟩,0)
def BldR(n:Int)(rows:List (List Int))(r:Ending)(w':World):Prop:=∃v,r= .returned (.tuple #[.agg #[.int .i64 (Dd n rows).1.deg,v],.int .i64 (Dd n rows).2])/\DX w' v (Dd n rows).1.lev
theorem Ko{n:Int}{rows:List (List Int)}{d:Int}{L:List Lv}{e:Int}{v:Value}{w':World}(h:Dd n rows=(⟨d,L⟩,e))(hv:DX w' v L):BldR n rows (.returned (.tuple #[.agg #[d,v],e])) w':=⟨v,by rw[h],by rw[h];exact hv⟩
theorem zcK{P:Prop}(h:P:=by
 apply Classical.byContradiction;intro hn;have:n=0:=by omega
 subst this;omega):P:=h
theorem S0{w:World}{q:Nat}{z:Int}(h0:w.cell? (q,0)=some (.int .i64 z))(h1:w.cell? (q,1)=some (.slice none 0 0))(h2:∀j,2<=j->w.cell? ⟨q,j,none⟩=none){v:Value}{n size:Nat}{xs:List Value}(h:Sl w v n size xs)(hl:2<=xs.length)(hx:xs[0]?≠some (.int .i64 z)∨xs[1]?≠some (.slice none 0 0)):v.ownBlock≠some q:=by
 intro e;obtain⟨k1,a,cap,rfl,_,_,k5⟩:=h;have hn:0<n:=by
  exact zcK
 obtain⟨b,o,rfl,k6⟩:=k5 hn;injection e with e;have e:b=q:=e;subst e;have x0:=k6 0 _ (List.getElem?_eq_getElem ac);have x1:=k6 1 _ (List.getElem?_eq_getElem ac);have ho:o=0:=by
  apply Classical.byContradiction;intro ho;have:=h2 (o+1) ac;rw[x1]at this;cases this
 subst ho;rw[h0]at x0;rw[h1]at x1;injection x0 with x0;injection x1 with x1;rcases hx with hx|hx
 .exact hx (by rw[List.getElem?_eq_getElem ac,<-x0])
 .exact hx (by rw[List.getElem?_eq_getElem ac,<-x1])
theorem Sl.set2{w:World}{v:Value}{n size:Nat}{xs:List Value}(h:Sl w v n size xs){q:Nat}(hq:v.ownBlock≠some q)(u u':Value):Sl ((w.setCell (q,0) u).setCell (q,1) u') v n size xs:=by
 obtain⟨k1,a,cap,rfl,k3,k4,k5⟩:=h;refine⟨k1,a,cap,rfl,k3,k4,fun hn=>?_⟩;obtain⟨b,o,rfl,k6⟩:=k5 hn;have hb:q≠b:=fun e=>hq (by rw[e];rfl);refine⟨b,o,rfl,fun j x hx=>?_⟩;rw[World.cell?_setCell_other _ _ _ _ (by intro e;injection e with e;exact hb e),World.cell?_setCell_other _ _ _ _ (by intro e;injection e with e;exact hb e)];exact k6 j x hx
theorem DX.set2{w:World}{q:Nat}{z:Int}(h0:w.cell? (q,0)=some (.int .i64 z))(h1:w.cell? (q,1)=some (.slice none 0 0))(h2:∀j,2<=j->w.cell? ⟨q,j,none⟩=none){v:Value}{L:List Lv}(h:DX w v L)
  (hL:∀l∈L,2<=l.orb.length/\2<=l.reps.length/\∀r∈l.reps,2<=r.length) (u u':Value):DX ((w.setCell (q,0) u).setCell (q,1) u') v L:=by
 obtain⟨os,k1,k2,k3⟩:=h;have aA:∀ {y:Value} {l:List Int},Al w y l->2<=l.length->Al ((w.setCell (q,0) u).setCell (q,1) u') y l:=fun {y l} hy hl=>
  Sl.set2 hy (S0 h0 h1 h2 hy (by rw[Bc];exact hl) (.inr (by
   unfold Ao;rw[List.getElem?_map]
   cases l[1]? with
   | none=>simp
   | some x=>simp))) u u'
 refine⟨os,k1,?_,fun i l o a c=>?_⟩
 .by_cases hn:0<L.length
  .refine Sl.set2 k2 (fun e=>?_) u u';obtain⟨m1,a,cap,rfl,_,_,m5⟩:=k2;obtain⟨b,o,rfl,m6⟩:=m5 hn;injection e with e;have e:b=q:=e;subst e;have hl3:=Iz L os k1;have:=m6 2 _ (List.getElem?_eq_getElem ac);rw[h2 (o+2) ac]at this;cases this
  .obtain⟨m1,a,cap,rfl,m3,m4,m5⟩:=k2;exact⟨m1,a,cap,rfl,m3,m4,fun h=>absurd h hn⟩
 .obtain⟨g1,vals,g2,g3⟩:=k3 i l o a c;obtain⟨b1,b2,b3⟩:=hL l (List.mem_of_getElem? a);refine⟨aA g1 b1,vals,?_,fun j r y hr hy=>aA (g3 j r y hr hy) (b3 r (List.mem_of_getElem? hr))⟩;have hvl:vals.length=l.reps.length:=by have:=g2.1;omega
  refine Sl.set2 g2 (S0 h0 h1 h2 g2 ac (.inl fun e=>?_)) u u';have aB:l.reps[0]?=some (l.reps[0]'ac):=List.getElem?_eq_getElem _;obtain⟨_,_,e2,_⟩:=(g3 0 _ _ aB e).open;cases e2
theorem QM{n:Nat}{S:List (Nat->Nat)}{m:Nat}{l:Lv}(h:l∈Cd n S m):2<=l.orb.length/\2<=l.reps.length/\∀r∈l.reps,2<=r.length:=by
 unfold Cd at h;obtain⟨h1,h2⟩:=List.mem_filter.1 h;obtain⟨b,_,rfl⟩:=List.mem_map.1 h1;have h2:1<(CN (Bp S b n)).length:=of_decide_eq_true h2;rw[Ck]at h2;have h3:=Fu S b n;refine⟨by show 2<=(CN (Bp S b n)).length;rw[Ck];omega,by show 2<=(Eb n S b n).length;unfold Eb;rw[List.length_map];omega,fun r hr=>?_⟩;have hr:r∈Eb n S b n:=hr;unfold Eb at hr;obtain⟨x,_,rfl⟩:=List.mem_map.1 hr;rw[Ch];omega
theorem Ze(n:Nat):Q9 n (N9 n) 0:=fun c _ _=>by
 have:=Zd n (N9 n) c;show 0+_<=_
 omega
theorem ND(w:World)(n:Int)(rows:List (List Int))(v:Value)(hv:BZ w v rows)(hrl:rows.length<=1000):
  Calls Tryz.prog 123 #[n,v] w fun r w'=>BldR n rows r w'/\Ex w w':=by
 have ea:Ex w (w.alloc (.cells #[(0:Int),.slice none 0 0] 43)):=(Ex.refl _).alloc _;have q0:(w.alloc (.cells #[(0:Int),.slice none 0 0] 43)).cell? (w.heap.size,0)=some (.int .i64 0):=ag;have q1:(w.alloc (.cells #[(0:Int),.slice none 0 0] 43)).cell? (w.heap.size,1)=some (.slice none 0 0):=ag;have q2:∀j,2<=j->(w.alloc (.cells #[(0:Int),.slice none 0 0] 43)).cell? ⟨w.heap.size,j,none⟩=none:=fun j hj=>by
  obtain⟨i,rfl⟩:∃i,j=i+2:=⟨j-2,ac⟩;simp
 have aE:(w.alloc (.cells #[(0:Int),.slice none 0 0] 43)).frozen? (w.heap.size,0)=false:=ag;have aD:(w.alloc (.cells #[(0:Int),.slice none 0 0] 43)).frozen? (w.heap.size,1)=false:=ag;have HV:=Aa hv;have HG:=Aa (fun w1 (h:Ex w w1)=>GM w1 n rows v (hv.ex h));obtain⟨a,cap,rfl,_,s2,_⟩:=hv.open;unfold maxLen at s2;obtain⟨e,he⟩:=nA (Es n rows);rw[he]at HG;clear hv;go_enter Tryz.func123,Tryz.ntmps123
 go_wp2_with fail
 obtain⟨q,hq⟩:=nA w.heap.size;rw[hq]at q0 q1 aE aD q2
 try simp only[hq]
 have HQ:=Aa hq;have aP:=Aa ea;clear hq;generalize w.alloc (.cells #[(0:Int),.slice none 0 0] 43)=wR at *;refine(HG.o wR ea).mono ?_;rintro e' w1⟨rfl,aC⟩;have aO:=Aa aC;have aB:=World.block_lt_of_cell? _ _ q0;have Q2:=Aa (show ∀j,2<=j->w1.cell? ⟨q,j,none⟩=none from fun j hj=>(Below.cell aC (show(⟨q,j,none⟩:Addr).block<wR.heap.size from aB)).trans (q2 j hj));have aX:=aC.frz q0 aE;have aW:=aC.frz q1 aD;have q0:=aC.cell q0;have q1:=aC.cell q1;clear aC aE aD ea HG q2 aB;by_cases h0:e=0
 .subst h0;obtain⟨N,rfl,aN,aS,S,aM,hS⟩:=Kl he;have HP:=Aa (show Dd N rows=(⟨N,Cd N S N⟩,0) from by unfold Dd;rw[he,if_neg ae,aM,Ep hS];rfl);have HS:=Aa hS;have bQ:=Aa aM;have bC:S.length=rows.length:=by rw[aM];simp
  obtain⟨bG,bT,Q0,Q1,bM,bL⟩:=To bC (N8 w1 N aN aS) q0 q1 aX aW;clear he hS aM bC q0 q1 aX aW;go_wp2_with (go_at_call 173;refine bT.o.mono ?_;rintro e w2⟨tb,rb,gb,rr,mb,rfl,aA,aZ⟩;have bF:=Aa aA;have bE:=Aa aZ;clear aA aZ)
  have bI:=Aa (IZ.start (n:=N) (S:=S));have bH:=Aa (Ze N)
  go_loopw [21] (fun k' wr=>∃(k:Nat) (aH:List Nat) (tc:Tw),k<=rows.length/\k'= .int .i64 k/\Hia (U7 wr w1.heap.size N tb rb gb rr aH tc)/\Hia (IZ N S tc k)/\Hia (Q9 N tc 0)/\Hia (Ex w1 wr)) (fun k' _=>rows.length-(intOf k').toNat)
  case atStart=>exact⟨0,mb,N9 N,ac,rfl,bF,bI,bH,bE⟩
  case round=>
   clear bF bI bH bE;obtain⟨k,aH,tc,hk,rfl,aA,aG,aR,hx⟩:=hrel;by_cases hkn:k<rows.length
   .obtain⟨s,hs⟩:∃s,S[k]?=some s:=⟨_,List.getElem?_eq_getElem (by rw[bG.o];exact hkn)⟩;have bB:rows[k]?=some (li N s):=by rw[bQ.o,List.getElem?_map,hs];rfl
    have bA:=HS.o s (List.mem_of_getElem? hs);obtain⟨_,_,e1,_,_,h3⟩:=HV.o.open;injection e1 with e1 e2 e3;subst e1 e3;obtain⟨zb,zo,rfl,aY⟩:=h3 ac;obtain⟨u,d1,hu⟩:=aY k _ bB;have bJ:=Aa (aP.o.trans (aO.o.trans hx.o));have d1:=bJ.o.cell d1;obtain⟨ua,uc,rfl,_,_,_⟩:=DU hu;obtain⟨pb,po,rfl,hpb,_⟩:=Ew hu ac;have bS:=Aa (Cx.of (mb:=aH) (hu.ex bJ.o) aN fun B eB hm=>by
     injection eB with eB;have eB:pb=B:=eB;subst eB;obtain⟨gv,V,hM⟩:=aA.o;have h5:=(hM.lo pb hm).1;have h6:=(aP.o.trans aO.o).size;omega)
    have i1:(0:Int)<=(k:Int):=ac;have i2:(k:Int)<(rows.length:Int):=ac;obtain⟨bX,bV,cA,bR⟩:=Eq (Zv (base:=w1.heap.size) (tb:=tb) (rb:=rb) (gb:=gb) (rr:=rr) aN aS (S7 N tc 0) wr aH tc s _ 0 (fun _=>Nat.le_refl _) (Nat.zero_le _) aA.o aG.o.good (fun c _ hc=>aG.o.comp c hc) bS.o bA (fun i hi=>ac) hx.o.size aR.o) (show ∀B∈aH,w1.heap.size<=B from by obtain⟨gv,V,hM⟩:=aA.o;exact fun B hB=>(hM.lo B hB).1) aG.o hs;clear hs bB bA h3 aY hu aA aG aR;go_wp2_with (go_at_call 174;refine bX.o.mono ?_;rintro e w3⟨⟨zz,rfl⟩,mb3,t3,aI,aK,aJ,aL⟩;have aT:=Aa aI;have aU:=Aa aK;have bP:=Aa (aJ.ex hx.o bV.o);have aV:=Aa aL;clear aI aK aJ aL)
    have cB:=Aa (cA.o.step HS.o bR.o aU.o);go_roundw
    case rel=>exact⟨k+1,mb3,t3,ac,by go_num,aT,cB,aV,bP⟩
    case measure=>simp[intOf];omega
   .obtain rfl:k=rows.length:=by omega
    have bZ:=Aa (U4 wr aA.o aG.o (by rw[bG.o];exact Nat.le_refl _) HS.o aN aS);have q0:=hx.o.cell Q0.o;have q1:=hx.o.cell Q1.o;have aE:=hx.o.frz Q0.o bM.o;have aD:=hx.o.frz Q1.o bL.o;have bN:=Aa hx.o;clear aA aG aR hx;go_wp2_with (go_at_call 175;refine bZ.o.mono ?_;rintro e w4⟨lv,rfl,aQ,aF⟩;obtain⟨la,lc,bK,_,_,_⟩:=aQ.open;subst bK;have aE:=aF.frz q0 aE;have aD:=aF.frz q1 aD;have q0:=aF.cell q0;have q1:=aF.cell q1;have bU:=Aa aQ;have bO:=Aa aF;clear aQ aF)
    have bD:=Aa (bN.o.trans bO.o);have bY:=Aa (aP.o.trans (aO.o.trans bD.o));have aB:=World.block_lt_of_cell? _ _ Q0.o;have bW:=Aa (bU.o.set2 q0 q1 (fun j hj=>(Below.cell bD.o (show(⟨q,j,none⟩:Addr).block<w1.heap.size from aB)).trans (Q2.o j hj)) (fun l hl=>QM hl) (.int .i64 N) (.slice la (Cd N S N).length lc));exact bodyPost_ret (v:= .tuple #[.agg #[N,.slice la (Cd N S N).length lc],(0:Int)]) (by simp[results,Tryz.results123,go_sem,q0,q1]) rfl ⟨Ko HP.o bW.o,(bY.o.setCell (p:=⟨q,0,none⟩) (Nat.le_of_eq HQ.o) _).setCell (p:=⟨q,1,none⟩) (Nat.le_of_eq HQ.o) _⟩
 .have HP:=Aa (show Dd n rows=(⟨0, []⟩,e) from by unfold Dd;rw[he,if_pos h0]);have hb:(e !=0)=true:=by simpa using h0
  clear h0 he;go_wp2_with fail
  exact bodyPost_ret (v:= .tuple #[.agg #[(0:Int),.slice none 0 0],e]) (by simp[results,Tryz.results123,go_sem,q0,q1]) rfl ⟨Ko HP.o (DX.nil _),((aP.o.trans aO.o).setCell (p:=⟨q,0,none⟩) (Nat.le_of_eq HQ.o) _).setCell (p:=⟨q,1,none⟩) (Nat.le_of_eq HQ.o) _⟩
def Gz:List Int->List Int->Bool
 | x :: l,y :: k=>if x=y then Gz l k else decide (x<y)
 | _,_=>false
theorem M9:∀ {l k:List Int} {i:Nat} {x y:Int},l[i]?=some x->k[i]?=some y->x≠y->(∀j,j<i->l[j]?=k[j]?)->Gz l k=decide (x<y)
 | x' :: l,y' :: k,0,x,y,h1,h2,hne,_=>by
  simp at h1 h2;subst h1 h2;unfold Gz;rw[if_neg hne]
 | x' :: l,y' :: k,i+1,x,y,h1,h2,hne,ha=>by
  have h0:=ha 0 ac;simp at h0;subst h0;unfold Gz;rw[if_pos rfl];exact M9 (i:=i) br du hne fun j hj=>by
   have:=ha (j+1) ac;simpa using this
 | [],k,i,x,y,h1,_,_,_=>by simp at h1
 | x' :: l, [],i,x,y,_,h2,_,_=>by simp at h2
theorem Le:∀ {l k:List Int},(∀j,j<l.length->l[j]?=k[j]?)->Gz l k=false
 | [],k,_=>by unfold Gz;rfl
 | x :: l, [],h=>by
  have:=h 0 ag;simp at this
 | x :: l,y :: k,h=>by
  have h0:=h 0 ag;simp at h0;subst h0;unfold Gz;rw[if_pos rfl];exact Le fun j hj=>by
   have:=h (j+1) (by simpa using hj);simpa using this
def fixB(b:Nat)(f:Nat->Nat):Bool:=(List.range b).all fun i=>f i==i
theorem Xd(b:Nat)(f:Nat->Nat):fixB b f=true↔A5 b f:=by
 unfold fixB A5;rw[List.all_eq_true];exact⟨fun h i hi=>by simpa using h i (List.mem_range.2 hi),fun h i hi=>by simpa using h i (List.mem_range.1 hi)⟩
def BJ:Nat:=4294967296
theorem IN:0<BJ:=ae
def vS(f:Nat->Nat):Nat->Nat
 | 0=>0
 | n+1=>vS f n+f n*BJ^n
theorem Ig{f g:Nat->Nat}:∀ {n},(∀k,k<n->f k=g k)->vS f n=vS g n
 | 0,_=>rfl
 | n+1,h=>by unfold vS;rw[Ig fun k hk=>h k (by omega),h n (by omega)]
theorem Pi{f:Nat->Nat}:∀n,(∀k,k<n->f k<BJ)->vS f n<BJ^n
 | 0,_=>by unfold vS;decide
 | n+1,h=>by
  have h1:=Pi n fun k hk=>h k ac;have h2:f n+1<=BJ:=h n ac;have h3:=Nat.mul_le_mul_right (BJ^n) h2;rw[Nat.add_mul,Nat.one_mul]at h3;unfold vS;rw[Nat.pow_succ,Nat.mul_comm (BJ^n) BJ];omega
theorem Rb{f:Nat->Nat}{j x:Nat}:∀ {n},j<n->vS (Az f j x) n+f j*BJ^j=vS f n+x*BJ^j
 | 0,h=>by omega
 | n+1,h=>by
  by_cases e:j=n
  .subst e;unfold vS;have h1:vS (Az f j x) j=vS f j:=Ig fun k hk=>by unfold Az;rw[if_neg ac]
   have h2:Az f j x j=x:=by unfold Az;rw[if_pos rfl]
   rw[h1,h2];omega
  .have h1:=Rb (f:=f) (x:=x) (n:=n) (j:=j) ac;have h2:Az f j x n=f n:=by unfold Az;rw[if_neg ac]
   unfold vS;rw[h2];omega
theorem NI{f:Nat->Nat}:∀ {n m},m<=n->(∀k,m<=k->k<n->f k=0)->vS f n=vS f m
 | 0,m,h,_=>by rw[show m=0 by omega]
 | n+1,m,h,h0=>by
  by_cases e:m=n+1
  .rw[e]
  .show vS f n+f n*BJ^n=vS f m
   rw[h0 n (by omega) (by omega),Nat.zero_mul,Nat.add_zero];exact NI (by omega) fun k h1 h2=>h0 k h1 (by omega)
structure JJ(n:Nat)(f:Nat->Nat):Prop where
 lt:∀k,k<n->f k<BJ
 top:∀m,n=m+1->f m≠0
theorem JJ.ge{m:Nat}{f:Nat->Nat}(h:JJ (m+1) f):BJ^m<=vS f (m+1):=by
 have h1:1<=f m:=Nat.one_le_iff_ne_zero.2 (h.top m rfl);have:=Nat.mul_le_mul_right (BJ^m) h1;unfold vS;omega
theorem JJ.len{n m:Nat}{f:Nat->Nat}(h:JJ n f)(hv:vS f n<BJ^m):n<=m:=by
 cases n with
 | zero=>omega
 | succ k=>
  have h1:=h.ge;have h2:BJ^k<BJ^m:=ac;have:=(Nat.pow_lt_pow_iff_right (by decide:1<BJ)).1 h2;omega
theorem zcx{P:Prop}(h:P:=by
 have:=Nat.mul_le_mul_right (BJ^n) h3;rw[Nat.add_mul,Nat.one_mul]at this;omega):P:=h
theorem Vn{f g:Nat->Nat}:∀n,(∀k,k<n->f k<BJ)->(∀k,k<n->g k<BJ)->vS f n=vS g n->∀k,k<n->f k=g k
 | 0,_,_,_,k,hk=>by omega
 | n+1,hf,hg,h,k,hk=>by
  have h1:=Pi n fun k hk=>hf k ac;have h2:=Pi n fun k hk=>hg k ac;unfold vS at h;have e:f n=g n:=by
   apply Classical.byContradiction;intro aA;rcases Nat.lt_or_gt_of_ne aA with h3|h3
   .have h3:f n+1<=g n:=h3;exact zcx
   .have h3:g n+1<=f n:=h3;exact zcx
  by_cases e2:k=n
  .subst e2;exact e
  .rw[e]at h;exact Vn n (fun k hk=>hf k ac) (fun k hk=>hg k ac) ac k ac
theorem JJ.uniq{n m:Nat}{f g:Nat->Nat}(hf:JJ n f)(hg:JJ m g)(h:vS f n=vS g m):n=m/\∀k,k<n->f k=g k:=by
 have h1:n<=m:=hf.len (by rw[h];exact Pi m hg.lt);have h2:m<=n:=hg.len (by rw[<-h];exact Pi n hf.lt);have e:n=m:=by omega
 subst e;exact⟨rfl,Vn n hf.lt hg.lt h⟩
structure Sr(N i m:Nat)(a b:Nat->Nat)(f:Nat->Nat)(c j:Nat):Prop where
 lt:∀k,k<N->f k<BJ
 zero:∀k,i+m<=k->f k=0
 cl:c<BJ
 val:vS f N+c*BJ^(i+j)=vS a i*vS b m+a i*vS b j*BJ^i
structure Ss(N i m:Nat)(a b:Nat->Nat)(f:Nat->Nat):Prop where
 lt:∀k,k<N->f k<BJ
 zero:∀k,i+m<=k->f k=0
 val:vS f N=vS a i*vS b m
theorem Ss.start(N m:Nat)(a b:Nat->Nat):Ss N 0 m a b (fun _=>0):=
 ⟨fun _ _=>IN,fun _ _=>rfl,by rw[NI (m:=0) (Nat.zero_le _) fun _ _ _=>rfl];unfold vS;rw[Nat.zero_mul]⟩
theorem Ss.inner{N i m:Nat}{a b f:Nat->Nat}(h:Ss N i m a b f):Sr N i m a b f 0 0:=
 ⟨h.lt,h.zero,IN,by rw[h.val,Nat.zero_mul];show _=_+a i*0*_;rw[Nat.mul_zero,Nat.zero_mul]⟩
theorem M8{x y u c:Nat}(hx:x<BJ)(hy:y<BJ)(hu:u<BJ)(hc:c<BJ):x*y+u+c<BJ*BJ:=by
 have h1:x<=BJ-1:=ac;have h2:y<=BJ-1:=ac;have h3:=Nat.mul_le_mul h1 h2;have h4:(BJ-1)*(BJ-1)+(BJ-1)+(BJ-1)<BJ*BJ:=ae;omega
theorem Sr.step{N i m:Nat}{a b f:Nat->Nat}{c j:Nat}(h:Sr N i m a b f c j)(hj:j<m)(hN:i+m<=N)(ha:a i<BJ)(hb:b j<BJ):
  Sr N i m a b (Az f (i+j) ((a i*b j+f (i+j)+c)%BJ)) ((a i*b j+f (i+j)+c)/BJ) (j+1):=by
 refine⟨fun k hk=>?_,fun k hk=>?_,?_,?_⟩
 .unfold Az;split
  .exact Nat.mod_lt _ IN
  .exact h.lt k hk
 .unfold Az;rw[if_neg ac];exact h.zero k hk
 .exact Nat.div_lt_of_lt_mul (M8 ha hb (h.lt (i+j) ac) h.cl)
 .have h1:=Rb (f:=f) (j:=i+j) (x:=(a i*b j+f (i+j)+c)%BJ) (n:=N) ac;have h2:=h.val;have h3:=Nat.div_add_mod (a i*b j+f (i+j)+c) BJ;generalize (a i*b j+f (i+j)+c)/BJ=q at *;generalize (a i*b j+f (i+j)+c)%BJ=r at *;generalize vS (Az f (i+j) r) N=V at *;have h4:(BJ*q+r)*BJ^(i+j)=(a i*b j+f (i+j)+c)*BJ^(i+j):=by rw[h3]
  have h5:BJ^(i+(j+1))=BJ^(i+j)*BJ:=by rw[<-Nat.add_assoc,Nat.pow_succ]
  have h6:BJ^(i+j)=BJ^j*BJ^i:=by rw[Nat.add_comm,Nat.pow_add]
  have h7:vS b (j+1)=vS b j+b j*BJ^j:=rfl;rw[h5,h7];rw[Nat.add_mul]at h4;rw[Nat.add_mul,Nat.add_mul]at h4;have h8:BJ*q*BJ^(i+j)=q*(BJ^(i+j)*BJ):=by rw[Nat.mul_comm BJ q,Nat.mul_assoc,Nat.mul_comm BJ]
  have h9:a i*(vS b j+b j*BJ^j)*BJ^i=a i*vS b j*BJ^i+a i*b j*BJ^(i+j):=by
   rw[Nat.mul_add,Nat.add_mul,h6];simp only[Nat.mul_assoc]
  rw[h9];rw[h8]at h4;omega
theorem Sr.fin{N i m:Nat}{a b f:Nat->Nat}{c:Nat}(h:Sr N i m a b f c m)(hN:i+m<N):Ss N (i+1) m a b (Az f (i+m) c):=by
 refine⟨fun k hk=>?_,fun k hk=>?_,?_⟩
 .unfold Az;split
  .exact h.cl
  .exact h.lt k hk
 .unfold Az;rw[if_neg ac];exact h.zero k ac
 .have h1:=Rb (f:=f) (j:=i+m) (x:=c) (n:=N) hN;rw[h.zero (i+m) (Nat.le_refl _),Nat.zero_mul,Nat.add_zero]at h1;rw[h1,h.val];show _=(vS a i+a i*BJ^i)*vS b m
  rw[Nat.add_mul,Nat.mul_right_comm]
structure Nw(f:Nat->Nat)(N n:Nat):Prop where
 le:n<=N
 val:vS f n=vS f N
theorem Nw.step{f:Nat->Nat}{N n:Nat}(h:Nw f N (n+1))(h0:f n=0):Nw f N n:=
 ⟨by have:=h.le;omega,by rw[<-h.val,show vS f (n+1)=vS f n+f n*BJ^n from rfl,h0];omega⟩
theorem Nw.fin{f:Nat->Nat}{N n:Nat}(h:Nw f N n)(hl:∀k,k<N->f k<BJ)(h0:∀m,n=m+1->f m≠0):JJ n f:=⟨fun k hk=>hl k (by have:=h.le;omega),h0⟩
theorem Tk:(Tryz.prog.info? 91).map (fun i=>(i.zero,i.size,i.bytes))=some (some (.int .u32 0),1,4):=ah
def uv(f:Nat->Nat):Nat->Value:=fun j=> .int .u32 (f j:Int)
theorem Vo(f:Nat->Nat)(k:Nat)(y:Nat):Az (uv f) k (.int .u32 (y:Int))=uv (Az f k y):=by
 funext j;unfold Az uv;by_cases h:j=k <;> simp[h]
def NL(w:World)(v:Value)(n:Nat)(f:Nat->Nat):Prop:=Sl w v n 1 (vs n (uv f))
def IW(w:World)(v:Value)(x:Nat):Prop:=∃n f,JJ n f/\vS f n=x/\NL w v n f
theorem NL.ex{w w':World}{v:Value}{n:Nat}{f:Nat->Nat}(h:NL w v n f)(hx:Ex w w'):NL w' v n f:=Sl.ex h hx
theorem IW.ex{w w':World}{v:Value}{x:Nat}(h:IW w v x)(hx:Ex w w'):IW w' v x:=by
 obtain⟨n,f,h1,h2,h3⟩:=h;exact⟨n,f,h1,h2,h3.ex hx⟩
theorem NL.open{w:World}{v:Value}{n:Nat}{f:Nat->Nat}(h:NL w v n f):∃a cap,v= .slice a n cap/\n<=cap/\cap<=maxLen/\
  (0<n->∃b o,a=some ⟨b,o,none⟩/\∀j,j<n->w.cell? ⟨b,o+j,none⟩=some (.int .u32 (f j:Int))):=by
 obtain⟨h1,a,cap,rfl,h3,h4,h5⟩:=h;refine⟨a,cap,rfl,h3,h4,fun hn=>?_⟩;obtain⟨b,o,rfl,h6⟩:=h5 hn;exact⟨b,o,rfl,fun j hj=>h6 j _ (Dk hj (uv f))⟩
theorem NL.mk{w:World}{a:Option Addr}{n cap:Nat}{f:Nat->Nat}(h1:n<=cap)(h2:cap<=maxLen)(h3:0<n->∃b o,a=some ⟨b,o,none⟩/\∀j,j<n->w.cell? ⟨b,o+j,none⟩=some (.int .u32 (f j:Int))):NL w (.slice a n cap) n f:=by
 refine⟨by rw[Bm,Nat.mul_one],a,cap,rfl,h1,h2,fun hn=>?_⟩;obtain⟨b,o,rfl,h4⟩:=h3 hn;refine⟨b,o,rfl,fun j u hu=>?_⟩;have hj:j<n:=by have:=(List.getElem?_eq_some_iff.1 hu).1;rwa[Bm]at this
 rw[Dk hj]at hu;injection hu with hu;rw[h4 j hj,<-hu];rfl
theorem NL.take{w:World}{a:Option Addr}{n cap m:Nat}{f:Nat->Nat}(h:NL w (.slice a n cap) n f)(hm:m<=n){c:Nat}(hc:m<=c)(aA:c<=cap):NL w (.slice a m c) m f:=by
 obtain⟨a',cap',e,h1,h2,h3⟩:=h.open;injection e with e1 e2 e3;subst e1 e3;exact NL.mk hc (Nat.le_trans aA h2) fun hn=>by
  obtain⟨b,o,rfl,h4⟩:=h3 ac;exact⟨b,o,rfl,fun j hj=>h4 j ac⟩
theorem Gu(w:World)(n:Nat)(f:Nat->Nat)(v:Value)(hv:NL w v n f)(aA:∀k,k<n->f k<BJ):
  Calls Tryz.prog 87 #[v] w fun r w'=>(∃u m,r= .returned u/\m<=n/\JJ m f/\vS f m=vS f n/\NL w u m f)/\w'=w:=by
 obtain⟨a,cap,rfl,s1,s2,s3⟩:=hv.open;obtain⟨HV,S3,aC,HCM⟩:=Eq hv s3 aA s2;unfold maxLen at s2;clear hv s3 aA;go_enter Tryz.func87,Tryz.ntmps87
 go_wp2_with fail
 go_loopw [3] (fun m' wr=>∃m:Nat,m'= .int .i64 m/\wr=w/\Hia (Nw f n m)) (fun m' _=>(intOf m').toNat)
 case atStart=>exact⟨n,rfl,rfl,⟨Nat.le_refl _,rfl⟩⟩
 case round=>
  obtain⟨m,rfl,rfl,hs⟩:=hrel;have aB:=hs.o.le
  cases m with
  | zero=>
   have HC:=Aa (hs.o.fin aC.o (fun m h=>by cases h));go_wp2_with fail
   go_ret;exact⟨⟨_,0,rfl,Nat.zero_le _,HC.o,hs.o.val,HV.o.take (Nat.zero_le _) (Nat.le_refl _) (Nat.zero_le _)⟩,rfl⟩
  | succ k=>
   have i1:(0:Int)<=(k:Int):=ac;have i2:(k:Int)<(n:Int):=ac;obtain⟨b,o,rfl,hc⟩:=S3.o ac;have c1:=hc k ac;have hw1:((k+1:Nat):Int)-1=(k:Int):=bf;by_cases h0:f k=0
   .have HS:=Aa (hs.o.step h0);rw[h0]at c1;clear hc h0;go_wp2_with fail
    go_roundw
    case rel=>exact⟨k,by go_num,trivial,HS⟩
    case measure=>simp[intOf]
   .have HC:=Aa (hs.o.fin aC.o (fun m h=>by injection h with h;subst h;exact h0));have hb:((f k:Int)==0)=false:=by simpa using h0
    clear hc h0;go_wp2_with fail
    go_ret;exact⟨⟨_,k+1,rfl,aB,HC.o,hs.o.val,HV.o.take aB (Nat.le_refl _) ac⟩,rfl⟩
theorem NL.cells{w:World}{v:Value}{n:Nat}{f:Nat->Nat}(h:NL w v n f):∀u∈vs n (uv f),u.oneCell'=true:=fun u hu=>by
 unfold vs uv at hu;obtain⟨j,_,rfl⟩:=List.mem_map.1 hu;rfl
theorem QV(w:World)(n:Nat)(f:Nat->Nat)(v:Value)(hv:NL w v n f)(aC:∀k,k<n->f k<BJ)(hn:n<=100000):
  Calls Tryz.prog 96 #[v] w fun r w'=>(∃u,r= .returned u/\IW w' u (vS f n))/\Ex w w':=by
 obtain⟨a,cap,rfl,s1,s2,s3⟩:=hv.open;have HS:=Aa (Gu w n f _ hv aC);have HN:=Aa hn;clear hv s3 aC hn;go_enter Tryz.func96,Tryz.ntmps96
 go_wp2_with (first|(go_at_call 87;refine HS.o.mono ?_;rintro e w2⟨⟨u,m,rfl,hm,hc,aB,hu⟩,rfl⟩;obtain⟨ua,uc,rfl,_,_,_⟩:=hu.open;have HU:=Aa hu;have HM:=Aa hm;have HC:=Aa hc;have aE:=Aa aB;clear hu hm hc aB;have hm2:m<=100000:=Nat.le_trans HM.o HN.o)
                        | (at_builtin;refine Bl _ rfl _ _ 56 rfl w2.heap.size 91 (.int .u32 0) 1 4 Tryz.underlying56 Tk rfl ae (.slice none 0 0) 0 [] rfl (World.ownsRow_nil _ _ _ _) (.slice ua m uc) m _ rfl HU.o HU.o.cells ai ac ag ?_;intro v' w' aA hg hb;obtain⟨oa,oc,rfl⟩:=Ae aA;have HO:=Aa aA;have aD:=Aa (Below.grown (Below.refl _ _) hg (Nat.le_refl _) (fun k hk=>by cases hk));clear aA hg hb))
 go_ret;exact⟨⟨_,rfl,m,f,HC.o,aE.o,by have:=Sl.own HO.o;rw[Nat.zero_add,List.nil_append]at this;exact this⟩,aD.o⟩
theorem XL:BJ=4294967296:=rfl
theorem Z7(S:Nat):(S:Int)%4294967296=((S%BJ:Nat):Int):=by rw[XL];omega
theorem Z8(S:Nat):(S:Int)/4294967296=((S/BJ:Nat):Int):=by rw[XL];omega
def fl2(x:Nat):Nat->Nat:=fun k=>if k=0 then x%BJ else x/BJ
theorem ZP(x:Nat):vS (fl2 x) 2=x:=by
 show 0+x%BJ*1+x/BJ*BJ^1=x
 have:=Nat.div_add_mod x BJ;rw[Nat.pow_one,Nat.mul_comm (x/BJ)];omega
theorem fl2_lt{x:Nat}(hx:x<18446744073709551616):∀k,k<2->fl2 x k<BJ:=fun k hk=>by
 unfold fl2;split
 .exact Nat.mod_lt _ IN
 .unfold BJ;omega
theorem fl2_nl(w:World)(x:Nat)(t:TypeId):NL (w.alloc (.cells #[.int .u32 ((x:Int)%4294967296),.int .u32 ((x:Int)/4294967296)] t)) (.slice (some (w.heap.size,0)) 2 2) 2 (fl2 x):=
 NL.mk (Nat.le_refl _) ai fun _=>⟨_,0,rfl,fun j hj=>by
  match j,hj with
  | 0,_=>simp[fl2,BJ]
  | 1,_=>simp[fl2,BJ]⟩
theorem XW(w:World)(x:Nat)(hx:x<18446744073709551616):
  Calls Tryz.prog 42 #[.int .u64 x] w fun r w'=>(∃u,r= .returned u/\IW w' u x)/\Ex w w':=by
 have HT:=Aa (QV (w.alloc (.cells #[.int .u32 ((x:Int)%4294967296),.int .u32 ((x:Int)/4294967296)] 91)) 2 (fl2 x) _ (fl2_nl w x _) (fl2_lt hx) ac);have EA:=Aa ((Ex.refl w).alloc (.cells #[.int .u32 ((x:Int)%4294967296),.int .u32 ((x:Int)/4294967296)] 91));rw[ZP]at HT;go_enter Tryz.func42,Tryz.ntmps42
 go_wp2_with (go_at_call 96;refine HT.o.mono ?_;rintro e w2⟨⟨u,rfl,hu⟩,hx⟩;obtain⟨n,f,_,_,aA⟩:=id hu;obtain⟨ua,uc,rfl,_,_,_⟩:=aA.open;have HU:=Aa hu;have HX:=Aa hx;clear hu aA hx)
 go_ret;exact⟨⟨_,rfl,HU.o⟩,EA.o.trans HX.o⟩
theorem bt{P:Prop}(h:P:=by rw[IntKind.wrap_u64];omega):P:=h
theorem T7(w:World)(n m:Nat)(a b:Nat->Nat)(u v:Value)(hu:NL w u n a)(hv:NL w v m b)(ha:∀k,k<n->a k<BJ)(hb:∀k,k<m->b k<BJ)(hn:n<=10000)(hm:m<=10000):
  Calls Tryz.prog 95 #[u,v] w fun r w'=>(∃u,r= .returned u/\IW w' u (vS a n*vS b m))/\Ex w w':=by
 obtain⟨ua,uc,rfl,s1,s2,s3⟩:=hu.open;obtain⟨va,vc,rfl,t1,t2,t3⟩:=hv.open;unfold maxLen at s2 t2;obtain⟨S3,T3,HA,HB⟩:=Eq s3 t3 ha hb;have hw0:wrap64 ((n:Int)+(m:Int))=((n+m:Nat):Int):=by rw[<-Int.natCast_add];exact w64 ac ac
 clear hu hv s3 t3 ha hb;go_enter Tryz.func95,Tryz.ntmps95
 go_wp2_with (at_make;refine Au _ rfl _ _ 56 rfl 91 (.int .u32 0) 4 Tryz.underlying56 Tk rfl _ (n+m) rfl rfl (by first|rfl|omega) ac ai ?_)
 intro w3 aF aP;obtain⟨g,hg⟩:=nA w.heap.size;have aZ:=Aa (show AH w3 w.heap.size 91 g (n+m) (uv fun _=>0) from by rw[<-hg];exact aF);have aY:=Aa aP;have HGG:=Aa hg
 try simp only[hg]
 clear aF aP hg;go_wp2_with fail
 go_loopw [20] (fun i' wr=>∃(i:Nat) (f:Nat->Nat),i<=n/\i'= .int .i64 i/\Hia (AH wr w.heap.size 91 g (n+m) (uv f))/\Hia (Ss (n+m) i m a b f)/\Hia (Ex w wr)) (fun i' _=>n-(intOf i').toNat)
 case atStart=>exact⟨0,_,ac,rfl,aZ,Aa (Ss.start _ _ _ _),aY⟩
 case round=>
  clear aZ aY;obtain⟨i,f,hi,rfl,ho,aH,aB⟩:=hrel;by_cases hin:i<n
  .obtain⟨sb,so,rfl,aR⟩:=S3.o ac;have c1:=aB.o.cell (aR i hin);have i1:(0:Int)<=(i:Int):=by omega
   have i2:(i:Int)<(n:Int):=ac;have aO:=Aa (HA.o i hin);obtain⟨A,hA⟩:=nA (a i);rw[hA]at c1;have bI:=Aa hA;clear hA aR;go_wp2_with fail
   go_loopw [8,27] (fun c' j' wr=>∃(c j:Nat) (f:Nat->Nat),j<=m/\c'= .int .u64 c/\j'= .int .i64 j/\Hia (AH wr w.heap.size 91 g (n+m) (uv f))/\Hia (Sr (n+m) i m a b f c j)/\Hia (Ex w wr)) (fun _ j' _=>m-(intOf j').toNat)
   case atStart=>exact⟨0,0,f,ac,rfl,rfl,ho,Aa aH.o.inner,aB⟩
   case round=>
    clear c1 ho aH aB;obtain⟨c,j,f,hj,rfl,rfl,ho,aC,aB⟩:=hrel;by_cases hjm:j<m
    .obtain⟨tb,tp,rfl,aQ⟩:=T3.o ac;have c2:=aB.o.cell (aQ j hjm);have aK:i+j<n+m:=by omega
     have c3:=ho.o.cell aK;have bC:=ho.o.frz (i+j);have i3:(0:Int)<=(j:Int):=ac;have i4:(j:Int)<(m:Int):=ac;have i5:(0:Int)<=(i:Int)+(j:Int):=Int.add_nonneg i1 i3;have i6:(i:Int)+(j:Int)<(n:Int)+(m:Int):=Int.add_lt_add i2 i4;have aA:=Aa (aC.o.step hjm ac aO.o (HB.o j hjm));have aG:=M8 aO.o (HB.o j hjm) (aC.o.lt (i+j) aK) aC.o.cl;have aE:=fun y:Nat=>ho.o.set (i+j) (.int .u32 (y:Int));have aX:=fun y:Nat=>ho.o.exSet (Nat.le_refl _) aB.o (i+j) (.int .u32 (y:Int));simp only[Vo]at aE;have aU:a i<4294967296:=aO.o;have aT:b j<4294967296:=HB.o j hjm;have aS:f (i+j)<4294967296:=aC.o.lt (i+j) aK;have aI:c<4294967296:=aC.o.cl;have aD:a i*b j+f (i+j)+c<18446744073709551616:=aG;clear aG;unfold uv at c3;rw[bI.o]at aA aD aU;obtain⟨B,hB⟩:=nA (b j);obtain⟨F,hF⟩:=nA (f (i+j));rw[hB]at aA aD c2 aT;simp only[hF]at c3;rw[hF]at aA aD aS;obtain⟨P,hP⟩:=nA (A*B);rw[hP]at aA aD;obtain⟨T,hT⟩:=nA (P+F);rw[hT]at aA aD;obtain⟨S,hS⟩:=nA (T+c);rw[hS]at aA aD;have e1:IntKind.u64.wrap ((A:Int)*(B:Int))=(P:Int):=by rw[<-Int.natCast_mul,hP,IntKind.wrap_u64];omega
     have e2:IntKind.u64.wrap ((P:Int)+(F:Int))=(T:Int):=bt;have e3:IntKind.u64.wrap ((T:Int)+(c:Int))=(S:Int):=bt;have e7:IntKind.u64.wrap (A:Int)=(A:Int):=bt;have e8:IntKind.u64.wrap (B:Int)=(B:Int):=bt;have e9:IntKind.u64.wrap (F:Int)=(F:Int):=bt;have e5:(S:Int)%4294967296=((S%BJ:Nat):Int):=Z7 S;have e6:(S:Int)/4294967296=((S/BJ:Nat):Int):=Z8 S;obtain⟨r,hr⟩:=nA (S%BJ);obtain⟨k,hk⟩:=nA (S/BJ);rw[hr]at e5 aA;rw[hk]at e6 aA;have aM:=Aa (aE r);have aN:=Aa (aX r);clear aE aX aQ hP hT hS hB hF hr hk aD aU aT aS aI;go_wp2_with fail
     clear e1 e2 e3 e5 e6 e7 e8 e9;go_roundw
     case rel=>exact⟨k,j+1,_,ac,rfl,by go_num,aM,aA,aN⟩
     case measure=>simp[intOf];omega
    .obtain rfl:j=m:=by omega
     have bH:=Aa (aC.o.fin ac);have bB:i+j<n+j:=bf;have c3:=ho.o.cell bB;have bC:=ho.o.frz (i+j);have aE:=ho.o.set (i+j) (.int .u32 (c:Int));have aN:=Aa (ho.o.exSet (Nat.le_refl _) aB.o (i+j) (.int .u32 (c:Int)));rw[Vo]at aE;have aM:=Aa aE;have k5:(0:Int)<=(i:Int)+(j:Int):=Int.add_nonneg i1 (Int.natCast_nonneg j);have k6:(i:Int)+(j:Int)<(n:Int)+(j:Int):=Int.add_lt_add_right i2 _;have hc:c<4294967296:=aC.o.cl;have bA:=Aa (show(c:Int)%4294967296=(c:Int) from ac);have e2:=bA.o;unfold uv at c3;clear hc aE;go_wp2_with fail
     clear e2;go_roundw
     case rel=>exact⟨i+1,_,ac,by go_num,aM,bH,aN⟩
     case measure=>simp[intOf];omega
  .obtain rfl:i=n:=by omega
   have aL:=Gu wr (i+m) f _ (show NL wr (.slice (some ⟨g,0,none⟩) (i+m) (i+m)) (i+m) f from ho.o.sl) aH.o.lt;rw[aH.o.val]at aL;have bD:=Aa aL;clear aL;go_wp2_with (go_at_call 87;refine bD.o.mono ?_;rintro e w5⟨⟨u,k,rfl,hk1,aW,aV,aJ⟩,rfl⟩;obtain⟨oa,oc,rfl,_,_,_⟩:=aJ.open;have bG:=Aa aW;have bF:=Aa aV;have bE:=Aa aJ;clear aW aV aJ)
   go_ret;exact⟨⟨_,rfl,k,f,bG.o,bF.o,bE.o⟩,aB.o⟩
def Dp(x:Nat):Prop:=x<BJ^200
theorem Dp.len{x n:Nat}{f:Nat->Nat}(h:Dp x)(hc:JJ n f)(hv:vS f n=x):n<=1000:=Nat.le_trans (hc.len (by rw[hv];exact h)) ac
theorem GW{x:Nat}(h:x<18446744073709551616):Dp x:=by
 have h1:(18446744073709551616:Nat)=BJ^2:=ae;have h2:BJ^2<=BJ^200:=Nat.pow_le_pow_right IN ac;unfold Dp;omega
theorem XH:JJ 1 fun _=>1:=⟨fun _ _=>ae,fun _ _=>ac⟩
theorem vS_one:vS (fun _=>1) 1=1:=ae
def NMl(w:World)(v:Value)(xs:List Nat):Prop:=∃vals:List Value,Sl w v xs.length 1 vals/\∀(i x:Nat) (u:Value),xs[i]?=some x->vals[i]?=some u->IW w u x
theorem NMl.open{w:World}{v:Value}{xs:List Nat}(h:NMl w v xs):∃a cap,v= .slice a xs.length cap/\xs.length<=cap/\cap<=maxLen/\
  (0<xs.length->∃b o,a=some ⟨b,o,none⟩/\∀(i x:Nat),xs[i]?=some x->∃u,w.cell? ⟨b,o+i,none⟩=some u/\IW w u x):=by
 obtain⟨vals,⟨h1,a,cap,h2,h3,h4,h5⟩,h6⟩:=h;refine⟨a,cap,h2,h3,h4,fun hn=>?_⟩;obtain⟨b,o,h7,h8⟩:=h5 hn;refine⟨b,o,h7,fun i x hx=>?_⟩;have hi:=(List.getElem?_eq_some_iff.1 hx).1;have hu:vals[i]?=some vals[i]:=List.getElem?_eq_getElem ac;exact⟨_,h8 i _ hu,h6 i x _ hx hu⟩
def JR:List Nat->Nat:=fun xs=>xs.foldl (·* ·) 1
theorem KY{xs:List Nat}{k x:Nat}(h:xs[k]?=some x):JR (xs.take (k+1))=JR (xs.take k)*x:=by
 unfold JR;rw[List.take_add_one,h,List.foldl_append];rfl
theorem Wj(w:World)(xs:List Nat)(v:Value)(hv:NMl w v xs)(aM:∀x∈xs,Dp x)(hp:∀k,k<=xs.length->Dp (JR (xs.take k))):
  Calls Tryz.prog 41 #[v] w fun r w'=>(∃u,r= .returned u/\IW w' u (JR xs))/\Ex w w':=by
 obtain⟨a,cap,rfl,s1,s2,s3⟩:=hv.open;unfold maxLen at s2;have S3:=Aa s3;have aT:=Aa aM;have HP:=Aa hp;clear hv s3 aM hp;have ea:=(Ex.refl w).alloc (.cells #[.int .u32 1] 91);have q0:(w.alloc (.cells #[.int .u32 1] 91)).cell? (w.heap.size,0)=some (.int .u32 1):=ag;have H1:=Aa (show IW (w.alloc (.cells #[.int .u32 1] 91)) (.slice (some ⟨w.heap.size,0,none⟩) 1 1) 1 from⟨1,_,XH,vS_one,NL.mk (Nat.le_refl _) ai fun _=>⟨_,0,rfl,fun j hj=>by
  obtain rfl:j=0:=ac;exact q0⟩⟩)
 have EA:=Aa ea;clear ea q0;go_enter Tryz.func41,Tryz.ntmps41
 go_wp2_with fail
 go_loopw [3,9] (fun p' k' wr=>∃(k:Nat),k<=xs.length/\k'= .int .i64 k/\Hia (IW wr p' (JR (xs.take k)))/\Hia (Ex w wr)) (fun _ k' _=>xs.length-(intOf k').toNat)
 case atStart=>exact⟨0,ac,rfl,H1,EA⟩
 case round=>
  clear H1 EA;obtain⟨k,hk,rfl,hn,aF⟩:=hrel;have aV:=Aa (HP.o k hk);obtain⟨n,f,aE,aD,aC⟩:=hn.o;have hn1:=aV.o.len aE aD;obtain⟨pa,pc,rfl,_,_,_⟩:=aC.open;by_cases hkn:k<xs.length
  .obtain⟨x,hx⟩:∃x,xs[k]?=some x:=⟨_,List.getElem?_eq_getElem hkn⟩;obtain⟨b,o,rfl,hc⟩:=S3.o ac;obtain⟨u,hu,aR⟩:=hc k x hx;have c1:=aF.o.cell hu;obtain⟨m,g,aJ,aI,aH⟩:=aR;have hm1:=(aT.o x (List.mem_of_getElem? hx)).len aJ aI;have i1:(0:Int)<=(k:Int):=by omega
   have i2:(k:Int)<(xs.length:Int):=ac;obtain⟨aW,aU,aX,aZ,aY⟩:=Of (Gu _ m g u (aH.ex aF.o) aJ.lt) (fun u' m' (aN:m'<=m) (aS:JJ m' g) (h:NL _ u' m' g)=>T7 _ n m' f g _ _ aC h aE.lt aS.lt ac ac) (KY hx) aD aI;obtain⟨ya,yc,rfl,_,_,_⟩:=aH.open;clear hc hu hx aE aD aC aJ aI aH;go_wp2_with (first|(go_at_call 87;refine aW.o.mono ?_;rintro e w5⟨⟨u,m',rfl,aN,aP,aO,aG⟩,rfl⟩;obtain⟨oa,oc,rfl,_,_,_⟩:=aG.open;have aQ:=Aa (aU.o _ m' aN aP aG);rw[aZ.o,aO,aY.o]at aQ;clear aP aO aG)|(go_at_call 95;refine aQ.o.mono ?_;rintro e w6⟨⟨u6,rfl,aA⟩,aB⟩;obtain⟨_,_,_,_,h6⟩:=id aA;obtain⟨oa,oc,rfl,_,_,_⟩:=h6.open;have aL:=Aa aA;have aK:=Aa (aF.o.trans aB);clear aA h6 aB))
   go_roundw
   case rel=>exact⟨k+1,ac,by go_num,by rw[aX.o];exact aL,aK⟩
   case measure=>simp[intOf];omega
  .obtain rfl:k=xs.length:=by omega
   have hT:=QV wr n f _ aC aE.lt ac;rw[aD,List.take_length]at hT;have HT:=Aa hT;clear hT aE aD aC;go_wp2_with (go_at_call 96;refine HT.o.mono ?_;rintro e w6⟨⟨u6,rfl,aA⟩,aB⟩;obtain⟨_,_,_,_,h6⟩:=id aA;obtain⟨oa,oc,rfl,_,_,_⟩:=h6.open;have aL:=Aa aA;have aK:=Aa (aF.o.trans aB);clear aA h6 aB)
   go_ret;exact⟨⟨_,rfl,aL.o⟩,aK.o⟩
theorem zcF{P:Prop}(h:P:=by
 go_enter Tryz.func110,Tryz.ntmps110
 exact zdm):P:=h
theorem P4(w:World)(n i:Nat)(f:Nat->Nat)(v:Value)(hv:NL w v n f)(aA:∀k,k<n->f k<BJ)(hi:i<=10000):
  Calls Tryz.prog 110 #[v,i] w fun r w'=>r= .returned (.int .u64 ((if i<n then f i else 0:Nat):Int))/\w'=w:=by
 obtain⟨a,cap,rfl,s1,s2,s3⟩:=hv.open;have S3:=Aa s3;unfold maxLen at s2;clear hv s3;by_cases hin:i<n
 .obtain⟨b,o,rfl,hc⟩:=S3.o ac;have c1:=hc i hin;rw[if_pos hin];have hb:f i<4294967296:=aA i hin;have e1:IntKind.u64.wrap (f i:Int)=(f i:Int):=by rw[IntKind.wrap_u64];omega
  have i1:(0:Int)<=(i:Int):=ac;have i2:(i:Int)<(n:Int):=ac;clear hc aA hb;exact zcF
 .rw[if_neg hin];have i2:¬(i:Int)<(n:Int):=by omega
  clear aA;exact zcF
def P6(n:Nat)(f:Nat->Nat)(i:Nat):Nat:=if i<n then f i else 0
theorem Wy{n m:Nat}(f:Nat->Nat)(h:n<=m):vS (P6 n f) m=vS f n:=by
 rw[NI h fun k h1 _=>by unfold P6;rw[if_neg ac]];exact Ig fun k hk=>by unfold P6;rw[if_pos hk]
theorem VV(w:World)(x y:Nat)(u v:Value)(hu:IW w u x)(hv:IW w v y)(hx:Dp x)(hy:Dp y):
  Calls Tryz.prog 50 #[u,v] w fun r w'=>(∃z:Int,r= .returned (.int .i64 z)/\(z=0↔x=y))/\w'=w:=by
 obtain⟨n,f,aE,aD,aI⟩:=hu;obtain⟨m,g,aC,aB,aH⟩:=hv;have hn:=hx.len aE aD;have hm:=hy.len aC aB;have aP:=Aa (fun i (hi:i<=10000)=>P4 w n i f u aI aE.lt hi);have aO:=Aa (fun i (hi:i<=10000)=>P4 w m i g v aH aC.lt hi);have aQ:=Aa (show(∀i,P6 n f i=P6 m g i)->x=y from fun h=>by
  rw[<-aD,<-aB,<-Wy f (Nat.le_max_left n m),<-Wy g (Nat.le_max_right n m)];exact Ig fun k _=>h k)
 have aN:=Aa (show ∀i,P6 n f i≠P6 m g i->¬x=y from fun i h e=>by
  obtain⟨h1,h2⟩:=aE.uniq aC (by rw[aD,aB,e]);subst h1;refine h ?_;unfold P6;split
  .exact h2 i ac
  .rfl)
 obtain⟨ua,uc,rfl,_,_,_⟩:=aI.open;obtain⟨va,vc,rfl,_,_,_⟩:=aH.open;clear aE aD aI aC aB aH hx hy;have aR:=Aa (show(∀i,i<n∨i<m->P6 n f i=P6 m g i)->x=y from fun h=>aQ.o fun i=>by
  by_cases hi:i<n∨i<m
  .exact h i hi
  .unfold P6;rw[if_neg ac,if_neg ac])
 go_enter Tryz.func50,Tryz.ntmps50
 go_wp2_with fail
 all_goals
  go_loopw [5] (fun i' wr=>∃i:Nat,i<=1000/\i'= .int .i64 ((i:Int)-1)/\wr=w/\Hia (∀k,i<=k->k<n∨k<m->P6 n f k=P6 m g k)) (fun i' _=>((intOf i')+1).toNat)
  case atStart=>first|exact⟨n,ac,rfl,rfl,Aa (fun k h1 h2=>ac)⟩|exact⟨m,ac,rfl,rfl,Aa (fun k h1 h2=>ac)⟩|exact⟨max n m,ac,congrArg (Value.int .i64) (ac),rfl,Aa (fun k h1 h2=>ac)⟩
  case round=>
   obtain⟨i,hi,rfl,rfl,aA⟩:=hrel
   cases i with
   | zero=>
    have HE:=Aa (aR.o fun k hk=>aA.o k (Nat.zero_le _) hk);go_wp2_with fail
    go_ret;exact⟨⟨0,rfl,fun _=>HE.o,fun _=>rfl⟩,rfl⟩
   | succ k=>
    have aK:((k+1:Nat):Int)-1=(k:Int):=ac;rw[aK];have i1:(0:Int)<=(k:Int):=ac;have L1:=Aa (aP.o k ac);have L2:=Aa (aO.o k ac);have aJ:=Aa (aN.o k);obtain⟨p,hp⟩:=nA ((if k<n then f k else 0));obtain⟨q,hq⟩:=nA ((if k<m then g k else 0));rw[hp]at L1;rw[hq]at L2;have aG:P6 n f k=p:=hp;have aF:P6 m g k=q:=hq;rw[aG,aF]at aJ;have aL:=Aa (show p=q->∀j,k<=j->j<n∨j<m->P6 n f j=P6 m g j from fun e j h1 h2=>by
     by_cases e2:j=k
     .subst e2;rw[aG,aF,e]
     .exact aA.o j ac h2)
    clear hp hq aG aF aA;rcases Nat.lt_trichotomy p q with h|h|h
    .have HN:=Aa (aJ.o ac);have h1:(p:Int)<(q:Int):=by omega
     go_wp2_with (go_at_call 110;first|(with_reducible refine L1.o.mono ?_;rintro e w2⟨rfl,rfl⟩)|(with_reducible refine L2.o.mono ?_;rintro e w2⟨rfl,rfl⟩))
     go_ret;exact⟨⟨-1,rfl,fun h=>ac,fun h=>absurd h HN.o⟩,rfl⟩
    .subst h;have aM:=Aa (aL.o rfl);have h1:¬(p:Int)<(p:Int):=by omega
     go_wp2_with (go_at_call 110;first|(with_reducible refine L1.o.mono ?_;rintro e w2⟨rfl,rfl⟩)|(with_reducible refine L2.o.mono ?_;rintro e w2⟨rfl,rfl⟩))
     go_roundw
     case rel=>exact⟨k,ac,by go_num,trivial,aM⟩
     case measure=>simp[intOf]
    .have HN:=Aa (aJ.o ac);have h1:¬(p:Int)<(q:Int):=by omega
     have h2:(q:Int)<(p:Int):=ac;go_wp2_with (go_at_call 110;first|(with_reducible refine L1.o.mono ?_;rintro e w2⟨rfl,rfl⟩)|(with_reducible refine L2.o.mono ?_;rintro e w2⟨rfl,rfl⟩))
     go_ret;exact⟨⟨1,rfl,fun h=>ac,fun h=>absurd h HN.o⟩,rfl⟩
def TY(n:Nat)(f g:Nat->Nat):Prop:=∃i,i<n/\(∀j,j<i->f j=g j)/\f i<g i
theorem TY.le{n:Nat}{f g:Nat->Nat}(h:TY n f g):E3 n f g:= .inr h
theorem Lw{n:Nat}{f g:Nat->Nat}:∀m,m<=n->(∀i,i<m->f i=g i)∨∃i,i<m/\(∀j,j<i->f j=g j)/\f i≠g i
 | 0,_=> .inl fun i h=>by omega
 | m+1,h=>by
  rcases Lw (n:=n) (f:=f) (g:=g) m (by omega) with h1|⟨i,h1,h2,h3⟩
  .by_cases e:f m=g m
   .exact .inl fun i hi=>by
     by_cases e2:i=m
     .subst e2;exact e
     .exact h1 i (by omega)
   .exact .inr ⟨m,by omega,h1,e⟩
  .exact .inr ⟨i,by omega,h2,h3⟩
theorem Wx{n:Nat}{f g:Nat->Nat}:Gz (li n f) (li n g)=true↔TY n f g:=by
 rcases Lw (n:=n) (f:=f) (g:=g) n (Nat.le_refl _) with h1|⟨i,h1,h2,h3⟩
 .have e:li n f=li n g:=Ww h1;rw[e,Le fun j _=>rfl];constructor
  .intro h;cases h
  .rintro⟨i,hi,_,h⟩;have:=h1 i hi;omega
 .rw[M9 (i:=i) (Dl h1 f) (Dl h1 g) ac fun j hj=>by rw[Dl ac,Dl ac,h2 j hj],decide_eq_true_eq];constructor
  .intro h;exact⟨i,h1,h2,ac⟩
  .rintro⟨j,hj,j1,j2⟩;rcases Nat.lt_trichotomy i j with e|e|e
   .exact absurd (j1 i e) h3
   .subst e;omega
   .have:=h2 j e;omega
structure O4(n m:Nat)(S:List (Nat->Nat))(A:Nat->Nat->Nat):Prop where
 all:∀f,Gn S f↔∃i,i<m/\A i=f
 srt:∀a b,a<b->b<m->TY n (A a) (A b)
theorem O4.least{n m:Nat}{S:List (Nat->Nat)}{A:Nat->Nat->Nat}(h:O4 n m S A){b x i:Nat}(hi:i<m)(h1:A5 b (A i))(h2:A i b=x)(h3:∀j,j<i->¬(A5 b (A j)/\A j b=x)):EO n S b x (A i):=
 ⟨(h.all _).2 ⟨i,hi,rfl⟩,h1,h2,fun g hg hF aA=>by
  obtain⟨j,hj,rfl⟩:=(h.all g).1 hg;rcases Nat.lt_trichotomy i j with e|e|e
  .exact(h.srt i j e hj).le
  .subst e;exact .inl fun _ _=>rfl
  .exact absurd ⟨hF,aA⟩ (h3 j e)⟩
end Go.Proofs.YtehieobniamagaaGreat
