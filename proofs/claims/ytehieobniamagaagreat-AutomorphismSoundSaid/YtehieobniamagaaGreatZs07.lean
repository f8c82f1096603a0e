/- Walks of the field's Pow, Field, Sub, Order, of tower.prime and tower.Frobenius. -/
import Derived.Test.YtehieobniamagaaGreatZs06
namespace Go.Proofs.YtehieobniamagaaGreat
open Go.RowKit
set_option linter.all false
set_option maxRecDepth 100000
set_option maxHeartbeats 16000000
theorem Oh{p m:Nat}{low:Vc}(hp:2<=p)(hm:1<=m)(x i:Nat):∀e,BK p m low (BK p m low x i) e=BK p m low x (i*e)
 | 0=>rfl
 | e+1=>by
  show Ai p m low (BK p m low (BK p m low x i) e) (BK p m low x i)=_
  rw[Oh hp hm x i e,<-CO hp hm,Nat.mul_succ]
theorem WB{p m:Nat}{low:Vc}(hp:1<=p):∀e,1<=e->BK p m low 0 e=0
 | e+1,_=>by
  show Ai p m low _ 0=0
  rw[AU,BT hp]
section
variable {b p m x0:Nat} {ml:List Int}
theorem Pow_any(w:World)(hg:Bh w b p m ml x0)(x:Int)(e:Nat)(aI:1<=e)(he2:e<=1000):
  Calls Tryz.prog 162 #[.pointer (some (b,0)),x,e] w (Qt w (.tuple #[(BK p m (lw ml) (Ar (p^m) x) e:Nat),(0:Int)])):=by
 have aD:=Aa (Hy w hg x);have p2:=hg.sh.p2;have m1:=hg.sh.m1;have hq:=hg.sh.q;have aF:=Bz p2 m1;have c3:=hg.c3;obtain⟨ev,c4,he⟩:=hg.c4;obtain⟨lv,f,c5,hl,hf⟩:=hg.c5;obtain⟨ea,ec,rfl,e1,e2,e3⟩:=he.open;obtain⟨la,lc,rfl,l1,l2,l3⟩:=hl.open;rw[An]at *;obtain⟨eb,eo,rfl,e4⟩:=e3 ac;obtain⟨lb,lo,rfl,l4⟩:=l3 ac;have hz:Ar (p^m) x<p^m:=B9 ac x;clear e3 l3 he hl;unfold maxLen at e2 l2;generalize Ar (p^m) x=z at *;have he0:((e:Int)==0)=false:=aq;have heN:(e==0)=false:=aq;have hel:decide ((e:Int)<0)=false:=decide_eq_false ac;by_cases h0:z=0
 .subst h0;have HZ:=Aa (WB (m:=m) (low:=lw ml) (show 1<=p by omega) e aI);clear hg c3 c4 c5 hz hq aF hf e4 l4 e1 e2 l1 l2;go_enter Tryz.func162,Tryz.ntmps162
  go_wp2_with fail
  refine aD.o.mono ?_;rintro e w1⟨rfl,n0,rfl⟩;go_wp2_with fail
  go_ret2;rw[HZ.o];exact⟨rfl,_,rfl⟩
 .have z1:1<=z:=by omega
  have hzb:((z:Int)==0)=false:=aq;obtain⟨i,hi,aA⟩:=hg.gen.all p2 m1 z1 hz;have aG:=l4 z (f z) (AQ hz f);have aB:=hf i hi;rw[aA]at aB;rw[aB]at aG;obtain⟨d,hd⟩:=nA (e%(p^m-1));have hdq:d<p^m-1:=by rw[<-hd];exact Nat.mod_lt _ ac
  obtain⟨r,hr⟩:=nA ((i*d)%(p^m-1));have aE:r<p^m-1:=ee;have aH:=e4 r _ (AQ aE _);have aC:KX p m ml x0 r=((BK p m (lw ml) z e:Nat):Int):=by
   unfold KX;rw[<-aA,Oh p2 m1,<-hg.gen.mod p2 m1 (i*e),<-hr,<-hd,Nat.mul_mod,Nat.mod_mod,<-Nat.mul_mod]
  rw[aC]at aH;have T1:Hia ((e:Int).tmod (((p^m:Nat):Int)-1)=(d:Int)):=Aa (by
   rw[Int.tmod_eq_emod_of_nonneg ac,<-hd,Int.natCast_emod]
   congr 1
   omega)
  have T2:Hia (((d:Int)+(((p^m:Nat):Int)-1)).tmod (((p^m:Nat):Int)-1)=(d:Int)):=Aa (by
   rw[Int.tmod_eq_emod_of_nonneg ac,Int.add_emod_right];exact Int.emod_eq_of_lt ac ac)
  have T3:Hia (((i:Int)*d).tmod (((p^m:Nat):Int)-1)=(r:Int)):=Aa (by
   rw[Int.tmod_eq_emod_of_nonneg (by rw[<-Int.natCast_mul];omega),<-hr,Int.natCast_emod,Int.natCast_mul]
   congr 1
   omega)
  have HID:(i:Int)*(d:Int)<=256*256:=by
   have:=Nat.mul_le_mul (show i<=256 by omega) (show d<=256 by omega);rw[<-Int.natCast_mul];omega
  have HID0:0<=(i:Int)*(d:Int):=by rw[<-Int.natCast_mul];omega
  generalize BK p m (lw ml) z e=kz at *;generalize p^m=q at *;have C3:=Aa c3;have C4:=Aa c4;have C5:=Aa c5;clear hg hf e4 l4 aB aA hd hr aC h0 c3 c4 c5;go_enter Tryz.func162,Tryz.ntmps162
  go_wp2_with fail
  refine aD.o.mono ?_;rintro e w1⟨rfl,n0,rfl⟩;have c3:=C3.o;have c4:=C4.o;have c5:=C5.o;have i0:=T1.o;have i1:IntKind.i64.wrap ((d:Int)+((q:Int)-1))=(d:Int)+((q:Int)-1):=IntWalk.i64_in _ ac;have i2:IntKind.i64.wrap ((q:Int)-1)=(q:Int)-1:=IntWalk.i64_in _ ac;have i3:=T2.o;have i6:=T3.o;have i7:IntKind.i64.wrap ((i:Int)*(d:Int))=(i:Int)*(d:Int):=IntWalk.i64_in _ ac;have i4:¬q=1:=bf;have i5:¬((q:Int)-1=0):=ac;go_wp2_with fail
  go_quiet (fail)
  go_wp2_with fail
  go_ret2;exact⟨rfl,_,World.drewN_drewN _ _ _⟩
theorem Vd(w:World)(hg:Bh w b p m ml x0):
  Calls Tryz.prog 204 #[.pointer (some (b,0))] w fun r w'=>∃v,r= .returned (.agg #[p,m,v])/\Al w' v ml/\Ex w w':=by
 obtain⟨mv,aK,aF⟩:=hg.c2;have hln:ml.length<=8:=by
  have h1:=hg.sh.len;have h2:=hg.sh.m8;split at h1 <;> omega
 have ea:Ex w (w.alloc (.cells #[(0:Int),(0:Int),.slice none 0 0] 24)):=(Ex.refl _).alloc _;have q0:(w.alloc (.cells #[(0:Int),(0:Int),.slice none 0 0] 24)).cell? (w.heap.size,0)=some (.int .i64 0):=ag;have q1:(w.alloc (.cells #[(0:Int),(0:Int),.slice none 0 0] 24)).cell? (w.heap.size,1)=some (.int .i64 0):=ag;have q2:(w.alloc (.cells #[(0:Int),(0:Int),.slice none 0 0] 24)).cell? (w.heap.size,2)=some (.slice none 0 0):=ag;have aE:(w.alloc (.cells #[(0:Int),(0:Int),.slice none 0 0] 24)).frozen? (w.heap.size,0)=false:=ag;have aD:(w.alloc (.cells #[(0:Int),(0:Int),.slice none 0 0] 24)).frozen? (w.heap.size,1)=false:=ag;have aC:(w.alloc (.cells #[(0:Int),(0:Int),.slice none 0 0] 24)).frozen? (w.heap.size,2)=false:=ag;have aU:=Aa (aF.ex ea);have c0:=ea.cell hg.c0;have c1:=ea.cell hg.c1;have c2:=ea.cell aK;obtain⟨ma,mc,rfl,_,m2,_⟩:=aF.open;unfold maxLen at m2;clear aF aK hg;go_enter Tryz.func204,Tryz.ntmps204
 go_wp2_with fail
 obtain⟨q,hq⟩:=nA w.heap.size;rw[hq]at q0 q1 q2 aE aD aC
 try simp only[hq]
 have HQ:=Aa hq;clear hq;generalize w.alloc (.cells #[(0:Int),(0:Int),.slice none 0 0] 24)=W1 at *;obtain⟨aW,Q0,Q1,Q2,aT,aS,aR⟩:=OK ea q0 q1 q2 aE aD aC;have aO:=((Ex.refl W1).alloc (.cells #[] 3)).cell c0;have aN:=((Ex.refl W1).alloc (.cells #[] 3)).cell c1;have aM:=((Ex.refl W1).alloc (.cells #[] 3)).cell c2;clear q0 q1 q2 aE aD aC ea
 go_region_law ((refine Co bp _ _ _ bp W1.heap.size 3 (.int .i64 0) 1 8 Tryz.underlying22 AC rfl ae _ 0 [] bp (Aj (Bw W1 _) (by repeat (first|exact Ex.refl _|apply Ex.drew))) _ ml.length (Ao ml) bp (aU.o.ex (by repeat (first|exact Ex.refl _|apply Ex.drew|apply Ex.alloc))) (by intro u hu;obtain⟨z,_,rfl⟩:=List.mem_map.1 hu;rfl) ai ac ag ?_;intro v8 w8 aA aJ aQ;obtain⟨va,aB,aP⟩:=Ae aA;subst aP;have E8:=Aa (Ex.grown (((Ex.refl W1).alloc (.cells #[] 3)).drew) (Aj (Bw W1 3) (Ex.refl _).drew) (Nat.le_refl _) aJ);have y0:=E8.o.cell c0;have y1:=E8.o.cell c1;have y2:=E8.o.cell c2;have q0:=E8.o.cell Q0.o;have q1:=E8.o.cell Q1.o;have q2:=E8.o.cell Q2.o;have aE:=E8.o.frz Q0.o aT.o;have aD:=E8.o.frz Q1.o aS.o;have aC:=E8.o.frz Q2.o aR.o;have aL:=Aa aA;clear aA aJ aQ))
 all_goals
  have aV:=Aa (show Al w8 (.slice va ml.length aB) ml from by have:=Ki aL.o;rwa[Nat.zero_add]at this);have aI:∀B,(Value.slice va ml.length aB).ownBlock=some B->B≠q:=fun B h e=>by
   have h1:=(aL.o.lt B dn).1;have h2:q<W1.heap.size:=World.block_lt_of_cell? _ _ Q0.o;omega
  have aH:=Aa aI;have aG:=Aa (show w.heap.size<=q from Nat.le_of_eq HQ.o);clear aI c0 c1 c2 aO aN aM y0 y1 y2;go_wp2_with fail
  exact bodyPost_ret (v:= .agg #[p,m,.slice va ml.length aB]) (by simp[results,Tryz.results204,go_sem,q0,q1,q2]) rfl ⟨_,rfl,Sl.other (Sl.other (Sl.other aV.o (fun B h=>aH.o B h) _) (fun B h=>aH.o B h) _) (fun B h=>aH.o B h) _,(((aW.o.trans E8.o).setCell (p:=(q,0)) aG.o _).setCell (p:=(q,1)) aG.o _).setCell (p:=(q,2)) aG.o _⟩
end
def pI(piv:List Nat):List Int:=piv.map fun (x:Nat)=>(x:Int)
theorem RI(piv:List Nat):(pI piv).length=piv.length:=by unfold pI;simp
theorem N5{w w':World}{base:Nat}{e:TypeId}{size:Nat}{v:Value}{n:Nat}{xs:List Value}(h:w.ownsRow base e size v n xs)(hk:∀b,v.ownBlock=some b->w'.heap[b]?=w.heap[b]?):w'.ownsRow base e size v n xs:=by
 refine⟨h.1,?_⟩;rcases h.2 with h1|⟨g,cap,cur,rfl,hb,hg,h3⟩
 .exact .inl h1
 .exact .inr ⟨g,cap,cur,rfl,hb,by rw[hk g rfl];exact hg,h3⟩
def AV(pv:Value)(B4 B5 B7:Nat):List Nat:=pv.ownBlock.toList ++ [B4,B5,B7]
structure EB(w0 w:World)(base g R N:Nat)(blk cap:Nat->Nat)(a:Nat->Nat->Int)(avs:List Nat)(B4 B5 B7 b:Nat)(pv:Value)(piv:List Nat):Prop where
 em:EM w base g R N blk cap a avs
 i4:B4∈avs
 i5:B5∈avs
 i7:B7∈avs
 c4:w.cell? (B4,0)=some (.pointer (some (b,0)))
 c5:w.cell? (B5,0)=some (.slice (some (g,0)) R R)
 c7:w.cell? (B7,0)=some (.slice none 0 0)
 pvo:w.ownsRow base 3 1 pv piv.length (Ao (pI piv))
 pvi:∀B,pv.ownBlock=some B->B∈avs/\B≠B4/\B≠B5/\B≠B7
 ex:Ex w0 w
 bs:w0.heap.size<=base
section
variable {w0 w:World} {base g R N:Nat} {blk cap:Nat->Nat} {a:Nat->Nat->Int} {avs:List Nat} {B4 B5 B7 b:Nat} {pv:Value} {piv:List Nat}
theorem EB.later(h:EB w0 w base g R N blk cap a avs B4 B5 B7 b pv piv){w':World}(hx:Ex w w'):EB w0 w' base g R N blk cap a avs B4 B5 B7 b pv piv:=
 ⟨h.em.ex hx,h.i4,h.i5,h.i7,hx.cell h.c4,hx.cell h.c5,hx.cell h.c7,Aj h.pvo hx,h.pvi,h.ex.trans hx,h.bs⟩
theorem EB.box(h:EB w0 w base g R N blk cap a avs B4 B5 B7 b pv piv)(o:Obj):EB w0 (w.alloc o) base g R N blk cap a (w.heap.size :: avs) B4 B5 B7 b pv piv:=by
 have h1:=h.later ((Ex.refl w).alloc o);exact⟨h.em.box o,List.mem_cons_of_mem _ h.i4,List.mem_cons_of_mem _ h.i5,List.mem_cons_of_mem _ h.i7,h1.c4,h1.c5,h1.c7,h1.pvo,fun B hB=>by obtain⟨k1,k2⟩:=h.pvi B hB;exact⟨List.mem_cons_of_mem _ k1,k2⟩,h1.ex,h1.bs⟩
theorem EB.less(h:EB w0 w base g R N blk cap a avs B4 B5 B7 b pv piv){bvs:List Nat}(hs:∀B∈bvs,B∈avs)(h4:B4∈bvs)(h5:B5∈bvs)(h7:B7∈bvs)(hp:∀B,pv.ownBlock=some B->B∈bvs):EB w0 w base g R N blk cap a bvs B4 B5 B7 b pv piv:=
 ⟨h.em.less hs,h4,h5,h7,h.c4,h.c5,h.c7,h.pvo,fun B hB=>⟨hp B hB,(h.pvi B hB).2⟩,h.ex,h.bs⟩
theorem a9{P:Prop}(h:P:=by unfold AV;simp):P:=h
theorem EB.toAV(h:EB w0 w base g R N blk cap a avs B4 B5 B7 b pv piv):EB w0 w base g R N blk cap a (AV pv B4 B5 B7) B4 B5 B7 b pv piv:=by
 refine h.less (fun B hB=>?_) a9 a9 a9 (fun B hB=>by unfold AV;rw[hB];simp);unfold AV at hB;rcases List.mem_append.1 hB with hB|hB
 .have:pv.ownBlock=some B:=by
   cases e:pv.ownBlock with
   | none=>rw[e]at hB;simp at hB
   | some C=>rw[e]at hB;simp at hB;rw[hB]
  exact(h.pvi B this).1
 .simp at hB;rcases hB with rfl|rfl|rfl
  .exact h.i4
  .exact h.i5
  .exact h.i7
theorem EB.step(h:EB w0 w base g R N blk cap a avs B4 B5 B7 b pv piv){a':Nat->Nat->Int}{r:Ending}{w':World}(hs:Stp w base g R N a' avs r w'):∃aB aA,EB w0 w' base g R N aB aA a' avs B4 B5 B7 b pv piv:=by
 obtain⟨_,⟨aB,aA,he⟩,hk,hx⟩:=hs;exact⟨aB,aA,he,h.i4,h.i5,h.i7,hk.cell h.i4 h.c4,hk.cell h.i5 h.c5,hk.cell h.i7 h.c7,N5 h.pvo fun B hB=>hk B (h.pvi B hB).1,h.pvi,hx w0 h.ex h.bs,h.bs⟩
theorem EB.setB(h:EB w0 w base g R N blk cap a avs B4 B5 B7 b pv piv){B:Nat}(hB:B∈avs)(h4:B≠B4)(h5:B≠B5)(h7:B≠B7)(hp:pv.ownBlock≠some B)(hw:w0.heap.size<=B)(u:Value):EB w0 (w.setCell (B,0) u) base g R N blk cap a avs B4 B5 B7 b pv piv:=
 ⟨h.em.setBox hB u,h.i4,h.i5,h.i7,by rw[Ah h4];exact h.c4,by rw[Ah h5];exact h.c5,by rw[Ah h7];exact h.c7,Ac h.pvo hp u,h.pvi,h.ex.setCell (p:=(B,0)) hw u,h.bs⟩
theorem EB.app(h:EB w0 w base g R N blk cap a avs B4 B5 B7 b pv piv){c:Nat}{w':World}{pv':Value}(ha:Bv w w' base 3 1 pv pv' piv.length (Ao (pI piv)) [.int .i64 c]):EB w0 w' base g R N blk cap a (AV pv' B4 B5 B7) B4 B5 B7 b pv' (piv ++ [c]):=by
 have hne:∀B∈avs,(∀C,pv.ownBlock=some C->C≠B)->some B≠pv.ownBlock:=fun B _ hn e=>hn B e.symm rfl;have n4:some B4≠pv.ownBlock:=fun e=>(h.pvi B4 e.symm).2.1 rfl;have n5:some B5≠pv.ownBlock:=fun e=>(h.pvi B5 e.symm).2.2.1 rfl;have n7:some B7≠pv.ownBlock:=fun e=>(h.pvi B7 e.symm).2.2.2 rfl;have ng:pv.ownBlock≠some g:=fun e=>(h.em.av g (h.pvi g e).1).2.1 rfl;have nb:∀i,i<R->pv.ownBlock≠some (blk i):=fun i hi e=>(h.em.av _ (h.pvi _ e).1).2.2 i hi rfl;have hsz:=ha.grow;have l4:=(h.em.av B4 h.i4);have l5:=(h.em.av B5 h.i5);have l7:=(h.em.av B7 h.i7);have aA:∀B,pv'.ownBlock=some B->(pv.ownBlock=some B)∨B=w.heap.size+1:=fun B hB=>by
  rcases ha.at_ with k|k
  .exact .inl (by rw[<-k];exact hB)
  .rw[k]at hB;injection hB with hB;exact .inr hB.symm
 have aB:∀i,i<R->A9 w' base 3 (blk i) N (cap i) (iv (a i)):=fun i hi=>(ha.row (h.em.row i hi) (.inr (fun e=>nb i hi e.symm))).1;have aD:AH w' base 22 g R (Ej blk cap N):=(ha.arr h.em.arr ng).1;refine⟨⟨aD,aB,h.em.apart,h.em.off,fun B hB=>?_⟩,by unfold AV;simp,by unfold AV;simp,by unfold AV;simp,ha.cell h.c4 n4,ha.cell h.c5 n5,ha.cell h.c7 n7,?_,fun B hB=>⟨by unfold AV;rw[hB];simp,?_⟩,ha.ex h.ex h.bs,h.bs⟩
 .unfold AV at hB;rcases List.mem_append.1 hB with hB|hB
  .have aC:pv'.ownBlock=some B:=by
    cases e:pv'.ownBlock with
    | none=>rw[e]at hB;simp at hB
    | some C=>rw[e]at hB;simp at hB;rw[hB]
   refine⟨(ha.own.lt B aC).2,?_,fun i hi=>?_⟩
   .rcases aA B aC with k|k
    .exact(h.em.av B (h.pvi B k).1).2.1
    .have:=h.em.arr.lt.2;omega
   .rcases aA B aC with k|k
    .exact(h.em.av B (h.pvi B k).1).2.2 i hi
    .have:=(h.em.row i hi).lt.2;omega
  .simp at hB;rcases hB with rfl|rfl|rfl
   .exact⟨ac,l4.2⟩
   .exact⟨ac,l5.2⟩
   .exact⟨ac,l7.2⟩
 .have:=ha.own;rw[List.length_append,List.length_singleton];have e:Ao (pI (piv ++ [c]))=Ao (pI piv) ++ [.int .i64 c]:=by simp[pI,Ao]
  rw[e];exact this
 .rcases aA B hB with k|k
  .exact(h.pvi B k).2
  .omega
end
def H7(p m:Nat)(ml:List Int)(N R:Nat)(a a':Nat->Nat->Int)(piv:List Nat):Prop:=
 ∃c,c<=N/\PV p m R N a' piv c/\(piv.length=R∨c=N)/\∀x,BY p m ml N R a' x↔BY p m ml N R a x
theorem zbm{P:Prop}(h:P:=by
 go_wp2_with fail
 go_roundw
 case rel=>first|exact⟨i+1,aK,aJ,a4,by omega,by go_num,aC,bO,aN,aG,aH,aM⟩|((repeat apply Exists.intro);exact⟨⟨i+1,aK,aJ,a4,by omega,by go_num,aC,bO,aN,aG,aH,aM⟩,rfl⟩)
 case measure=>simp[intOf];omega):P:=h
theorem zcj{P:Prop}(h:P:=by
 go_wp2_with fail
 go_ret2;exact⟨piv,_,_,_,_,_,rfl,eB.o,HE.o,dY.o,dR.o,dW.o⟩):P:=h
theorem Xl{p m:Nat}{ml:List Int}{b x0:Nat}(w0 w:World)(hg:Bh w0 b p m ml x0)(dJ:1<=x0)(dI:x0<p^m)(aZ:Ex w0 w){base g R N:Nat}{blk cap:Nat->Nat}{a:Nat->Nat->Int}(h:EM w base g R N blk cap a [])(hb:w0.heap.size<=base)(hN:N<=256)(hR:R<=256)(cK:QZ p m R N a):
  Calls Tryz.prog 203 #[.pointer (some (b,0)),.slice (some (g,0)) R R,N,.slice none 0 0] w fun r w'=>∃piv pv bH bV bT a',r= .returned (.tuple #[pv,bH])/\EM w' base g R N bV bT a' []/\H7 p m ml N R a a' piv/\Al w' pv (pI piv)/\Ex w0 w'/\∀B,pv.ownBlock=some B->base<=B:=by
 have p2:=hg.sh.p2;have m1:=hg.sh.m1;have HG:=Aa hg;have HF:=Aa (hg.isF dJ dI);have eS:=Aa (show 1<=x0/\x0<p^m from⟨dJ,dI⟩);obtain⟨B4,cF⟩:=nA w.heap.size;have h1:=(h.box (.cells #[.pointer (some (b,0))] 97)).box (.cells #[.slice (some (g,0)) R R] 37);have h2:=h1.box (.cells #[.slice none 0 0] 37);have e4:((w.alloc (.cells #[.pointer (some (b,0))] 97)).alloc (.cells #[.slice (some (g,0)) R R] 37)).heap.size=B4+1+1:=by simp[cF]
 have e5:(w.alloc (.cells #[.pointer (some (b,0))] 97)).heap.size=B4+1:=by simp[cF]
 rw[e4,e5,cF]at h2;have eX:Hia (EB w0 (((w.alloc (.cells #[.pointer (some (b,0))] 97)).alloc (.cells #[.slice (some (g,0)) R R] 37)).alloc (.cells #[.slice none 0 0] 37)) base g R N blk cap a (AV (.slice none 0 0) B4 (B4+1) (B4+1+1)) B4 (B4+1) (B4+1+1) b (.slice none 0 0) []):=by
  refine Aa ⟨h2.less fun B hB=>?_,by unfold AV;simp,by unfold AV;simp,by unfold AV;simp,?_,?_,?_,World.ownsRow_nil _ _ _ _,fun B hB=>(by cases hB),((aZ.alloc _).alloc _).alloc _,hb⟩
  .unfold AV at hB;simp[Value.ownBlock]at hB;rcases hB with rfl|rfl|rfl <;> simp
  .rw[World.cell?_alloc_lt _ _ _ (by rw[e4];show B4<_;omega),World.cell?_alloc_lt _ _ _ (by rw[e5];show B4<_;omega)];exact A6 _ _ _ cF
  .rw[World.cell?_alloc_lt _ _ _ (by rw[e4];show B4+1<_;omega)];exact A6 _ _ _ e5
  .exact A6 _ _ _ e4
 have fN:=Aa cK;have eD:=Aa (show w0.heap.size<=B4 from by have:=aZ.size;omega);clear h1 h2 h cK hg dJ dI hb aZ;go_enter Tryz.func203,Tryz.ntmps203
 go_wp2_with fail
 try simp only[cF,e5,e4]
 generalize (((w.alloc (.cells #[.pointer (some (b,0))] 97)).alloc (.cells #[.slice (some (g,0)) R R] 37)).alloc (.cells #[.slice none 0 0] 37))=w3 at *;have eN:=Aa (show PV p m R N a [] 0 from PV.init fN.o);have eL:=Aa (show ∀x,BY p m ml N R a x↔BY p m ml N R a x from fun x=>Iff.rfl);clear e4 e5 cF
 go_loopw [10,12,13] (fun d' pv c' wr=>∃(c:Nat) (piv:List Nat) (bH:Int) (bV bT:Nat->Nat) (a':Nat->Nat->Int),c<=N/\c'= .int .i64 c/\d'= .int .i64 bH/\Hia (EB w0 wr base g R N bV bT a' (AV pv B4 (B4+1) (B4+1+1)) B4 (B4+1) (B4+1+1) b pv piv)/\Hia (PV p m R N a' piv c)/\Hia (∀x,BY p m ml N R a' x↔BY p m ml N R a x)) (fun _ _ c' _=>N-(intOf c').toNat)
 case atStart=>exact⟨0, [],1,blk,cap,a,ac,rfl,rfl,eX,eN,eL⟩
 case round=>
  clear eX eN eL;obtain⟨c,piv,bH,bD,bC,a1,hc,rfl,rfl,aA,dA,aT⟩:=hrel;obtain⟨pa,pc,dL⟩:=Ae aA.o.pvo;subst dL;have c5:=aA.o.c5;have hple:=dA.o.le;have cZ:=Aa (show(piv.length=R∨c=N)->H7 p m ml N R a a1 piv from fun h=>⟨c,hc,dA.o,h,aT.o⟩);have eB:=Aa (aA.o.em.less (bvs:= []) (fun B hB=>by cases hB));have dY:=Aa (show Al wr (.slice pa piv.length pc) (pI piv) from by
   have:=Sl.own aA.o.pvo;unfold Al;rw[RI];exact this)
  by_cases hcN:c<N
  .have b1:decide ((c:Int)<(N:Int))=true:=by simp;omega
   have b2:decide (c<N)=true:=aq;have b2':(c:Int)<(N:Int):=ac;by_cases hpR:piv.length<R
   .have b3:decide ((piv.length:Int)<(R:Int))=true:=by simp;omega
    have b4:decide (piv.length<R)=true:=aq;clear cZ eB dY;obtain⟨s,hs⟩:=nA piv.length;have HS:=Aa hs;rw[hs]at hpR b3 b4 aA ⊢;clear hs;obtain⟨Q,hQ⟩:=nA wr.heap.size;have cP:(wr.alloc (.cells #[s] 3)).heap.size=Q+1:=by simp[hQ]
    have bB:=aA.o.box (.cells #[s] 3);have aU:=bB.box (.cells #[s] 3);rw[cP,hQ]at aU;have aC:((wr.alloc (.cells #[s] 3)).alloc (.cells #[s] 3)).cell? (Q,0)=some (.int .i64 s):=by
     rw[World.cell?_alloc_lt _ _ _ (by rw[cP];show Q<_;omega)];exact A6 _ _ _ hQ
    have bU:((wr.alloc (.cells #[s] 3)).alloc (.cells #[s] 3)).cell? (Q+1,0)=some (.int .i64 s):=A6 _ _ _ cP;have cG:((wr.alloc (.cells #[s] 3)).alloc (.cells #[s] 3)).frozen? (Q+1,0)=false:=F6 _ _ _ cP;have fK:B4+1+1<Q:=by
     have:=(aA.o.em.av _ aA.o.i7).1;omega
    have eM:∀B,(Value.slice pa s pc).ownBlock=some B->B<Q:=fun B hB=>by
     have:=(aA.o.em.av B (aA.o.pvi B hB).1).1;omega
    obtain⟨fP,aL,cI,eZ,eY⟩:=Of eM aU aC bU cG;have dQ:(wr.alloc (.cells #[s] 3)).cell? (Q,0)=some (.int .i64 s):=A6 _ _ _ hQ;clear bB aU aA eM;go_upto_region 9 with fail
    clear aC bU cG dQ c5;generalize (wr.alloc (.cells #[s] 3)).alloc (.cells #[s] 3)=W2 at *;have dF:=Aa fK;have dV:=Aa dA.o;have eR:=Aa (show ∀k',s<=k'->k'<s->a1 k' c=0 from fun k' h1 h2=>ac);clear hQ cP dA
    go_loopg [] (R+1) (fun gk wr=>∃k:Nat,s<=k/\k<=R/\R+1-k<=gk/\wr.cell? (Q+1,0)=some (.int .i64 k)/\wr.frozen? (Q+1,0)=false/\wr.cell? (Q,0)=some (.int .i64 s)/\
     Hia (EB w0 wr base g R N bD bC a1 ((Q+1) :: Q :: AV (.slice pa s pc) B4 (B4+1) (B4+1+1)) B4 (B4+1) (B4+1+1) b (.slice pa s pc) piv)/\Hia (∀k',s<=k'->k'<k->a1 k' c=0))
    case atStart=>exact⟨s,Nat.le_refl _,ac,ac,eZ.o,eY.o,cI.o,aL,eR⟩
    case round=>
     clear aL eR cI eZ eY;obtain⟨k,fH,hk2,fI,bU,cG,aC,aA,cJ⟩:=hrel;have c5:=aA.o.c5;by_cases hkR:k<R
     .have cg:=aA.o.em.cell hkR;have ce:=aA.o.em.ent hkR hcN;have i1:(0:Int)<=(k:Int):=by omega
      have i2:(k:Int)<(R:Int):=ac;have i3:(0:Int)<=(c:Int):=ac;by_cases hz:a1 k c=0
      .have fJ:(a1 k c==0)=true:=by simp[hz]
       have cH:=Aa (aA.o.setB (B:=Q+1) ag (by have:=dF.o;omega) (by have:=dF.o;omega) (by have:=dF.o;omega) (fun e=>by have:=fP.o _ e;omega) (by have:=eD.o;have:=dF.o;omega) (.int .i64 ((k:Int)+1)));have cS:(wr.setCell (Q+1,0) (.int .i64 ((k:Int)+1))).cell? (Q+1,0)=some (.int .i64 ((k:Int)+1)):=World.cell?_setCell_same (h:=bU) ..;have aF:(wr.setCell (Q+1,0) (.int .i64 ((k:Int)+1))).cell? (Q,0)=some (.int .i64 s):=by rw[Ah ac];exact aC
       have cR:(wr.setCell (Q+1,0) (.int .i64 ((k:Int)+1))).frozen? (Q+1,0)=false:=by rw[World.frozen?_setCell];exact cG
       have fL:=Aa (show ∀k',s<=k'->k'<k+1->a1 k' c=0 from fun k' h1 h2=>by
        by_cases e:k'=k
        .rw[e];exact hz
        .exact cJ.o k' h1 ac)
       have eF:=Aa cS;have bF:=Aa aF;have eE:=Aa cR;clear hz aA cJ cS aF cR;go_wp2_with fail
       go_roundg (gk-1)
       case rel=>exact⟨k+1,ac,ac,ac,by rw[show((k+1:Nat):Int)=(k:Int)+1 by push_cast;rfl];exact eF.o,eE.o,bF.o,cH,fL⟩
       case measure=>omega
      .have fJ:(a1 k c==0)=false:=by simpa using hz
       have dK:((k:Int)==(R:Int))=false:=aq;have hq2:(k==R)=false:=aq;have bW:=Aa (show s<R/\s<=k/\k<R from⟨ac,fH,hkR⟩);have eV:=Aa hz;have eI:Q+1∈(Q+1) :: Q :: AV (.slice pa s pc) B4 (B4+1) (B4+1+1):=ag;have cN:Q∈(Q+1) :: Q :: AV (.slice pa s pc) B4 (B4+1) (B4+1+1):=ag;have fQ:=Aa eI;have cX:=Aa cN;clear hz cJ cG fI eI cN;go_upto_if 58 with fail
       clear cg ce
       go_cut [10] from 21 to 122 (fun d' wx=>∃(aV:Int) (aB aE:Nat->Nat) (a2:Nat->Nat->Int),d'= .int .i64 aV/\wx.cell? (Q,0)=some (.int .i64 s)/\
        Hia (EB w0 wx base g R N aB aE a2 ((Q+1) :: Q :: AV (.slice pa s pc) B4 (B4+1) (B4+1+1)) B4 (B4+1) (B4+1+1) b (.slice pa s pc) piv)/\Hia (PV p m R N a2 piv c)/\Hia (∀x,BY p m ml N R a2 x↔BY p m ml N R a x)/\Hia (a2 s c≠0))
       case first=>
        by_cases hks:k=s
        .have fE:((k:Int) !=(s:Int))=false:=by simp[hks]
         have fD:(k !=s)=false:=by simp[hks]
         have bY:=Aa (show a1 s c≠0 from by rw[<-hks];exact eV.o);clear hks;go_wp2_with fail
         go_meet
         exact⟨bH,bD,bC,a1,rfl,aC,aA,dV,aT,bY⟩
        .have fE:((k:Int) !=(s:Int))=true:=by simp;omega
         have fD:(k !=s)=true:=aq;obtain⟨HE,HN,dU,cU,bY,cI⟩:=To (Xn wr aA.o.em (B4+1) (B4+1+1) (Q+1) Q s k bW.o.1 bW.o.2.2 (fun e=>hks e.symm) aA.o.i7 fQ.o cX.o aA.o.c5 aA.o.c7 bU aC) (fun wx (h:Ex w0 wx)=>OY wx (HG.o.ex h) bH) (show PV p m R N (DE a1 s k) piv c from by have:=dV.o.swp (k:=k) (by rw[HS.o];exact bW.o.2.1) bW.o.2.2;rw[HS.o]at this;exact this) (show ∀x,BY p m ml N R (DE a1 s k) x↔BY p m ml N R a x from fun x=>(BY.swp bW.o.1 bW.o.2.2).trans (aT.o x)) (show DE a1 s k s c≠0 from by unfold DE;rw[if_pos rfl];exact eV.o) aC;clear hks aC bU;go_wp2_with (first|(go_at_call 248;refine HE.o.mono ?_;rintro e wx aD;obtain⟨⟨t,rfl⟩,_⟩:=id aD;obtain⟨aB,aE,aU⟩:=aA.o.step aD;have c4n:=aU.c4;have aF:=aD.2.2.1.cell cX.o cI.o;have aL:=Aa aU;clear aD aU)|(go_at_call 158;refine(HN.o _ aL.o.ex).mono ?_;rintro e wy⟨rfl,n,rfl⟩))
         go_meet
         exact⟨_,aB,aE,_,rfl,((Ex.refl wx).drewN n).cell aF,Aa (aL.o.later ((Ex.refl wx).drewN n)),dU,cU,bY⟩
       case rest=>
        obtain⟨aV,aB,aE,a2,rfl,aC,aA,bA,aS,cM⟩:=hcut;have aR:=bW.o.1;obtain⟨bE,bK,bL,bN,bM⟩:=Of aC (aA.o.em.cell aR) (aA.o.em.ent aR hcN) aA.o.c4 aA.o.c5;obtain⟨r1,r2⟩:=bA.o.rng s aR c hcN;have dH:=Fy r1 r2;obtain⟨Z,hZ⟩:=nA (Ar (p^m) (a2 s c));rw[hZ]at dH;have eK:1<=Z:=by have:=cM.o;omega
        have dO:Z<p^m:=by rw[<-hZ];exact B9 (Nat.pow_pos ac) _
        obtain⟨KI,dC⟩:∃K,Ed p m ml Z=K:=⟨_,rfl⟩;have bS:=Lg (ml:=ml) p2 m1 HF.o eK dO;have cQ:KI<p^m:=by rw[<-dC];exact Kg (Nat.pow_pos ac) _
        rw[dC]at bS;have cB:=Aa (show Ai p m (lw ml) Z KI=1/\KI<p^m/\a2 s c=Z/\Ar (p^m) (a2 s c)=Z/\Z<p^m from⟨bS,cQ,dH.symm,hZ,dO⟩);have aQ:=Aa (show ∀w',Ex w0 w'->Calls Tryz.prog 250 #[.pointer (some (b,0)),.int .i64 (a2 s c)] w' fun r w''=>r= .returned (.tuple #[(KI:Nat),(0:Int)])/\∃n,w''=w'.drewN n from fun w' h=>by
         have:=TZ w' (HG.o.ex h) eS.o.1 eS.o.2 (a2 s c);rw[hZ]at this;unfold RU at this;rw[if_neg ac,dC]at this;exact this)
        obtain⟨KD,eO⟩:∃K,Ai p m (lw ml) (Ar (p^m) aV) Z=K:=⟨_,rfl⟩;have cW:=Aa (show ∀w',Ex w0 w'->Calls Tryz.prog 106 #[.pointer (some (b,0)),aV,.int .i64 (a2 s c)] w' fun r w''=>r= .returned (.int .i64 (KD:Nat))/\∃n,w''=w'.drewN n from fun w' h=>by
         have:=Fa w' (HG.o.ex h) aV (a2 s c);rw[hZ,eO]at this;exact this)
        have i1:(0:Int)<=(s:Int):=ac;have i2:(s:Int)<(R:Int):=ac;have i3:(0:Int)<=(c:Int):=ac;clear hZ dC bS cQ eO r1 r2 dH eK dO aC bU c5;go_upto_region 15 with fail
        have E0:Ex wc wc.drew:=(Ex.refl wc).drew;have G0:Ex w0 wc.drew:=aA.o.ex.trans E0
        go_region_held3 (fun w'=>w'.cell? (B4,0)=some (.pointer (some (b,0)))/\w'.cell? (B4+1,0)=some (.slice (some (g,0)) R R)/\w'.cell? (Q,0)=some (.int .i64 s)/\w'.cell? (g,s)=some (.slice (some (aB s,0)) N (aE s))/\w'.cell? (aB s,c)=some (.int .i64 (a2 s c)))
         (first|with_reducible exact⟨E0.cell bN.o,E0.cell bM.o,E0.cell bE.o,E0.cell bK.o,E0.cell bL.o⟩|with_reducible exact⟨((Ex.refl wc).drewN _).cell bN.o,((Ex.refl wc).drewN _).cell bM.o,((Ex.refl wc).drewN _).cell bE.o,((Ex.refl wc).drewN _).cell bK.o,((Ex.refl wc).drewN _).cell bL.o⟩)
         ((go_at_call 106;(with_reducible refine(cW.o _ G0).mono ?_);rintro e wx1⟨rfl,n1,rfl⟩))
        clear E0 G0;go_upto_region 16 with fail
        have HD:=Aa (aA.o.later ((Ex.refl wc).drewN (1+n1)));have aY:=Aa (((Ex.refl wc).drewN (1+n1)).cell bE.o);clear bE bK bL bN bM aA cW;generalize wc.drewN (1+n1)=wd at *;obtain⟨bN,bM,bK,bL⟩:=Eq HD.o.c4 HD.o.c5 (HD.o.em.cell aR) (HD.o.em.ent aR hcN);have E0:Ex wd wd.drew:=(Ex.refl wd).drew;have G0:Ex w0 wd.drew:=HD.o.ex.trans E0;have eH:∀n,((wd.drewN n).alloc (.cells #[(0:Int)] 3)).cell? (wd.heap.size,0)=some (.int .i64 0):=fun n=>A6 _ _ _ rfl;have fG:∀n,((wd.drewN n).alloc (.cells #[(0:Int)] 3)).frozen? (wd.heap.size,0)=false:=fun n=>F6 _ _ _ rfl;have eG:(wd.alloc (.cells #[(0:Int)] 3)).cell? (wd.heap.size,0)=some (.int .i64 0):=A6 _ _ _ rfl;have fF:(wd.alloc (.cells #[(0:Int)] 3)).frozen? (wd.heap.size,0)=false:=F6 _ _ _ rfl;have cA:=Aa (show ∀(W:World) (u:Value),Ex wd W->(W.setCell (wd.heap.size,0) u).cell? (B4,0)=some (.pointer (some (b,0)))/\(W.setCell (wd.heap.size,0) u).cell? (B4+1,0)=some (.slice (some (g,0)) R R)/\(W.setCell (wd.heap.size,0) u).cell? (Q,0)=some (.int .i64 s)/\(W.setCell (wd.heap.size,0) u).cell? (g,s)=some (.slice (some (aB s,0)) N (aE s))/\(W.setCell (wd.heap.size,0) u).cell? (aB s,c)=some (.int .i64 (a2 s c)) from fun W u hW=>by
         have k1:=World.block_lt_of_cell? _ _ bN.o;have k2:=World.block_lt_of_cell? _ _ bM.o;have k3:=World.block_lt_of_cell? _ _ aY.o;have k4:=World.block_lt_of_cell? _ _ bK.o;have k5:=World.block_lt_of_cell? _ _ bL.o;dsimp only at k1 k2 k3 k4 k5;rw[Ah ac,Ah ac,Ah ac,Ah ac,Ah ac];exact⟨hW.cell bN.o,hW.cell bM.o,hW.cell aY.o,hW.cell bK.o,hW.cell bL.o⟩)
        have cC:=Aa (show ∀(W:World),Ex wd W->W.cell? (B4,0)=some (.pointer (some (b,0)))/\W.cell? (B4+1,0)=some (.slice (some (g,0)) R R)/\W.cell? (Q,0)=some (.int .i64 s)/\W.cell? (g,s)=some (.slice (some (aB s,0)) N (aE s))/\W.cell? (aB s,c)=some (.int .i64 (a2 s c)) from fun W hW=>⟨hW.cell bN.o,hW.cell bM.o,hW.cell aY.o,hW.cell bK.o,hW.cell bL.o⟩);have k7:=(HD.o.em.av _ HD.o.i7).1;have k4:=(HD.o.em.av _ HD.o.i4).1;have k5:=(HD.o.em.av _ HD.o.i5).1;have dZ:=Aa (show ∀n,EB w0 (((wd.drewN n).alloc (.cells #[(0:Int)] 3)).setCell (wd.heap.size,0) (.int .i64 (KI:Nat))) base g R N aB aE a2 (wd.heap.size :: (Q+1) :: Q :: AV (.slice pa s pc) B4 (B4+1) (B4+1+1)) B4 (B4+1) (B4+1+1) b (.slice pa s pc) piv from fun n=>by
         have h:=(HD.o.later ((Ex.refl wd).drewN n)).box (.cells #[(0:Int)] 3);exact h.setB (B:=wd.heap.size) (List.mem_cons_self ..) ac ac ac (fun e=>by have:=(HD.o.em.av _ (HD.o.pvi _ e).1).1;omega) (by have:=eD.o;omega) _)
        have eC:=Aa (show ∀n,(((wd.drewN n).alloc (.cells #[(0:Int)] 3)).setCell (wd.heap.size,0) (.int .i64 (KI:Nat))).cell? (wd.heap.size,0)=some (.int .i64 (KI:Nat)) from fun n=>World.cell?_setCell_same (h:=eH n) ..);have cD:=Aa (show ∀n,EB w0 (((wd.alloc (.cells #[(0:Int)] 3)).drewN n).setCell (wd.heap.size,0) (.int .i64 (KI:Nat))) base g R N aB aE a2 (wd.heap.size :: (Q+1) :: Q :: AV (.slice pa s pc) B4 (B4+1) (B4+1+1)) B4 (B4+1) (B4+1+1) b (.slice pa s pc) piv from fun n=>by
         have h:=(HD.o.box (.cells #[(0:Int)] 3)).later ((Ex.refl _).drewN n);exact h.setB (B:=wd.heap.size) (List.mem_cons_self ..) ac ac ac (fun e=>by have:=(HD.o.em.av _ (HD.o.pvi _ e).1).1;omega) (by have:=eD.o;omega) _)
        have cE:=Aa (show ∀n,(((wd.alloc (.cells #[(0:Int)] 3)).drewN n).setCell (wd.heap.size,0) (.int .i64 (KI:Nat))).cell? (wd.heap.size,0)=some (.int .i64 (KI:Nat)) from fun n=>World.cell?_setCell_same (h:=((Ex.refl _).drewN n).cell eG) ..);have fO:=Aa (show Q<wd.heap.size from World.block_lt_of_cell? _ _ aY.o);clear k4 k5 k7
        go_cut [16,17] from 21 to 122 (fun dG fA wx=>dG= .pointer (some (wd.heap.size,0))/\fA= .int .i64 0/\wx.cell? (Q,0)=some (.int .i64 s)/\wx.cell? (wd.heap.size,0)=some (.int .i64 (KI:Nat))/\
         Hia (EB w0 wx base g R N aB aE a2 (wd.heap.size :: (Q+1) :: Q :: AV (.slice pa s pc) B4 (B4+1) (B4+1+1)) B4 (B4+1) (B4+1+1) b (.slice pa s pc) piv))
        case first=>
         go_region_held3 (fun w'=>w'.cell? (B4,0)=some (.pointer (some (b,0)))/\w'.cell? (B4+1,0)=some (.slice (some (g,0)) R R)/\w'.cell? (Q,0)=some (.int .i64 s)/\w'.cell? (g,s)=some (.slice (some (aB s,0)) N (aE s))/\w'.cell? (aB s,c)=some (.int .i64 (a2 s c)))
          (first|with_reducible exact cC.o _ E0|with_reducible exact cC.o _ ((Ex.refl wd).drewN _)|with_reducible exact cC.o _ (((Ex.refl wd).drewN _).alloc _)|with_reducible exact cC.o _ ((Ex.refl wd).drew.alloc _)|with_reducible exact cC.o _ ((Ex.refl wd).alloc _).drew|with_reducible exact cC.o _ (((Ex.refl wd).alloc _).drewN _)|with_reducible exact cA.o _ _ (((Ex.refl wd).drewN _).alloc _)|with_reducible exact cA.o _ _ (((Ex.refl wd).alloc _).drewN _))
          ((go_at_call 250;(first|with_reducible refine(aQ.o _ G0).mono ?_|with_reducible refine(aQ.o _ (HD.o.ex.drewN _)).mono ?_|with_reducible refine(aQ.o _ ((HD.o.ex.alloc _).drew)).mono ?_|with_reducible refine(aQ.o _ ((HD.o.ex.drew).alloc _)).mono ?_|with_reducible refine(aQ.o _ ((HD.o.ex.alloc _).drewN _)).mono ?_);rintro e wx1⟨rfl,n2,rfl⟩))
         all_goals
          go_wp2_with fail
          go_meet
          first
                    | with_reducible exact⟨rfl,rfl,(cA.o _ _ (((Ex.refl wd).drewN _).alloc _)).2.2.1,eC.o _,Aa (dZ.o _)⟩
                    | with_reducible exact⟨rfl,rfl,(cA.o _ _ (((Ex.refl wd).alloc _).drewN _)).2.2.1,cE.o _,Aa (cD.o _)⟩
                    | exact⟨rfl,rfl,(cA.o _ _ (((Ex.refl wd).drewN _).alloc _)).2.2.1,eC.o _,Aa (dZ.o _)⟩
                    | exact⟨rfl,rfl,(cA.o _ _ (((Ex.refl wd).alloc _).drewN _)).2.2.1,cE.o _,Aa (cD.o _)⟩
        case rest=>
         obtain⟨rfl,rfl,aC,eQ,aA⟩:=hcut;clear cA cC dZ cD eC cE eH fG eG fF bK bL bN bM aY HD E0 G0 aQ;generalize wd.heap.size=Q2 at *;have cY:=Aa (show Q2∈Q2 :: (Q+1) :: Q :: AV (.slice pa s pc) B4 (B4+1) (B4+1+1) from List.mem_cons_self ..);have bZ:=Aa (show Q∈Q2 :: (Q+1) :: Q :: AV (.slice pa s pc) B4 (B4+1) (B4+1+1) from ag);go_upto_if 92 with fail
         go_cut [16] from 21 to 122 (fun dG wx=>∃(aX aW:Nat->Nat) (a3:Nat->Nat->Int),dG= .pointer (some (Q2,0))/\wx.cell? (Q,0)=some (.int .i64 s)/\
          Hia (EB w0 wx base g R N aX aW a3 (Q2 :: (Q+1) :: Q :: AV (.slice pa s pc) B4 (B4+1) (B4+1+1)) B4 (B4+1) (B4+1+1) b (.slice pa s pc) piv)/\Hia (PV p m R N a3 piv c)/\Hia (∀x,BY p m ml N R a3 x↔BY p m ml N R a x)/\Hia (a3 s c=1))
         case first=>
          by_cases hK1:KI=1
          .have fC:(((KI:Nat):Int) !=1)=false:=by simp[hK1]
           have bX:=Aa (show a2 s c=1 from by
            obtain⟨k1,k2,k3,k4,k5⟩:=cB.o;rw[hK1,BA p2 m1 k5]at k1;rw[k3,k1];rfl)
           clear hK1;go_wp2_with fail
           go_meet
           exact⟨aB,aE,a2,rfl,aC,aA,bA,aS,bX⟩
          .have fC:(((KI:Nat):Int) !=1)=true:=by simp;omega
           have HE:=Aa (Xo w0 wc HG.o aA.o.ex aA.o.em aA.o.bs ac (B4+1) (B4+1+1) B4 Q2 Q s (KI:Nat) aR aA.o.i7 aA.o.i4 cY.o bZ.o aA.o.c5 aA.o.c7 aA.o.c4 eQ aC);rw[Ay cB.o.2.1]at HE;have dT:=Aa (show PV p m R N (Az a2 s (BM p m ml KI (a2 s))) piv c from by have:=bA.o.scl (ml:=ml) ac (by rw[HS.o];exact aR) (k:=KI);rw[HS.o]at this;exact this);have cT:=Aa (show ∀x,BY p m ml N R (Az a2 s (BM p m ml KI (a2 s))) x↔BY p m ml N R a x from fun x=>(BY.scl p2 m1 HF.o aR (by
            have k1:=cB.o.1;by_cases e:KI=0
            .rw[e,AE ac]at k1;omega
            .omega) cB.o.2.1).trans (aS.o x))
           have bX:=Aa (show Az a2 s (BM p m ml KI (a2 s)) s c=1 from by
            rw[Ab];unfold BM;rw[cB.o.2.2.2.1,AU,cB.o.1];rfl)
           have cI:=Aa aC;clear hK1 aC eQ;go_wp2_with (go_at_call 248;refine HE.o.mono ?_;rintro e wx aD;obtain⟨⟨t,rfl⟩,_⟩:=id aD;obtain⟨aX,aW,dN⟩:=aA.o.step aD;have aF:=aD.2.2.1.cell bZ.o cI.o;have cH:=Aa dN;clear aD dN)
           go_meet
           exact⟨aX,aW,_,rfl,aF,cH,dT,cT,bX⟩
         case rest=>
          obtain⟨aX,aW,a3,rfl,aC,aA,cL,bG,aH⟩:=hcut;have dM:∀B,(Value.slice pa s pc).ownBlock=some B->B∈Q :: AV (.slice pa s pc) B4 (B4+1) (B4+1+1):=fun B hB=>by
           unfold AV;rw[hB];simp
          have HL:=Aa (aA.o.less (bvs:=Q :: AV (.slice pa s pc) B4 (B4+1) (B4+1+1)) (fun B hB=>List.mem_cons_of_mem _ (List.mem_cons_of_mem _ hB)) a9 a9 a9 dM);have c5:=aA.o.c5;have fR:=Aa dM;have aM:=Aa (show ∀i',i'<0->i'≠s->a3 i' c=0 from fun i' h=>ac);clear aA dM cM aS bA cB cY bZ fO;go_wp2_with fail
          clear c5
          go_loopw [98] (fun i' wr=>∃(i:Nat) (aK aJ:Nat->Nat) (a4:Nat->Nat->Int),i<=R/\i'= .int .i64 i/\wr.cell? (Q,0)=some (.int .i64 s)/\Hia (EB w0 wr base g R N aK aJ a4 (Q :: AV (.slice pa s pc) B4 (B4+1) (B4+1+1)) B4 (B4+1) (B4+1+1) b (.slice pa s pc) piv)/\Hia (PV p m R N a4 piv c)/\Hia (∀x,BY p m ml N R a4 x↔BY p m ml N R a x)/\Hia (a4 s c=1)/\Hia (∀i',i'<i->i'≠s->a4 i' c=0)) (fun i' _=>R-(intOf i').toNat)
          case atStart=>exact⟨0,aX,aW,a3,ac,rfl,aC,HL,cL,bG,aH,aM⟩
          case round=>
           clear HL cL bG aH aM aC;obtain⟨i,aK,aJ,a4,hi,rfl,aC,aA,aN,aG,aH,aI⟩:=hrel;by_cases hiR:i<R
           .obtain⟨P,hP⟩:=nA wr.heap.size;have dP:(wr.alloc (.cells #[i] 3)).heap.size=P+1:=by simp[hP]
            have bB:=aA.o.box (.cells #[i] 3);have aU:=bB.box (.cells #[.int .i64 (a4 i c)] 3);rw[dP,hP]at aU;rw[hP]at bB;have eA:Ex wr (wr.alloc (.cells #[i] 3)):=(Ex.refl wr).alloc _;have d5:=bB.c5;have eP:(wr.alloc (.cells #[i] 3)).cell? (P,0)=some (.int .i64 i):=A6 _ _ _ hP;have dg:=bB.em.cell hiR;have de:=bB.em.ent hiR hcN;have dE:((wr.alloc (.cells #[i] 3)).alloc (.cells #[.int .i64 (a4 i c)] 3)).cell? (P,0)=some (.int .i64 i):=((Ex.refl _).alloc _).cell eP;have dD:((wr.alloc (.cells #[i] 3)).alloc (.cells #[.int .i64 (a4 i c)] 3)).cell? (P+1,0)=some (.int .i64 (a4 i c)):=A6 _ _ _ dP;have aF:((wr.alloc (.cells #[i] 3)).alloc (.cells #[.int .i64 (a4 i c)] 3)).cell? (Q,0)=some (.int .i64 s):=(eA.alloc _).cell aC;obtain⟨aL,fT,fS,bF⟩:=Eq aU dE dD aF;have j1:(0:Int)<=(i:Int):=ac;have j2:(i:Int)<(R:Int):=ac;clear bB aU aA eA aC dE dD aF;go_upto_region 23 with fail
            clear d5 eP dg de;generalize (wr.alloc (.cells #[i] 3)).alloc (.cells #[.int .i64 (a4 i c)] 3)=W3 at *;clear hP dP;have aC:=bF.o;have dE:=fT.o;have dD:=fS.o;have dX:=Aa (show ∀(wy:World) (aP aO:Nat->Nat) (a5:Nat->Nat->Int),EB w0 wy base g R N aP aO a5 ((P+1) :: P :: Q :: AV (.slice pa s pc) B4 (B4+1) (B4+1+1)) B4 (B4+1) (B4+1+1) b (.slice pa s pc) piv->EB w0 wy base g R N aP aO a5 (Q :: AV (.slice pa s pc) B4 (B4+1) (B4+1+1)) B4 (B4+1) (B4+1+1) b (.slice pa s pc) piv from fun wy aP aO a5 h=>h.less (fun B hB=>List.mem_cons_of_mem _ (List.mem_cons_of_mem _ hB)) a9 a9 a9 fR.o);by_cases his:i=s
            .have b1:((i:Int) !=(s:Int))=false:=by simp[his]
             have b2:(i !=s)=false:=by simp[his]
             have aM:=Aa (show ∀i',i'<i+1->i'≠s->a4 i' c=0 from fun i' h bQ=>aI.o i' ac bQ);have bO:=Aa (dX.o _ _ _ _ aL.o);clear his aI;exact zbm
            .have b1:((i:Int) !=(s:Int))=true:=by simp;omega
             have b2:(i !=s)=true:=aq;by_cases aZ:a4 i c=0
             .have b3:(a4 i c !=0)=false:=by simp[aZ]
              have aM:=Aa (show ∀i',i'<i+1->i'≠s->a4 i' c=0 from fun i' h bQ=>by
               by_cases e:i'=i
               .rw[e];exact aZ
               .exact aI.o i' ac bQ)
              have bO:=Aa (dX.o _ _ _ _ aL.o);clear his aI aZ;exact zbm
             .have b3:(a4 i c !=0)=true:=by simpa using aZ
              have HE:=Aa (Xp w0 W3 HG.o aL.o.ex aL.o.em aL.o.bs ac (B4+1) (B4+1+1) B4 P (P+1) Q s i (a4 i c) aR hiR his aL.o.i7 aL.o.i4 ag ag ag aL.o.c5 aL.o.c7 aL.o.c4 dE dD aC);obtain⟨KN,dB⟩:∃K,CH p m (Ar (p^m) (a4 i c))=K:=⟨_,rfl⟩;have dK:1<p^m:=Bz p2 m1;have dS:=Aa (show BN p m ml (a4 i) KN (a4 s) c=0 from by
               unfold BN;have k1:Ar (p^m) 1=1:=Ay (q:=p^m) (x:=1) dK;rw[aH.o,if_neg ac,k1,BA p2 m1 (by rw[<-dB];exact Dh ac _),<-dB,CQ ac];rfl)
              rw[dB]at HE;have cV:=Aa (show PV p m R N (Az a4 i (BN p m ml (a4 i) KN (a4 s))) piv c from by have:=aN.o.add (ml:=ml) ac (by rw[HS.o];exact aR) hiR (by rw[HS.o];exact his) (k:=KN);rw[HS.o]at this;exact this);have bI:=Aa (show ∀x,BY p m ml N R (Az a4 i (BN p m ml (a4 i) KN (a4 s))) x↔BY p m ml N R a x from fun x=>(BY.add p2 aR hiR his).trans (aG.o x));have bJ:=Aa (show Az a4 i (BN p m ml (a4 i) KN (a4 s)) s c=1 from by rw[Ad _ _ (fun e=>his e.symm)];exact aH.o);have bP:=Aa (show ∀i',i'<i+1->i'≠s->Az a4 i (BN p m ml (a4 i) KN (a4 s)) i' c=0 from fun i' h bQ=>by
               by_cases e:i'=i
               .rw[e,Ab];exact dS.o
               .rw[Ad _ _ e];exact aI.o i' ac bQ)
              clear his aI aZ dB dK;go_wp2_with (go_at_call 248;refine HE.o.mono ?_;rintro e wx aD;obtain⟨⟨t,rfl⟩,_⟩:=id aD;obtain⟨aP,aO,eJ⟩:=aL.o.step aD;have aF:=aD.2.2.1.cell (show Q∈(P+1) :: P :: Q :: AV (.slice pa s pc) B4 (B4+1) (B4+1+1) by simp) bF.o;have bO:=Aa (dX.o _ _ _ _ eJ);clear aD eJ)
              go_roundw
              case rel=>first|exact⟨i+1,aP,aO,_,ac,by go_num,aF,bO,cV,bI,bJ,bP⟩|((repeat apply Exists.intro);exact⟨⟨i+1,aP,aO,_,ac,by go_num,aF,bO,cV,bI,bJ,bP⟩,rfl⟩)
              case measure=>simp[intOf];omega
           .obtain rfl:R=i:=by omega
            have eU:=Aa (show PV p m R N a4 (piv ++ [c]) (c+1) from aN.o.done (by rw[HS.o];exact aR) (by rw[HS.o];exact aH.o) fun i hi bQ=>aI.o i hi (by rw[<-HS.o];exact bQ));have fM:=Aa (show base<=wr.heap.size from by have:=aA.o.em.arr.lt;omega);have hp256:piv.length<=256:=by omega
            have hP:=Aa aA.o.pvo;clear aI aC;go_wp2_with (at_builtin;refine Am _ rfl _ _ 22 rfl base 3 (.int .i64 0) 1 8 Tryz.underlying22 AC rfl ae _ piv.length _ rfl hP.o [.int .i64 c] 3 _ rfl ag rfl aj ai ac fM.o ?_)
            intro v2 w2 bR;have eW:=Aa ((aA.o.less (bvs:=AV (.slice pa s pc) B4 (B4+1) (B4+1+1)) (fun B hB=>List.mem_cons_of_mem _ hB) a9 a9 a9 (fun B hB=>by unfold AV;rw[hB];simp)).app bR);obtain⟨va,vc,fB⟩:=Ae bR.own;subst fB;clear bR aA hP;go_wp2_with fail
            go_roundw
            case rel=>first|exact⟨c+1,piv ++ [c],_,aK,aJ,a4,ac,by go_num,rfl,eW,eU,aG⟩|((repeat apply Exists.intro);exact⟨⟨c+1,piv ++ [c],_,aK,aJ,a4,ac,by go_num,rfl,eW,eU,aG⟩,rfl⟩)
            case measure=>simp[intOf];omega
     .obtain rfl:R=k:=by omega
      have eT:=Aa (dV.o.none fun k' h1 h2=>cJ.o k' (by rw[<-HS.o];exact h1) h2);have cH:=Aa aA.o.toAV;have dN:decide ((R:Int)<(R:Int))=false:=by simp
      have hb4:((R:Int)==(R:Int))=true:=ag;clear aA cJ cG aC;go_wp2_with fail
      go_roundw
      case rel=>first|exact⟨c+1,piv,bH,bD,bC,a1,ac,by go_num,rfl,cH,eT,aT⟩|((repeat apply Exists.intro);exact⟨⟨c+1,piv,bH,bD,bC,a1,ac,by go_num,rfl,cH,eT,aT⟩,rfl⟩)
      case measure=>simp[intOf];omega
   .have cO:piv.length=R:=by omega
    have b3:decide ((piv.length:Int)<(R:Int))=false:=aq;have b4:decide (piv.length<R)=false:=aq;have HE:=Aa (cZ.o (.inl cO));have dR:=Aa aA.o.ex;have dW:=Aa (fun B e=>(aA.o.pvo.lt B e).1);clear cO cZ hpR aA;exact zcj
  .have cO:c=N:=by omega
   have b1:decide ((c:Int)<(N:Int))=false:=aq;have b2:decide (c<N)=false:=aq;have HE:=Aa (cZ.o (.inr cO));have dR:=Aa aA.o.ex;have dW:=Aa (fun B e=>(aA.o.pvo.lt B e).1);clear cO cZ aA;exact zcj
def Sg(p m:Nat)(ml:List Int)(v:List Int)(a:Int)(u:List Int)(k:Nat):Int:=
 if u.getD k 0=0 then v.getD k 0 else((AG p m (Ar (p^m) (v.getD k 0)) (Ar (p^m) ((Ai p m (lw ml) (Ar (p^m) a) (Ar (p^m) (u.getD k 0)):Nat):Int)):Nat):Int)
theorem zaG{P:Prop}(h:P:=by
 subst e;rw[Ab];show _=Value.int .i64 (if j<j+1 then Sg p m ml v a u j else 0);rw[if_pos (by omega),aB.o]):P:=h
theorem RC(p m:Nat)(ml:List Int)(mv:Value)(w:World)(hf:Ha p m ml)(aS:Al w mv ml)(v u:List Int)(vv uv:Value)(hv:Al w vv v)(hu:Al w uv u)(a:Int)(hl:v.length<=u.length)(hl1:v.length<=1000):
  Calls Tryz.prog 245 #[.agg #[p,m,mv],vv,a,uv] w fun r w'=>
   ∃g,r= .returned (.slice (some ⟨g,0,none⟩) v.length v.length)/\AH w' w.heap.size 3 g v.length (iv (Sg p m ml v a u))/\Ex w w':=by
 have HF:=Aa hf;have aU:=Aa aS;obtain⟨va,vc,rfl,v1,v2,v3⟩:=hv.open;obtain⟨ua,uc,rfl,u1,u2,u3⟩:=hu.open;have V3:=Aa v3;have U3:=Aa u3;unfold maxLen at v2 u2;clear hf aS hv hu v3 u3;obtain⟨f0,f1,f2,e0,aH⟩:=AA w p m mv;obtain⟨xb,aD⟩:=nA w.heap.size;have HXB:=Aa aD;rw[aD]at f0 f1 f2 aH ⊢;go_enter Tryz.func245,Tryz.ntmps245
 go_wp2_with (at_make;refine Au _ rfl _ _ 22 rfl 3 (.int .i64 0) 8 Tryz.underlying22 AC rfl _ v.length rfl rfl rfl ac ai ?_)
 intro w3 aA hx3
 try simp only[aD]at aA hx3 ⊢
 try simp only[aD]
 generalize w.alloc (.cells #[p,m,mv] 24)=wA at *
 try simp only[aH]at aA ⊢
 obtain⟨aT,HO,EX,E0,F0,F1,F2⟩:=OK aH (show AH w3 (xb+1) 3 (xb+1) v.length (iv fun j=>if j<0 then Sg p m ml v a u j else 0) from aA.icongr (fun j _=>ag)) hx3 e0 f0 f1 f2;clear aA hx3 e0 f0 f1 f2 aH aD;go_wp2_with fail
 go_loopw [10] (fun k' wr=>∃k:Nat,k<=v.length/\k'= .int .i64 k/\Hia (AH wr (xb+1) 3 (xb+1) v.length (iv fun j=>if j<k then Sg p m ml v a u j else 0))/\Hia (Ex wA wr)) (fun k' _=>v.length-(intOf k').toNat)
 case atStart=>exact⟨0,ac,rfl,HO,EX⟩
 case round=>
  clear HO EX;obtain⟨k,hk,rfl,aA,hx⟩:=hrel;by_cases hlt:k<v.length
  .obtain⟨y,hy⟩:∃y,v[k]?=some y:=⟨_,List.getElem?_eq_getElem hlt⟩;obtain⟨z,hz⟩:∃z,u[k]?=some z:=⟨_,List.getElem?_eq_getElem ac⟩;have aP:v.getD k 0=y:=by rw[List.getD_eq_getElem?_getD,hy];rfl
   have aO:u.getD k 0=z:=by rw[List.getD_eq_getElem?_getD,hz];rfl
   obtain⟨vb,vo,rfl,aQ⟩:=V3.o ac;obtain⟨ub,uo,rfl,aR⟩:=U3.o ac;have hku:k<u.length:=bf;have D0:=Aa (aQ k y hy);have D1:=Aa (aR k z hz);have aE:=Aa (fun (t:Int) (ht:t=Sg p m ml v a u k)=>(aA.o.set k (.int .i64 t)));have i1:(0:Int)<=(k:Int):=ac;have i2:(k:Int)<(v.length:Int):=ac;have i3:(k:Int)<(u.length:Int):=ac;have c1:=(E0.o.trans hx.o).cell D0.o;have c2:=aA.o.cell hlt;have c3:=aA.o.frz k;have aC:=Aa (aA.o.set k (.int .i64 y));have aI:=Aa (aA.o.exSet (a:=wA) (by have:=aT.o;omega) hx.o k (.int .i64 y));have c4:=(E0.o.trans aI.o).cell D1.o;have aB:=Aa (show Sg p m ml v a u k=if z=0 then y else((AG p m (Ar (p^m) y) (Ar (p^m) ((Ai p m (lw ml) (Ar (p^m) a) (Ar (p^m) z):Nat):Int)):Nat):Int) from by unfold Sg;rw[aP,aO]);clear aA hx aQ aR hy hz aP aO aE;by_cases hz0:z=0
   .have hb:(z !=0)=false:=by simp[hz0]
    rw[if_pos hz0]at aB;clear hz0;go_wp2_with fail
    go_roundw
    case rel=>exact⟨k+1,ac,by go_num,Aa (aC.o.congr fun j hj=>by
     by_cases e:j=k
     .exact zaG
     .rw[Ad _ _ e];show Value.int .i64 (if j<k then Sg p m ml v a u j else 0)=Value.int .i64 (if j<k+1 then Sg p m ml v a u j else 0)
      by_cases h:j<k
      .exact za7
      .rw[if_neg h,if_neg ac]),aI⟩
    case measure=>simp[intOf];omega
   .have hb:(z !=0)=true:=by simpa using hz0
    rw[if_neg hz0]at aB;clear hz0;go_wp2_with fail
    generalize wr.setCell (xb+1,k) (.int .i64 y)=W at *;obtain⟨K1,aM⟩:∃K,Ai p m (lw ml) (Ar (p^m) a) (Ar (p^m) z)=K:=⟨_,rfl⟩;have aF:Hia (∀w',Ex wA w'->Calls Tryz.prog 114 #[.agg #[p,m,mv],a,z] w' fun r w''=>r= .returned (.int .i64 (K1:Nat))/\Ex w' w''):=by
     rw[<-aM];exact Aa (fun w' h0=>KU w' HF.o (aU.o.ex (E0.o.trans h0)) a z)
    rw[aM]at aB;obtain⟨K2,aL⟩:∃K,AG p m (Ar (p^m) y) (Ar (p^m) (K1:Nat))=K:=⟨_,rfl⟩;have aG:Hia (∀w',Ex wA w'->Calls Tryz.prog 266 #[.agg #[p,m,mv],y,(K1:Nat)] w' fun r w''=>r= .returned (.int .i64 (K2:Nat))/\Ex w' w''):=by
     rw[<-aL];exact Aa (fun w' h0=>VW w' HF.o (aU.o.ex (E0.o.trans h0)) y (K1:Nat))
    rw[aL]at aB;clear aM aL;have cX:=aC.o.cell hlt;have fX:=aC.o.frz k;have D2:=Aa (E0.o.cell D0.o);have D3:=Aa (E0.o.cell D1.o);have X0:Ex W W.drew:=(Ex.refl W).drew;have G0:Ex wA W.drew:=aI.o.trans X0;clear c1 c2 c3 c4;rw[Ab]at cX;have HLEN:=Aa hl
    go_region_held3 (fun w'=>w'.cell? (xb,0)=some (.int .i64 p)/\w'.cell? (xb,1)=some (.int .i64 m)/\w'.cell? (xb,2)=some mv/\w'.cell? (vb,vo+k)=some (.int .i64 y)/\w'.cell? (ub,uo+k)=some (.int .i64 z))
     (first|with_reducible exact⟨G0.cell F0.o,G0.cell F1.o,G0.cell F2.o,G0.cell D2.o,G0.cell D3.o⟩|with_reducible exact⟨G1.cell F0.o,G1.cell F1.o,G1.cell F2.o,G1.cell D2.o,G1.cell D3.o⟩|with_reducible exact⟨G2.cell F0.o,G2.cell F1.o,G2.cell F2.o,G2.cell D2.o,G2.cell D3.o⟩|with_reducible exact⟨ES.cell F0.o,ES.cell F1.o,ES.cell F2.o,ES.cell D2.o,ES.cell D3.o⟩)
     ((first
            | (go_at_call 114;(with_reducible refine(aF.o _ G0).mono ?_);rintro e wx1⟨rfl,aK⟩;have X1:=X0.trans aK;have G1:=G0.trans aK)
            | (go_at_call 266;(with_reducible refine(aG.o _ G1).mono ?_);rintro e wx2⟨rfl,aJ⟩;have X2:=X1.trans aJ;have G2:=G1.trans aJ;have aW:=X2.cell cX;have aV:=X2.frz cX fX;have ES:=(aC.o.ex X2).exSet (by have:=aT.o;omega) G2 k (.int .i64 (K2:Nat)))))
    have aN:=Aa ((aC.o.ex X2).set k (.int .i64 (K2:Nat)));have aX:=Aa ES;clear cX fX aW aV ES G0 G1 G2 X0 X1 X2 aK aJ aF aG aC aI;go_wp2_with fail
    go_roundw
    case rel=>exact⟨k+1,ac,by go_num,Aa (aN.o.congr fun j hj=>by
     by_cases e:j=k
     .exact zaG
     .rw[Ad _ _ e,Ad _ _ e];show Value.int .i64 (if j<k then Sg p m ml v a u j else 0)=Value.int .i64 (if j<k+1 then Sg p m ml v a u j else 0)
      by_cases h:j<k
      .exact za7
      .rw[if_neg h,if_neg ac]),aX⟩
    case measure=>simp[intOf];omega
  .obtain rfl:k=v.length:=by omega
   have aN:=Aa (aA.o.icongr (h:=Sg p m ml v a u) fun j hj=>by rw[if_pos hj]);clear aA;go_wp2_with fail
   go_ret;exact⟨_,rfl,aN.o.mono ac,E0.o.trans hx.o⟩
theorem XM{p m:Nat}(hp:1<=p){ml:List Int}{N:Nat}{f g:Nat->Int}{a:Int}{j:Nat}(hj:j<N):Sg p m ml (il N f) a (il N g) j=BN p m ml f (Ar (p^m) a) g j:=by
 unfold Sg BN;have e1:(il N f).getD j 0=f j:=by rw[List.getD_eq_getElem?_getD,AQ hj];rfl
 have e2:(il N g).getD j 0=g j:=by rw[List.getD_eq_getElem?_getD,AQ hj];rfl
 rw[e1,e2];split
 .rfl
 .rw[Ay (AY hp _ _)]
theorem Ur(w:World)(rows:List (List Int))(v:Value)(hv:BZ w v rows)(hR:rows.length<=1000)(hN:∀r∈rows,r.length<=1000):
  Calls Tryz.prog 242 #[v] w fun r w'=>∃cv vals,r= .returned cv/\BD w' w.heap.size cv rows vals/\Ex w w':=by
 obtain⟨va,vc,rfl,v1,v2,v3⟩:=hv.open;unfold maxLen at v2;have V3:=Aa v3;have HN:=Aa hN;clear hv v3 hN;go_enter Tryz.func242,Tryz.ntmps242
 go_wp2_with fail
 go_loopw [3,4] (fun cv i' wr=>∃(i:Nat) (M:List (List Int)) (vals:List Value),i<=rows.length/\i'= .int .i64 i/\Hia (M=rows.take i)/\Hia (BD wr w.heap.size cv M vals)/\Hia (Ex w wr)) (fun _ i' _=>rows.length-(intOf i').toNat)
 case atStart=>exact⟨0, [], [],ac,rfl,Aa rfl,Aa (BD.nil _ _),Aa (Ex.refl _)⟩
 case round=>
  obtain⟨i,M,vals,hi,rfl,hM,hm,hx⟩:=hrel;obtain⟨ca,cc,aN⟩:=Ae hm.o.cvo;subst aN;have aL:=Aa (show M.length=i from by rw[hM.o];simp;omega);by_cases hlt:i<rows.length
  .obtain⟨zb,zo,rfl,aF⟩:=V3.o ac;obtain⟨uv,aG,aD⟩:=aF i _ (List.getElem?_eq_getElem hlt);have cu:=hx.o.cell aG;have hru:=HN.o _ (List.getElem_mem hlt);have aK:=Aa (show M ++ [rows[i]]=rows.take (i+1) from by rw[hM.o,List.take_add_one,List.getElem?_eq_getElem hlt];rfl);have i1:(0:Int)<=(i:Int):=by omega
   have i2:(i:Int)<(rows.length:Int):=ac;generalize rows[i]=r at *;have aQ:=Aa (aD.ex hx.o);obtain⟨ua,uc,rfl,-,u2,-⟩:=aD.open;unfold maxLen at u2;have HM:=Aa hm.o;have HX:=Aa hx.o;have aR:=Aa hx.o.size;have aP:=fun o=>((Ex.refl wr).alloc o).cell cu;have aS:=Aa (show ∀u∈Ao r,u.oneCell'=true from fun u hu=>by
    unfold Ao at hu;obtain⟨x,_,rfl⟩:=List.mem_map.1 hu;simp[Value.oneCell'])
   clear aF aG aD hm hx;go_wp2_with (first
        | (at_builtin;refine Bl _ rfl _ _ 22 rfl wr.heap.size 3 (.int .i64 0) 1 8 Tryz.underlying22 AC rfl ae _ 0 [] rfl (Bw wr 3) (.slice ua r.length uc) r.length (Ao r) rfl (aQ.o.ex ((Ex.refl wr).alloc _)) aS.o ai ac ag ?_
           intro v2 w5 aA aH aO;rw[Nat.zero_add,List.nil_append]at aA;have aJ:=Aa (show Ex wr w5 from Ex.grown ((Ex.refl wr).alloc _) (Bw wr 3) (Nat.le_refl _) aH);have aE:=Aa (HM.o.ex aJ.o);have aI:=Aa (HX.o.trans aJ.o);have HL:=Aa (show w5.ownsRow w.heap.size 3 1 v2 r.length (Ao r) from by
             exact Bj aA aR.o)
           have aM:=Aa (show AR v2 (.slice ca M.length cc) from by
             cases e:v2.ownBlock with
             | none=>exact .inl e
             | some B=>
               right;rw[e];intro e2;have h1:=(HM.o.cvo.lt B e2.symm).2;have h2:=(aA.lt B e).1;omega)
           obtain⟨xa,xc,aC⟩:=Ae aA;subst aC;clear HM aA aH aO cu aP)
        | (at_builtin;refine Am _ rfl _ _ 37 rfl w.heap.size 22 (.slice none 0 0) 1 24 Tryz.underlying37 BU rfl ae _ M.length _ rfl aE.o.cvo [.slice xa r.length xc] 22 _ rfl ag rfl aj (by have:=aL.o;unfold maxLen;omega) (by have:=aL.o;omega) aI.o.size ?_))
   intro v2 w6 aB;have HO:=Aa (aE.o.app HL.o aM.o aB);have HE:=Aa (aB.ex aI.o (Nat.le_refl _));obtain⟨va2,vc2,aC⟩:=Ae aB.own;subst aC;clear aB HL aM aE;go_wp2_with fail
   go_roundw
   case rel=>first|exact⟨i+1,_,_,ac,by go_num,aK,HO,HE⟩|((repeat apply Exists.intro);exact⟨⟨i+1,_,_,ac,by go_num,aK,HO,HE⟩,rfl⟩)
   case measure=>simp[intOf];omega
  .obtain rfl:i=rows.length:=by omega
   have HM:=Aa (show BD wr w.heap.size (.slice ca M.length cc) rows vals from by have h:=hM.o;rw[List.take_length]at h;have:=hm.o;rw[h]at this ⊢;exact this);have HX:=Aa hx.o;clear hm hx;go_wp2_with fail
   go_ret;exact⟨_,_,rfl,HM.o,HX.o⟩
theorem VR(w:World)(p m:Nat)(ml:List Int)(mv:Value)(hf:Ha p m ml)(aJ:Al w mv ml)(c:Int)(N:Nat)(hN:N<=1000)(f:Nat->Int)(vv:Value)(hv:Al w vv (il N f)):
  Calls Tryz.prog 243 #[.agg #[p,m,mv],c,vv] w fun r w'=>∃g,r= .returned (.slice (some ⟨g,0,none⟩) N N)/\AH w' w.heap.size 3 g N (iv (BM p m ml (Ar (p^m) c) f))/\Ex w w':=by
 obtain⟨a0,a1,a2,ea,aF⟩:=AA w p m mv;obtain⟨va,vc,aL,v1,v2,v3⟩:=hv.open;rw[AL]at aL v1 v3;subst aL;unfold maxLen at v2;have V3:=Aa v3;have aT:=Aa (fun (w':World) (h:Ex w w') (y:Int)=>KU w' hf (aJ.ex h) c y);have aI:=Aa ea;obtain⟨ma,mc,rfl,-,-,-⟩:=aJ.open;clear hf aJ hv v3 ea;go_enter Tryz.func243,Tryz.ntmps243
 go_wp2_with (at_make;refine Au _ rfl _ _ 22 rfl 3 (.int .i64 0) 8 Tryz.underlying22 AC rfl _ N rfl rfl rfl ac ai ?_)
 obtain⟨B,hB⟩:=nA w.heap.size;rw[hB]at a0 a1 a2 aF
 try simp only[hB]
 have aV:=Aa hB;clear hB;generalize w.alloc (.cells #[p,m,.slice ma ml.length mc] 24)=w1 at *;intro w3 aA hx3
 try simp only[aF]at aA ⊢
 obtain⟨g,aD⟩:=nA (B+1);have aO:=Aa (show AH w3 g 3 g N (iv fun j=>if j<0 then BM p m ml (Ar (p^m) c) f j else 0) from by rw[<-aD];exact aA.icongr (fun j _=>ag))
 try simp only[aD]
 obtain⟨aS,aQ,A0,A1,A2⟩:=Of hx3 (show w1.heap.size=g from by rw[<-aD,<-aF]) a0 a1 a2;clear aA hx3 a0 a1 a2 aD aF;go_wp2_with fail
 go_loopw [8] (fun i' wr=>∃(i:Nat),i<=N/\i'= .int .i64 i/\Hia (AH wr g 3 g N (iv fun j=>if j<i then BM p m ml (Ar (p^m) c) f j else 0))/\Hia (Ex w1 wr)) (fun i' _=>N-(intOf i').toNat)
 case atStart=>exact⟨0,ac,rfl,aO,aS⟩
 case round=>
  clear aO;obtain⟨i,hi,rfl,aA,aE⟩:=hrel;by_cases hin:i<N
  .obtain⟨vb,vo,rfl,aM⟩:=V3.o ac;have aR:=Aa (aI.o.trans aE.o);have CV:=Aa (aM i _ (AQ hin f));obtain⟨z,hz⟩:=nA (f i);rw[hz]at CV;have i1:(0:Int)<=(i:Int):=by omega
   have i2:(i:Int)<(N:Int):=ac;have aP:=Aa (fun (w5:World) (h5:Ex wr w5)=>aT.o w5 (aR.o.trans h5) z);obtain⟨u,hu⟩:=nA (Ai p m (lw ml) (Ar (p^m) c) (Ar (p^m) z));rw[hu]at aP;have aG:=Aa aA.o;have aH:=Aa aE.o;have aU:=Aa hin;have aN:=Aa (fun (w5:World) (h5:Ex wr w5)=>show AH (w5.setCell (g,i) (.int .i64 (u:Int))) g 3 g N (iv fun j=>if j<i+1 then BM p m ml (Ar (p^m) c) f j else 0) from by
    refine((aG.o.ex h5).set i (.int .i64 (u:Int))).congr fun j hj=>?_;by_cases e:j=i
    .subst e;rw[Ab];show Value.int .i64 (u:Int)= .int .i64 (if j<j+1 then BM p m ml (Ar (p^m) c) f j else 0)
     rw[if_pos ac];unfold BM;rw[hz,hu]
    .rw[Ad _ _ e];show Value.int .i64 (if j<i then BM p m ml (Ar (p^m) c) f j else 0)= .int .i64 (if j<i+1 then BM p m ml (Ar (p^m) c) f j else 0)
     by_cases h:j<i
     .exact za7
     .rw[if_neg h,if_neg ac])
   have aB:=Aa (fun (w5:World) (h5:Ex wr w5)=>(aG.o.ex h5).exSet (a:=w1) (Nat.le_of_eq aQ.o) (aH.o.trans h5) i (.int .i64 (u:Int)));have aC:=Aa (fun (w5:World) (h5:Ex wr w5)=>(⟨(aH.o.trans h5).cell A0.o,(aH.o.trans h5).cell A1.o,(aH.o.trans h5).cell A2.o,(aR.o.trans h5).cell CV.o⟩:w5.cell? (B,0)=some (.int .i64 (p:Int))/\w5.cell? (B,1)=some (.int .i64 (m:Int))/\w5.cell? (B,2)=some (.slice ma ml.length mc)/\w5.cell? (vb,vo+i)=some (.int .i64 z)));have aK:=Aa (fun (w5:World) (h5:Ex wr w5)=>(⟨(aB.o w5 h5).cell A0.o,(aB.o w5 h5).cell A1.o,(aB.o w5 h5).cell A2.o,(aI.o.trans (aB.o w5 h5)).cell CV.o⟩:(w5.setCell (g,i) (.int .i64 (u:Int))).cell? (B,0)=some (.int .i64 (p:Int))/\(w5.setCell (g,i) (.int .i64 (u:Int))).cell? (B,1)=some (.int .i64 (m:Int))/\(w5.setCell (g,i) (.int .i64 (u:Int))).cell? (B,2)=some (.slice ma ml.length mc)/\(w5.setCell (g,i) (.int .i64 (u:Int))).cell? (vb,vo+i)=some (.int .i64 z)));clear aM hz hu aA aE;go_wp2_with fail
   have G0:Ex wr wr.drew:=(Ex.refl wr).drew
   go_region_held3 (fun w'=>w'.cell? (B,0)=some (.int .i64 (p:Int))/\w'.cell? (B,1)=some (.int .i64 (m:Int))/\w'.cell? (B,2)=some (.slice ma ml.length mc)/\w'.cell? (vb,vo+i)=some (.int .i64 z))
    (first|with_reducible exact aC.o _ G0|with_reducible exact aC.o _ X6|with_reducible exact aK.o _ X6)
    ((go_at_call 114;(with_reducible refine(aP.o _ G0).mono ?_);rintro e w6⟨rfl,h6⟩;have X6:=G0.trans h6;clear h6;have co6:=(aG.o.ex X6).cell aU.o;have cf6:=(aG.o.ex X6).frz i))
   go_wp2_with fail
   go_roundw
   case rel=>first|exact⟨i+1,ac,by go_num,Aa (aN.o _ X6),Aa (aB.o _ X6)⟩|((repeat apply Exists.intro);exact⟨⟨i+1,ac,by go_num,Aa (aN.o _ X6),Aa (aB.o _ X6)⟩,rfl⟩)
   case measure=>simp[intOf];omega
  .obtain rfl:i=N:=by omega
   have HO:=Aa (show AH wr g 3 g i (iv (BM p m ml (Ar (p^m) c) f)) from aA.o.icongr fun j hj=>by rw[if_pos hj]);go_wp2_with fail
   go_ret;exact⟨g,rfl,HO.o.mono (by have:=aQ.o;have:=aV.o;have:=aI.o.size;omega),aI.o.trans aE.o⟩
end Go.Proofs.YtehieobniamagaaGreat
