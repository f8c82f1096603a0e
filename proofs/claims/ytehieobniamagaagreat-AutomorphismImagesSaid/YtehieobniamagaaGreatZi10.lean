/- Walks of the field's Pow, Field, Sub, Order, of tower.prime and tower.Frobenius. -/
import Derived.Test.YtehieobniamagaaGreatZi09
namespace Go.Proofs.YtehieobniamagaaGreat
open Nat renaming mul_mod→οb,le_refl→ζ,zero_add→ύ,le_of_eq→δw
open Int renaming tmod_eq_emod_of_nonneg→Φ,natCast_emod→ζz,natCast_mul→γb
open List renaming mem_map→ψ,mem_cons_of_mem→ω,mem_append→γj,getElem?_eq_getElem→γ,getD_eq_getElem?_getD→δ
open Go.Value renaming int→γc
open Go.RowKit
set_option linter.all false
set_option maxRecDepth 100000
set_option maxHeartbeats 4000000
theorem Oq{p m:Nat}{low:Vc}(hp:2<=p)(hm:1<=m)(x i:Nat):∀e,BN p m low (BN p m low x i) e=BN p m low x (i*e)
 | 0=>rfl
 | e+1=>by
  show Am p m low (BN p m low (BN p m low x i) e) (BN p m low x i)=_
  rw[Oq hp hm x i e,<-CU hp hm,Nat.mul_succ]
theorem Xa{p m:Nat}{low:Vc}(hp:1<=p):∀e,1<=e->BN p m low 0 e=0
 | e+1,_=>by
  show Am p m low _ 0=0
  rw[AY,BY hp]
section
variable {b p m x0:Nat} {ml:List Int}
theorem Pow_any(w:World)(hg:Bh w b p m ml x0)(x:Int)(e:Nat)(aI:1<=e)(he2:e<=1000):
  Calls Tryz.prog 162 #[(b,0),x,e] w (Qt w (.tuple #[(BN p m (lw ml) (Av (p^m) x) e:Nat),Ω])):=by
 have aD:=Aa (Hy w hg x);have p2:=hg.sh.p2;have m1:=hg.sh.m1;have hq:=hg.sh.q;have aF:=BC p2 m1;have c3:=hg.c3;obtain⟨ev,c4,he⟩:=hg.c4;obtain⟨lv,f,c5,hl,hf⟩:=hg.c5;obtain⟨ea,ec,rfl,e1,e2,e3⟩:=he.open;obtain⟨la,lc,rfl,l1,l2,l3⟩:=hl.open;rw[Ao]at *;obtain⟨eb,eo,rfl,e4⟩:=e3 ac;obtain⟨lb,lo,rfl,l4⟩:=l3 ac;have hz:Av (p^m) x<p^m:=Cb ac x;clear e3 l3 he hl;unfold maxLen at e2 l2;generalize Av (p^m) x=z at *;have he0:((e:Int)==0)=false:=aq;have heN:(e==0)=false:=aq;have hel:decide ((e:Int)<0)=false:=decide_eq_false ac;by_cases h0:z=0
 .subst h0;have HZ:=Aa (Xa (m:=m) (low:=lw ml) (show 1<=p by omega) e aI);clear hg c3 c4 c5 hz hq aF hf e4 l4 e1 e2 l1 l2;go_enter Tryz.func162,Tryz.ntmps162
  go_wp2_with fail
  refine aD.o.mono ?_;rintro e w1⟨rfl,n0,rfl⟩;go_wp2_with fail
  go_ret2;rw[HZ.o];exact⟨rfl,_,rfl⟩
 .have z1:1<=z:=by omega
  have hzb:((z:Int)==0)=false:=aq;obtain⟨i,hi,aA⟩:=hg.gen.all p2 m1 z1 hz;have aG:=l4 z (f z) (AT hz f);have aB:=hf i hi;rw[aA]at aB;rw[aB]at aG;obtain⟨d,hd⟩:=nA (e%(p^m-1));have hdq:d<p^m-1:=by rw[<-hd];exact Nat.mod_lt _ ac
  obtain⟨r,hr⟩:=nA ((i*d)%(p^m-1));have aE:r<p^m-1:=fc;have aH:=e4 r _ (AT aE _);have aC:KU p m ml x0 r=((BN p m (lw ml) z e:Nat):Int):=by
   unfold KU;rw[<-aA,Oq p2 m1,<-hg.gen.mod p2 m1 (i*e),<-hr,<-hd,οb,Nat.mod_mod,<-οb]
  rw[aC]at aH;have T1:Hia ((e:Int).tmod (((p^m:Nat):Int)-1)=(d:Int)):=Aa (by
   rw[Φ ac,<-hd,ζz]
   congr 1
   omega)
  have T2:Hia (((d:Int)+(((p^m:Nat):Int)-1)).tmod (((p^m:Nat):Int)-1)=(d:Int)):=Aa (by
   rw[Φ ac,Int.add_emod_right];exact Int.emod_eq_of_lt ac ac)
  have T3:Hia (((i:Int)*d).tmod (((p^m:Nat):Int)-1)=(r:Int)):=Aa (by
   rw[Φ (by rw[<-γb];omega),<-hr,ζz,γb]
   congr 1
   omega)
  have HID:(i:Int)*(d:Int)<=256*256:=by
   have:=Nat.mul_le_mul (show i<=256 by omega) (show d<=256 by omega);rw[<-γb];omega
  have HID0:0<=(i:Int)*(d:Int):=by rw[<-γb];omega
  generalize BN p m (lw ml) z e=kz at *;generalize p^m=q at *;have C3:=Aa c3;have C4:=Aa c4;have C5:=Aa c5;clear hg hf e4 l4 aB aA hd hr aC h0 c3 c4 c5;go_enter Tryz.func162,Tryz.ntmps162
  go_wp2_with fail
  refine aD.o.mono ?_;rintro e w1⟨rfl,n0,rfl⟩;have c3:=C3.o;have c4:=C4.o;have c5:=C5.o;have i0:=T1.o;have i1:IntKind.i64.wrap ((d:Int)+((q:Int)-1))=(d:Int)+((q:Int)-1):=IntWalk.i64_in _ ac;have i2:IntKind.i64.wrap ((q:Int)-1)=(q:Int)-1:=IntWalk.i64_in _ ac;have i3:=T2.o;have i6:=T3.o;have i7:IntKind.i64.wrap ((i:Int)*(d:Int))=(i:Int)*(d:Int):=IntWalk.i64_in _ ac;have i4:¬q=1:=bz;have i5:¬((q:Int)-1=0):=ac;go_wp2_with fail
  go_quiet (fail)
  go_wp2_with fail
  go_ret2;exact⟨rfl,_,World.drewN_drewN _ _ _⟩
theorem VI(w:World)(hg:Bh w b p m ml x0):
  Calls Tryz.prog 204 #[(b,0)] w fun r w'=>∃v,r= .returned (.agg #[p,m,v])/\Ak w' v ml/\Ex w w':=by
 obtain⟨mv,aK,aF⟩:=hg.c2;have hln:ml.length<=8:=by
  have h1:=hg.sh.len;have h2:=hg.sh.m8;split at h1 <;> omega
 have ea:Ex w (w.alloc (.cells #[Ω,Ω,()] 24)):=(Ex.refl _).alloc _;have q0:(w.alloc (.cells #[Ω,Ω,()] 24)).cell? (w.heap.size,0)=some (.int .i64 0):=ag;have q1:(w.alloc (.cells #[Ω,Ω,()] 24)).cell? (w.heap.size,1)=some (.int .i64 0):=ag;have q2:(w.alloc (.cells #[Ω,Ω,()] 24)).cell? (w.heap.size,2)=some (.slice none 0 0):=ag;have aE:(w.alloc (.cells #[Ω,Ω,()] 24)).frozen? (w.heap.size,0)=false:=ag;have aD:(w.alloc (.cells #[Ω,Ω,()] 24)).frozen? (w.heap.size,1)=false:=ag;have aC:(w.alloc (.cells #[Ω,Ω,()] 24)).frozen? (w.heap.size,2)=false:=ag;have aU:=Aa (aF.ex ea);have c0:=ea.cell hg.c0;have c1:=ea.cell hg.c1;have c2:=ea.cell aK;obtain⟨ma,mc,rfl,_,m2,_⟩:=aF.open;unfold maxLen at m2;clear aF aK hg;go_enter Tryz.func204,Tryz.ntmps204
 go_wp2_with fail
 obtain⟨q,hq⟩:=nA w.heap.size;rw[hq]at q0 q1 q2 aE aD aC
 try simp only[hq]
 have HQ:=Aa hq;clear hq;generalize w.alloc (.cells #[Ω,Ω,()] 24)=W1 at *;obtain⟨aW,Q0,Q1,Q2,aT,aS,aR⟩:=To ea q0 q1 q2 aE aD aC;have aO:=((Ex.refl W1).alloc (.cells #[] 3)).cell c0;have aN:=((Ex.refl W1).alloc (.cells #[] 3)).cell c1;have aM:=((Ex.refl W1).alloc (.cells #[] 3)).cell c2;clear q0 q1 q2 aE aD aC ea
 go_region_law ((refine Cq bp _ _ _ bp W1.heap.size 3 (.int .i64 0) 1 8 Tryz.underlying22 Az rfl ae _ 0 [] bp (Ag (Bm W1 _) (by repeat (first|exact Ex.refl _|apply Ex.drew))) _ ml.length (Aj ml) bp (aU.o.ex (by repeat (first|exact Ex.refl _|apply Ex.drew|apply Ex.alloc))) (by intro u hu;obtain⟨z,_,rfl⟩:=ψ.1 hu;rfl) ai ac ag ?_;intro v8 w8 aA aJ aQ;obtain⟨va,aB,aP⟩:=Ad aA;subst aP;have E8:=Aa (Ex.grown (((Ex.refl W1).alloc (.cells #[] 3)).drew) (Ag (Bm W1 3) (Ex.refl _).drew) (ζ _) aJ);have y0:=E8.o.cell c0;have y1:=E8.o.cell c1;have y2:=E8.o.cell c2;have q0:=E8.o.cell Q0.o;have q1:=E8.o.cell Q1.o;have q2:=E8.o.cell Q2.o;have aE:=E8.o.frz Q0.o aT.o;have aD:=E8.o.frz Q1.o aS.o;have aC:=E8.o.frz Q2.o aR.o;have aL:=Aa aA;clear aA aJ aQ))
 all_goals
  have aV:Hia (Ak w8 (.slice va ml.length aB) ml):=Aa (by have:=Ke aL.o;rwa[ύ]at this);have aI:∀B,(Value.slice va ml.length aB).ownBlock=some B->B≠q:=fun B h e=>by
   have h1:=(aL.o.lt B dz).1;have h2:q<W1.heap.size:=World.block_lt_of_cell? _ _ Q0.o;omega
  have aH:=Aa aI;have aG:Hia (w.heap.size<=q):=Aa (δw HQ.o);clear aI c0 c1 c2 aO aN aM y0 y1 y2;go_wp2_with fail
  exact bodyPost_ret (v:= .agg #[p,m,(va,ml.length,aB)]) (by simp[results,Tryz.results204,go_sem,q0,q1,q2]) rfl ⟨_,rfl,Sl.other (Sl.other (Sl.other aV.o (fun B h=>aH.o B h) _) (fun B h=>aH.o B h) _) (fun B h=>aH.o B h) _,(((aW.o.trans E8.o).setCell (p:=⟨q,0,none⟩) aG.o _).setCell (p:=⟨q,1,none⟩) aG.o _).setCell (p:=⟨q,2,none⟩) aG.o _⟩
end
def pI(piv:List Nat):List Int:=piv.map fun (x:Nat)=>(x:Int)
theorem RN(piv:List Nat):(pI piv).length=piv.length:=by unfold pI;simp
theorem Oa{w w':World}{base:Nat}{e:TypeId}{size:Nat}{v:Value}{n:Nat}{xs:List Value}(h:w.ownsRow base e size v n xs)(hk:∀b,v.ownBlock=some b->w'.heap[b]?=w.heap[b]?):w'.ownsRow base e size v n xs:=by
 refine⟨h.1,?_⟩;rcases h.2 with h1|⟨g,cap,cur,rfl,hb,hg,h3⟩
 .exact .inl h1
 .exact .inr ⟨g,cap,cur,rfl,hb,by rw[hk g rfl];exact hg,h3⟩
def AV(pv:Value)(B4 B5 B7:Nat):List Nat:=pv.ownBlock.toList ++ [B4,B5,B7]
structure EB(w0 w:World)(base g R N:Nat)(blk cap:Nat->Nat)(a:Nat->Nat->Int)(avs:List Nat)(B4 B5 B7 b:Nat)(pv:Value)(piv:List Nat):Prop where
 em:EM w base g R N blk cap a avs
 i4:B4∈avs
 i5:B5∈avs
 i7:B7∈avs
 c4:w.cell? (B4,0)=some (.pointer (some (b,0)))
 c5:w.cell? (B5,0)=some (.slice (some (g,0)) R R)
 c7:w.cell? (B7,0)=some (.slice none 0 0)
 pvo:w.ownsRow base 3 1 pv piv.length (Aj (pI piv))
 pvi:∀B,pv.ownBlock=some B->B∈avs/\B≠B4/\B≠B5/\B≠B7
 ex:Ex w0 w
 bs:w0.heap.size<=base
section
variable {w0 w:World} {base g R N:Nat} {blk cap:Nat->Nat} {a:Nat->Nat->Int} {avs:List Nat} {B4 B5 B7 b:Nat} {pv:Value} {piv:List Nat}
theorem EB.later(h:EB w0 w base g R N blk cap a avs B4 B5 B7 b pv piv){w':World}(hx:Ex w w'):EB w0 w' base g R N blk cap a avs B4 B5 B7 b pv piv:=
 ⟨h.em.ex hx,h.i4,h.i5,h.i7,hx.cell h.c4,hx.cell h.c5,hx.cell h.c7,Ag h.pvo hx,h.pvi,h.ex.trans hx,h.bs⟩
theorem EB.box(h:EB w0 w base g R N blk cap a avs B4 B5 B7 b pv piv)(o:Obj):EB w0 (w.alloc o) base g R N blk cap a (w.heap.size :: avs) B4 B5 B7 b pv piv:=by
 have h1:=h.later ((Ex.refl w).alloc o);exact⟨h.em.box o,ω _ h.i4,ω _ h.i5,ω _ h.i7,h1.c4,h1.c5,h1.c7,h1.pvo,fun B hB=>by obtain⟨k1,k2⟩:=h.pvi B hB;exact⟨ω _ k1,k2⟩,h1.ex,h1.bs⟩
theorem EB.less(h:EB w0 w base g R N blk cap a avs B4 B5 B7 b pv piv){bvs:List Nat}(hs:∀B∈bvs,B∈avs)(h4:B4∈bvs)(h5:B5∈bvs)(h7:B7∈bvs)(hp:∀B,pv.ownBlock=some B->B∈bvs):EB w0 w base g R N blk cap a bvs B4 B5 B7 b pv piv:=
 ⟨h.em.less hs,h4,h5,h7,h.c4,h.c5,h.c7,h.pvo,fun B hB=>⟨hp B hB,(h.pvi B hB).2⟩,h.ex,h.bs⟩
theorem bf{P:Prop}(h:P:=by unfold AV;simp):P:=h
theorem EB.toAV(h:EB w0 w base g R N blk cap a avs B4 B5 B7 b pv piv):EB w0 w base g R N blk cap a (AV pv B4 B5 B7) B4 B5 B7 b pv piv:=by
 refine h.less (fun B hB=>?_) bf bf bf (fun B hB=>by unfold AV;rw[hB];simp);unfold AV at hB;rcases γj.1 hB with hB|hB
 .have:pv.ownBlock=some B:=by
   cases e:pv.ownBlock with
   | none=>rw[e]at hB;simp at hB
   | some C=>rw[e]at hB;simp at hB;rw[hB]
  exact(h.pvi B this).1
 .simp at hB;rcases hB with rfl|rfl|rfl
  .exact h.i4
  .exact h.i5
  .exact h.i7
theorem EB.step(h:EB w0 w base g R N blk cap a avs B4 B5 B7 b pv piv){a':Nat->Nat->Int}{r:Ending}{w':World}(hs:Stp w base g R N a' avs r w'):∃aB aA,EB w0 w' base g R N aB aA a' avs B4 B5 B7 b pv piv:=by
 obtain⟨_,⟨aB,aA,he⟩,hk,hx⟩:=hs;exact⟨aB,aA,he,h.i4,h.i5,h.i7,hk.cell h.i4 h.c4,hk.cell h.i5 h.c5,hk.cell h.i7 h.c7,Oa h.pvo fun B hB=>hk B (h.pvi B hB).1,h.pvi,hx w0 h.ex h.bs,h.bs⟩
theorem EB.setB(h:EB w0 w base g R N blk cap a avs B4 B5 B7 b pv piv){B:Nat}(hB:B∈avs)(h4:B≠B4)(h5:B≠B5)(h7:B≠B7)(hp:pv.ownBlock≠some B)(hw:w0.heap.size<=B)(u:Value):EB w0 (w.setCell (B,0) u) base g R N blk cap a avs B4 B5 B7 b pv piv:=
 ⟨h.em.setBox hB u,h.i4,h.i5,h.i7,by rw[Ah h4];exact h.c4,by rw[Ah h5];exact h.c5,by rw[Ah h7];exact h.c7,Ae h.pvo hp u,h.pvi,h.ex.setCell (p:=⟨B,0,none⟩) hw u,h.bs⟩
theorem EB.app(h:EB w0 w base g R N blk cap a avs B4 B5 B7 b pv piv){c:Nat}{w':World}{pv':Value}(ha:Bz w w' base 3 1 pv pv' piv.length (Aj (pI piv)) [.int .i64 c]):EB w0 w' base g R N blk cap a (AV pv' B4 B5 B7) B4 B5 B7 b pv' (piv ++ [c]):=by
 have hne:∀B∈avs,(∀C,pv.ownBlock=some C->C≠B)->some B≠pv.ownBlock:=fun B _ hn e=>hn B e.symm rfl;have n4:some B4≠pv.ownBlock:=fun e=>(h.pvi B4 e.symm).2.1 rfl;have n5:some B5≠pv.ownBlock:=fun e=>(h.pvi B5 e.symm).2.2.1 rfl;have n7:some B7≠pv.ownBlock:=fun e=>(h.pvi B7 e.symm).2.2.2 rfl;have ng:pv.ownBlock≠some g:=fun e=>(h.em.av g (h.pvi g e).1).2.1 rfl;have nb:∀i,i<R->pv.ownBlock≠some (blk i):=fun i hi e=>(h.em.av _ (h.pvi _ e).1).2.2 i hi rfl;have hsz:=ha.grow;have l4:=(h.em.av B4 h.i4);have l5:=(h.em.av B5 h.i5);have l7:=(h.em.av B7 h.i7);have aA:∀B,pv'.ownBlock=some B->(pv.ownBlock=some B)∨B=w.heap.size+1:=fun B hB=>by
  rcases ha.at_ with k|k
  .exact .inl (by rw[<-k];exact hB)
  .rw[k]at hB;injection hB with hB;exact .inr hB.symm
 have aB:∀i,i<R->Bb w' base 3 (blk i) N (cap i) (iv (a i)):=fun i hi=>(ha.row (h.em.row i hi) (.inr (fun e=>nb i hi e.symm))).1;have aD:AJ w' base 22 g R (Ea blk cap N):=(ha.arr h.em.arr ng).1;refine⟨⟨aD,aB,h.em.apart,h.em.off,fun B hB=>?_⟩,by unfold AV;simp,by unfold AV;simp,by unfold AV;simp,ha.cell h.c4 n4,ha.cell h.c5 n5,ha.cell h.c7 n7,?_,fun B hB=>⟨by unfold AV;rw[hB];simp,?_⟩,ha.ex h.ex h.bs,h.bs⟩
 .unfold AV at hB;rcases γj.1 hB with hB|hB
  .have aC:pv'.ownBlock=some B:=by
    cases e:pv'.ownBlock with
    | none=>rw[e]at hB;simp at hB
    | some C=>rw[e]at hB;simp at hB;rw[hB]
   refine⟨(ha.own.lt B aC).2,?_,fun i hi=>?_⟩
   .rcases aA B aC with k|k
    .exact(h.em.av B (h.pvi B k).1).2.1
    .have:=h.em.arr.lt.2;omega
   .rcases aA B aC with k|k
    .exact(h.em.av B (h.pvi B k).1).2.2 i hi
    .have:=(h.em.row i hi).lt.2;omega
  .simp at hB;rcases hB with rfl|rfl|rfl
   .exact⟨ac,l4.2⟩
   .exact⟨ac,l5.2⟩
   .exact⟨ac,l7.2⟩
 .have:=ha.own;rw[List.length_append,List.length_singleton];have e:Aj (pI (piv ++ [c]))=Aj (pI piv) ++ [.int .i64 c]:=by simp[pI,Aj]
  rw[e];exact this
 .rcases aA B hB with k|k
  .exact(h.pvi B k).2
  .omega
end
def SC(p m:Nat)(ml:List Int)(v:List Int)(a:Int)(u:List Int)(k:Nat):Int:=
 if u.getD k 0=0 then v.getD k 0 else((AK p m (Av (p^m) (v.getD k 0)) (Av (p^m) ((Am p m (lw ml) (Av (p^m) a) (Av (p^m) (u.getD k 0)):Nat):Int)):Nat):Int)
theorem zaJ{P:Prop}(h:P:=by
 subst e;rw[Ab];show _=Value.int .i64 (if j<j+1 then SC p m ml v a u j else 0);rw[if_pos (by omega),aB.o]):P:=h
theorem RF(p m:Nat)(ml:List Int)(mv:Value)(w:World)(hf:Gg p m ml)(aS:Ak w mv ml)(v u:List Int)(vv uv:Value)(hv:Ak w vv v)(hu:Ak w uv u)(a:Int)(hl:v.length<=u.length)(hl1:v.length<=1000):
  Calls Tryz.prog 245 #[.agg #[p,m,mv],vv,a,uv] w fun r w'=>
   ∃g,r= .returned (.slice (some ⟨g,0,none⟩) v.length v.length)/\AJ w' w.heap.size 3 g v.length (iv (SC p m ml v a u))/\Ex w w':=by
 have HF:=Aa hf;have aU:=Aa aS;obtain⟨va,vc,rfl,v1,v2,v3⟩:=hv.open;obtain⟨ua,uc,rfl,u1,u2,u3⟩:=hu.open;have V3:=Aa v3;have U3:=Aa u3;unfold maxLen at v2 u2;clear hf aS hv hu v3 u3;obtain⟨f0,f1,f2,e0,aH⟩:=AA w p m mv;obtain⟨xb,aD⟩:=nA w.heap.size;have HXB:=Aa aD;rw[aD]at f0 f1 f2 aH ⊢;go_enter Tryz.func245,Tryz.ntmps245
 go_wp2_with (at_make;refine Ar _ rfl _ _ 22 rfl 3 (.int .i64 0) 8 Tryz.underlying22 Az rfl _ v.length rfl rfl rfl ac ai ?_)
 intro w3 aA hx3
 try simp only[aD]at aA hx3 ⊢
 try simp only[aD]
 generalize w.alloc (.cells #[p,m,mv] 24)=wA at *
 try simp only[aH]at aA ⊢
 obtain⟨aT,HO,EX,E0,F0,F1,F2⟩:=To aH (show AJ w3 (xb+1) 3 (xb+1) v.length (iv fun j=>if j<0 then SC p m ml v a u j else 0) from aA.icongr (fun j _=>ag)) hx3 e0 f0 f1 f2;clear aA hx3 e0 f0 f1 f2 aH aD;go_wp2_with fail
 go_loopw [10] (fun k' wr=>∃k:Nat,k<=v.length/\k'= .int .i64 k/\Hia (AJ wr (xb+1) 3 (xb+1) v.length (iv fun j=>if j<k then SC p m ml v a u j else 0))/\Hia (Ex wA wr)) (fun k' _=>v.length-(intOf k').toNat)
 case atStart=>exact⟨0,ac,rfl,HO,EX⟩
 case round=>
  clear HO EX;obtain⟨k,hk,rfl,aA,hx⟩:=hrel;by_cases hlt:k<v.length
  .obtain⟨y,hy⟩:∃y,v[k]?=some y:=⟨_,γ hlt⟩;obtain⟨z,hz⟩:∃z,u[k]?=some z:=⟨_,γ ac⟩;have aP:v.getD k 0=y:=by rw[δ,hy];rfl
   have aO:u.getD k 0=z:=by rw[δ,hz];rfl
   obtain⟨vb,vo,rfl,aQ⟩:=V3.o ac;obtain⟨ub,uo,rfl,aR⟩:=U3.o ac;have hku:k<u.length:=bz;have D0:=Aa (aQ k y hy);have D1:=Aa (aR k z hz);have aE:=Aa (fun (t:Int) (ht:t=SC p m ml v a u k)=>(aA.o.set k (.int .i64 t)));have i1:(0:Int)<=(k:Int):=ac;have i2:(k:Int)<(v.length:Int):=ac;have i3:(k:Int)<(u.length:Int):=ac;have c1:=(E0.o.trans hx.o).cell D0.o;have c2:=aA.o.cell hlt;have c3:=aA.o.frz k;have aC:=Aa (aA.o.set k (.int .i64 y));have aI:=Aa (aA.o.exSet (a:=wA) (by have:=aT.o;omega) hx.o k (.int .i64 y));have c4:=(E0.o.trans aI.o).cell D1.o;have aB:Hia (SC p m ml v a u k=if z=0 then y else((AK p m (Av (p^m) y) (Av (p^m) ((Am p m (lw ml) (Av (p^m) a) (Av (p^m) z):Nat):Int)):Nat):Int)):=Aa (by unfold SC;rw[aP,aO]);clear aA hx aQ aR hy hz aP aO aE;by_cases hz0:z=0
   .have hb:(z !=0)=false:=by simp[hz0]
    rw[if_pos hz0]at aB;clear hz0;go_wp2_with fail
    go_roundw
    case rel=>exact⟨k+1,ac,by go_num,Aa (aC.o.congr fun j hj=>by
     by_cases e:j=k
     .exact zaJ
     .rw[Ac _ _ e];show γc .i64 (if j<k then SC p m ml v a u j else 0)=γc .i64 (if j<k+1 then SC p m ml v a u j else 0)
      by_cases h:j<k
      .exact zbc
      .rw[if_neg h,if_neg ac]),aI⟩
    case measure=>exact Ωm
   .have hb:(z !=0)=true:=by simpa using hz0
    rw[if_neg hz0]at aB;clear hz0;go_wp2_with fail
    generalize wr.setCell (xb+1,k) (.int .i64 y)=W at *;obtain⟨K1,aM⟩:∃K,Am p m (lw ml) (Av (p^m) a) (Av (p^m) z)=K:=⟨_,rfl⟩;have aF:Hia (∀w',Ex wA w'->Calls Tryz.prog 114 #[.agg #[p,m,mv],a,.int .i64 z] w' fun r w''=>r= .returned (.int .i64 (K1:Nat))/\Ex w' w''):=by
     rw[<-aM];exact Aa (fun w' h0=>KP w' HF.o (aU.o.ex (E0.o.trans h0)) a z)
    rw[aM]at aB;obtain⟨K2,aL⟩:∃K,AK p m (Av (p^m) y) (Av (p^m) (K1:Nat))=K:=⟨_,rfl⟩;have aG:Hia (∀w',Ex wA w'->Calls Tryz.prog 266 #[.agg #[p,m,mv],.int .i64 y,(K1:Nat)] w' fun r w''=>r= .returned (.int .i64 (K2:Nat))/\Ex w' w''):=by
     rw[<-aL];exact Aa (fun w' h0=>Wy w' HF.o (aU.o.ex (E0.o.trans h0)) y (K1:Nat))
    rw[aL]at aB;clear aM aL;have cX:=aC.o.cell hlt;have fX:=aC.o.frz k;have D2:=Aa (E0.o.cell D0.o);have D3:=Aa (E0.o.cell D1.o);have X0:Ex W W.drew:=(Ex.refl W).drew;have G0:Ex wA W.drew:=aI.o.trans X0;clear c1 c2 c3 c4;rw[Ab]at cX;have HLEN:=Aa hl
    go_region_held3 (fun w'=>w'.cell? (xb,0)=some (.int .i64 p)/\w'.cell? (xb,1)=some (.int .i64 m)/\w'.cell? (xb,2)=some mv/\w'.cell? (vb,vo+k)=some (.int .i64 y)/\w'.cell? (ub,uo+k)=some (.int .i64 z))
     (first|with_reducible exact⟨G0.cell F0.o,G0.cell F1.o,G0.cell F2.o,G0.cell D2.o,G0.cell D3.o⟩|with_reducible exact⟨G1.cell F0.o,G1.cell F1.o,G1.cell F2.o,G1.cell D2.o,G1.cell D3.o⟩|with_reducible exact⟨G2.cell F0.o,G2.cell F1.o,G2.cell F2.o,G2.cell D2.o,G2.cell D3.o⟩|with_reducible exact⟨ES.cell F0.o,ES.cell F1.o,ES.cell F2.o,ES.cell D2.o,ES.cell D3.o⟩)
     ((first
            | (go_at_call 114;(with_reducible refine(aF.o _ G0).mono ?_);rintro e wx1⟨rfl,aK⟩;have X1:=X0.trans aK;have G1:=G0.trans aK)
            | (go_at_call 266;(with_reducible refine(aG.o _ G1).mono ?_);rintro e wx2⟨rfl,aJ⟩;have X2:=X1.trans aJ;have G2:=G1.trans aJ;have aW:=X2.cell cX;have aV:=X2.frz cX fX;have ES:=(aC.o.ex X2).exSet (by have:=aT.o;omega) G2 k (.int .i64 (K2:Nat)))))
    have aN:=Aa ((aC.o.ex X2).set k (.int .i64 (K2:Nat)));have aX:=Aa ES;clear cX fX aW aV ES G0 G1 G2 X0 X1 X2 aK aJ aF aG aC aI;go_wp2_with fail
    go_roundw
    case rel=>exact⟨k+1,ac,by go_num,Aa (aN.o.congr fun j hj=>by
     by_cases e:j=k
     .exact zaJ
     .rw[Ac _ _ e,Ac _ _ e];show γc .i64 (if j<k then SC p m ml v a u j else 0)=γc .i64 (if j<k+1 then SC p m ml v a u j else 0)
      by_cases h:j<k
      .exact zbc
      .rw[if_neg h,if_neg ac]),aX⟩
    case measure=>exact Ωm
  .obtain rfl:k=v.length:=by omega
   have aN:=Aa (aA.o.icongr (h:=SC p m ml v a u) fun j hj=>by rw[if_pos hj]);clear aA;go_wp2_with fail
   go_ret;exact⟨_,rfl,aN.o.mono ac,E0.o.trans hx.o⟩
theorem Ym{p m:Nat}(hp:1<=p){ml:List Int}{N:Nat}{f g:Nat->Int}{a:Int}{j:Nat}(hj:j<N):SC p m ml (il N f) a (il N g) j=Cn p m ml f (Av (p^m) a) g j:=by
 unfold SC Cn;have e1:(il N f).getD j 0=f j:=by rw[δ,AT hj];rfl
 have e2:(il N g).getD j 0=g j:=by rw[δ,AT hj];rfl
 rw[e1,e2];split
 .rfl
 .rw[AE (A7 hp _ _)]
theorem UU(w:World)(rows:List (List Int))(v:Value)(hv:B6 w v rows)(hR:rows.length<=1000)(hN:∀r∈rows,r.length<=1000):
  Calls Tryz.prog 242 #[v] w fun r w'=>∃cv vals,r= .returned cv/\BI w' w.heap.size cv rows vals/\Ex w w':=by
 obtain⟨va,vc,rfl,v1,v2,v3⟩:=hv.open;unfold maxLen at v2;have V3:=Aa v3;have HN:=Aa hN;clear hv v3 hN;go_enter Tryz.func242,Tryz.ntmps242
 go_wp2_with fail
 go_loopw [3,4] (fun cv i' wr=>∃(i:Nat) (M:List (List Int)) (vals:List Value),i<=rows.length/\i'= .int .i64 i/\Hia (M=rows.take i)/\Hia (BI wr w.heap.size cv M vals)/\Hia (Ex w wr)) (fun _ i' _=>rows.length-(intOf i').toNat)
 case atStart=>exact⟨0, [], [],ac,rfl,Aa rfl,Aa (BI.nil _ _),Aa (Ex.refl _)⟩
 case round=>
  obtain⟨i,M,vals,hi,rfl,hM,hm,hx⟩:=hrel;obtain⟨ca,cc,aM⟩:=Ad hm.o.cvo;subst aM;have aK:Hia (M.length=i):=Aa (by rw[hM.o];simp;omega);by_cases hlt:i<rows.length
  .obtain⟨zb,zo,rfl,aF⟩:=V3.o ac;obtain⟨uv,aG,aD⟩:=aF i _ (γ hlt);have cu:=hx.o.cell aG;have hru:=HN.o _ (List.getElem_mem hlt);have aQ:Hia (M ++ [rows[i]]=rows.take (i+1)):=Aa (by rw[hM.o,List.take_add_one,γ hlt];rfl);have i1:(0:Int)<=(i:Int):=by omega
   have i2:(i:Int)<(rows.length:Int):=ac;generalize rows[i]=r at *;have aP:=Aa (aD.ex hx.o);obtain⟨ua,uc,rfl,-,u2,-⟩:=aD.open;unfold maxLen at u2;have HM:=Aa hm.o;have HX:=Aa hx.o;have aR:=Aa hx.o.size;have aO:=fun o=>((Ex.refl wr).alloc o).cell cu;have aS:Hia (∀u∈Aj r,u.oneCell'=true):=Aa (fun u hu=>by
    unfold Aj at hu;obtain⟨x,_,rfl⟩:=ψ.1 hu;simp[Value.oneCell'])
   clear aF aG aD hm hx;go_wp2_with (first
        | (at_builtin;refine A6 _ rfl _ _ 22 rfl wr.heap.size 3 (.int .i64 0) 1 8 Tryz.underlying22 Az rfl ae _ 0 [] rfl (Bm wr 3) (.slice ua r.length uc) r.length (Aj r) rfl (aP.o.ex ((Ex.refl wr).alloc _)) aS.o ai ac ag ?_
           intro v2 w5 aA aH aN;rw[ύ,List.nil_append]at aA;have aJ:Hia (Ex wr w5):=Aa (Ex.grown ((Ex.refl wr).alloc _) (Bm wr 3) (ζ _) aH);have aE:=Aa (HM.o.ex aJ.o);have aI:=Aa (HX.o.trans aJ.o);have HL:Hia (w5.ownsRow w.heap.size 3 1 v2 r.length (Aj r)):=Aa (by
             exact Bj aA aR.o)
           have aL:Hia (AD v2 (.slice ca M.length cc)):=Aa (by
             cases e:v2.ownBlock with
             | none=>exact .inl e
             | some B=>
               right;rw[e];intro e2;have h1:=(HM.o.cvo.lt B e2.symm).2;have h2:=(aA.lt B e).1;omega)
           obtain⟨xa,xc,aC⟩:=Ad aA;subst aC;clear HM aA aH aN cu aO)
        | (at_builtin;refine Al _ rfl _ _ 37 rfl w.heap.size 22 (.slice none 0 0) 1 24 Tryz.underlying37 BZ rfl ae _ M.length _ rfl aE.o.cvo [.slice xa r.length xc] 22 _ rfl ag rfl aj (by have:=aK.o;unfold maxLen;omega) (by have:=aK.o;omega) aI.o.size ?_))
   intro v2 w6 aB;have HO:=Aa (aE.o.app HL.o aL.o aB);have HE:=Aa (aB.ex aI.o (ζ _));obtain⟨va2,vc2,aC⟩:=Ad aB.own;subst aC;clear aB HL aL aE;go_wp2_with fail
   go_roundw
   case rel=>exact⟨i+1,_,_,ac,by go_num,aQ,HO,HE⟩
   case measure=>exact Ωm
  .obtain rfl:i=rows.length:=by omega
   have HM:Hia (BI wr w.heap.size (.slice ca M.length cc) rows vals):=Aa (by have h:=hM.o;rw[List.take_length]at h;have:=hm.o;rw[h]at this ⊢;exact this);have HX:=Aa hx.o;clear hm hx;go_wp2_with fail
   go_ret;exact⟨_,_,rfl,HM.o,HX.o⟩
theorem Wu(w:World)(p m:Nat)(ml:List Int)(mv:Value)(hf:Gg p m ml)(aJ:Ak w mv ml)(c:Int)(N:Nat)(hN:N<=1000)(f:Nat->Int)(vv:Value)(hv:Ak w vv (il N f)):
  Calls Tryz.prog 243 #[.agg #[p,m,mv],c,vv] w fun r w'=>∃g,r= .returned (.slice (some ⟨g,0,none⟩) N N)/\AJ w' w.heap.size 3 g N (iv (BT p m ml (Av (p^m) c) f))/\Ex w w':=by
 obtain⟨a0,a1,a2,ea,aF⟩:=AA w p m mv;obtain⟨va,vc,aL,v1,v2,v3⟩:=hv.open;rw[AM]at aL v1 v3;subst aL;unfold maxLen at v2;have V3:=Aa v3;have aT:=Aa (fun (w':World) (h:Ex w w') (y:Int)=>KP w' hf (aJ.ex h) c y);have aI:=Aa ea;obtain⟨ma,mc,rfl,-,-,-⟩:=aJ.open;clear hf aJ hv v3 ea;go_enter Tryz.func243,Tryz.ntmps243
 go_wp2_with (at_make;refine Ar _ rfl _ _ 22 rfl 3 (.int .i64 0) 8 Tryz.underlying22 Az rfl _ N rfl rfl rfl ac ai ?_)
 obtain⟨B,hB⟩:=nA w.heap.size;rw[hB]at a0 a1 a2 aF
 try simp only[hB]
 have aV:=Aa hB;clear hB;generalize w.alloc (.cells #[p,m,(ma,ml.length,mc)] 24)=w1 at *;intro w3 aA hx3
 try simp only[aF]at aA ⊢
 obtain⟨g,aD⟩:=nA (B+1);have aN:Hia (AJ w3 g 3 g N (iv fun j=>if j<0 then BT p m ml (Av (p^m) c) f j else 0)):=Aa (by rw[<-aD];exact aA.icongr (fun j _=>ag))
 try simp only[aD]
 obtain⟨aR,aP,A0,A1,A2⟩:=On hx3 (show w1.heap.size=g from by rw[<-aD,<-aF]) a0 a1 a2;clear aA hx3 a0 a1 a2 aD aF;go_wp2_with fail
 go_loopw [8] (fun i' wr=>∃(i:Nat),i<=N/\i'= .int .i64 i/\Hia (AJ wr g 3 g N (iv fun j=>if j<i then BT p m ml (Av (p^m) c) f j else 0))/\Hia (Ex w1 wr)) (fun i' _=>N-(intOf i').toNat)
 case atStart=>exact⟨0,ac,rfl,aN,aR⟩
 case round=>
  clear aN;obtain⟨i,hi,rfl,aA,aE⟩:=hrel;by_cases hin:i<N
  .obtain⟨vb,vo,rfl,aM⟩:=V3.o ac;have aQ:=Aa (aI.o.trans aE.o);have CV:=Aa (aM i _ (AT hin f));obtain⟨z,hz⟩:=nA (f i);rw[hz]at CV;have i1:(0:Int)<=(i:Int):=by omega
   have i2:(i:Int)<(N:Int):=ac;have aO:=Aa (fun (w5:World) (h5:Ex wr w5)=>aT.o w5 (aQ.o.trans h5) z);obtain⟨u,hu⟩:=nA (Am p m (lw ml) (Av (p^m) c) (Av (p^m) z));rw[hu]at aO;have aG:=Aa aA.o;have aH:=Aa aE.o;have aU:=Aa hin;have aS:=Aa (fun (w5:World) (h5:Ex wr w5)=>show AJ (w5.setCell (g,i) (.int .i64 (u:Int))) g 3 g N (iv fun j=>if j<i+1 then BT p m ml (Av (p^m) c) f j else 0) from by
    refine((aG.o.ex h5).set i (.int .i64 (u:Int))).congr fun j hj=>?_;by_cases e:j=i
    .subst e;rw[Ab];show γc .i64 (u:Int)= .int .i64 (if j<j+1 then BT p m ml (Av (p^m) c) f j else 0)
     rw[if_pos ac];unfold BT;rw[hz,hu]
    .rw[Ac _ _ e];show γc .i64 (if j<i then BT p m ml (Av (p^m) c) f j else 0)= .int .i64 (if j<i+1 then BT p m ml (Av (p^m) c) f j else 0)
     by_cases h:j<i
     .exact zbc
     .rw[if_neg h,if_neg ac])
   have aB:=Aa (fun (w5:World) (h5:Ex wr w5)=>(aG.o.ex h5).exSet (a:=w1) (δw aP.o) (aH.o.trans h5) i (.int .i64 (u:Int)));have aC:=Aa (fun (w5:World) (h5:Ex wr w5)=>(⟨(aH.o.trans h5).cell A0.o,(aH.o.trans h5).cell A1.o,(aH.o.trans h5).cell A2.o,(aQ.o.trans h5).cell CV.o⟩:w5.cell? (B,0)=some (.int .i64 (p:Int))/\w5.cell? (B,1)=some (.int .i64 (m:Int))/\w5.cell? (B,2)=some (.slice ma ml.length mc)/\w5.cell? (vb,vo+i)=some (.int .i64 z)));have aK:=Aa (fun (w5:World) (h5:Ex wr w5)=>(⟨(aB.o w5 h5).cell A0.o,(aB.o w5 h5).cell A1.o,(aB.o w5 h5).cell A2.o,(aI.o.trans (aB.o w5 h5)).cell CV.o⟩:(w5.setCell (g,i) (.int .i64 (u:Int))).cell? (B,0)=some (.int .i64 (p:Int))/\(w5.setCell (g,i) (.int .i64 (u:Int))).cell? (B,1)=some (.int .i64 (m:Int))/\(w5.setCell (g,i) (.int .i64 (u:Int))).cell? (B,2)=some (.slice ma ml.length mc)/\(w5.setCell (g,i) (.int .i64 (u:Int))).cell? (vb,vo+i)=some (.int .i64 z)));clear aM hz hu aA aE;go_wp2_with fail
   have G0:Ex wr wr.drew:=(Ex.refl wr).drew
   go_region_held3 (fun w'=>w'.cell? (B,0)=some (.int .i64 (p:Int))/\w'.cell? (B,1)=some (.int .i64 (m:Int))/\w'.cell? (B,2)=some (.slice ma ml.length mc)/\w'.cell? (vb,vo+i)=some (.int .i64 z))
    (first|with_reducible exact aC.o _ G0|with_reducible exact aC.o _ X6|with_reducible exact aK.o _ X6)
    ((go_at_call 114;(with_reducible refine(aO.o _ G0).mono ?_);rintro e w6⟨rfl,h6⟩;have X6:=G0.trans h6;clear h6;have co6:=(aG.o.ex X6).cell aU.o;have cf6:=(aG.o.ex X6).frz i))
   go_wp2_with fail
   go_roundw
   case rel=>exact⟨i+1,ac,by go_num,Aa (aS.o _ X6),Aa (aB.o _ X6)⟩
   case measure=>exact Ωm
  .obtain rfl:i=N:=by omega
   have HO:Hia (AJ wr g 3 g i (iv (BT p m ml (Av (p^m) c) f))):=Aa (aA.o.icongr fun j hj=>by rw[if_pos hj]);go_wp2_with fail
   go_ret;exact⟨g,rfl,HO.o.mono (by have:=aP.o;have:=aV.o;have:=aI.o.size;omega),aI.o.trans aE.o⟩
end Go.Proofs.YtehieobniamagaaGreat
