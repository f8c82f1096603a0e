/- Walks of the field's Pow, Field, Sub, Order, of tower.prime and tower.Frobenius. -/
import Derived.Test.YtehieobniamagaaGreatZd07
namespace Go.Proofs.YtehieobniamagaaGreat
open Go.RowKit
set_option linter.all false
set_option maxRecDepth 100000
set_option maxHeartbeats 16000000
theorem Hw{p m:Nat}{low:Vc}(hp:2<=p)(hm:1<=m)(x i:Nat):∀e,BF p m low (BF p m low x i) e=BF p m low x (i*e)
 | 0=>rfl
 | e+1=>by
  show Ai p m low (BF p m low (BF p m low x i) e) (BF p m low x i)=_
  rw[Hw hp hm x i e,<-CC hp hm,Nat.mul_succ]
theorem Pu{p m:Nat}{low:Vc}(hp:1<=p):∀e,1<=e->BF p m low 0 e=0
 | e+1,_=>by
  show Ai p m low _ 0=0
  rw[AS,BW hp]
section
variable {b p m x0:Nat} {ml:List Int}
theorem Zi(w:World)(hg:A9 w b p m ml x0)(x:Int)(e:Nat)(aI:1<=e)(he2:e<=1000):
  Calls Tryz.prog 162 #[.pointer (some ⟨b,0,none⟩),.int .i64 x,.int .i64 e] w (Qt w (.tuple #[.int .i64 (BF p m (lw ml) (Au (p^m) x) e:Nat),.int .i64 0])):=by
 have aD:=Aa (Ha w hg x);have p2:=hg.sh.p2;have m1:=hg.sh.m1;have hq:=hg.sh.q;have aF:=Bb p2 m1;have c3:=hg.c3;obtain⟨ev,c4,he⟩:=hg.c4;obtain⟨lv,f,c5,hl,hf⟩:=hg.c5;obtain⟨ea,ec,rfl,e1,e2,e3⟩:=he.open;obtain⟨la,lc,rfl,l1,l2,l3⟩:=hl.open;rw[An]at *;obtain⟨eb,eo,rfl,e4⟩:=e3 ac;obtain⟨lb,lo,rfl,l4⟩:=l3 ac;have hz:Au (p^m) x<p^m:=BB ac x;clear e3 l3 he hl;unfold maxLen at e2 l2;generalize Au (p^m) x=z at *;have he0:((e:Int)==0)=false:=aq;have heN:(e==0)=false:=aq;have hel:decide ((e:Int)<0)=false:=decide_eq_false ac;by_cases h0:z=0
 .subst h0;have HZ:=Aa (Pu (m:=m) (low:=lw ml) (show 1<=p by omega) e aI);clear hg c3 c4 c5 hz hq aF hf e4 l4 e1 e2 l1 l2;go_enter Tryz.func162,Tryz.ntmps162
  go_wp2_with fail
  refine aD.o.mono ?_;rintro e w1⟨rfl,n0,rfl⟩;go_wp2_with fail
  go_ret2;rw[HZ.o];exact⟨rfl,_,rfl⟩
 .have z1:1<=z:=by omega
  have hzb:((z:Int)==0)=false:=aq;obtain⟨i,hi,aA⟩:=hg.gen.all p2 m1 z1 hz;have aG:=l4 z (f z) (AH hz f);have aB:=hf i hi;rw[aA]at aB;rw[aB]at aG;obtain⟨d,hd⟩:=nA (e%(p^m-1));have hdq:d<p^m-1:=by rw[<-hd];exact Nat.mod_lt _ ac
  obtain⟨r,hr⟩:=nA ((i*d)%(p^m-1));have aE:r<p^m-1:=ee;have aH:=e4 r _ (AH aE _);have aC:Kh p m ml x0 r=((BF p m (lw ml) z e:Nat):Int):=by
   unfold Kh;rw[<-aA,Hw p2 m1,<-hg.gen.mod p2 m1 (i*e),<-hr,<-hd,Nat.mul_mod,Nat.mod_mod,<-Nat.mul_mod]
  rw[aC]at aH;have T1:Hia ((e:Int).tmod (((p^m:Nat):Int)-1)=(d:Int)):=Aa (by
   rw[Int.tmod_eq_emod_of_nonneg ac,<-hd,Int.natCast_emod]
   congr 1
   omega)
  have T2:Hia (((d:Int)+(((p^m:Nat):Int)-1)).tmod (((p^m:Nat):Int)-1)=(d:Int)):=Aa (by
   rw[Int.tmod_eq_emod_of_nonneg ac,Int.add_emod_right];exact Int.emod_eq_of_lt ac ac)
  have T3:Hia (((i:Int)*d).tmod (((p^m:Nat):Int)-1)=(r:Int)):=Aa (by
   rw[Int.tmod_eq_emod_of_nonneg (by rw[<-Int.natCast_mul];omega),<-hr,Int.natCast_emod,Int.natCast_mul]
   congr 1
   omega)
  have HID:(i:Int)*(d:Int)<=256*256:=by
   have:=Nat.mul_le_mul (show i<=256 by omega) (show d<=256 by omega);rw[<-Int.natCast_mul];omega
  have HID0:0<=(i:Int)*(d:Int):=by rw[<-Int.natCast_mul];omega
  generalize BF p m (lw ml) z e=kz at *;generalize p^m=q at *;have C3:=Aa c3;have C4:=Aa c4;have C5:=Aa c5;clear hg hf e4 l4 aB aA hd hr aC h0 c3 c4 c5;go_enter Tryz.func162,Tryz.ntmps162
  go_wp2_with fail
  refine aD.o.mono ?_;rintro e w1⟨rfl,n0,rfl⟩;have c3:=C3.o;have c4:=C4.o;have c5:=C5.o;have i0:=T1.o;have i1:IntKind.i64.wrap ((d:Int)+((q:Int)-1))=(d:Int)+((q:Int)-1):=IntWalk.i64_in _ ac;have i2:IntKind.i64.wrap ((q:Int)-1)=(q:Int)-1:=IntWalk.i64_in _ ac;have i3:=T2.o;have i6:=T3.o;have i7:IntKind.i64.wrap ((i:Int)*(d:Int))=(i:Int)*(d:Int):=IntWalk.i64_in _ ac;have i4:¬q=1:=br;have i5:¬((q:Int)-1=0):=ac;go_wp2_with fail
  go_quiet (fail)
  go_wp2_with fail
  go_ret2;exact⟨rfl,_,World.drewN_drewN _ _ _⟩
theorem Uw(w:World)(hg:A9 w b p m ml x0):
  Calls Tryz.prog 204 #[.pointer (some ⟨b,0,none⟩)] w fun r w'=>∃v,r= .returned (.agg #[.int .i64 p,.int .i64 m,v])/\Am w' v ml/\Ex w w':=by
 obtain⟨mv,aK,aF⟩:=hg.c2;have hln:ml.length<=8:=by
  have h1:=hg.sh.len;have h2:=hg.sh.m8;split at h1 <;> omega
 have ea:Ex w (w.alloc (.cells #[.int .i64 0,.int .i64 0,.slice none 0 0] 24)):=(Ex.refl _).alloc _;have q0:(w.alloc (.cells #[.int .i64 0,.int .i64 0,.slice none 0 0] 24)).cell? ⟨w.heap.size,0,none⟩=some (.int .i64 0):=ag;have q1:(w.alloc (.cells #[.int .i64 0,.int .i64 0,.slice none 0 0] 24)).cell? ⟨w.heap.size,1,none⟩=some (.int .i64 0):=ag;have q2:(w.alloc (.cells #[.int .i64 0,.int .i64 0,.slice none 0 0] 24)).cell? ⟨w.heap.size,2,none⟩=some (.slice none 0 0):=ag;have aE:(w.alloc (.cells #[.int .i64 0,.int .i64 0,.slice none 0 0] 24)).frozen? ⟨w.heap.size,0,none⟩=false:=ag;have aD:(w.alloc (.cells #[.int .i64 0,.int .i64 0,.slice none 0 0] 24)).frozen? ⟨w.heap.size,1,none⟩=false:=ag;have aC:(w.alloc (.cells #[.int .i64 0,.int .i64 0,.slice none 0 0] 24)).frozen? ⟨w.heap.size,2,none⟩=false:=ag;have aU:=Aa (aF.ex ea);have c0:=ea.cell hg.c0;have c1:=ea.cell hg.c1;have c2:=ea.cell aK;obtain⟨ma,mc,rfl,_,m2,_⟩:=aF.open;unfold maxLen at m2;clear aF aK hg;go_enter Tryz.func204,Tryz.ntmps204
 go_wp2_with fail
 obtain⟨q,hq⟩:=nA w.heap.size;rw[hq]at q0 q1 q2 aE aD aC
 try simp only[hq]
 have HQ:=Aa hq;clear hq;generalize w.alloc (.cells #[.int .i64 0,.int .i64 0,.slice none 0 0] 24)=W1 at *;obtain⟨aW,Q0,Q1,Q2,aT,aS,aR⟩:=OK ea q0 q1 q2 aE aD aC;have aO:=((Ex.refl W1).alloc (.cells #[] 3)).cell c0;have aN:=((Ex.refl W1).alloc (.cells #[] 3)).cell c1;have aM:=((Ex.refl W1).alloc (.cells #[] 3)).cell c2;clear q0 q1 q2 aE aD aC ea
 go_region_law ((refine Ci bp _ _ _ bp W1.heap.size 3 (.int .i64 0) 1 8 Tryz.underlying22 AA rfl ae _ 0 [] bp (Aj (Bp W1 _) (by repeat (first|exact Ex.refl _|apply Ex.drew))) _ ml.length (Ao ml) bp (aU.o.ex (by repeat (first|exact Ex.refl _|apply Ex.drew|apply Ex.alloc))) (by intro u hu;obtain⟨z,_,rfl⟩:=List.mem_map.1 hu;rfl) ai ac ag ?_;intro v8 w8 aA aJ aQ;obtain⟨va,aB,aP⟩:=Ad aA;subst aP;have E8:=Aa (Ex.grown (((Ex.refl W1).alloc (.cells #[] 3)).drew) (Aj (Bp W1 3) (Ex.refl _).drew) (Nat.le_refl _) aJ);have y0:=E8.o.cell c0;have y1:=E8.o.cell c1;have y2:=E8.o.cell c2;have q0:=E8.o.cell Q0.o;have q1:=E8.o.cell Q1.o;have q2:=E8.o.cell Q2.o;have aE:=E8.o.frz Q0.o aT.o;have aD:=E8.o.frz Q1.o aS.o;have aC:=E8.o.frz Q2.o aR.o;have aL:=Aa aA;clear aA aJ aQ))
 all_goals
  have aV:=Aa (show Am w8 (.slice va ml.length aB) ml from by have:=JI aL.o;rwa[Nat.zero_add]at this);have aI:∀B,(Value.slice va ml.length aB).ownBlock=some B->B≠q:=fun B h e=>by
   have h1:=(aL.o.lt B dq).1;have h2:q<W1.heap.size:=World.block_lt_of_cell? _ _ Q0.o;omega
  have aH:=Aa aI;have aG:=Aa (show w.heap.size<=q from Nat.le_of_eq HQ.o);clear aI c0 c1 c2 aO aN aM y0 y1 y2;go_wp2_with fail
  exact bodyPost_ret (v:= .agg #[.int .i64 p,.int .i64 m,.slice va ml.length aB]) (by simp[results,Tryz.results204,go_sem,q0,q1,q2]) rfl ⟨_,rfl,Sl.other (Sl.other (Sl.other aV.o (fun B h=>aH.o B h) _) (fun B h=>aH.o B h) _) (fun B h=>aH.o B h) _,(((aW.o.trans E8.o).setCell (p:=⟨q,0,none⟩) aG.o _).setCell (p:=⟨q,1,none⟩) aG.o _).setCell (p:=⟨q,2,none⟩) aG.o _⟩
end
theorem T8{p m:Nat}(hp:1<=p):Ct p m 0=0:=by
 have h:=Cy (p:=p) (m:=m) hp 0
 rwa[DA hp (CD hp 0)]at h
theorem NJ{p m a b:Nat}(hp:1<=p)(ha:a<p^m)(hb:b<p^m)(h:AI p m a (Ct p m b)=0):a=b:=by
 have h1:AI p m (AI p m a (Ct p m b)) b=a:=by
  rw[BI hp,DL (Ct p m b),Cy hp,BY hp ha]
 rw[h,DA hp hb]at h1;exact h1.symm
theorem Yr{q:Nat}{x y:Int}(hx:0<=x/\x<q)(hy:0<=y/\y<q)(h:Au q x=Au q y):x=y:=by
 have h1:=Er hx.1 hx.2;have h2:=Er hy.1 hy.2;rw[h]at h1;omega
theorem Ed{p m:Nat}(hp:2<=p)(hm:1<=m):Au (p^m) 1=1:=Ax (q:=p^m) (x:=1) (Bb hp hm)
theorem Th:∀ {l k:List Nat},l.Pairwise (·< ·)->k.Pairwise (·< ·)->(∀x,x∈l↔x∈k)->l=k
 | [], [],_,_,_=>rfl
 | [],y :: k,_,_,h=>by have:=(h y).2 (List.mem_cons_self ..);cases this
 | x :: l, [],_,_,h=>by have:=(h x).1 (List.mem_cons_self ..);cases this
 | x :: l,y :: k,hl,hk,h=>by
  obtain⟨l1,l2⟩:=List.pairwise_cons.1 hl;obtain⟨k1,k2⟩:=List.pairwise_cons.1 hk;have e:x=y:=by
   rcases List.mem_cons.1 ((h x).1 (List.mem_cons_self ..)) with e|e
   .exact e
   .rcases List.mem_cons.1 ((h y).2 (List.mem_cons_self ..)) with e2|e2
    .exact e2.symm
    .have h1:=k1 x e;have h2:=l1 y e2;omega
  subst e;rw[Th l2 k2 fun z=>?_];constructor
  .intro hz;rcases List.mem_cons.1 ((h z).1 (List.mem_cons_of_mem _ hz)) with e|e
   .have:=l1 z hz;omega
   .exact e
  .intro hz;rcases List.mem_cons.1 ((h z).2 (List.mem_cons_of_mem _ hz)) with e|e
   .have:=k1 z hz;omega
   .exact e
section
variable {p m:Nat} {ml:List Int} {N R:Nat} {a:Nat->Nat->Int} {piv:List Nat} {c0 c:Nat} {x:Nat->Int}
theorem Kv.ex(hP:PV p m R N a piv c0)(aA:∀i:Nat,piv[i]?≠some c):∀k,k<=piv.length->∃x,Kv p m a piv c k x
 | 0,_=>⟨_,Kv.zero⟩
 | k+1,hk=>by
  obtain⟨x,hx⟩:=Kv.ex hP aA k ac;have hq:piv[k]?=some (piv[k]'ac):=List.getElem?_eq_getElem _;exact⟨_,hx.succ hP hq fun e=>aA k (by rw[hq,e])⟩
theorem Gz(hp:2<=p){f:Nat->Int}{k:Nat}(hk:k<N)(h:∀j,j<N->j≠k->f j≠0->x j=0):dt p m ml N f x=Ai p m (lw ml) (Au (p^m) (f k)) (Au (p^m) (x k)):=by
 have aA:(il N f).length=N:=AF _ _;have hg:∀j,j<N->(il N f).getD j 0=f j:=fun j hj=>by
  exact zc5
 have e1:BM p m ml (il N f) (il N x) 0=AI p m (BM p m ml (il N f) (il N fun _=>(0:Int)) 0) (Ai p m (lw ml) (Au (p^m) ((il N f).getD k 0)) (Au (p^m) (x k))):=
  KY hp aA hk rfl fun j hj aB hr=>h j hj aB (by rwa[hg j hj]at hr)
 have e0:BM p m ml (il N f) (il N fun _=>(0:Int)) 0=0:=by
  have:=EO (p:=p) (m:=m) (ml:=ml) (N:=N) hp (f:=fun _=>0) (x:=f) (fun j _=>rfl);rw[DT]at this;exact this
 show BM p m ml (il N f) (il N x) 0=_
 rw[e1,e0,hg k hk,DA ac (AR ac _ _)]
theorem Kv.dt_none(hp:2<=p)(hm:1<=m)(hc:c<N)(h:Kv p m a piv c piv.length x){f:Nat->Int}(hz:∀k r:Nat,piv[k]?=some r->f r=0):dt p m ml N f x=Au (p^m) (f c):=by
 rw[Gz hp hc fun j hj aA hf=>h.z j aA fun i _ hi=>hf (hz i j hi),h.c1,Ed hp hm,Bh hp hm (BB (Nat.pow_pos ac) _)]
theorem Kv.dt_piv(hp:2<=p)(hm:1<=m)(hc:c<N)(h:Kv p m a piv c piv.length x){f:Nat->Int}{i q:Nat}(hq:piv[i]?=some q)(aC:q<N)(aD:q≠c)(aI:f q=1)(hz:∀k r:Nat,piv[k]?=some r->k≠i->f r=0):
  dt p m ml N f x=AI p m (Au (p^m) (f c)) (Ct p m (Au (p^m) (a i c))):=by
 have aB:(il N f).length=N:=AF _ _;have aE:0<p^m:=Nat.pow_pos ac;have hg:∀j,j<N->(il N f).getD j 0=f j:=fun j hj=>by
  exact zc5
 have aH:i<piv.length:=(List.getElem?_eq_some_iff.1 hq).1;have e1:dt p m ml N f (Az (fun _=>(0:Int)) c 1)=Au (p^m) (f c):=by
  rw[Gz hp hc fun j hj aG _=>(show Az (fun _=>(0:Int)) c 1 j=0 from Ae _ _ aG),Ab,Ed hp hm,Bh hp hm (BB aE _)]
 have e2:BM p m ml (il N f) (il N x) 0=AI p m (BM p m ml (il N f) (il N (Az (fun _=>(0:Int)) c 1)) 0) (Ai p m (lw ml) (Au (p^m) ((il N f).getD q 0)) (Au (p^m) (x q))):=
  KY hp aB aC (Ae _ _ aD) fun j hj aF hr=>by
   rw[hg j hj]at hr;by_cases e:j=c
   .rw[e,h.c1,Ab]
   .rw[Ae _ _ e];refine h.z j e fun k hk aA=>?_;by_cases ek:k=i
    .subst ek;rw[hq]at aA;injection aA with aA;exact aF aA.symm
    .exact hr (hz k j aA ek)
 show BM p m ml (il N f) (il N x) 0=_
 rw[e2];show AI p m (dt p m ml N f (Az (fun _=>(0:Int)) c 1)) _=_
 rw[e1,hg q aC,aI,h.pv i q aH hq,Ed hp hm,Ax (CD ac _),Bt hp hm (CD ac _)]
def RR(p m N R:Nat)(a:Nat->Nat->Int)(piv:List Nat):Prop:=∃c,c<=N/\PV p m R N a piv c/\(piv.length=R∨c=N)
theorem RR.sol(hp:2<=p)(hm:1<=m)(h:RR p m N R a piv)(hc:c<N)(aA:∀i:Nat,piv[i]?≠some c)(hx:Kv p m a piv c piv.length x):Bz p m ml N R a x:=by
 obtain⟨c1,h1,h2,h3⟩:=h;exact hx.sol hp hm h2 h3 h1 hc aA
theorem RR.piv_iff(hp:2<=p)(hm:1<=m)(h:RR p m N R a piv)(hc:c<N):c∈piv↔¬∃x,Bz p m ml N R a x/\Au (p^m) (x c)≠0/\∀j,c<j->x j=0:=by
 have h0:=h;obtain⟨c1,h1,hP,h3⟩:=h;constructor
 .rintro aA⟨x,hS,hx,hz⟩;obtain⟨i,hi,e⟩:=List.getElem_of_mem aA;have hq:piv[i]?=some c:=by rw[List.getElem?_eq_getElem hi,e]
  have:=hS i (by have:=hP.le;omega);rw[Gz hp hc fun j hj aD hf=>by
   rcases Nat.lt_or_gt_of_ne aD with e1|e1
   .exact absurd (hP.lead i c j hq e1) hf
   .exact hz j e1,hP.one i c hq,Ed hp hm,Bt hp hm (BB (Nat.pow_pos ac) _)]at this
  exact hx this
 .intro hn;by_cases aA:c∈piv
  .exact aA
  .exfalso;have aC:∀i:Nat,piv[i]?≠some c:=fun i hi=>aA (List.mem_of_getElem? hi);obtain⟨x,hx⟩:=Kv.ex hP aC piv.length (Nat.le_refl _);refine hn ⟨x,h0.sol hp hm hc aC hx,by rw[hx.c1,Ed hp hm];decide,fun j hj=>?_⟩;by_cases hj2:∃i,i<piv.length/\piv[i]?=some j
   .obtain⟨i,hi,aB⟩:=hj2;rw[hx.pv i j hi aB,hP.lead i j c aB hj,CG,T8 ac];rfl
   .exact hx.z j ac fun i hi aB=>hj2 ⟨i,hi,aB⟩
theorem RR.asc(h:RR p m N R a piv):piv.Pairwise (·< ·)/\∀q∈piv,q<N:=by
 obtain⟨c1,h1,hP,h3⟩:=h;refine⟨List.pairwise_iff_getElem.2 fun i j hi hj aA=>hP.asc i j _ _ aA (List.getElem?_eq_getElem hi) (List.getElem?_eq_getElem hj),fun q hq=>?_⟩;obtain⟨i,hi,e⟩:=List.getElem_of_mem hq;have:=hP.lt i q au;omega
theorem XH(hp:2<=p)(hm:1<=m){R':Nat}{a':Nat->Nat->Int}{piv':List Nat}(h:RR p m N R a piv)(h':RR p m N R' a' piv')(hS:∀x,Bz p m ml N R a x↔Bz p m ml N R' a' x):
  piv=piv'/\∀i,i<piv.length->∀j,j<N->a i j=a' i j:=by
 have aF:piv=piv':=Th h.asc.1 h'.asc.1 fun q=>by
  constructor
  .intro hq;have aA:=h.asc.2 q hq;refine(h'.piv_iff (ml:=ml) hp hm aA).2 ?_;rintro⟨x,h1,h2⟩;exact(h.piv_iff (ml:=ml) hp hm aA).1 hq ⟨x,(hS x).2 h1,h2⟩
  .intro hq;have aA:=h'.asc.2 q hq;refine(h.piv_iff (ml:=ml) hp hm aA).2 ?_;rintro⟨x,h1,h2⟩;exact(h'.piv_iff (ml:=ml) hp hm aA).1 hq ⟨x,(hS x).1 h1,h2⟩
 subst aF;refine⟨rfl,fun i hi j hj=>?_⟩;have hq:piv[i]?=some piv[i]:=List.getElem?_eq_getElem hi;obtain⟨q,aE⟩:=nA (piv[i]);rw[aE]at hq;have aA:=h.asc.2 q (List.mem_of_getElem? hq);have aH:=h';obtain⟨c1,h1,hP,h3⟩:=h;obtain⟨c1',h1',aB,h3'⟩:=h';by_cases hjp:∃k:Nat,piv[k]?=some j
 .obtain⟨k,hk⟩:=hjp;by_cases e:k=i
  .subst e;rw[hP.one k j hk,aB.one k j hk]
  .rw[hP.zer k j i hk (by have:=hP.le;omega) (fun e2=>e e2.symm),aB.zer k j i hk (by have:=aB.le;omega) (fun e2=>e e2.symm)]
 .have aC:∀k:Nat,piv[k]?≠some j:=fun k hk=>hjp ⟨k,hk⟩;obtain⟨x,hx⟩:=Kv.ex aB aC piv.length (Nat.le_refl _);have hs:=(hS x).2 (aH.sol hp hm hj aC hx) i (by have:=hP.le;omega);rw[hx.dt_piv hp hm hj hq aA (fun e=>aC i (by rw[<-e];exact hq)) (hP.one i q hq) fun k r hk aG=>hP.zer k r i hk (by have:=hP.le;omega) (fun e=>aG e.symm)]at hs;have aD:0<p^m:=Nat.pow_pos ac;exact Yr (hP.rng i (by have:=hP.le;omega) j hj) (aB.rng i (by have:=aB.le;omega) j hj) (NJ ac (BB aD _) (BB aD _) hs)
def Cl(p m:Nat)(ml:List Int)(N R:Nat)(a:Nat->Nat->Int)(v:Nat->Int):Prop:=∀x,Bz p m ml N R a x->dt p m ml N v x=0
theorem Cl.row{i:Nat}(hi:i<R):Cl p m ml N R a (a i):=fun x h=>h i hi
theorem Cl.sol_iff{R':Nat}{a':Nat->Nat->Int}:(∀i,i<R'->Cl p m ml N R a (a' i))↔∀x,Bz p m ml N R a x->Bz p m ml N R' a' x:=
 ⟨fun h x hx i hi=>h i hi x hx,fun h i hi x hx=>h x hx i hi⟩
structure Tp(N:Nat)(a:Nat->Nat->Int)(pl:Nat->Nat)(n:Nat):Prop where
 lt:∀i,i<n->pl i<N
 one:∀i,i<n->a i (pl i)=1
 zer:∀i j,j<i->i<n->a i (pl j)=0
theorem Tp.mono{pl:Nat->Nat}{n k:Nat}(h:Tp N a pl n)(hk:k<=n):Tp N a pl k:=⟨fun i hi=>h.lt i ac,fun i hi=>h.one i ac,fun i j hj hi=>h.zer i j hj ac⟩
theorem Tp.solve(hp:2<=p)(hm:1<=m){pl:Nat->Nat}:∀n,Tp N a pl n->∀y:Nat->Int,∃x,(∀j,(∀i,i<n->pl i≠j)->x j=y j)/\Bz p m ml N n a x
 | 0,_,y=>⟨y,fun _ _=>rfl,fun i hi=>by omega⟩
 | n+1,h,y=>by
  have hq0:0<p^m:=Nat.pow_pos ac;obtain⟨s,hs⟩:=nA (dt p m ml N (a n) (Az y (pl n) 0));have hsl:s<p^m:=by rw[<-hs];exact MI hp _ _
  obtain⟨x,aA,aE⟩:=Tp.solve hp hm n (h.mono ac) (Az y (pl n) ((Ct p m s:Nat):Int));refine⟨x,fun j hj=>?_,fun i hi=>?_⟩
  .rw[aA j fun i hi=>hj i ac,Ae _ _ (fun e=>hj n ac e.symm)]
  .by_cases e:i=n
   .subst e;have aB:(il N (a i)).length=N:=AF _ _;have hg:∀j,j<N->(il N (a i)).getD j 0=a i j:=fun j hj=>by
     exact zc5
    have aC:=h.lt i ac;have e1:BM p m ml (il N (a i)) (il N x) 0=AI p m (BM p m ml (il N (a i)) (il N (Az y (pl i) 0)) 0) (Ai p m (lw ml) (Au (p^m) ((il N (a i)).getD (pl i) 0)) (Au (p^m) (x (pl i)))):=
     KY hp aB aC (Ab _ _ _) fun j hj aD hr=>by
      rw[hg j hj]at hr;rw[aA j fun k hk e=>hr (by rw[<-e];exact h.zer i k hk ac),Ae _ _ aD,Ae _ _ aD]
    have e3:x (pl i)=((Ct p m s:Nat):Int):=by
     rw[aA (pl i) fun k hk e=>by
      have h1:=h.zer i k hk ac;rw[e,h.one i ac]at h1;exact absurd h1 ae,Ab]
    show BM p m ml (il N (a i)) (il N x) 0=0
    rw[e1,hg _ aC,h.one i ac,e3,Ed hp hm,Ax (CD ac _),Bt hp hm (CD ac _)];show AI p m (dt p m ml N (a i) (Az y (pl i) 0)) _=0
    rw[hs,Cy ac]
   .exact aE i ac
theorem Tp.zero(hp:2<=p)(hm:1<=m){pl:Nat->Nat}{n:Nat}(h:Tp N a pl n){r:Nat->Int}(hz:∀i,i<n->r (pl i)=0)(hc:Cl p m ml N n a r){k:Nat}(hk:k<N):Au (p^m) (r k)=0:=by
 by_cases hkp:∃i,i<n/\pl i=k
 .obtain⟨i,hi,rfl⟩:=hkp;rw[hz i hi,CG]
 .obtain⟨x,h1,h2⟩:=Tp.solve (ml:=ml) hp hm n h (Az (fun _=>0) k 1);have h3:=hc x h2;rw[Gz hp hk fun j hj aA hr=>by
   rw[h1 j fun i hi e=>hr (by rw[<-e];exact hz i hi),Ae _ _ aA],h1 k fun i hi e=>hkp ⟨i,hi,e⟩,Ab,Ed hp hm,Bh hp hm (BB (Nat.pow_pos ac) _)]at h3
  exact h3
theorem zcR{P:Prop}(h:P:=by
 rw[List.getD_eq_getElem?_getD,List.getElem?_eq_getElem hi];rfl):P:=h
theorem RR.ech(h:RR p m N R a piv):Tp N a (fun i=>piv.getD i 0) piv.length:=by
 have h0:=h;obtain⟨c1,h1,hP,h3⟩:=h;have hg:∀i,i<piv.length->piv[i]?=some (piv.getD i 0):=fun i hi=>by
  exact zcR
 exact⟨fun i hi=>h0.asc.2 _ (List.mem_of_getElem? (hg i hi)),fun i hi=>hP.one i _ (hg i hi),fun i j hj hi=>hP.zer j _ i (hg j ac) (by have:=hP.le;omega) ac⟩
end
def pI(piv:List Nat):List Int:=piv.map fun (x:Nat)=>(x:Int)
theorem Kl(piv:List Nat):(pI piv).length=piv.length:=by unfold pI;simp
theorem Ns{w w':World}{base:Nat}{e:TypeId}{size:Nat}{v:Value}{n:Nat}{xs:List Value}(h:w.ownsRow base e size v n xs)(hk:∀b,v.ownBlock=some b->w'.heap[b]?=w.heap[b]?):w'.ownsRow base e size v n xs:=by
 refine⟨h.1,?_⟩;rcases h.2 with h1|⟨g,cap,cur,rfl,hb,hg,h3⟩
 .exact .inl h1
 .exact .inr ⟨g,cap,cur,rfl,hb,by rw[hk g rfl];exact hg,h3⟩
def AV(pv:Value)(B4 B5 B7:Nat):List Nat:=pv.ownBlock.toList ++ [B4,B5,B7]
structure EB(w0 w:World)(base g R N:Nat)(blk cap:Nat->Nat)(a:Nat->Nat->Int)(avs:List Nat)(B4 B5 B7 b:Nat)(pv:Value)(piv:List Nat):Prop where
 em:EM w base g R N blk cap a avs
 i4:B4∈avs
 i5:B5∈avs
 i7:B7∈avs
 c4:w.cell? ⟨B4,0,none⟩=some (.pointer (some ⟨b,0,none⟩))
 c5:w.cell? ⟨B5,0,none⟩=some (.slice (some ⟨g,0,none⟩) R R)
 c7:w.cell? ⟨B7,0,none⟩=some (.slice none 0 0)
 pvo:w.ownsRow base 3 1 pv piv.length (Ao (pI piv))
 pvi:∀B,pv.ownBlock=some B->B∈avs/\B≠B4/\B≠B5/\B≠B7
 ex:Ex w0 w
 bs:w0.heap.size<=base
section
variable {w0 w:World} {base g R N:Nat} {blk cap:Nat->Nat} {a:Nat->Nat->Int} {avs:List Nat} {B4 B5 B7 b:Nat} {pv:Value} {piv:List Nat}
theorem EB.later(h:EB w0 w base g R N blk cap a avs B4 B5 B7 b pv piv){w':World}(hx:Ex w w'):EB w0 w' base g R N blk cap a avs B4 B5 B7 b pv piv:=
 ⟨h.em.ex hx,h.i4,h.i5,h.i7,hx.cell h.c4,hx.cell h.c5,hx.cell h.c7,Aj h.pvo hx,h.pvi,h.ex.trans hx,h.bs⟩
theorem EB.box(h:EB w0 w base g R N blk cap a avs B4 B5 B7 b pv piv)(o:Obj):EB w0 (w.alloc o) base g R N blk cap a (w.heap.size :: avs) B4 B5 B7 b pv piv:=by
 have h1:=h.later ((Ex.refl w).alloc o);exact⟨h.em.box o,List.mem_cons_of_mem _ h.i4,List.mem_cons_of_mem _ h.i5,List.mem_cons_of_mem _ h.i7,h1.c4,h1.c5,h1.c7,h1.pvo,fun B hB=>by obtain⟨k1,k2⟩:=h.pvi B hB;exact⟨List.mem_cons_of_mem _ k1,k2⟩,h1.ex,h1.bs⟩
theorem EB.less(h:EB w0 w base g R N blk cap a avs B4 B5 B7 b pv piv){bvs:List Nat}(hs:∀B∈bvs,B∈avs)(h4:B4∈bvs)(h5:B5∈bvs)(h7:B7∈bvs)(hp:∀B,pv.ownBlock=some B->B∈bvs):EB w0 w base g R N blk cap a bvs B4 B5 B7 b pv piv:=
 ⟨h.em.less hs,h4,h5,h7,h.c4,h.c5,h.c7,h.pvo,fun B hB=>⟨hp B hB,(h.pvi B hB).2⟩,h.ex,h.bs⟩
theorem bc{P:Prop}(h:P:=by unfold AV;simp):P:=h
theorem EB.toAV(h:EB w0 w base g R N blk cap a avs B4 B5 B7 b pv piv):EB w0 w base g R N blk cap a (AV pv B4 B5 B7) B4 B5 B7 b pv piv:=by
 refine h.less (fun B hB=>?_) bc bc bc (fun B hB=>by unfold AV;rw[hB];simp);unfold AV at hB;rcases List.mem_append.1 hB with hB|hB
 .have:pv.ownBlock=some B:=by
   cases e:pv.ownBlock with
   | none=>rw[e]at hB;simp at hB
   | some C=>rw[e]at hB;simp at hB;rw[hB]
  exact(h.pvi B this).1
 .simp at hB;rcases hB with rfl|rfl|rfl
  .exact h.i4
  .exact h.i5
  .exact h.i7
theorem EB.step(h:EB w0 w base g R N blk cap a avs B4 B5 B7 b pv piv){a':Nat->Nat->Int}{r:Ending}{w':World}(hs:Stp w base g R N a' avs r w'):∃aB aA,EB w0 w' base g R N aB aA a' avs B4 B5 B7 b pv piv:=by
 obtain⟨_,⟨aB,aA,he⟩,hk,hx⟩:=hs;exact⟨aB,aA,he,h.i4,h.i5,h.i7,hk.cell h.i4 h.c4,hk.cell h.i5 h.c5,hk.cell h.i7 h.c7,Ns h.pvo fun B hB=>hk B (h.pvi B hB).1,h.pvi,hx w0 h.ex h.bs,h.bs⟩
theorem EB.setB(h:EB w0 w base g R N blk cap a avs B4 B5 B7 b pv piv){B:Nat}(hB:B∈avs)(h4:B≠B4)(h5:B≠B5)(h7:B≠B7)(hp:pv.ownBlock≠some B)(hw:w0.heap.size<=B)(u:Value):EB w0 (w.setCell ⟨B,0,none⟩ u) base g R N blk cap a avs B4 B5 B7 b pv piv:=
 ⟨h.em.setBox hB u,h.i4,h.i5,h.i7,by rw[Ag h4];exact h.c4,by rw[Ag h5];exact h.c5,by rw[Ag h7];exact h.c7,Ac h.pvo hp u,h.pvi,h.ex.setCell (p:=⟨B,0,none⟩) hw u,h.bs⟩
theorem EB.app(h:EB w0 w base g R N blk cap a avs B4 B5 B7 b pv piv){c:Nat}{w':World}{pv':Value}(ha:Bn w w' base 3 1 pv pv' piv.length (Ao (pI piv)) [.int .i64 c]):EB w0 w' base g R N blk cap a (AV pv' B4 B5 B7) B4 B5 B7 b pv' (piv ++ [c]):=by
 have hne:∀B∈avs,(∀C,pv.ownBlock=some C->C≠B)->some B≠pv.ownBlock:=fun B _ hn e=>hn B e.symm rfl;have n4:some B4≠pv.ownBlock:=fun e=>(h.pvi B4 e.symm).2.1 rfl;have n5:some B5≠pv.ownBlock:=fun e=>(h.pvi B5 e.symm).2.2.1 rfl;have n7:some B7≠pv.ownBlock:=fun e=>(h.pvi B7 e.symm).2.2.2 rfl;have ng:pv.ownBlock≠some g:=fun e=>(h.em.av g (h.pvi g e).1).2.1 rfl;have nb:∀i,i<R->pv.ownBlock≠some (blk i):=fun i hi e=>(h.em.av _ (h.pvi _ e).1).2.2 i hi rfl;have hsz:=ha.grow;have l4:=(h.em.av B4 h.i4);have l5:=(h.em.av B5 h.i5);have l7:=(h.em.av B7 h.i7);have aA:∀B,pv'.ownBlock=some B->(pv.ownBlock=some B)∨B=w.heap.size+1:=fun B hB=>by
  rcases ha.at_ with k|k
  .exact .inl (by rw[<-k];exact hB)
  .rw[k]at hB;injection hB with hB;exact .inr hB.symm
 have aB:∀i,i<R->A6 w' base 3 (blk i) N (cap i) (iv (a i)):=fun i hi=>(ha.row (h.em.row i hi) (.inr (fun e=>nb i hi e.symm))).1;have aD:AG w' base 22 g R (DW blk cap N):=(ha.arr h.em.arr ng).1;refine⟨⟨aD,aB,h.em.apart,h.em.off,fun B hB=>?_⟩,by unfold AV;simp,by unfold AV;simp,by unfold AV;simp,ha.cell h.c4 n4,ha.cell h.c5 n5,ha.cell h.c7 n7,?_,fun B hB=>⟨by unfold AV;rw[hB];simp,?_⟩,ha.ex h.ex h.bs,h.bs⟩
 .unfold AV at hB;rcases List.mem_append.1 hB with hB|hB
  .have aC:pv'.ownBlock=some B:=by
    cases e:pv'.ownBlock with
    | none=>rw[e]at hB;simp at hB
    | some C=>rw[e]at hB;simp at hB;rw[hB]
   refine⟨(ha.own.lt B aC).2,?_,fun i hi=>?_⟩
   .rcases aA B aC with k|k
    .exact(h.em.av B (h.pvi B k).1).2.1
    .have:=h.em.arr.lt.2;omega
   .rcases aA B aC with k|k
    .exact(h.em.av B (h.pvi B k).1).2.2 i hi
    .have:=(h.em.row i hi).lt.2;omega
  .simp at hB;rcases hB with rfl|rfl|rfl
   .exact⟨ac,l4.2⟩
   .exact⟨ac,l5.2⟩
   .exact⟨ac,l7.2⟩
 .have:=ha.own;rw[List.length_append,List.length_singleton];have e:Ao (pI (piv ++ [c]))=Ao (pI piv) ++ [.int .i64 c]:=by simp[pI,Ao]
  rw[e];exact this
 .rcases aA B hB with k|k
  .exact(h.pvi B k).2
  .omega
end
def Iq(p m:Nat)(ml:List Int)(N R:Nat)(a a':Nat->Nat->Int)(piv:List Nat):Prop:=
 ∃c,c<=N/\PV p m R N a' piv c/\(piv.length=R∨c=N)/\∀x,Bz p m ml N R a' x↔Bz p m ml N R a x
theorem zbg{P:Prop}(h:P:=by
 go_wp2_with fail
 go_roundw
 case rel=>first|exact⟨i+1,aK,aJ,a4,by omega,by go_num,aC,bO,aN,aG,aH,aM⟩|((repeat apply Exists.intro);exact⟨⟨i+1,aK,aJ,a4,by omega,by go_num,aC,bO,aN,aG,aH,aM⟩,rfl⟩)
 case measure=>simp[intOf];omega):P:=h
theorem zb7{P:Prop}(h:P:=by
 go_wp2_with fail
 go_ret2;exact⟨piv,_,_,_,_,_,rfl,eB.o,HE.o,dY.o,dR.o,dW.o⟩):P:=h
theorem Wn{p m:Nat}{ml:List Int}{b x0:Nat}(w0 w:World)(hg:A9 w0 b p m ml x0)(dJ:1<=x0)(dI:x0<p^m)(aZ:Ex w0 w){base g R N:Nat}{blk cap:Nat->Nat}{a:Nat->Nat->Int}(h:EM w base g R N blk cap a [])(hb:w0.heap.size<=base)(hN:N<=256)(hR:R<=256)(cK:Qp p m R N a):
  Calls Tryz.prog 203 #[.pointer (some ⟨b,0,none⟩),.slice (some ⟨g,0,none⟩) R R,.int .i64 N,.slice none 0 0] w fun r w'=>∃piv pv bH bV bT a',r= .returned (.tuple #[pv,.int .i64 bH])/\EM w' base g R N bV bT a' []/\Iq p m ml N R a a' piv/\Am w' pv (pI piv)/\Ex w0 w'/\∀B,pv.ownBlock=some B->base<=B:=by
 have p2:=hg.sh.p2;have m1:=hg.sh.m1;have HG:=Aa hg;have HF:=Aa (hg.isF dJ dI);have eS:=Aa (show 1<=x0/\x0<p^m from⟨dJ,dI⟩);obtain⟨B4,cF⟩:=nA w.heap.size;have h1:=(h.box (.cells #[.pointer (some ⟨b,0,none⟩)] 97)).box (.cells #[.slice (some ⟨g,0,none⟩) R R] 37);have h2:=h1.box (.cells #[.slice none 0 0] 37);have e4:((w.alloc (.cells #[.pointer (some ⟨b,0,none⟩)] 97)).alloc (.cells #[.slice (some ⟨g,0,none⟩) R R] 37)).heap.size=B4+1+1:=by simp[cF]
 have e5:(w.alloc (.cells #[.pointer (some ⟨b,0,none⟩)] 97)).heap.size=B4+1:=by simp[cF]
 rw[e4,e5,cF]at h2;have eX:Hia (EB w0 (((w.alloc (.cells #[.pointer (some ⟨b,0,none⟩)] 97)).alloc (.cells #[.slice (some ⟨g,0,none⟩) R R] 37)).alloc (.cells #[.slice none 0 0] 37)) base g R N blk cap a (AV (.slice none 0 0) B4 (B4+1) (B4+1+1)) B4 (B4+1) (B4+1+1) b (.slice none 0 0) []):=by
  refine Aa ⟨h2.less fun B hB=>?_,by unfold AV;simp,by unfold AV;simp,by unfold AV;simp,?_,?_,?_,World.ownsRow_nil _ _ _ _,fun B hB=>(by cases hB),((aZ.alloc _).alloc _).alloc _,hb⟩
  .unfold AV at hB;simp[Value.ownBlock]at hB;rcases hB with rfl|rfl|rfl <;> simp
  .rw[World.cell?_alloc_lt _ _ _ (by rw[e4];show B4<_;omega),World.cell?_alloc_lt _ _ _ (by rw[e5];show B4<_;omega)];exact AZ _ _ _ cF
  .rw[World.cell?_alloc_lt _ _ _ (by rw[e4];show B4+1<_;omega)];exact AZ _ _ _ e5
  .exact AZ _ _ _ e4
 have fN:=Aa cK;have eD:=Aa (show w0.heap.size<=B4 from by have:=aZ.size;omega);clear h1 h2 h cK hg dJ dI hb aZ;go_enter Tryz.func203,Tryz.ntmps203
 go_wp2_with fail
 try simp only[cF,e5,e4]
 generalize (((w.alloc (.cells #[.pointer (some ⟨b,0,none⟩)] 97)).alloc (.cells #[.slice (some ⟨g,0,none⟩) R R] 37)).alloc (.cells #[.slice none 0 0] 37))=w3 at *;have eN:=Aa (show PV p m R N a [] 0 from PV.init fN.o);have eL:=Aa (show ∀x,Bz p m ml N R a x↔Bz p m ml N R a x from fun x=>Iff.rfl);clear e4 e5 cF
 go_loopw [10,12,13] (fun d' pv c' wr=>∃(c:Nat) (piv:List Nat) (bH:Int) (bV bT:Nat->Nat) (a':Nat->Nat->Int),c<=N/\c'= .int .i64 c/\d'= .int .i64 bH/\Hia (EB w0 wr base g R N bV bT a' (AV pv B4 (B4+1) (B4+1+1)) B4 (B4+1) (B4+1+1) b pv piv)/\Hia (PV p m R N a' piv c)/\Hia (∀x,Bz p m ml N R a' x↔Bz p m ml N R a x)) (fun _ _ c' _=>N-(intOf c').toNat)
 case atStart=>exact⟨0, [],1,blk,cap,a,ac,rfl,rfl,eX,eN,eL⟩
 case round=>
  clear eX eN eL;obtain⟨c,piv,bH,bD,bC,a1,hc,rfl,rfl,aA,dA,aT⟩:=hrel;obtain⟨pa,pc,dL⟩:=Ad aA.o.pvo;subst dL;have c5:=aA.o.c5;have hple:=dA.o.le;have cZ:=Aa (show(piv.length=R∨c=N)->Iq p m ml N R a a1 piv from fun h=>⟨c,hc,dA.o,h,aT.o⟩);have eB:=Aa (aA.o.em.less (bvs:= []) (fun B hB=>by cases hB));have dY:=Aa (show Am wr (.slice pa piv.length pc) (pI piv) from by
   have:=Sl.own aA.o.pvo;unfold Am;rw[Kl];exact this)
  by_cases hcN:c<N
  .have b1:decide ((c:Int)<(N:Int))=true:=by simp;omega
   have b2:decide (c<N)=true:=aq;have b2':(c:Int)<(N:Int):=ac;by_cases hpR:piv.length<R
   .have b3:decide ((piv.length:Int)<(R:Int))=true:=by simp;omega
    have b4:decide (piv.length<R)=true:=aq;clear cZ eB dY;obtain⟨s,hs⟩:=nA piv.length;have HS:=Aa hs;rw[hs]at hpR b3 b4 aA ⊢;clear hs;obtain⟨Q,hQ⟩:=nA wr.heap.size;have cP:(wr.alloc (.cells #[.int .i64 s] 3)).heap.size=Q+1:=by simp[hQ]
    have bB:=aA.o.box (.cells #[.int .i64 s] 3);have aU:=bB.box (.cells #[.int .i64 s] 3);rw[cP,hQ]at aU;have aC:((wr.alloc (.cells #[.int .i64 s] 3)).alloc (.cells #[.int .i64 s] 3)).cell? ⟨Q,0,none⟩=some (.int .i64 s):=by
     rw[World.cell?_alloc_lt _ _ _ (by rw[cP];show Q<_;omega)];exact AZ _ _ _ hQ
    have bU:((wr.alloc (.cells #[.int .i64 s] 3)).alloc (.cells #[.int .i64 s] 3)).cell? ⟨Q+1,0,none⟩=some (.int .i64 s):=AZ _ _ _ cP;have cG:((wr.alloc (.cells #[.int .i64 s] 3)).alloc (.cells #[.int .i64 s] 3)).frozen? ⟨Q+1,0,none⟩=false:=FJ _ _ _ cP;have fK:B4+1+1<Q:=by
     have:=(aA.o.em.av _ aA.o.i7).1;omega
    have eM:∀B,(Value.slice pa s pc).ownBlock=some B->B<Q:=fun B hB=>by
     have:=(aA.o.em.av B (aA.o.pvi B hB).1).1;omega
    obtain⟨fP,aL,cI,eZ,eY⟩:=Of eM aU aC bU cG;have dQ:(wr.alloc (.cells #[.int .i64 s] 3)).cell? ⟨Q,0,none⟩=some (.int .i64 s):=AZ _ _ _ hQ;clear bB aU aA eM;go_upto_region 9 with fail
    clear aC bU cG dQ c5;generalize (wr.alloc (.cells #[.int .i64 s] 3)).alloc (.cells #[.int .i64 s] 3)=W2 at *;have dF:=Aa fK;have dV:=Aa dA.o;have eR:=Aa (show ∀k',s<=k'->k'<s->a1 k' c=0 from fun k' h1 h2=>ac);clear hQ cP dA
    go_loopg [] (R+1) (fun gk wr=>∃k:Nat,s<=k/\k<=R/\R+1-k<=gk/\wr.cell? ⟨Q+1,0,none⟩=some (.int .i64 k)/\wr.frozen? ⟨Q+1,0,none⟩=false/\wr.cell? ⟨Q,0,none⟩=some (.int .i64 s)/\
     Hia (EB w0 wr base g R N bD bC a1 ((Q+1) :: Q :: AV (.slice pa s pc) B4 (B4+1) (B4+1+1)) B4 (B4+1) (B4+1+1) b (.slice pa s pc) piv)/\Hia (∀k',s<=k'->k'<k->a1 k' c=0))
    case atStart=>exact⟨s,Nat.le_refl _,ac,ac,eZ.o,eY.o,cI.o,aL,eR⟩
    case round=>
     clear aL eR cI eZ eY;obtain⟨k,fH,hk2,fI,bU,cG,aC,aA,cJ⟩:=hrel;have c5:=aA.o.c5;by_cases hkR:k<R
     .have cg:=aA.o.em.cell hkR;have ce:=aA.o.em.ent hkR hcN;have i1:(0:Int)<=(k:Int):=by omega
      have i2:(k:Int)<(R:Int):=ac;have i3:(0:Int)<=(c:Int):=ac;by_cases hz:a1 k c=0
      .have fJ:(a1 k c==0)=true:=by simp[hz]
       have cH:=Aa (aA.o.setB (B:=Q+1) ag (by have:=dF.o;omega) (by have:=dF.o;omega) (by have:=dF.o;omega) (fun e=>by have:=fP.o _ e;omega) (by have:=eD.o;have:=dF.o;omega) (.int .i64 ((k:Int)+1)));have cS:(wr.setCell ⟨Q+1,0,none⟩ (.int .i64 ((k:Int)+1))).cell? ⟨Q+1,0,none⟩=some (.int .i64 ((k:Int)+1)):=World.cell?_setCell_same (h:=bU) ..;have aF:(wr.setCell ⟨Q+1,0,none⟩ (.int .i64 ((k:Int)+1))).cell? ⟨Q,0,none⟩=some (.int .i64 s):=by rw[Ag ac];exact aC
       have cR:(wr.setCell ⟨Q+1,0,none⟩ (.int .i64 ((k:Int)+1))).frozen? ⟨Q+1,0,none⟩=false:=by rw[World.frozen?_setCell];exact cG
       have fL:=Aa (show ∀k',s<=k'->k'<k+1->a1 k' c=0 from fun k' h1 h2=>by
        by_cases e:k'=k
        .rw[e];exact hz
        .exact cJ.o k' h1 ac)
       have eF:=Aa cS;have bF:=Aa aF;have eE:=Aa cR;clear hz aA cJ cS aF cR;go_wp2_with fail
       go_roundg (gk-1)
       case rel=>exact⟨k+1,ac,ac,ac,by rw[show((k+1:Nat):Int)=(k:Int)+1 by push_cast;rfl];exact eF.o,eE.o,bF.o,cH,fL⟩
       case measure=>omega
      .have fJ:(a1 k c==0)=false:=by simpa using hz
       have dK:((k:Int)==(R:Int))=false:=aq;have hq2:(k==R)=false:=aq;have bW:=Aa (show s<R/\s<=k/\k<R from⟨ac,fH,hkR⟩);have eV:=Aa hz;have eI:Q+1∈(Q+1) :: Q :: AV (.slice pa s pc) B4 (B4+1) (B4+1+1):=ag;have cN:Q∈(Q+1) :: Q :: AV (.slice pa s pc) B4 (B4+1) (B4+1+1):=ag;have fQ:=Aa eI;have cX:=Aa cN;clear hz cJ cG fI eI cN;go_upto_if 58 with fail
       clear cg ce
       go_cut [10] from 21 to 122 (fun d' wx=>∃(aV:Int) (aB aE:Nat->Nat) (a2:Nat->Nat->Int),d'= .int .i64 aV/\wx.cell? ⟨Q,0,none⟩=some (.int .i64 s)/\
        Hia (EB w0 wx base g R N aB aE a2 ((Q+1) :: Q :: AV (.slice pa s pc) B4 (B4+1) (B4+1+1)) B4 (B4+1) (B4+1+1) b (.slice pa s pc) piv)/\Hia (PV p m R N a2 piv c)/\Hia (∀x,Bz p m ml N R a2 x↔Bz p m ml N R a x)/\Hia (a2 s c≠0))
       case first=>
        by_cases hks:k=s
        .have fE:((k:Int) !=(s:Int))=false:=by simp[hks]
         have fD:(k !=s)=false:=by simp[hks]
         have bY:=Aa (show a1 s c≠0 from by rw[<-hks];exact eV.o);clear hks;go_wp2_with fail
         go_meet
         exact⟨bH,bD,bC,a1,rfl,aC,aA,dV,aT,bY⟩
        .have fE:((k:Int) !=(s:Int))=true:=by simp;omega
         have fD:(k !=s)=true:=aq;obtain⟨HE,HN,dU,cU,bY,cI⟩:=To (Wp wr aA.o.em (B4+1) (B4+1+1) (Q+1) Q s k bW.o.1 bW.o.2.2 (fun e=>hks e.symm) aA.o.i7 fQ.o cX.o aA.o.c5 aA.o.c7 bU aC) (fun wx (h:Ex w0 wx)=>JQ wx (HG.o.ex h) bH) (show PV p m R N (Dx a1 s k) piv c from by have:=dV.o.swp (k:=k) (by rw[HS.o];exact bW.o.2.1) bW.o.2.2;rw[HS.o]at this;exact this) (show ∀x,Bz p m ml N R (Dx a1 s k) x↔Bz p m ml N R a x from fun x=>(Bz.swp bW.o.1 bW.o.2.2).trans (aT.o x)) (show Dx a1 s k s c≠0 from by unfold Dx;rw[if_pos rfl];exact eV.o) aC;clear hks aC bU;go_wp2_with (first|(go_at_call 248;refine HE.o.mono ?_;rintro e wx aD;obtain⟨⟨t,rfl⟩,_⟩:=id aD;obtain⟨aB,aE,aU⟩:=aA.o.step aD;have c4n:=aU.c4;have aF:=aD.2.2.1.cell cX.o cI.o;have aL:=Aa aU;clear aD aU)|(go_at_call 158;refine(HN.o _ aL.o.ex).mono ?_;rintro e wy⟨rfl,n,rfl⟩))
         go_meet
         exact⟨_,aB,aE,_,rfl,((Ex.refl wx).drewN n).cell aF,Aa (aL.o.later ((Ex.refl wx).drewN n)),dU,cU,bY⟩
       case rest=>
        obtain⟨aV,aB,aE,a2,rfl,aC,aA,bA,aS,cM⟩:=hcut;have aR:=bW.o.1;obtain⟨bE,bK,bL,bN,bM⟩:=Of aC (aA.o.em.cell aR) (aA.o.em.ent aR hcN) aA.o.c4 aA.o.c5;obtain⟨r1,r2⟩:=bA.o.rng s aR c hcN;have dH:=Er r1 r2;obtain⟨Z,hZ⟩:=nA (Au (p^m) (a2 s c));rw[hZ]at dH;have eK:1<=Z:=by have:=cM.o;omega
        have dO:Z<p^m:=by rw[<-hZ];exact BB (Nat.pow_pos ac) _
        obtain⟨KI,dC⟩:∃K,DY p m ml Z=K:=⟨_,rfl⟩;have bS:=Kx (ml:=ml) p2 m1 HF.o eK dO;have cQ:KI<p^m:=by rw[<-dC];exact JG (Nat.pow_pos ac) _
        rw[dC]at bS;have cB:=Aa (show Ai p m (lw ml) Z KI=1/\KI<p^m/\a2 s c=Z/\Au (p^m) (a2 s c)=Z/\Z<p^m from⟨bS,cQ,dH.symm,hZ,dO⟩);have aQ:=Aa (show ∀w',Ex w0 w'->Calls Tryz.prog 250 #[.pointer (some ⟨b,0,none⟩),.int .i64 (a2 s c)] w' fun r w''=>r= .returned (.tuple #[.int .i64 (KI:Nat),.int .i64 0])/\∃n,w''=w'.drewN n from fun w' h=>by
         have:=Tm w' (HG.o.ex h) eS.o.1 eS.o.2 (a2 s c);rw[hZ]at this;unfold Ri at this;rw[if_neg ac,dC]at this;exact this)
        obtain⟨KD,eO⟩:∃K,Ai p m (lw ml) (Au (p^m) aV) Z=K:=⟨_,rfl⟩;have cW:=Aa (show ∀w',Ex w0 w'->Calls Tryz.prog 106 #[.pointer (some ⟨b,0,none⟩),.int .i64 aV,.int .i64 (a2 s c)] w' fun r w''=>r= .returned (.int .i64 (KD:Nat))/\∃n,w''=w'.drewN n from fun w' h=>by
         have:=ET w' (HG.o.ex h) aV (a2 s c);rw[hZ,eO]at this;exact this)
        have i1:(0:Int)<=(s:Int):=ac;have i2:(s:Int)<(R:Int):=ac;have i3:(0:Int)<=(c:Int):=ac;clear hZ dC bS cQ eO r1 r2 dH eK dO aC bU c5;go_upto_region 15 with fail
        have E0:Ex wc wc.drew:=(Ex.refl wc).drew;have G0:Ex w0 wc.drew:=aA.o.ex.trans E0
        go_region_held3 (fun w'=>w'.cell? ⟨B4,0,none⟩=some (.pointer (some ⟨b,0,none⟩))/\w'.cell? ⟨B4+1,0,none⟩=some (.slice (some ⟨g,0,none⟩) R R)/\w'.cell? ⟨Q,0,none⟩=some (.int .i64 s)/\w'.cell? ⟨g,s,none⟩=some (.slice (some ⟨aB s,0,none⟩) N (aE s))/\w'.cell? ⟨aB s,c,none⟩=some (.int .i64 (a2 s c)))
         (first|with_reducible exact⟨E0.cell bN.o,E0.cell bM.o,E0.cell bE.o,E0.cell bK.o,E0.cell bL.o⟩|with_reducible exact⟨((Ex.refl wc).drewN _).cell bN.o,((Ex.refl wc).drewN _).cell bM.o,((Ex.refl wc).drewN _).cell bE.o,((Ex.refl wc).drewN _).cell bK.o,((Ex.refl wc).drewN _).cell bL.o⟩)
         ((go_at_call 106;(with_reducible refine(cW.o _ G0).mono ?_);rintro e wx1⟨rfl,n1,rfl⟩))
        clear E0 G0;go_upto_region 16 with fail
        have HD:=Aa (aA.o.later ((Ex.refl wc).drewN (1+n1)));have aY:=Aa (((Ex.refl wc).drewN (1+n1)).cell bE.o);clear bE bK bL bN bM aA cW;generalize wc.drewN (1+n1)=wd at *;obtain⟨bN,bM,bK,bL⟩:=Eq HD.o.c4 HD.o.c5 (HD.o.em.cell aR) (HD.o.em.ent aR hcN);have E0:Ex wd wd.drew:=(Ex.refl wd).drew;have G0:Ex w0 wd.drew:=HD.o.ex.trans E0;have eH:∀n,((wd.drewN n).alloc (.cells #[.int .i64 0] 3)).cell? ⟨wd.heap.size,0,none⟩=some (.int .i64 0):=fun n=>AZ _ _ _ rfl;have fG:∀n,((wd.drewN n).alloc (.cells #[.int .i64 0] 3)).frozen? ⟨wd.heap.size,0,none⟩=false:=fun n=>FJ _ _ _ rfl;have eG:(wd.alloc (.cells #[.int .i64 0] 3)).cell? ⟨wd.heap.size,0,none⟩=some (.int .i64 0):=AZ _ _ _ rfl;have fF:(wd.alloc (.cells #[.int .i64 0] 3)).frozen? ⟨wd.heap.size,0,none⟩=false:=FJ _ _ _ rfl;have cA:=Aa (show ∀(W:World) (u:Value),Ex wd W->(W.setCell ⟨wd.heap.size,0,none⟩ u).cell? ⟨B4,0,none⟩=some (.pointer (some ⟨b,0,none⟩))/\(W.setCell ⟨wd.heap.size,0,none⟩ u).cell? ⟨B4+1,0,none⟩=some (.slice (some ⟨g,0,none⟩) R R)/\(W.setCell ⟨wd.heap.size,0,none⟩ u).cell? ⟨Q,0,none⟩=some (.int .i64 s)/\(W.setCell ⟨wd.heap.size,0,none⟩ u).cell? ⟨g,s,none⟩=some (.slice (some ⟨aB s,0,none⟩) N (aE s))/\(W.setCell ⟨wd.heap.size,0,none⟩ u).cell? ⟨aB s,c,none⟩=some (.int .i64 (a2 s c)) from fun W u hW=>by
         have k1:=World.block_lt_of_cell? _ _ bN.o;have k2:=World.block_lt_of_cell? _ _ bM.o;have k3:=World.block_lt_of_cell? _ _ aY.o;have k4:=World.block_lt_of_cell? _ _ bK.o;have k5:=World.block_lt_of_cell? _ _ bL.o;dsimp only at k1 k2 k3 k4 k5;rw[Ag ac,Ag ac,Ag ac,Ag ac,Ag ac];exact⟨hW.cell bN.o,hW.cell bM.o,hW.cell aY.o,hW.cell bK.o,hW.cell bL.o⟩)
        have cC:=Aa (show ∀(W:World),Ex wd W->W.cell? ⟨B4,0,none⟩=some (.pointer (some ⟨b,0,none⟩))/\W.cell? ⟨B4+1,0,none⟩=some (.slice (some ⟨g,0,none⟩) R R)/\W.cell? ⟨Q,0,none⟩=some (.int .i64 s)/\W.cell? ⟨g,s,none⟩=some (.slice (some ⟨aB s,0,none⟩) N (aE s))/\W.cell? ⟨aB s,c,none⟩=some (.int .i64 (a2 s c)) from fun W hW=>⟨hW.cell bN.o,hW.cell bM.o,hW.cell aY.o,hW.cell bK.o,hW.cell bL.o⟩);have k7:=(HD.o.em.av _ HD.o.i7).1;have k4:=(HD.o.em.av _ HD.o.i4).1;have k5:=(HD.o.em.av _ HD.o.i5).1;have dZ:=Aa (show ∀n,EB w0 (((wd.drewN n).alloc (.cells #[.int .i64 0] 3)).setCell ⟨wd.heap.size,0,none⟩ (.int .i64 (KI:Nat))) base g R N aB aE a2 (wd.heap.size :: (Q+1) :: Q :: AV (.slice pa s pc) B4 (B4+1) (B4+1+1)) B4 (B4+1) (B4+1+1) b (.slice pa s pc) piv from fun n=>by
         have h:=(HD.o.later ((Ex.refl wd).drewN n)).box (.cells #[.int .i64 0] 3);exact h.setB (B:=wd.heap.size) (List.mem_cons_self ..) ac ac ac (fun e=>by have:=(HD.o.em.av _ (HD.o.pvi _ e).1).1;omega) (by have:=eD.o;omega) _)
        have eC:=Aa (show ∀n,(((wd.drewN n).alloc (.cells #[.int .i64 0] 3)).setCell ⟨wd.heap.size,0,none⟩ (.int .i64 (KI:Nat))).cell? ⟨wd.heap.size,0,none⟩=some (.int .i64 (KI:Nat)) from fun n=>World.cell?_setCell_same (h:=eH n) ..);have cD:=Aa (show ∀n,EB w0 (((wd.alloc (.cells #[.int .i64 0] 3)).drewN n).setCell ⟨wd.heap.size,0,none⟩ (.int .i64 (KI:Nat))) base g R N aB aE a2 (wd.heap.size :: (Q+1) :: Q :: AV (.slice pa s pc) B4 (B4+1) (B4+1+1)) B4 (B4+1) (B4+1+1) b (.slice pa s pc) piv from fun n=>by
         have h:=(HD.o.box (.cells #[.int .i64 0] 3)).later ((Ex.refl _).drewN n);exact h.setB (B:=wd.heap.size) (List.mem_cons_self ..) ac ac ac (fun e=>by have:=(HD.o.em.av _ (HD.o.pvi _ e).1).1;omega) (by have:=eD.o;omega) _)
        have cE:=Aa (show ∀n,(((wd.alloc (.cells #[.int .i64 0] 3)).drewN n).setCell ⟨wd.heap.size,0,none⟩ (.int .i64 (KI:Nat))).cell? ⟨wd.heap.size,0,none⟩=some (.int .i64 (KI:Nat)) from fun n=>World.cell?_setCell_same (h:=((Ex.refl _).drewN n).cell eG) ..);have fO:=Aa (show Q<wd.heap.size from World.block_lt_of_cell? _ _ aY.o);clear k4 k5 k7
        go_cut [16,17] from 21 to 122 (fun dG fA wx=>dG= .pointer (some ⟨wd.heap.size,0,none⟩)/\fA= .int .i64 0/\wx.cell? ⟨Q,0,none⟩=some (.int .i64 s)/\wx.cell? ⟨wd.heap.size,0,none⟩=some (.int .i64 (KI:Nat))/\
         Hia (EB w0 wx base g R N aB aE a2 (wd.heap.size :: (Q+1) :: Q :: AV (.slice pa s pc) B4 (B4+1) (B4+1+1)) B4 (B4+1) (B4+1+1) b (.slice pa s pc) piv))
        case first=>
         go_region_held3 (fun w'=>w'.cell? ⟨B4,0,none⟩=some (.pointer (some ⟨b,0,none⟩))/\w'.cell? ⟨B4+1,0,none⟩=some (.slice (some ⟨g,0,none⟩) R R)/\w'.cell? ⟨Q,0,none⟩=some (.int .i64 s)/\w'.cell? ⟨g,s,none⟩=some (.slice (some ⟨aB s,0,none⟩) N (aE s))/\w'.cell? ⟨aB s,c,none⟩=some (.int .i64 (a2 s c)))
          (first|with_reducible exact cC.o _ E0|with_reducible exact cC.o _ ((Ex.refl wd).drewN _)|with_reducible exact cC.o _ (((Ex.refl wd).drewN _).alloc _)|with_reducible exact cC.o _ ((Ex.refl wd).drew.alloc _)|with_reducible exact cC.o _ ((Ex.refl wd).alloc _).drew|with_reducible exact cC.o _ (((Ex.refl wd).alloc _).drewN _)|with_reducible exact cA.o _ _ (((Ex.refl wd).drewN _).alloc _)|with_reducible exact cA.o _ _ (((Ex.refl wd).alloc _).drewN _))
          ((go_at_call 250;(first|with_reducible refine(aQ.o _ G0).mono ?_|with_reducible refine(aQ.o _ (HD.o.ex.drewN _)).mono ?_|with_reducible refine(aQ.o _ ((HD.o.ex.alloc _).drew)).mono ?_|with_reducible refine(aQ.o _ ((HD.o.ex.drew).alloc _)).mono ?_|with_reducible refine(aQ.o _ ((HD.o.ex.alloc _).drewN _)).mono ?_);rintro e wx1⟨rfl,n2,rfl⟩))
         all_goals
          go_wp2_with fail
          go_meet
          first
                    | with_reducible exact⟨rfl,rfl,(cA.o _ _ (((Ex.refl wd).drewN _).alloc _)).2.2.1,eC.o _,Aa (dZ.o _)⟩
                    | with_reducible exact⟨rfl,rfl,(cA.o _ _ (((Ex.refl wd).alloc _).drewN _)).2.2.1,cE.o _,Aa (cD.o _)⟩
                    | exact⟨rfl,rfl,(cA.o _ _ (((Ex.refl wd).drewN _).alloc _)).2.2.1,eC.o _,Aa (dZ.o _)⟩
                    | exact⟨rfl,rfl,(cA.o _ _ (((Ex.refl wd).alloc _).drewN _)).2.2.1,cE.o _,Aa (cD.o _)⟩
        case rest=>
         obtain⟨rfl,rfl,aC,eQ,aA⟩:=hcut;clear cA cC dZ cD eC cE eH fG eG fF bK bL bN bM aY HD E0 G0 aQ;generalize wd.heap.size=Q2 at *;have cY:=Aa (show Q2∈Q2 :: (Q+1) :: Q :: AV (.slice pa s pc) B4 (B4+1) (B4+1+1) from List.mem_cons_self ..);have bZ:=Aa (show Q∈Q2 :: (Q+1) :: Q :: AV (.slice pa s pc) B4 (B4+1) (B4+1+1) from ag);go_upto_if 92 with fail
         go_cut [16] from 21 to 122 (fun dG wx=>∃(aX aW:Nat->Nat) (a3:Nat->Nat->Int),dG= .pointer (some ⟨Q2,0,none⟩)/\wx.cell? ⟨Q,0,none⟩=some (.int .i64 s)/\
          Hia (EB w0 wx base g R N aX aW a3 (Q2 :: (Q+1) :: Q :: AV (.slice pa s pc) B4 (B4+1) (B4+1+1)) B4 (B4+1) (B4+1+1) b (.slice pa s pc) piv)/\Hia (PV p m R N a3 piv c)/\Hia (∀x,Bz p m ml N R a3 x↔Bz p m ml N R a x)/\Hia (a3 s c=1))
         case first=>
          by_cases hK1:KI=1
          .have fC:(((KI:Nat):Int) !=1)=false:=by simp[hK1]
           have bX:=Aa (show a2 s c=1 from by
            obtain⟨k1,k2,k3,k4,k5⟩:=cB.o;rw[hK1,Bh p2 m1 k5]at k1;rw[k3,k1];rfl)
           clear hK1;go_wp2_with fail
           go_meet
           exact⟨aB,aE,a2,rfl,aC,aA,bA,aS,bX⟩
          .have fC:(((KI:Nat):Int) !=1)=true:=by simp;omega
           have HE:=Aa (Wq w0 wc HG.o aA.o.ex aA.o.em aA.o.bs ac (B4+1) (B4+1+1) B4 Q2 Q s (KI:Nat) aR aA.o.i7 aA.o.i4 cY.o bZ.o aA.o.c5 aA.o.c7 aA.o.c4 eQ aC);rw[Ax cB.o.2.1]at HE;have dT:=Aa (show PV p m R N (Az a2 s (BR p m ml KI (a2 s))) piv c from by have:=bA.o.scl (ml:=ml) ac (by rw[HS.o];exact aR) (k:=KI);rw[HS.o]at this;exact this);have cT:=Aa (show ∀x,Bz p m ml N R (Az a2 s (BR p m ml KI (a2 s))) x↔Bz p m ml N R a x from fun x=>(Bz.scl p2 m1 HF.o aR (by
            have k1:=cB.o.1;by_cases e:KI=0
            .rw[e,AX ac]at k1;omega
            .omega) cB.o.2.1).trans (aS.o x))
           have bX:=Aa (show Az a2 s (BR p m ml KI (a2 s)) s c=1 from by
            rw[Ab];unfold BR;rw[cB.o.2.2.2.1,AS,cB.o.1];rfl)
           have cI:=Aa aC;clear hK1 aC eQ;go_wp2_with (go_at_call 248;refine HE.o.mono ?_;rintro e wx aD;obtain⟨⟨t,rfl⟩,_⟩:=id aD;obtain⟨aX,aW,dN⟩:=aA.o.step aD;have aF:=aD.2.2.1.cell bZ.o cI.o;have cH:=Aa dN;clear aD dN)
           go_meet
           exact⟨aX,aW,_,rfl,aF,cH,dT,cT,bX⟩
         case rest=>
          obtain⟨aX,aW,a3,rfl,aC,aA,cL,bG,aH⟩:=hcut;have dM:∀B,(Value.slice pa s pc).ownBlock=some B->B∈Q :: AV (.slice pa s pc) B4 (B4+1) (B4+1+1):=fun B hB=>by
           unfold AV;rw[hB];simp
          have HL:=Aa (aA.o.less (bvs:=Q :: AV (.slice pa s pc) B4 (B4+1) (B4+1+1)) (fun B hB=>List.mem_cons_of_mem _ (List.mem_cons_of_mem _ hB)) bc bc bc dM);have c5:=aA.o.c5;have fR:=Aa dM;have aM:=Aa (show ∀i',i'<0->i'≠s->a3 i' c=0 from fun i' h=>ac);clear aA dM cM aS bA cB cY bZ fO;go_wp2_with fail
          clear c5
          go_loopw [98] (fun i' wr=>∃(i:Nat) (aK aJ:Nat->Nat) (a4:Nat->Nat->Int),i<=R/\i'= .int .i64 i/\wr.cell? ⟨Q,0,none⟩=some (.int .i64 s)/\Hia (EB w0 wr base g R N aK aJ a4 (Q :: AV (.slice pa s pc) B4 (B4+1) (B4+1+1)) B4 (B4+1) (B4+1+1) b (.slice pa s pc) piv)/\Hia (PV p m R N a4 piv c)/\Hia (∀x,Bz p m ml N R a4 x↔Bz p m ml N R a x)/\Hia (a4 s c=1)/\Hia (∀i',i'<i->i'≠s->a4 i' c=0)) (fun i' _=>R-(intOf i').toNat)
          case atStart=>exact⟨0,aX,aW,a3,ac,rfl,aC,HL,cL,bG,aH,aM⟩
          case round=>
           clear HL cL bG aH aM aC;obtain⟨i,aK,aJ,a4,hi,rfl,aC,aA,aN,aG,aH,aI⟩:=hrel;by_cases hiR:i<R
           .obtain⟨P,hP⟩:=nA wr.heap.size;have dP:(wr.alloc (.cells #[.int .i64 i] 3)).heap.size=P+1:=by simp[hP]
            have bB:=aA.o.box (.cells #[.int .i64 i] 3);have aU:=bB.box (.cells #[.int .i64 (a4 i c)] 3);rw[dP,hP]at aU;rw[hP]at bB;have eA:Ex wr (wr.alloc (.cells #[.int .i64 i] 3)):=(Ex.refl wr).alloc _;have d5:=bB.c5;have eP:(wr.alloc (.cells #[.int .i64 i] 3)).cell? ⟨P,0,none⟩=some (.int .i64 i):=AZ _ _ _ hP;have dg:=bB.em.cell hiR;have de:=bB.em.ent hiR hcN;have dE:((wr.alloc (.cells #[.int .i64 i] 3)).alloc (.cells #[.int .i64 (a4 i c)] 3)).cell? ⟨P,0,none⟩=some (.int .i64 i):=((Ex.refl _).alloc _).cell eP;have dD:((wr.alloc (.cells #[.int .i64 i] 3)).alloc (.cells #[.int .i64 (a4 i c)] 3)).cell? ⟨P+1,0,none⟩=some (.int .i64 (a4 i c)):=AZ _ _ _ dP;have aF:((wr.alloc (.cells #[.int .i64 i] 3)).alloc (.cells #[.int .i64 (a4 i c)] 3)).cell? ⟨Q,0,none⟩=some (.int .i64 s):=(eA.alloc _).cell aC;obtain⟨aL,fT,fS,bF⟩:=Eq aU dE dD aF;have j1:(0:Int)<=(i:Int):=ac;have j2:(i:Int)<(R:Int):=ac;clear bB aU aA eA aC dE dD aF;go_upto_region 23 with fail
            clear d5 eP dg de;generalize (wr.alloc (.cells #[.int .i64 i] 3)).alloc (.cells #[.int .i64 (a4 i c)] 3)=W3 at *;clear hP dP;have aC:=bF.o;have dE:=fT.o;have dD:=fS.o;have dX:=Aa (show ∀(wy:World) (aP aO:Nat->Nat) (a5:Nat->Nat->Int),EB w0 wy base g R N aP aO a5 ((P+1) :: P :: Q :: AV (.slice pa s pc) B4 (B4+1) (B4+1+1)) B4 (B4+1) (B4+1+1) b (.slice pa s pc) piv->EB w0 wy base g R N aP aO a5 (Q :: AV (.slice pa s pc) B4 (B4+1) (B4+1+1)) B4 (B4+1) (B4+1+1) b (.slice pa s pc) piv from fun wy aP aO a5 h=>h.less (fun B hB=>List.mem_cons_of_mem _ (List.mem_cons_of_mem _ hB)) bc bc bc fR.o);by_cases his:i=s
            .have b1:((i:Int) !=(s:Int))=false:=by simp[his]
             have b2:(i !=s)=false:=by simp[his]
             have aM:=Aa (show ∀i',i'<i+1->i'≠s->a4 i' c=0 from fun i' h bQ=>aI.o i' ac bQ);have bO:=Aa (dX.o _ _ _ _ aL.o);clear his aI;exact zbg
            .have b1:((i:Int) !=(s:Int))=true:=by simp;omega
             have b2:(i !=s)=true:=aq;by_cases aZ:a4 i c=0
             .have b3:(a4 i c !=0)=false:=by simp[aZ]
              have aM:=Aa (show ∀i',i'<i+1->i'≠s->a4 i' c=0 from fun i' h bQ=>by
               by_cases e:i'=i
               .rw[e];exact aZ
               .exact aI.o i' ac bQ)
              have bO:=Aa (dX.o _ _ _ _ aL.o);clear his aI aZ;exact zbg
             .have b3:(a4 i c !=0)=true:=by simpa using aZ
              have HE:=Aa (Wr w0 W3 HG.o aL.o.ex aL.o.em aL.o.bs ac (B4+1) (B4+1+1) B4 P (P+1) Q s i (a4 i c) aR hiR his aL.o.i7 aL.o.i4 ag ag ag aL.o.c5 aL.o.c7 aL.o.c4 dE dD aC);obtain⟨KN,dB⟩:∃K,Ct p m (Au (p^m) (a4 i c))=K:=⟨_,rfl⟩;have dK:1<p^m:=Bb p2 m1;have dS:=Aa (show BT p m ml (a4 i) KN (a4 s) c=0 from by
               unfold BT;have k1:Au (p^m) 1=1:=Ax (q:=p^m) (x:=1) dK;rw[aH.o,if_neg ac,k1,Bh p2 m1 (by rw[<-dB];exact CD ac _),<-dB,Cy ac];rfl)
              rw[dB]at HE;have cV:=Aa (show PV p m R N (Az a4 i (BT p m ml (a4 i) KN (a4 s))) piv c from by have:=aN.o.add (ml:=ml) ac (by rw[HS.o];exact aR) hiR (by rw[HS.o];exact his) (k:=KN);rw[HS.o]at this;exact this);have bI:=Aa (show ∀x,Bz p m ml N R (Az a4 i (BT p m ml (a4 i) KN (a4 s))) x↔Bz p m ml N R a x from fun x=>(Bz.add p2 aR hiR his).trans (aG.o x));have bJ:=Aa (show Az a4 i (BT p m ml (a4 i) KN (a4 s)) s c=1 from by rw[Ae _ _ (fun e=>his e.symm)];exact aH.o);have bP:=Aa (show ∀i',i'<i+1->i'≠s->Az a4 i (BT p m ml (a4 i) KN (a4 s)) i' c=0 from fun i' h bQ=>by
               by_cases e:i'=i
               .rw[e,Ab];exact dS.o
               .rw[Ae _ _ e];exact aI.o i' ac bQ)
              clear his aI aZ dB dK;go_wp2_with (go_at_call 248;refine HE.o.mono ?_;rintro e wx aD;obtain⟨⟨t,rfl⟩,_⟩:=id aD;obtain⟨aP,aO,eJ⟩:=aL.o.step aD;have aF:=aD.2.2.1.cell (show Q∈(P+1) :: P :: Q :: AV (.slice pa s pc) B4 (B4+1) (B4+1+1) by simp) bF.o;have bO:=Aa (dX.o _ _ _ _ eJ);clear aD eJ)
              go_roundw
              case rel=>first|exact⟨i+1,aP,aO,_,ac,by go_num,aF,bO,cV,bI,bJ,bP⟩|((repeat apply Exists.intro);exact⟨⟨i+1,aP,aO,_,ac,by go_num,aF,bO,cV,bI,bJ,bP⟩,rfl⟩)
              case measure=>simp[intOf];omega
           .obtain rfl:R=i:=by omega
            have eU:=Aa (show PV p m R N a4 (piv ++ [c]) (c+1) from aN.o.done (by rw[HS.o];exact aR) (by rw[HS.o];exact aH.o) fun i hi bQ=>aI.o i hi (by rw[<-HS.o];exact bQ));have fM:=Aa (show base<=wr.heap.size from by have:=aA.o.em.arr.lt;omega);have hp256:piv.length<=256:=by omega
            have hP:=Aa aA.o.pvo;clear aI aC;go_wp2_with (at_builtin;refine Al _ rfl _ _ 22 rfl base 3 (.int .i64 0) 1 8 Tryz.underlying22 AA rfl ae _ piv.length _ rfl hP.o [.int .i64 c] 3 _ rfl ag rfl aj ai ac fM.o ?_)
            intro v2 w2 bR;have eW:=Aa ((aA.o.less (bvs:=AV (.slice pa s pc) B4 (B4+1) (B4+1+1)) (fun B hB=>List.mem_cons_of_mem _ hB) bc bc bc (fun B hB=>by unfold AV;rw[hB];simp)).app bR);obtain⟨va,vc,fB⟩:=Ad bR.own;subst fB;clear bR aA hP;go_wp2_with fail
            go_roundw
            case rel=>first|exact⟨c+1,piv ++ [c],_,aK,aJ,a4,ac,by go_num,rfl,eW,eU,aG⟩|((repeat apply Exists.intro);exact⟨⟨c+1,piv ++ [c],_,aK,aJ,a4,ac,by go_num,rfl,eW,eU,aG⟩,rfl⟩)
            case measure=>simp[intOf];omega
     .obtain rfl:R=k:=by omega
      have eT:=Aa (dV.o.none fun k' h1 h2=>cJ.o k' (by rw[<-HS.o];exact h1) h2);have cH:=Aa aA.o.toAV;have dN:decide ((R:Int)<(R:Int))=false:=by simp
      have hb4:((R:Int)==(R:Int))=true:=ag;clear aA cJ cG aC;go_wp2_with fail
      go_roundw
      case rel=>first|exact⟨c+1,piv,bH,bD,bC,a1,ac,by go_num,rfl,cH,eT,aT⟩|((repeat apply Exists.intro);exact⟨⟨c+1,piv,bH,bD,bC,a1,ac,by go_num,rfl,cH,eT,aT⟩,rfl⟩)
      case measure=>simp[intOf];omega
   .have cO:piv.length=R:=by omega
    have b3:decide ((piv.length:Int)<(R:Int))=false:=aq;have b4:decide (piv.length<R)=false:=aq;have HE:=Aa (cZ.o (.inl cO));have dR:=Aa aA.o.ex;have dW:=Aa (fun B e=>(aA.o.pvo.lt B e).1);clear cO cZ hpR aA;exact zb7
  .have cO:c=N:=by omega
   have b1:decide ((c:Int)<(N:Int))=false:=aq;have b2:decide (c<N)=false:=aq;have HE:=Aa (cZ.o (.inr cO));have dR:=Aa aA.o.ex;have dW:=Aa (fun B e=>(aA.o.pvo.lt B e).1);clear cO cZ aA;exact zb7
end Go.Proofs.YtehieobniamagaaGreat
