/- Walks of the field's Pow, Field, Sub, Order, of tower.prime and tower.Frobenius. -/
import Derived.RegionTactic
import Derived.BigRegion
import Derived.Test.YtehieobniamagaaGreatZa08
namespace Go.Proofs.YtehieobniamagaaGreat
open Go.RowKit
set_option linter.all false
set_option maxRecDepth 100000
set_option maxHeartbeats 4000000
theorem Md{p m:Nat}{low:Vc}(hp:2<=p)(hm:1<=m)(x i:Nat):∀e,Bm p m low (Bm p m low x i) e=Bm p m low x (i*e)
 | 0=>rfl
 | e+1=>by
  show Ap p m low (Bm p m low (Bm p m low x i) e) (Bm p m low x i)=_
  rw[Md hp hm x i e,<-Cj hp hm,Nat.mul_succ]
theorem Tp{p m:Nat}{low:Vc}(hp:1<=p):∀e,1<=e->Bm p m low 0 e=0
 | e+1,_=>by
  show Ap p m low _ 0=0
  rw[Bb,BK hp]
section
variable {b p m x0:Nat} {ml:List Int}
theorem Wv(w:World)(hg:AP w b p m ml x0)(x:Int)(e:Nat)(aI:1<=e)(he2:e<=1000):
  Calls Tryz.prog 162 #[.pointer (some ⟨b,0,none⟩),.int .i64 x,.int .i64 e] w (Qt w (.tuple #[.int .i64 (Bm p m (lw ml) (Az (p^m) x) e:Nat),.int .i64 0])):=by
 have aD:=Aa (Gq w hg x);have p2:=hg.sh.p2;have m1:=hg.sh.m1;have hq:=hg.sh.q;have aF:=Bw p2 m1;have c3:=hg.c3;obtain⟨ev,c4,he⟩:=hg.c4;obtain⟨lv,f,c5,hl,hf⟩:=hg.c5;obtain⟨ea,ec,rfl,e1,e2,e3⟩:=he.open;obtain⟨la,lc,rfl,l1,l2,l3⟩:=hl.open;rw[Am]at *;obtain⟨eb,eo,rfl,e4⟩:=e3 ac;obtain⟨lb,lo,rfl,l4⟩:=l3 ac;have hz:Az (p^m) x<p^m:=Cr ac x;clear e3 l3 he hl;unfold maxLen at e2 l2;generalize Az (p^m) x=z at *;have he0:((e:Int)==0)=false:=aq;have heN:(e==0)=false:=aq;have hel:decide ((e:Int)<0)=false:=decide_eq_false ac;by_cases h0:z=0
 .subst h0;have HZ:=Aa (Tp (m:=m) (low:=lw ml) (show 1<=p by omega) e aI);clear hg c3 c4 c5 hz hq aF hf e4 l4 e1 e2 l1 l2;go_enter Tryz.func162,Tryz.ntmps162
  go_wp2_with fail
  refine aD.o.mono ?_;rintro e w1⟨rfl,n0,rfl⟩;go_wp2_with fail
  go_ret2;rw[HZ.o];exact⟨rfl,_,rfl⟩
 .have z1:1<=z:=by omega
  have hzb:((z:Int)==0)=false:=aq;obtain⟨i,hi,aA⟩:=hg.gen.all p2 m1 z1 hz;have aG:=l4 z (f z) (AM hz f);have aB:=hf i hi;rw[aA]at aB;rw[aB]at aG;obtain⟨d,hd⟩:=nA (e%(p^m-1));have hdq:d<p^m-1:=by rw[<-hd];exact Nat.mod_lt _ ac
  obtain⟨r,hr⟩:=nA ((i*d)%(p^m-1));have aE:r<p^m-1:=dy;have aH:=e4 r _ (AM aE _);have aC:Jk p m ml x0 r=((Bm p m (lw ml) z e:Nat):Int):=by
   unfold Jk;rw[<-aA,Md p2 m1,<-hg.gen.mod p2 m1 (i*e),<-hr,<-hd,Nat.mul_mod,Nat.mod_mod,<-Nat.mul_mod]
  rw[aC]at aH;have T1:Hia ((e:Int).tmod (((p^m:Nat):Int)-1)=(d:Int)):=Aa (by
   rw[Int.tmod_eq_emod_of_nonneg ac,<-hd,Int.natCast_emod]
   congr 1
   omega)
  have T2:Hia (((d:Int)+(((p^m:Nat):Int)-1)).tmod (((p^m:Nat):Int)-1)=(d:Int)):=Aa (by
   rw[Int.tmod_eq_emod_of_nonneg ac,Int.add_emod_right];exact Int.emod_eq_of_lt ac ac)
  have T3:Hia (((i:Int)*d).tmod (((p^m:Nat):Int)-1)=(r:Int)):=Aa (by
   rw[Int.tmod_eq_emod_of_nonneg (by rw[<-Int.natCast_mul];omega),<-hr,Int.natCast_emod,Int.natCast_mul]
   congr 1
   omega)
  have HID:(i:Int)*(d:Int)<=256*256:=by
   have:=Nat.mul_le_mul (show i<=256 by omega) (show d<=256 by omega);rw[<-Int.natCast_mul];omega
  have HID0:0<=(i:Int)*(d:Int):=by rw[<-Int.natCast_mul];omega
  generalize Bm p m (lw ml) z e=kz at *;generalize p^m=q at *;have C3:=Aa c3;have C4:=Aa c4;have C5:=Aa c5;clear hg hf e4 l4 aB aA hd hr aC h0 c3 c4 c5;go_enter Tryz.func162,Tryz.ntmps162
  go_wp2_with fail
  refine aD.o.mono ?_;rintro e w1⟨rfl,n0,rfl⟩;have c3:=C3.o;have c4:=C4.o;have c5:=C5.o;have i0:=T1.o;have i1:IntKind.i64.wrap ((d:Int)+((q:Int)-1))=(d:Int)+((q:Int)-1):=IntWalk.i64_in _ ac;have i2:IntKind.i64.wrap ((q:Int)-1)=(q:Int)-1:=IntWalk.i64_in _ ac;have i3:=T2.o;have i6:=T3.o;have i7:IntKind.i64.wrap ((i:Int)*(d:Int))=(i:Int)*(d:Int):=IntWalk.i64_in _ ac;have i4:¬q=1:=db;have i5:¬((q:Int)-1=0):=ac;go_wp2_with fail
  go_quiet (fail)
  go_wp2_with fail
  go_ret2;exact⟨rfl,_,World.drewN_drewN _ _ _⟩
theorem R8(w:World)(hg:AP w b p m ml x0):
  Calls Tryz.prog 204 #[.pointer (some ⟨b,0,none⟩)] w fun r w'=>∃v,r= .returned (.agg #[.int .i64 p,.int .i64 m,v])/\Aj w' v ml/\Ex w w':=by
 obtain⟨mv,aK,aF⟩:=hg.c2;have hln:ml.length<=8:=by
  have h1:=hg.sh.len;have h2:=hg.sh.m8;split at h1 <;> omega
 have ea:Ex w (w.alloc (.cells #[.int .i64 0,.int .i64 0,.slice none 0 0] 24)):=(Ex.refl _).alloc _;have q0:(w.alloc (.cells #[.int .i64 0,.int .i64 0,.slice none 0 0] 24)).cell? ⟨w.heap.size,0,none⟩=some (.int .i64 0):=ag;have q1:(w.alloc (.cells #[.int .i64 0,.int .i64 0,.slice none 0 0] 24)).cell? ⟨w.heap.size,1,none⟩=some (.int .i64 0):=ag;have q2:(w.alloc (.cells #[.int .i64 0,.int .i64 0,.slice none 0 0] 24)).cell? ⟨w.heap.size,2,none⟩=some (.slice none 0 0):=ag;have aE:(w.alloc (.cells #[.int .i64 0,.int .i64 0,.slice none 0 0] 24)).frozen? ⟨w.heap.size,0,none⟩=false:=ag;have aD:(w.alloc (.cells #[.int .i64 0,.int .i64 0,.slice none 0 0] 24)).frozen? ⟨w.heap.size,1,none⟩=false:=ag;have aC:(w.alloc (.cells #[.int .i64 0,.int .i64 0,.slice none 0 0] 24)).frozen? ⟨w.heap.size,2,none⟩=false:=ag;have aU:=Aa (aF.ex ea);have c0:=ea.cell hg.c0;have c1:=ea.cell hg.c1;have c2:=ea.cell aK;obtain⟨ma,mc,rfl,_,m2,_⟩:=aF.open;unfold maxLen at m2;clear aF aK hg;go_enter Tryz.func204,Tryz.ntmps204
 go_wp2_with fail
 obtain⟨q,hq⟩:=nA w.heap.size;rw[hq]at q0 q1 q2 aE aD aC
 try simp only[hq]
 have HQ:=Aa hq;clear hq;generalize w.alloc (.cells #[.int .i64 0,.int .i64 0,.slice none 0 0] 24)=W1 at *;obtain⟨aW,Q0,Q1,Q2,aT,aS,aR⟩:=OK ea q0 q1 q2 aE aD aC;have aO:=((Ex.refl W1).alloc (.cells #[] 3)).cell c0;have aN:=((Ex.refl W1).alloc (.cells #[] 3)).cell c1;have aM:=((Ex.refl W1).alloc (.cells #[] 3)).cell c2;clear q0 q1 q2 aE aD aC ea
 go_region_law ((refine BI bn _ _ _ bn W1.heap.size 3 (.int .i64 0) 1 8 Tryz.underlying22 Au rfl ae _ 0 [] bn (Ai (Bn W1 _) (by repeat (first|exact Ex.refl _|apply Ex.drew))) _ ml.length (Al ml) bn (aU.o.ex (by repeat (first|exact Ex.refl _|apply Ex.drew|apply Ex.alloc))) (by intro u hu;obtain⟨z,_,rfl⟩:=List.mem_map.1 hu;rfl) ai ac ag ?_;intro v8 w8 aA aJ aQ;obtain⟨va,aB,aP⟩:=Ab aA;subst aP;have E8:=Aa (Ex.grown (((Ex.refl W1).alloc (.cells #[] 3)).drew) (Ai (Bn W1 3) (Ex.refl _).drew) (Nat.le_refl _) aJ);have y0:=E8.o.cell c0;have y1:=E8.o.cell c1;have y2:=E8.o.cell c2;have q0:=E8.o.cell Q0.o;have q1:=E8.o.cell Q1.o;have q2:=E8.o.cell Q2.o;have aE:=E8.o.frz Q0.o aT.o;have aD:=E8.o.frz Q1.o aS.o;have aC:=E8.o.frz Q2.o aR.o;have aL:=Aa aA;clear aA aJ aQ))
 all_goals
  have aV:=Aa (show Aj w8 (.slice va ml.length aB) ml from by have:=IK aL.o;rwa[Nat.zero_add]at this);have aI:∀B,(Value.slice va ml.length aB).ownBlock=some B->B≠q:=fun B h e=>by
   have h1:=(aL.o.lt B dp).1;have h2:q<W1.heap.size:=World.block_lt_of_cell? _ _ Q0.o;omega
  have aH:=Aa aI;have aG:=Aa (show w.heap.size<=q from Nat.le_of_eq HQ.o);clear aI c0 c1 c2 aO aN aM y0 y1 y2;go_wp2_with fail
  exact bodyPost_ret (v:= .agg #[.int .i64 p,.int .i64 m,.slice va ml.length aB]) (by simp[results,Tryz.results204,go_sem,q0,q1,q2]) rfl ⟨_,rfl,Sl.other (Sl.other (Sl.other aV.o (fun B h=>aH.o B h) _) (fun B h=>aH.o B h) _) (fun B h=>aH.o B h) _,(((aW.o.trans E8.o).setCell (p:=⟨q,0,none⟩) aG.o _).setCell (p:=⟨q,1,none⟩) aG.o _).setCell (p:=⟨q,2,none⟩) aG.o _⟩
end
def Dr(blk cap:Nat->Nat)(N i:Nat):Value:= .slice (some ⟨blk i,0,none⟩) N (cap i)
structure EM(w:World)(base g R N:Nat)(blk cap:Nat->Nat)(a:Nat->Nat->Int)(avs:List Nat):Prop where
 arr:AI w base 22 g R (Dr blk cap N)
 row:∀i,i<R->AO w base 3 (blk i) N (cap i) (iv (a i))
 apart:∀i j,i<R->j<R->i≠j->blk i≠blk j
 off:∀i,i<R->blk i≠g
 av:∀B∈avs,B<w.heap.size/\g≠B/\∀i,i<R->blk i≠B
def Kp(w w':World)(avs:List Nat):Prop:=∀B∈avs,w'.heap[B]?=w.heap[B]?
theorem Kp.trans{a b c:World}{avs:List Nat}(h:Kp a b avs)(k:Kp b c avs):Kp a c avs:=fun B hB=>(k B hB).trans (h B hB)
theorem Kp.cell{w w':World}{avs:List Nat}(h:Kp w w' avs){B o:Nat}{v:Value}(hB:B∈avs)(hc:w.cell? ⟨B,o,none⟩=some v):w'.cell? ⟨B,o,none⟩=some v:=by
 rw[World.cell?_of_block (h B hB)];exact hc
section
variable {w:World} {base g R N:Nat} {blk cap:Nat->Nat} {a:Nat->Nat->Int} {avs:List Nat}
theorem EM.ex(h:EM w base g R N blk cap a avs){w':World}(hx:Ex w w'):EM w' base g R N blk cap a avs:=
 ⟨h.arr.ex hx,fun i hi=>(h.row i hi).ex hx,h.apart,h.off,fun B hB=>by obtain⟨h1,h2⟩:=h.av B hB;exact⟨Nat.lt_of_lt_of_le h1 hx.size,h2⟩⟩
theorem EM.kpx(h:EM w base g R N blk cap a avs){w':World}(hx:Ex w w'):Kp w w' avs:=fun B hB=>hx.block B (h.av B hB).1
theorem EM.less(h:EM w base g R N blk cap a avs){bvs:List Nat}(hs:∀B∈bvs,B∈avs):EM w base g R N blk cap a bvs:=⟨h.arr,h.row,h.apart,h.off,fun B hB=>h.av B (hs B hB)⟩
theorem EM.box(h:EM w base g R N blk cap a avs)(o:Obj):EM (w.alloc o) base g R N blk cap a (w.heap.size :: avs):=by
 have h1:=h.ex ((Ex.refl w).alloc o);refine⟨h1.arr,h1.row,h1.apart,h1.off,fun C hC=>?_⟩;rcases List.mem_cons.1 hC with rfl|hC
 .refine⟨ag,fun e=>?_,fun i hi e=>?_⟩
  .have:=h.arr.lt.2;omega
  .have:=(h.row i hi).lt.2;omega
 .exact h1.av C hC
theorem Cv(w:World)(x:Addr)(u:Value):(w.setCell x u).heap.size=w.heap.size:=ag
theorem EM.setBox(h:EM w base g R N blk cap a avs){B j:Nat}(hB:B∈avs)(u:Value):EM (w.setCell ⟨B,j,none⟩ u) base g R N blk cap a avs:=by
 obtain⟨_,h2,h3⟩:=h.av B hB;exact⟨h.arr.other h2 u,fun i hi=>(h.row i hi).other (h3 i hi) u,h.apart,h.off,fun C hC=>by rw[Cv];exact h.av C hC⟩
theorem EM.put(h:EM w base g R N blk cap a avs){s nb nc:Nat}{f:Nat->Int}(hs:s<R)(hn:AO w base 3 nb N nc (iv f))(hb:∀i,i<R->i≠s->blk i≠nb)(hg:nb≠g)(ha:∀B∈avs,nb≠B):
  EM (w.setCell ⟨g,s,none⟩ (.slice (some ⟨nb,0,none⟩) N nc)) base g R N (Ax blk s nb) (Ax cap s nc) (Ax a s f) avs:=by
 have hu:∀i,i≠s->Ax blk s nb i=blk i:=fun i hi=>Ae _ _ hi;refine⟨?_,fun i hi=>?_,fun i j hi hj aA=>?_,fun i hi=>?_,fun B hB=>?_⟩
 .refine(h.arr.set s _).congr fun i hi=>?_;unfold Dr;by_cases e:i=s
  .subst e;rw[Ad,Ad,Ad]
  .rw[Ae _ _ e,Ae _ _ e,Ae _ _ e]
 .by_cases e:i=s
  .subst e;rw[Ad,Ad,Ad];exact hn.other hg _
  .rw[Ae _ _ e,Ae _ _ e,Ae _ _ e];exact(h.row i hi).other (h.off i hi) _
 .by_cases e:i=s
  .subst e;rw[Ad,hu j (fun e=>aA e.symm)];exact fun e=>hb j hj (fun e=>aA e.symm) e.symm
  .by_cases e2:j=s
   .subst e2;rw[Ad,hu i e];exact hb i hi e
   .rw[hu i e,hu j e2];exact h.apart i j hi hj aA
 .by_cases e:i=s
  .subst e;rw[Ad];exact hg
  .rw[hu i e];exact h.off i hi
 .rw[Cv];obtain⟨h1,h2,h3⟩:=h.av B hB;refine⟨h1,h2,fun i hi=>?_⟩;by_cases e:i=s
  .subst e;rw[Ad];exact ha B hB
  .rw[hu i e];exact h3 i hi
theorem EM.rowAt(h:EM w base g R N blk cap a avs){w':World}{s:Nat}{f:Nat->Int}(hs:s<R)(hn:AO w' base 3 (blk s) N (cap s) (iv f))(hg:w.grownBy w' (some (blk s))):EM w' base g R N blk cap (Ax a s f) avs/\Kp w w' avs:=by
 refine⟨⟨?_,fun i hi=>?_,h.apart,h.off,fun B hB=>?_⟩,fun B hB=>?_⟩
 .exact World.ownsRow.kept h.arr hg (.inr (by show some g≠some (blk s);intro e;injection e with e;exact h.off s hs e.symm))
 .by_cases e:i=s
  .subst e;rw[Ad];exact hn
  .rw[Ae _ _ e];exact World.ownsRow.kept (h.row i hi) hg (.inr (by show some (blk i)≠some (blk s);intro e2;injection e2 with e2;exact h.apart i s hi hs e e2))
 .obtain⟨h1,h2⟩:=h.av B hB;exact⟨Nat.lt_of_lt_of_le h1 hg.size,h2⟩
 .obtain⟨h1,h2,h3⟩:=h.av B hB;exact hg.block B h1 (by intro e;injection e with e;exact h3 s hs e.symm)
theorem EM.cell(h:EM w base g R N blk cap a avs){i:Nat}(hi:i<R):w.cell? ⟨g,i,none⟩=some (.slice (some ⟨blk i,0,none⟩) N (cap i)):=h.arr.cell hi
theorem EM.ent(h:EM w base g R N blk cap a avs){i j:Nat}(hi:i<R)(hj:j<N):w.cell? ⟨blk i,j,none⟩=some (.int .i64 (a i j)):=(h.row i hi).cell hj
def Re(b:Nat->Nat)(s k:Nat):Nat->Nat:=fun i=>if i=s then b k else if i=k then b s else b i
theorem EM.swp(h:EM w base g R N blk cap a avs){s k:Nat}(hs:s<R)(hk:k<R)(aB:s≠k):
  EM ((w.setCell ⟨g,s,none⟩ (Dr blk cap N k)).setCell ⟨g,k,none⟩ (Dr blk cap N s)) base g R N (Re blk s k) (Re cap s k) (E6 a s k) avs:=by
 have aC:((w.setCell ⟨g,s,none⟩ (Dr blk cap N k)).setCell ⟨g,k,none⟩ (Dr blk cap N s)).heap.size=w.heap.size:=by rw[Cv,Cv]
 have aA:∀i,i<R->∃j,j<R/\Re blk s k i=blk j/\Re cap s k i=cap j/\E6 a s k i=a j/\((i=s/\j=k)∨(i=k/\i≠s/\j=s)∨(i≠s/\i≠k/\j=i)):=fun i hi=>by
  unfold Re E6;by_cases e:i=s
  .exact⟨k,hk,by rw[if_pos e],by rw[if_pos e],by rw[if_pos e],.inl ⟨e,rfl⟩⟩
  .by_cases e2:i=k
   .exact⟨s,hs,by rw[if_neg e,if_pos e2],by rw[if_neg e,if_pos e2],by rw[if_neg e,if_pos e2],.inr (.inl ⟨e2,e,rfl⟩)⟩
   .exact⟨i,hi,by rw[if_neg e,if_neg e2],by rw[if_neg e,if_neg e2],by rw[if_neg e,if_neg e2],.inr (.inr ⟨e,e2,rfl⟩)⟩
 refine⟨?_,fun i hi=>?_,fun i j hi hj hij=>?_,fun i hi=>?_,fun B hB=>?_⟩
 .refine((h.arr.set s (Dr blk cap N k)).set k (Dr blk cap N s)).congr fun i hi=>?_;unfold Dr Re;by_cases e:i=k
  .subst e;rw[Ad,if_neg (fun e=>aB e.symm),if_pos rfl,if_neg (fun e=>aB e.symm),if_pos rfl]
  .rw[Ae _ _ e];by_cases e2:i=s
   .subst e2;rw[Ad,if_pos rfl,if_pos rfl]
   .rw[Ae _ _ e2,if_neg e2,if_neg e,if_neg e2,if_neg e]
 .obtain⟨j,hj,e1,e2,e3,_⟩:=aA i hi;rw[e1,e2,e3];exact((h.row j hj).other (h.off j hj) _).other (h.off j hj) _
 .obtain⟨i',aE,e1,_,_,c1⟩:=aA i hi;obtain⟨j',aD,e2,_,_,c2⟩:=aA j hj;rw[e1,e2];exact h.apart i' j' aE aD ac
 .obtain⟨j,hj,e1,_⟩:=aA i hi;rw[e1];exact h.off j hj
 .rw[aC];obtain⟨h1,h2,h3⟩:=h.av B hB;exact⟨h1,h2,fun i hi=>by obtain⟨j,hj,e1,_⟩:=aA i hi;rw[e1];exact h3 j hj⟩
theorem EM.kpg(h:EM w base g R N blk cap a avs)(s:Nat)(u:Value):Kp w (w.setCell ⟨g,s,none⟩ u) avs:=fun B hB=>by
 obtain⟨_,h2,_⟩:=h.av B hB;exact Below.heap_setCell w ⟨g,s,none⟩ u B (fun e=>h2 e.symm)
end
def Yh(w:World)(base g R N:Nat)(a':Nat->Nat->Int)(avs:List Nat)(r:Ending)(w':World):Prop:=
 (∃t,r= .returned t)/\(∃aB aA,EM w' base g R N aB aA a' avs)/\Kp w w' avs/\∀w0,Ex w0 w->w0.heap.size<=base->Ex w0 w'
theorem T4(w:World){base g R N:Nat}{blk cap:Nat->Nat}{a:Nat->Nat->Int}{avs:List Nat}(h:EM w base g R N blk cap a avs)(Bk Ba:Nat)(s k:Nat)(hs:s<R)(hk:k<R)(aA:s≠k)(aB:Bk∈avs)(aC:Ba∈avs)
  (ck:w.cell? ⟨Bk,0,none⟩=some (.int .i64 k)) (ca:w.cell? ⟨Ba,0,none⟩=some (.int .i64 s)):
  Calls Tryz.prog 249 #[.slice (some ⟨g,0,none⟩) R R,.pointer (some ⟨Bk,0,none⟩),.pointer (some ⟨Ba,0,none⟩)] w (Yh w base g R N (E6 a s k) avs):=by
 have c1:=h.cell hs;have c2:=h.cell hk;have f1:=h.arr.frz s;have f2:=h.arr.frz k;have i1:(0:Int)<=(s:Int):=ac;have i2:(s:Int)<(R:Int):=ac;have i3:(0:Int)<=(k:Int):=ac;have i4:(k:Int)<(R:Int):=ac;have n1:¬s=k:=aA;have n2:¬k=s:=fun e=>aA e.symm;have ck2:(w.setCell ⟨g,s,none⟩ (.slice (some ⟨blk k,0,none⟩) N (cap k))).cell? ⟨Bk,0,none⟩=some (.int .i64 k):=by rw[Ah (h.av Bk aB).2.1];exact ck
 have ca2:(w.setCell ⟨g,s,none⟩ (.slice (some ⟨blk k,0,none⟩) N (cap k))).cell? ⟨Ba,0,none⟩=some (.int .i64 s):=by rw[Ah (h.av Ba aC).2.1];exact ca
 have ck3:(w.setCell ⟨g,k,none⟩ (.slice (some ⟨blk s,0,none⟩) N (cap s))).cell? ⟨Bk,0,none⟩=some (.int .i64 k):=by rw[Ah (h.av Bk aB).2.1];exact ck
 have ca3:(w.setCell ⟨g,k,none⟩ (.slice (some ⟨blk s,0,none⟩) N (cap s))).cell? ⟨Ba,0,none⟩=some (.int .i64 s):=by rw[Ah (h.av Ba aC).2.1];exact ca
 have HE:=Aa (h.ex (Ex.refl w).drew);have HS:=Aa (HE.o.swp hs hk aA);have HM:=Aa (h.ex (Ex.refl w).drew |>.arr.set s (Dr blk cap N k));obtain⟨aE,aD,HB,HR⟩:=Eq (show Kp (w.drew.setCell ⟨g,s,none⟩ (Dr blk cap N k)) ((w.drew.setCell ⟨g,s,none⟩ (Dr blk cap N k)).setCell ⟨g,k,none⟩ (Dr blk cap N s)) avs from fun B hB=>Below.heap_setCell _ ⟨g,k,none⟩ _ B (fun e=>(h.av B hB).2.1 e.symm)) (show ∀w0,Ex w0 w->w0.heap.size<=base->Ex w0 ((w.drew.setCell ⟨g,s,none⟩ (Dr blk cap N k)).setCell ⟨g,k,none⟩ (Dr blk cap N s)) from fun w0 hx hb=>HM.o.exSet hb (HE.o.arr.exSet hb hx.drew s _) k _) h (show s<R/\k<R/\s≠k from⟨hs,hk,aA⟩);clear h hs hk aA;go_enter Tryz.func249,Tryz.ntmps249
 go_wp2_with fail
 go_region
 all_goals
  go_wp2_with fail
  go_end0
  refine⟨⟨_,rfl⟩,⟨_,_,HS.o⟩,?_,fun w0 hx hb=>?_⟩
  .exact((HB.o.kpx (Ex.refl w).drew).trans (HE.o.kpg s (Dr blk cap N k))).trans (aE.o)
  .exact(aD.o w0 hx hb)
theorem T5{p m:Nat}{ml:List Int}{b x0:Nat}(w0 w:World)(hg:AP w0 b p m ml x0)(aC:Ex w0 w){base g R N:Nat}{blk cap:Nat->Nat}{a:Nat->Nat->Int}{avs:List Nat}(h:EM w base g R N blk cap a avs)(hb:w0.heap.size<=base)(hN:N<=1000)(Bg Bi Ba:Nat)(s:Nat)(aB:Int)(hs:s<R)(hBg:Bg∈avs)(hBi:Bi∈avs)(hBa:Ba∈avs)
  (cg:w.cell? ⟨Bg,0,none⟩=some (.pointer (some ⟨b,0,none⟩))) (ci:w.cell? ⟨Bi,0,none⟩=some (.int .i64 aB)) (ca:w.cell? ⟨Ba,0,none⟩=some (.int .i64 s)):
  Calls Tryz.prog 251 #[.slice (some ⟨g,0,none⟩) R R,.pointer (some ⟨Bg,0,none⟩),.pointer (some ⟨Bi,0,none⟩),.pointer (some ⟨Ba,0,none⟩)] w (Yh w base g R N (Ax a s (CI p m ml (Az (p^m) aB) (a s))) avs):=by
 have c1:=h.cell hs;have f1:=h.arr.frz s;have i1:(0:Int)<=(s:Int):=ac;have i2:(s:Int)<(R:Int):=ac;obtain⟨k1,k2⟩:=(h.row s hs).caps;unfold maxLen at k2;obtain⟨HB,HR,HX0,HBB,aL,aO,aN,aF⟩:=On h hs aC hb (fun w' (hx:Ex w w')=>Lg w' (hg.ex (aC.trans hx)) N (a s) aB (.slice (some ⟨blk s,0,none⟩) N (cap s)) (((h.row s hs).isl).ex hx) hN) ca f1 c1;clear h hs hg aC hb;go_enter Tryz.func251,Tryz.ntmps251
 go_wp2_with fail
 have E0:Ex w w.drew:=(Ex.refl w).drew
 go_region_law
  ((first
      | (go_simp;go_at_call 252;(with_reducible refine(aL.o _ E0).mono ?_);rintro e wx⟨gg,rfl,aA,hy⟩;have aD:=hy.cell (E0.cell aO.o);have aJ:=hy.cell (E0.cell aF.o);have aI:=hy.frz (E0.cell aF.o) (E0.frz aF.o aN.o))))
 all_goals
  have EX:=Aa (E0.trans hy);have aG:=Aa (HB.o.ex EX.o);have aH:=aA.lt.1;have aE:=Aa (aG.o.put HR.o (aA.mono (b':=base) (by have:=HB.o.arr.lt;have:=E0.size;omega):AO wx base 3 gg N N _) (fun i hi _ e=>by have:=(HB.o.row i hi).lt.2;have:=E0.size;omega) (fun e=>by have:=HB.o.arr.lt.2;have:=E0.size;omega) (fun B hB e=>by have:=(HB.o.av B hB).1;have:=E0.size;omega));have aM:=Aa ((HB.o.kpx EX.o).trans (aG.o.kpg s (.slice (some ⟨gg,0,none⟩) N N)));have aK:=Aa (show ∀w0,Ex w0 w->w0.heap.size<=base->Ex w0 (wx.setCell ⟨g,s,none⟩ (.slice (some ⟨gg,0,none⟩) N N)) from fun w0 hx hb=>aG.o.arr.exSet hb (hx.trans EX.o) s _);clear aA hy aD aJ aI aH E0 ca c1 f1;go_wp2_with fail
  go_end0
  exact⟨⟨_,rfl⟩,⟨_,_,aE.o⟩,aM.o,aK.o⟩
theorem T9{p m:Nat}{ml:List Int}{b x0:Nat}(w0 w:World)(hg:AP w0 b p m ml x0)(aG:Ex w0 w){base g R N:Nat}{blk cap:Nat->Nat}{a:Nat->Nat->Int}{avs:List Nat}(h:EM w base g R N blk cap a avs)(hb:w0.heap.size<=base)(hN:N<=1000)(Bg Bi Bx Ba:Nat)(s i:Nat)(x:Int)(hs:s<R)(hi:i<R)(aH:i≠s)(aS:Bg∈avs)(aR:Bi∈avs)(aQ:Bx∈avs)(aT:Ba∈avs)
  (cg:w.cell? ⟨Bg,0,none⟩=some (.pointer (some ⟨b,0,none⟩))) (ci:w.cell? ⟨Bi,0,none⟩=some (.int .i64 i)) (cx:w.cell? ⟨Bx,0,none⟩=some (.int .i64 x)) (ca:w.cell? ⟨Ba,0,none⟩=some (.int .i64 s)):
  Calls Tryz.prog 253 #[.slice (some ⟨g,0,none⟩) R R,.pointer (some ⟨Bg,0,none⟩),.pointer (some ⟨Bi,0,none⟩),.pointer (some ⟨Bx,0,none⟩),.pointer (some ⟨Ba,0,none⟩)] w (Yh w base g R N (Ax a i (CV p m ml (a i) (Dy p m (Az (p^m) x)) (a s))) avs):=by
 have p2:=hg.sh.p2;have c1:=h.cell hs;have c2:=h.cell hi;have i1:(0:Int)<=(s:Int):=ac;have i2:(s:Int)<(R:Int):=ac;have i3:(0:Int)<=(i:Int):=ac;have i4:(i:Int)<(R:Int):=ac;obtain⟨HB,aV,HBB,HR⟩:=Eq h aG hb (show s<R/\i<R/\i≠s from⟨hs,hi,aH⟩);obtain⟨K1,aI⟩:∃K,Dy p m (Az (p^m) x)=K:=⟨_,rfl⟩;have aB:=Aa (fun w' (h:Ex w0 w')=>MO w' (hg.ex h) x);have aD:K1<p^m:=by rw[<-aI];exact DX ac _
 rw[aI]at aB ⊢;have aE:=Aa (show ∀n,Calls Tryz.prog 254 #[.pointer (some ⟨b,0,none⟩),.slice (some ⟨blk i,0,none⟩) N (cap i),.int .i64 (K1:Nat),.slice (some ⟨blk s,0,none⟩) N (cap s)] (w.drewN n) fun r w'=>(∃t,r= .returned t)/\AO w' base 3 (blk i) N (cap i) (iv (CV p m ml (a i) K1 (a s)))/\(w.drewN n).grownBy w' (some (blk i)) from fun n=>by
  have:=Ti w0 (w.drewN n) hg (aG.drewN n) N (blk i) (cap i) base (a i) (a s) (K1:Nat) (.slice (some ⟨blk s,0,none⟩) N (cap s)) hb ((h.row i hi).drewN n) (((h.row s hs).drewN n).isl) (by show some (blk s)≠some (blk i);intro e;injection e with e;exact h.apart s i hs hi (fun e=>aH e.symm) e) hN;rw[Bj aD]at this;exact this)
 obtain⟨aL,aK,aJ,aM,aO,aN,aC⟩:=OK cg ci cx ca c1 c2 (show(∀B∈avs,some B≠some (blk i))/\some g≠some (blk i) from⟨fun B hB e=>by injection e with e;exact(h.av B hB).2.2 i hi e.symm,fun e=>by injection e with e;exact h.off i hi e.symm⟩);clear h hs hi aH hg aG hb aI aD p2;go_enter Tryz.func253,Tryz.ntmps253
 go_wp2_with fail
 have E0:Ex w w.drew:=(Ex.refl w).drew;have G0:Ex w0 w.drew:=aV.o.trans E0
 go_region_held3 (fun w'=>w'.cell? ⟨Bg,0,none⟩=some (.pointer (some ⟨b,0,none⟩))/\w'.cell? ⟨Bi,0,none⟩=some (.int .i64 i)/\w'.cell? ⟨Bx,0,none⟩=some (.int .i64 x)/\w'.cell? ⟨Ba,0,none⟩=some (.int .i64 s)/\w'.cell? ⟨g,i,none⟩=some (.slice (some ⟨blk i,0,none⟩) N (cap i))/\w'.cell? ⟨g,s,none⟩=some (.slice (some ⟨blk s,0,none⟩) N (cap s)))
  (first|with_reducible exact⟨E0.cell aL.o,E0.cell aK.o,E0.cell aJ.o,E0.cell aM.o,E0.cell aN.o,E0.cell aO.o⟩|with_reducible exact⟨((Ex.refl w).drewN _).cell aL.o,((Ex.refl w).drewN _).cell aK.o,((Ex.refl w).drewN _).cell aJ.o,((Ex.refl w).drewN _).cell aM.o,((Ex.refl w).drewN _).cell aN.o,((Ex.refl w).drewN _).cell aO.o⟩|with_reducible exact⟨hgr.cell (((Ex.refl w).drewN _).cell aL.o) (aC.o.1 _ aS),hgr.cell (((Ex.refl w).drewN _).cell aK.o) (aC.o.1 _ aR),hgr.cell (((Ex.refl w).drewN _).cell aJ.o) (aC.o.1 _ aQ),hgr.cell (((Ex.refl w).drewN _).cell aM.o) (aC.o.1 _ aT),hgr.cell (((Ex.refl w).drewN _).cell aN.o) aC.o.2,hgr.cell (((Ex.refl w).drewN _).cell aO.o) aC.o.2⟩)
  ((first
      | (go_at_call 158;(with_reducible refine(aB.o _ G0).mono ?_);rintro e wx1⟨rfl,n1,rfl⟩)
      | (go_at_call 254;(with_reducible refine(aE.o _).mono ?_);rintro e wx2⟨⟨t,rfl⟩,hown,hgr⟩)))
 have aP:=Aa (fun n=>HB.o.ex ((Ex.refl w).drewN n));have aA:=Aa ((aP.o _).rowAt HR.o.2.1 hown hgr);have aW:=Aa ((HB.o.kpx ((Ex.refl w).drewN _)).trans aA.o.2);have aU:=Aa (show ∀aF,Ex aF w->aF.heap.size<=base->Ex aF wx2 from fun aF hx hb=>Ex.grown (hx.drewN _) ((aP.o _).row i HR.o.2.1) hb hgr);have aX:=Aa aA.o.1;clear hown hgr E0 G0 aA aE aB;go_wp2_with fail
 go_end0
 exact⟨⟨_,rfl⟩,⟨_,_,aX.o⟩,aW.o,aU.o⟩
theorem Ua(w:World){base g R N:Nat}{blk cap:Nat->Nat}{a:Nat->Nat->Int}{avs:List Nat}(h:EM w base g R N blk cap a avs)(Br Bs Bk Ba:Nat)(s k:Nat)(hs:s<R)(hk:k<R)(aA:s≠k)(aC:Bs∈avs)(aD:Bk∈avs)(aE:Ba∈avs)
  (cr:w.cell? ⟨Br,0,none⟩=some (.slice (some ⟨g,0,none⟩) R R)) (cs:w.cell? ⟨Bs,0,none⟩=some (.slice none 0 0)) (ck:w.cell? ⟨Bk,0,none⟩=some (.int .i64 k)) (ca:w.cell? ⟨Ba,0,none⟩=some (.int .i64 s)):
  Calls Tryz.prog 248 #[.func (.func 249) #[] #[.pointer (some ⟨Bk,0,none⟩),.pointer (some ⟨Ba,0,none⟩)],.pointer (some ⟨Br,0,none⟩),.pointer (some ⟨Bs,0,none⟩)] w (Yh w base g R N (E6 a s k) avs):=by
 have HC:=Aa (T4 w h Bk Ba s k hs hk aA aD aE ck ca);have aH:=Aa aC;have aG:=Aa cs;clear h hs hk aA aC aD aE ck ca cs;go_enter Tryz.func248,Tryz.ntmps248
 go_wp2_with (go_at_call 249;refine HC.o.mono ?_;rintro e w2⟨⟨t,rfl⟩,Bd,aB,aF⟩;have hcs:=aB.cell aH.o aG.o)
 go_end0
 exact⟨⟨_,rfl⟩,Bd,aB,aF⟩
theorem Ub{p m:Nat}{ml:List Int}{b x0:Nat}(w0 w:World)(hg:AP w0 b p m ml x0)(aB:Ex w0 w){base g R N:Nat}{blk cap:Nat->Nat}{a:Nat->Nat->Int}{avs:List Nat}(h:EM w base g R N blk cap a avs)(hb:w0.heap.size<=base)(hN:N<=1000)(Br Bs Bg Bi Ba:Nat)(s:Nat)(aA:Int)(hs:s<R)(aD:Bs∈avs)(aF:Bg∈avs)(aE:Bi∈avs)(aG:Ba∈avs)
  (cr:w.cell? ⟨Br,0,none⟩=some (.slice (some ⟨g,0,none⟩) R R)) (cs:w.cell? ⟨Bs,0,none⟩=some (.slice none 0 0)) (cg:w.cell? ⟨Bg,0,none⟩=some (.pointer (some ⟨b,0,none⟩))) (ci:w.cell? ⟨Bi,0,none⟩=some (.int .i64 aA)) (ca:w.cell? ⟨Ba,0,none⟩=some (.int .i64 s)):
  Calls Tryz.prog 248 #[.func (.func 251) #[] #[.pointer (some ⟨Bg,0,none⟩),.pointer (some ⟨Bi,0,none⟩),.pointer (some ⟨Ba,0,none⟩)],.pointer (some ⟨Br,0,none⟩),.pointer (some ⟨Bs,0,none⟩)] w (Yh w base g R N (Ax a s (CI p m ml (Az (p^m) aA) (a s))) avs):=by
 have HC:=Aa (T5 w0 w hg aB h hb hN Bg Bi Ba s aA hs aF aE aG cg ci ca);have aJ:=Aa aD;have aI:=Aa cs;clear h hs aD aF aE aG cg ci ca cs hg aB hb;go_enter Tryz.func248,Tryz.ntmps248
 go_wp2_with (go_at_call 251;refine HC.o.mono ?_;rintro e w2⟨⟨t,rfl⟩,Bd,aC,aH⟩;have hcs:=aC.cell aJ.o aI.o)
 go_end0
 exact⟨⟨_,rfl⟩,Bd,aC,aH⟩
theorem Uc{p m:Nat}{ml:List Int}{b x0:Nat}(w0 w:World)(hg:AP w0 b p m ml x0)(aA:Ex w0 w){base g R N:Nat}{blk cap:Nat->Nat}{a:Nat->Nat->Int}{avs:List Nat}(h:EM w base g R N blk cap a avs)(hb:w0.heap.size<=base)(hN:N<=1000)(Br Bs Bg Bi Bx Ba:Nat)(s i:Nat)(x:Int)(hs:s<R)(hi:i<R)(aB:i≠s)(aE:Bs∈avs)(aG:Bg∈avs)(aF:Bi∈avs)(aD:Bx∈avs)(aH:Ba∈avs)
  (cr:w.cell? ⟨Br,0,none⟩=some (.slice (some ⟨g,0,none⟩) R R)) (cs:w.cell? ⟨Bs,0,none⟩=some (.slice none 0 0)) (cg:w.cell? ⟨Bg,0,none⟩=some (.pointer (some ⟨b,0,none⟩))) (ci:w.cell? ⟨Bi,0,none⟩=some (.int .i64 i)) (cx:w.cell? ⟨Bx,0,none⟩=some (.int .i64 x)) (ca:w.cell? ⟨Ba,0,none⟩=some (.int .i64 s)):
  Calls Tryz.prog 248 #[.func (.func 253) #[] #[.pointer (some ⟨Bg,0,none⟩),.pointer (some ⟨Bi,0,none⟩),.pointer (some ⟨Bx,0,none⟩),.pointer (some ⟨Ba,0,none⟩)],.pointer (some ⟨Br,0,none⟩),.pointer (some ⟨Bs,0,none⟩)] w (Yh w base g R N (Ax a i (CV p m ml (a i) (Dy p m (Az (p^m) x)) (a s))) avs):=by
 have HC:=Aa (T9 w0 w hg aA h hb hN Bg Bi Bx Ba s i x hs hi aB aG aF aD aH cg ci cx ca);have aK:=Aa aE;have aJ:=Aa cs;clear h hs hi aB aE aG aF aD aH cg ci cx ca cs hg aA hb;go_enter Tryz.func248,Tryz.ntmps248
 go_wp2_with (go_at_call 253;refine HC.o.mono ?_;rintro e w2⟨⟨t,rfl⟩,Bd,aC,aI⟩;have hcs:=aC.cell aK.o aJ.o)
 go_end0
 exact⟨⟨_,rfl⟩,Bd,aC,aI⟩
end Go.Proofs.YtehieobniamagaaGreat
