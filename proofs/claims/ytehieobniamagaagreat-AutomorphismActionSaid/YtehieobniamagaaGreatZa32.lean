/- Plain: the points of a map tell the map. -/
import Derived.Sort.OwnSortedInts
import Derived.Test.YtehieobniamagaaGreatZa31
namespace Go.Proofs.YtehieobniamagaaGreat
open Go.RowKit
set_option linter.all false
set_option maxRecDepth 100000
set_option maxHeartbeats 8000000
section
variable {p m N:Nat} {ml pl sl:List Int}
theorem Ru(h:B6 p m ml pl sl 0 N){k:Nat}(hk:k<N*(p^m-1)):∃z:Nat,1<=z/\z<p^m/\z=Ap p m (lw ml) (Az (p^m) (sl.getD (k/(p^m-1)) 0)) (k%(p^m-1)+1)/\k/(p^m-1)<N/\FV pl (k/(p^m-1))<N/\OF p m ml pl sl k=((FV pl (k/(p^m-1))*(p^m-1)+(z-1):Nat):Int):=by
 have hQ:0<p^m-1:=by
  apply Nat.pos_of_ne_zero;intro e;rw[e,Nat.mul_zero]at hk;omega
 have hi:k/(p^m-1)<N:=Nat.div_lt_of_lt_mul (by rw[Nat.mul_comm];exact hk);obtain⟨s,hs,h1,h2⟩:=h.sc _ hi;have hr:=Nat.mod_lt k hQ;have aB:=h.hF.ne_zero h.hp h.hm h1 h2 (show 1<=k%(p^m-1)+1 by omega) (show k%(p^m-1)+1<p^m by omega);have aA:=Cb (p:=p) (m:=m) (low:=lw ml) (by have:=h.hp;omega) s (k%(p^m-1)+1);refine⟨Ap p m (lw ml) s (k%(p^m-1)+1),aB,aA,by rw[hs,Bj h2],hi,h.inj.1 _ hi,?_⟩;unfold OF;rw[hs,Bj h2];omega
theorem XA{l:List Int}{N:Nat}(h:l.length=N){f:Nat->Int}(hf:∀i,i<N->f i=l.getD i 0):il N f=l:=by
 subst h;refine List.ext_getElem? fun i=>?_;by_cases hi:i<l.length
 .rw[AM hi,hf i hi,List.getD_eq_getElem?_getD,List.getElem?_eq_getElem hi];rfl
 .rw[List.getElem?_eq_none (by rw[Am];omega),List.getElem?_eq_none ac]
end
def AA(c:AU):List BZ:=Ds c.n.toNat (c.p.toNat^c.m.toNat)
def JS(c:AU):Nat:=c.n.toNat*(c.p.toNat^c.m.toNat-1)
theorem SK{c:AU}{gs:List BZ}(h:Ni c gs=none):UI c gs=0:=by unfold UI;rw[h]
theorem Xd{c:AU}{gs:List BZ}(h:Ni c gs≠none):UI c gs≠0:=by
 unfold UI
 cases hb:Ni c gs with
 | none=>exact absurd hb h
 | some g=>
  unfold Ni at hb;have:=List.find?_some hb;intro e;have e2:gE c g=0:=e;simp[e2]at this
def JF(c:AU)(e0:Int):Int:=if Ii c e0≠0 then Ii c e0 else UI c (AA c)
def ZZ(c:AU)(r:Ending)(w':World):Prop:=∃e0:Int,Ce c.p c.m c.ml c.n c.rows e0/\
 ((JF c e0≠0/\r= .returned (.tuple #[.agg #[.int .i64 0,.slice none 0 0],.int .i64 (JF c e0)]))∨(JF c e0=0/\WC (JS c:Int) (Ed c.p.toNat c.m.toNat c.ml (Dj c (AA c))) r w'))
def RnO(b0:Nat)(c:AU)(r:Ending)(w':World):Prop:=∃e0:Int,Ce c.p c.m c.ml c.n c.rows e0/\
 ((JF c e0≠0/\r= .returned (.tuple #[.pointer none,.slice none 0 0,.slice none 0 0,.int .i64 (JF c e0)]))∨
 (JF c e0=0/\Ni c (AA c)=none/\∃(pn mn N b x0:Nat) (mv nv:Value),c.p=pn/\c.m=mn/\c.n=N/\1<=N/\N<=64/\N*(pn^mn-1)<=64/\r= .returned (.tuple #[.pointer (some ⟨b,0,none⟩),mv,nv,.int .i64 0])/\
   AP w' b pn mn c.ml x0/\1<=x0/\x0<pn^mn/\MP w' mv (Dj c (AA c))/\UN b0 w' nv (Ic c (AA c))))
theorem OU{b0:Nat}{c:AU}{r:Ending}{w':World}(h:Wu b0 c r w'):RnO b0 c r w':=by
 obtain⟨e0,h1,h2|⟨h2,h3,h4⟩|⟨h2,h3,h4⟩⟩:=h
 .have:JF c e0=Ii c e0:=by unfold JF;rw[if_pos h2.1]
  exact⟨e0,h1,.inl ⟨by rw[this];exact h2.1,by rw[this];exact h2.2⟩⟩
 .have:JF c e0=UI c (AA c):=by unfold JF;rw[if_neg (by rw[h2];simp)]
  exact⟨e0,h1,.inl ⟨by rw[this];exact Xd h3,by rw[this];exact h4⟩⟩
 .have:JF c e0=0:=by unfold JF;rw[if_neg (by rw[h2];simp)];exact SK h3
  exact⟨e0,h1,.inr ⟨this,h3,h4⟩⟩
theorem Ir(w:World)(c:AU)(m1 v1:Value)(hc:c.at w m1 v1)(aC:(Dj c (AA c)).length<=1000)(aO:∀M∈Dj c (AA c),R5 c.n.toNat M):
  Calls Tryz.prog 22 #[c.arg m1 v1] w fun r w'=>ZZ c r w'/\Ex w w':=by
 obtain⟨c0,c1,c2,c3,c4⟩:=Dp w c m1 v1;have aJ:=AE w (c.obj m1 v1);obtain⟨x1,y1,aN,-,z1,-⟩:=hc.g.open;obtain⟨x3,y3,aM,-,z3,-⟩:=hc.m.open;unfold maxLen at z1 z3;obtain⟨B,hB⟩:=nA w.heap.size;have aW:(w.alloc (c.obj m1 v1)).heap.size=B+1:=by simp[hB]
 have aF:=Yl.new (w.alloc (c.obj m1 v1));have aB:Ex (w.alloc (c.obj m1 v1)) ((w.alloc (c.obj m1 v1)).alloc (.cells #[.int .i64 0,.slice none 0 0] 43)):=(Ex.refl _).alloc _;have aD:=Aa (G9 ((w.alloc (c.obj m1 v1)).alloc (.cells #[.int .i64 0,.slice none 0 0] 43)) c m1 v1 (hc.ex (aJ.trans aB)));rw[aW]at aF;rw[hB]at c0 c1 c2 c3 c4;replace c0:=aB.cell c0;replace c1:=aB.cell c1;replace c2:=aB.cell c2;replace c3:=aB.cell c3;replace c4:=aB.cell c4;have aG:=Aa (aJ.trans aB);have aH:=Aa aF;obtain⟨C,hC⟩:∃C:AU,C=c:=⟨_,rfl⟩;have bN:=Aa hC;have aY:=Aa (show ∀r w',ZZ C r w'->ZZ c r w' from fun r w' h=>by rw[<-hC];exact h);rw[<-hC]at aC aO;obtain⟨cp,cm,bG,cn,bF⟩:=c;unfold AU.arg at aD ⊢;unfold AU.obj at aG aD aH c0 c1 c2 c3 c4;dsimp only at aG aD aH c0 c1 c2 c3 c4 aN aM ⊢;rw[aN,aM]at aG aD aH c0 c1 c2 c3 c4 ⊢;rw[<-hC]at aD;have bL:=Aa aC;have bK:=Aa aO;clear hc aJ hC aN aM aB aF aW aC aO;have aZ:=Aa (show w.heap.size<=B+1 from ac);go_enter Tryz.func22,Tryz.ntmps22
 go_upto_region 1 with fail
 try simp only[hB]
 clear hB;generalize (w.alloc (.cells #[.int .i64 cp,.int .i64 cm,.slice x3 bG.length y3,.int .i64 cn,.slice x1 bF.length y1] 39)).alloc (.cells #[.int .i64 0,.slice none 0 0] 43)=w1 at *;go_wp2_with fail
 refine aD.o.mono ?_;rintro e w2⟨aE,aA⟩;have aR:=Aa aA;obtain⟨e0,aX,ho⟩:=OU aE;have bC:=Aa aX;replace c0:=aA.cell c0;replace c1:=aA.cell c1;replace c2:=aA.cell c2;replace c3:=aA.cell c3;replace c4:=aA.cell c4;obtain⟨q0,q1,q2,aV,aU⟩:=aH.o.ex aA;obtain⟨GE,aQ⟩:∃x,JF C e0=x:=⟨_,rfl⟩;rw[aQ]at ho;have aS:=Aa aQ;clear aE aA aX aD aQ;rcases ho with⟨h0,rfl⟩|⟨h0,aF,pn,mn,N,b,x0,mv,nv,hp,hm,hn,hN1,hN64,hD,rfl,hg,hx1,aA,hms,hns⟩
 .have hb:(GE !=0)=true:=by simpa using h0
  have H0:=Aa h0;clear h0;go_wp2_with fail
  exact bodyPost_ret (v:= .tuple #[.agg #[.int .i64 0,.slice none 0 0],.int .i64 GE]) (by simp[results,Tryz.results22,go_sem,q0,q1]) rfl ⟨aY.o _ _ ⟨e0,bC.o,.inl ⟨by rw[aS.o];exact H0.o,by rw[aS.o]⟩⟩,IB (aG.o.trans aR.o) aZ.o _ _⟩
 .subst h0;have bE:cn=(N:Int):=by have:=bN.o;rw[this]at hn;exact hn
  subst bE;have bB:=Aa (show JS C=N*(pn^mn-1)/\Ed C.p.toNat C.m.toNat C.ml (Dj C (AA C))=Ed pn mn C.ml (Dj C (AA C)) from by unfold JS;rw[hp,hm,hn];exact⟨rfl,rfl⟩);have bJ:=Aa (show C.n.toNat=N from by rw[hn];rfl);have bA:=Aa (Il w2 hg N hN64 hD (Dj C (AA C)) mv hms (fun M hM=>by have:=bK.o M hM;rwa[bJ.o]at this) bL.o);obtain⟨ma,mc,rfl,-,-,-⟩:=hms.open;obtain⟨na,nc,rfl,-,-,-⟩:=hns.open;obtain⟨BS,aI⟩:∃x,CU ((N*(pn^mn-1):Nat):Int) (Ed pn mn C.ml (Dj C (AA C)))=x:=⟨_,rfl⟩;have bO:=Aa aI;obtain⟨⟨bd,bl⟩,be⟩:=BS;obtain⟨LM,aP⟩:∃x,(Dj C (AA C)).length=x:=⟨_,rfl⟩;have aT:=Aa (show Calls Tryz.prog 64 #[.pointer (some ⟨b,0,none⟩),.int .i64 (N:Int),.slice ma LM mc] w2 fun r w'=>(∃v,r= .returned (.tuple #[.agg #[.int .i64 bd,v],.int .i64 be])/\D6 w' v bl)/\Ex w2 w' from by
   rw[<-aP];exact bA.o.mono (by
    rintro r w'⟨⟨v,h1,h2⟩,h3⟩;rw[aI]at h1 h2;exact⟨⟨v,h1,h2⟩,h3⟩))
  have bP:=Aa (show ∀l∈bl,2<=l.orb.length/\2<=l.reps.length/\∀r∈l.reps,2<=r.length from fun l hl=>JX (n:=((N*(pn^mn-1):Nat):Int)) (rows:=Ed pn mn C.ml (Dj C (AA C))) (by rw[aI];exact hl));rw[aP];clear aF hp hm hn hN1 hN64 hD hg hx1 aA hms hns aI aP bA;go_wp2_with (go_at_call 64;refine aT.o.mono ?_;rintro e w6⟨⟨v6,rfl,aL⟩,aK⟩;obtain⟨la,lc,bD,_,_,_⟩:=aL.open;subst bD;clear q0 q1 q2 aV aU;obtain⟨q0,q1,q2,aV,aU⟩:=aH.o.ex (aR.o.trans aK);have bI:=Aa aL;have bH:=Aa aK;clear aL aK)
  have bM:=Aa (bI.o.set2 q0 q1 q2 bP.o (.int .i64 bd) (.slice la bl.length lc));exact bodyPost_ret (v:= .tuple #[.agg #[.int .i64 bd,.slice la bl.length lc],.int .i64 be]) (by simp[results,Tryz.results22,go_sem,q0,q1]) rfl ⟨aY.o _ _ ⟨e0,bC.o,.inr ⟨aS.o,by rw[bB.o.1,bB.o.2];exact IX bO.o bM.o⟩⟩,IB (aG.o.trans (aR.o.trans bH.o)) aZ.o _ _⟩
def Ct(Q:Nat->Prop)(w w':World):Prop:=∀X,¬Q X->X<w.heap.size->w'.heap[X]?=w.heap[X]?
theorem Ct.refl(Q:Nat->Prop)(w:World):Ct Q w w:=fun _ _ _=>rfl
theorem Ct.ex{Q:Nat->Prop}{w w':World}(h:Ex w w'):Ct Q w w':=fun X _ hX=>h.block X hX
theorem Ct.trans{Q:Nat->Prop}{a b c:World}(h:Ct Q a b)(k:Ct Q b c)(hs:a.heap.size<=b.heap.size):Ct Q a c:=fun X hq hX=>(k X hq (Nat.lt_of_lt_of_le hX hs)).trans (h X hq hX)
theorem Ct.mono{Q Q':Nat->Prop}{a b:World}(h:Ct Q a b)(hq:∀X,X<a.heap.size->Q X->Q' X):Ct Q' a b:=fun X hn hX=>h X (fun hx=>hn (hq X hX hx)) hX
theorem Ct.set{Q:Nat->Prop}{a b:World}(h:Ct Q a b){p:Addr}(hp:Q p.block)(u:Value):Ct Q a (b.setCell p u):=fun X hn hX=>by
 rw[<-h X hn hX];exact Below.heap_setCell _ _ _ _ (fun e=>hn (by rw[e];exact hp))
theorem Ct.appd{w w':World}{base:Nat}{e:TypeId}{size n:Nat}{v v':Value}{xs news:List Value}(h:AZ w w' base e size v v' n xs news):Ct (fun X=>v.ownBlock=some X) w w':=fun X hn hX=>by
 obtain⟨o,hg⟩:=h.gr;rw[hg.block X aq (fun e=>hn e.symm)];exact Below.heap_alloc _ _ _ hX
theorem Ct.cell{Q:Nat->Prop}{w w':World}(h:Ct Q w w'){p:Addr}{u:Value}(hc:w.cell? p=some u)(hq:¬Q p.block):w'.cell? p=some u:=by
 rw[World.cell?_of_block (w:=w) (w':=w') (h _ hq (World.block_lt_of_cell? _ _ hc))];exact hc
theorem Sl.offQ{Q:Nat->Prop}{w w':World}{v:Value}{n size:Nat}{xs:List Value}(h:Sl w v n size xs)(hv:0<n->∀q,Q q->v.ownBlock≠some q)(hw:Ct Q w w'):Sl w' v n size xs:=by
 obtain⟨k1,a,cap,rfl,k3,k4,k5⟩:=h;refine⟨k1,a,cap,rfl,k3,k4,fun hn=>?_⟩;obtain⟨b,o,rfl,k6⟩:=k5 hn;exact⟨b,o,rfl,fun j x hx=>hw.cell (k6 j x hx) (fun hq=>hv hn b hq rfl)⟩
structure UO(w:World)(q:Nat):Prop where
 c0:w.cell? ⟨q,0,none⟩=some (.int .i64 0)
 c1:w.cell? ⟨q,1,none⟩=some (.slice none 0 0)
 c2:w.cell? ⟨q,2,none⟩=some (.slice none 0 0)
 c3:∀j,3<=j->w.cell? ⟨q,j,none⟩=none
 f0:w.frozen? ⟨q,0,none⟩=false
 f1:w.frozen? ⟨q,1,none⟩=false
 f2:w.frozen? ⟨q,2,none⟩=false
theorem UO.new(w:World):UO (w.alloc (.cells #[.int .i64 0,.slice none 0 0,.slice none 0 0] 53)) w.heap.size:=
 ⟨ag,ag,ag,fun j hj=>by
  obtain⟨i,rfl⟩:∃i,j=i+3:=⟨j-3,ac⟩;simp,ag,ag,ag⟩
theorem UO.ex{w w':World}{b:Nat}(h:UO w b)(hx:Ex w w'):UO w' b:=
 ⟨hx.cell h.c0,hx.cell h.c1,hx.cell h.c2,fun j hj=>(Below.cell hx (show(⟨b,j,none⟩:Addr).block<w.heap.size from(World.block_lt_of_cell? _ (⟨b,0,none⟩:Addr) h.c0:b<w.heap.size))).trans (h.c3 j hj),hx.frz h.c0 h.f0,hx.frz h.c1 h.f1,hx.frz h.c2 h.f2⟩
theorem Jq{w:World}{q:Nat}(hb:UO w q){v:Value}{n size:Nat}{xs:List Value}(h:Sl w v n size xs)(hl:2<=xs.length)(hx:xs[1]?≠some (.slice none 0 0)):v.ownBlock≠some q:=by
 intro e;obtain⟨k1,a,cap,rfl,_,_,k5⟩:=h;have hn:0<n:=by
  exact zcm
 obtain⟨b,o,rfl,k6⟩:=k5 hn;injection e with e;have e:b=q:=e;subst e;have x1:=k6 1 _ (List.getElem?_eq_getElem ac);have h1:xs[1]?=some (xs[1]'ac):=List.getElem?_eq_getElem _;rcases o with _ | _|o
 .rw[show(0:Nat)+1=1 from rfl,hb.c1]at x1;injection x1 with x1;exact hx (by rw[h1,<-x1])
 .rw[show(0:Nat)+1+1=2 from rfl,hb.c2]at x1;injection x1 with x1;exact hx (by rw[h1,<-x1])
 .rw[hb.c3 (o+1+1+1) ac]at x1;cases x1
theorem D6.offQ{Q:Nat->Prop}{w:World}(hQ:∀q,Q q->UO w q){v:Value}{L:List Lv}(h:D6 w v L)(hL:∀l∈L,2<=l.orb.length/\2<=l.reps.length/\∀r∈l.reps,2<=r.length){w':World}(hw:Ct Q w w'):D6 w' v L:=by
 obtain⟨os,k1,k2,k3⟩:=h;have aA:∀ {y:Value} {l:List Int},Aj w y l->2<=l.length->Aj w' y l:=fun {y l} hy hl=>
  Sl.offQ hy (fun _ q hq=>Jq (hQ q hq) hy (by rw[AS];exact hl) (by
   unfold Al;rw[List.getElem?_map]
   cases l[1]? with
   | none=>simp
   | some x=>simp)) hw
 refine⟨os,k1,?_,fun i l o a c=>?_⟩
 .refine Sl.offQ k2 (fun hn q hq=>?_) hw;have hl3:=L9 L os k1;refine Jq (hQ q hq) k2 ac (fun e=>?_);have aC:L[0]?=some (L[0]'hn):=List.getElem?_eq_getElem _;have aB:os[0]?=some (os[0]'ac):=List.getElem?_eq_getElem _;obtain⟨-,g1,-⟩:=Ma L os 0 _ _ aC aB;rw[show 3*0+1=1 from rfl,e]at g1;injection g1 with g1;obtain⟨b1,-,-⟩:=hL _ (List.getElem_mem hn);obtain⟨-,a,cap,ha,-⟩:=(k3 0 _ _ aC aB).1;rw[<-g1]at ha;injection ha with _ ha;omega
 .obtain⟨g1,vals,g2,g3⟩:=k3 i l o a c;obtain⟨b1,b2,b3⟩:=hL l (List.mem_of_getElem? a);refine⟨aA g1 b1,vals,?_,fun j r y hr hy=>aA (g3 j r y hr hy) (b3 r (List.mem_of_getElem? hr))⟩;have hvl:vals.length=l.reps.length:=by have:=g2.1;omega
  refine Sl.offQ g2 (fun hn q hq=>Jq (hQ q hq) g2 ac (fun e=>?_)) hw;have aD:l.reps[1]?=some (l.reps[1]'ac):=List.getElem?_eq_getElem _;obtain⟨-,a2,c2,h2,-⟩:=g3 1 _ _ aD e;injection h2 with _ h2;have:=b3 _ (List.getElem_mem (show 1<l.reps.length by omega));omega
structure FS where
 i:Int
 j:Int
 a:Int
 pf:List Rf
def Mo:List FS->List Value->List Value
 | x :: xs,v :: vs=> .int .i64 x.i :: .int .i64 x.j :: .int .i64 x.a :: v :: Mo xs vs
 | _,_=> []
theorem QH:∀(L:List FS) (os:List Value) (i:Nat) (l:FS) (o:Value),L[i]?=some l->os[i]?=some o->(Mo L os)[4*i]?=some (.int .i64 l.i)/\(Mo L os)[4*i+1]?=some (.int .i64 l.j)/\(Mo L os)[4*i+2]?=some (.int .i64 l.a)/\(Mo L os)[4*i+3]?=some o
 | l' :: L,o' :: os,0,l,o,h,k=>by
  simp at h k;subst h k;exact⟨rfl,rfl,rfl,rfl⟩
 | l' :: L,o' :: os,i+1,l,o,h,k=>by
  have:=QH L os i l o ay (by simpa using k);rw[show 4*(i+1)=4*i+4 by omega,show 4*i+4+1=4*i+1+4 by omega,show 4*i+4+2=4*i+2+4 by omega,show 4*i+4+3=4*i+3+4 by omega];simpa[Mo]using this
 | [],os,i,l,o,h,k=>by simp at h
 | l' :: L, [],i,l,o,h,k=>by simp at k
theorem QI:∀(L:List FS) (os:List Value) (l:FS) (o:Value),os.length=L.length->Mo (L ++ [l]) (os ++ [o])=Mo L os ++ [.int .i64 l.i,.int .i64 l.j,.int .i64 l.a,o]
 | [], [],l,o,_=>rfl
 | l' :: L,o' :: os,l,o,h=>by
  have:=QI L os l o ay;simp only[List.cons_append,Mo,this]
 | [],o' :: os,l,o,h=>by simp at h
 | l' :: L, [],l,o,h=>by simp at h
def J7(w:World)(v:Value)(xs:List FS):Prop:=∃evs:List Value,evs.length=xs.length/\Sl w v xs.length 4 (Mo xs evs)/\∀(i:Nat) (x:FS) (ev:Value),xs[i]?=some x->evs[i]?=some ev->OH w ev x.pf
theorem J7.ex{w w':World}{v:Value}{L:List FS}(h:J7 w v L)(hx:Ex w w'):J7 w' v L:=by
 obtain⟨os,h1,h2,h3⟩:=h;exact⟨os,h1,h2.ex hx,fun i l o a b=>(h3 i l o a b).ex hx⟩
theorem J7.open{w:World}{v:Value}{L:List FS}(h:J7 w v L):∃a cap,v= .slice a L.length cap/\L.length<=cap/\cap<=maxLen/\
  (0<L.length->∃b o,a=some ⟨b,o,none⟩/\∀(i:Nat) (l:FS),L[i]?=some l->∃u,w.cell? ⟨b,o+4*i,none⟩=some (.int .i64 l.i)/\w.cell? ⟨b,o+(4*i+1),none⟩=some (.int .i64 l.j)/\w.cell? ⟨b,o+(4*i+2),none⟩=some (.int .i64 l.a)/\w.cell? ⟨b,o+(4*i+3),none⟩=some u/\OH w u l.pf):=by
 obtain⟨os,h1,⟨h2,a,cap,h3,h4,h5,h6⟩,h7⟩:=h;refine⟨a,cap,h3,h4,h5,fun hn=>?_⟩;obtain⟨b,o,h8,h9⟩:=h6 hn;refine⟨b,o,h8,fun i l hl=>?_⟩;have hi:=(List.getElem?_eq_some_iff.1 hl).1;have ho:os[i]?=some (os[i]'ac):=List.getElem?_eq_getElem _;obtain⟨g1,g2,g3,g4⟩:=QH L os i l _ hl ho;exact⟨_,h9 _ _ g1,h9 _ _ g2,h9 _ _ g3,h9 _ _ g4,h7 i l _ hl ho⟩
def Kg(FB:Nat->Prop)(w:World)(v:Value)(es:List Rf):Prop:=∃mvs:List Value,mvs.length=es.length/\Sl w v es.length 4 (KC es mvs)/\(∀(i:Nat) (e:Rf) (mv:Value),es[i]?=some e->mvs[i]?=some mv->Aj w mv e.msg/\(e.msg≠ []->∀X,mv.ownBlock=some X->¬FB X))/\(es≠ []->∀X,v.ownBlock=some X->¬FB X)
theorem Ou.g{FB:Nat->Prop}{w:World}{v:Value}{es:List Rf}(h:Ou FB w v es):Kg FB w v es:=by
 obtain⟨m,h1,h2,h3,h4⟩:=h;exact⟨m,h1,h2,h3,fun _=>h4⟩
theorem Kg.rsl{FB:Nat->Prop}{w:World}{v:Value}{es:List Rf}(h:Kg FB w v es):OH w v es:=by
 obtain⟨m,h1,h2,h3,_⟩:=h;exact⟨m,h1,h2,fun i e mv a b=>(h3 i e mv a b).1⟩
theorem Sl.blk{w:World}{v:Value}{n size:Nat}{xs:List Value}(h:Sl w v n size xs)(hn:0<xs.length){X:Nat}(hX:v.ownBlock=some X):X<w.heap.size:=by
 obtain⟨k1,a,cap,rfl,_,_,k5⟩:=h;have aA:0<n:=by
  apply Classical.byContradiction;intro h0;have:n=0:=ac;subst this;omega
 obtain⟨b,o,rfl,k6⟩:=k5 aA;injection hX with hX;have hX:b=X:=hX;subst hX;exact(World.block_lt_of_cell? _ _ (k6 0 _ (List.getElem?_eq_getElem hn)):b<w.heap.size)
theorem Kg.off{FB FB':Nat->Prop}{w w':World}{v:Value}{es:List Rf}(h:Kg FB w v es)(hw:Ct FB w w')(hf:∀X,X<w.heap.size->FB' X->FB X):Kg FB' w' v es:=by
 obtain⟨m,h1,h2,h3,h4⟩:=h;have h2l:=LF es m h1;refine⟨m,h1,Sl.offQ h2 (fun hn q hq e=>h4 (by intro e2;subst e2;simp at hn) q e hq) hw,fun i e mv a b=>?_,fun aA X hX hF=>?_⟩
 .obtain⟨g1,g2⟩:=h3 i e mv a b;refine⟨Sl.offQ g1 (fun hn q hq e2=>g2 (by intro e3;rw[e3]at hn;simp at hn) q e2 hq) hw,fun aA X hX hF=>?_⟩;exact g2 aA X hX (hf X (Sl.blk g1 (by rw[AS];exact List.length_pos_iff.2 aA) hX) hF)
 .exact h4 aA X hX (hf X (Sl.blk h2 (by have:=List.length_pos_iff.2 aA;omega) hX) hF)
def RP(c:AU)(g:BZ):FS:=⟨g.i,g.j,g.a,Hd 0 (gF c g)⟩
def Hq(c:AU)(gs:List BZ):List FS:=gs.map (RP c)
theorem VR:(Tryz.prog.info? 96).map (fun i=>(i.zero,i.size,i.bytes))=some (some (.agg #[.int .i64 0,.int .i64 0,.int .i64 0,.slice none 0 0]),4,48):=ah
structure Ra(w6 wr:World)(OB RB:Nat)(d:Int)(lv rv:Value)(xs:List FS)(evs:List Value):Prop where
 off:Ct (fun X=>X=OB) w6 wr
 size:w6.heap.size<=wr.heap.size
 ob:OB<w6.heap.size
 rb:RB<w6.heap.size
 b0:wr.cell? ⟨OB,0,none⟩=some (.int .i64 d)
 b1:wr.cell? ⟨OB,1,none⟩=some lv
 b2:wr.cell? ⟨OB,2,none⟩=some rv
 f2:wr.frozen? ⟨OB,2,none⟩=false
 own:wr.ownsRow w6.heap.size 96 4 rv xs.length (Mo xs evs)
 len:evs.length=xs.length
 at_:∀(i:Nat) (x:FS) (ev:Value),xs[i]?=some x->evs[i]?=some ev->Kg (fun X=>X=OB∨X=RB∨rv.ownBlock=some X) wr ev x.pf
section
variable {w6 wr w':World} {OB RB:Nat} {d:Int} {lv rv v' ev:Value} {xs:List FS} {evs:List Value}
theorem Ra.later(h:Ra w6 wr OB RB d lv rv xs evs)(hx:Ex wr w'):Ra w6 w' OB RB d lv rv xs evs:=
 ⟨h.off.trans (.ex hx) h.size,Nat.le_trans h.size hx.size,h.ob,h.rb,hx.cell h.b0,hx.cell h.b1,hx.cell h.b2,hx.frz h.b2 h.f2,Ai h.own hx,h.len,fun i x e a b=>(h.at_ i x e a b).off (.ex hx) fun X _ hX=>hX⟩
theorem Ra.no(h:Ra w6 wr OB RB d lv rv xs evs):some OB≠rv.ownBlock/\some RB≠rv.ownBlock:=⟨fun e=>by have:=(h.own.lt OB e.symm).1;have:=h.ob;omega,fun e=>by have:=(h.own.lt RB e.symm).1;have:=h.rb;omega⟩
theorem Ra.app(h:Ra w6 wr OB RB d lv rv xs evs){x:FS}(he:Kg (fun X=>X=OB∨X=RB∨rv.ownBlock=some X) wr ev x.pf)
  (ha:AZ wr w' w6.heap.size 96 4 rv v' xs.length (Mo xs evs) [.int .i64 x.i,.int .i64 x.j,.int .i64 x.a,ev]):w'.cell? ⟨OB,2,none⟩=some rv/\w'.frozen? ⟨OB,2,none⟩=false/\Ra w6 (w'.setCell ⟨OB,2,none⟩ v') OB RB d lv v' (xs ++ [x]) (evs ++ [ev]):=by
 have aD:=ha.cell h.b2 h.no.1;have aC:=Ct.appd ha;have hsz:=ha.grow;have aB:∀X,v'.ownBlock=some X->rv.ownBlock=some X∨wr.heap.size<=X:=fun X hX=>by
  rcases ha.at_ with h1|h1
  .left;rw[<-h1];exact hX
  .right;rw[h1]at hX;injection hX with hX;omega
 have aE:v'.ownBlock≠some OB:=fun e=>by
  rcases aB OB e with h1|h1
  .exact h.no.1 h1.symm
  .have:=h.ob;have:=h.size;omega
 have aA:∀ {e:Value} {es:List Rf},Kg (fun X=>X=OB∨X=RB∨rv.ownBlock=some X) wr e es->Kg (fun X=>X=OB∨X=RB∨v'.ownBlock=some X) (w'.setCell ⟨OB,2,none⟩ v') e es:=fun {e es} hr=>
  hr.off ((aC.mono fun X _ hX=> .inr (.inr hX)).set (p:=⟨OB,2,none⟩) (.inl rfl) _) fun X hX hF=>by
   rcases hF with hF|hF|hF
   .exact .inl hF
   .exact .inr (.inl hF)
   .rcases aB X hF with h1|h1
    .exact .inr (.inr h1)
    .omega
 refine⟨aD,ha.frz h.b2 h.f2 h.no.1,?_,?_,h.ob,h.rb,?_,?_,World.cell?_setCell_same _ _ _ aD,?_,?_,by simp[h.len],fun i y e a b=>?_⟩
 .refine Ct.set (Q:=fun X=>X=OB) ?_ (p:=⟨OB,2,none⟩) rfl _;intro X hn hX;rw[aC X (fun e=>by have:=(h.own.lt X e).1;omega) (Nat.lt_of_lt_of_le hX h.size)];exact h.off X hn hX
 .have:=h.size;simp;omega
 .rw[Af ae];exact ha.cell h.b0 h.no.1
 .rw[Af ae];exact ha.cell h.b1 h.no.1
 .rw[Ar];exact ha.frz h.b2 h.f2 h.no.1
 .have:=Ac (a:=⟨OB,2,none⟩) ha.own aE v';rw[QI xs evs x ev h.len,List.length_append];exact this
 .by_cases hi:i<xs.length
  .rw[List.getElem?_append_left hi]at a;rw[List.getElem?_append_left (by rw[h.len];exact hi)]at b;exact aA (h.at_ i y e a b)
  .have aF:i=xs.length:=by
    exact zcG
   subst aF;rw[List.getElem?_append_right (Nat.le_refl _)]at a;rw[List.getElem?_append_right (by rw[h.len];exact Nat.le_refl _),h.len]at b;simp at a b;subst a b;exact aA he
end
theorem Ra.start{w4:World}{OB RB:Nat}{d:Int}{lv:Value}(ho:UO w4 OB)(hr:RB<w4.heap.size):Ra w4 ((w4.setCell ⟨OB,0,none⟩ (.int .i64 d)).setCell ⟨OB,1,none⟩ lv) OB RB d lv (.slice none 0 0) [] []:=
 ⟨Ct.set (Q:=fun X=>X=OB) (Ct.set (Q:=fun X=>X=OB) (Ct.refl _ _) (p:=⟨OB,0,none⟩) rfl _) (p:=⟨OB,1,none⟩) rfl _,ag,(World.block_lt_of_cell? _ (⟨OB,0,none⟩:Addr) ho.c0:OB<w4.heap.size),hr,
  by rw[Af ae];exact World.cell?_setCell_same _ _ _ ho.c0,World.cell?_setCell_same _ _ _ ((Af ae).trans ho.c1),by rw[Af ae,Af ae];exact ho.c2,by rw[Ar,Ar];exact ho.f2,
  World.ownsRow_nil _ _ _ _,rfl,fun i x e h=>by simp at h⟩
theorem Jd{w:World}{q:Nat}(u v z:Value):Ct (fun X=>X=q) w (((w.setCell ⟨q,0,none⟩ u).setCell ⟨q,1,none⟩ v).setCell ⟨q,2,none⟩ z):=
 Ct.set (Q:=fun X=>X=q) (Ct.set (Q:=fun X=>X=q) (Ct.set (Q:=fun X=>X=q) (Ct.refl _ _) (p:=⟨q,0,none⟩) rfl _) (p:=⟨q,1,none⟩) rfl _) (p:=⟨q,2,none⟩) rfl _
theorem Ra.fin{w6 wr:World}{OB RB:Nat}{d:Int}{lv rv:Value}{xs:List FS}{evs:List Value}(h:Ra w6 wr OB RB d lv rv xs evs)(u v z:Value):J7 (((wr.setCell ⟨RB,0,none⟩ u).setCell ⟨RB,1,none⟩ v).setCell ⟨RB,2,none⟩ z) rv xs:=
 ⟨evs,h.len,Sl.offQ (Q:=fun X=>X=RB) (Sl.own h.own) (fun _ q hq e=>by subst hq;exact h.no.2 e.symm) (Jd u v z),fun i x e a b=>
  ((h.at_ i x e a b).off (FB':=fun _=>False) ((Jd u v z).mono fun X _ hX=> .inr (.inl hX)) fun X _ hX=>hX.elim).rsl⟩
def Fo:List Int->List Int->Bool
 | x :: l,y :: k=>if x=y then Fo l k else decide (x<y)
 | _,_=>false
theorem KM:∀ {l k:List Int} {i:Nat} {x y:Int},l[i]?=some x->k[i]?=some y->x≠y->(∀j,j<i->l[j]?=k[j]?)->Fo l k=decide (x<y)
 | x' :: l,y' :: k,0,x,y,h1,h2,hne,_=>by
  simp at h1 h2;subst h1 h2;unfold Fo;rw[if_neg hne]
 | x' :: l,y' :: k,i+1,x,y,h1,h2,hne,ha=>by
  have h0:=ha 0 ac;simp at h0;subst h0;unfold Fo;rw[if_pos rfl];exact KM (i:=i) bw (by simpa using h2) hne fun j hj=>by
   have:=ha (j+1) ac;simpa using this
 | [],k,i,x,y,h1,_,_,_=>by simp at h1
 | x' :: l, [],i,x,y,_,h2,_,_=>by simp at h2
theorem Jx:∀ {l k:List Int},(∀j,j<l.length->l[j]?=k[j]?)->Fo l k=false
 | [],k,_=>by unfold Fo;rfl
 | x :: l, [],h=>by
  have:=h 0 ag;simp at this
 | x :: l,y :: k,h=>by
  have h0:=h 0 ag;simp at h0;subst h0;unfold Fo;rw[if_pos rfl];exact Jx fun j hj=>by
   have:=h (j+1) (by simpa using hj);simpa using this
def XH(b:Nat)(f:Nat->Nat):Bool:=(List.range b).all fun i=>f i==i
theorem TW(b:Nat)(f:Nat->Nat):XH b f=true↔AY b f:=by
 unfold XH AY;rw[List.all_eq_true];exact⟨fun h i hi=>by simpa using h i (List.mem_range.2 hi),fun h i hi=>by simpa using h i (List.mem_range.1 hi)⟩
theorem W9:PH:=by
 intro w base v l hv h1 h2;rcases hv.2 with⟨_,h0⟩|⟨g,cap,cur,rfl,hbase,hb,c1,c2,c3,c4⟩
 .omega
 .have aA:cur.toList.take l.length=l.map (Value.int .i64):=by simpa[Al]using c4
  have hg:g<w.heap.size:=(Array.getElem?_eq_some_iff.1 hb).1;refine(Tryz.slices_Sort_int g 0 cap l w (holds_of_blockI hb aA) hg ac).mono ?_;rintro e w'⟨rfl,n,os,rfl⟩;have hl:(l.mergeSort fun x y=>decide (x<=y)).length=l.length:=List.length_mergeSort _;exact⟨rfl,ownsRow_sortedI hl hbase hb c1 c2 c3,grownBy_sortedI _⟩
def Q6(n:Nat)(f g:Nat->Nat):Prop:=∃i,i<n/\(∀j,j<i->f j=g j)/\f i<g i
theorem Q6.le{n:Nat}{f g:Nat->Nat}(h:Q6 n f g):DW n f g:= .inr h
theorem JK{n:Nat}{f g:Nat->Nat}:∀m,m<=n->(∀i,i<m->f i=g i)∨∃i,i<m/\(∀j,j<i->f j=g j)/\f i≠g i
 | 0,_=> .inl fun i h=>by omega
 | m+1,h=>by
  rcases JK (n:=n) (f:=f) (g:=g) m (by omega) with h1|⟨i,h1,h2,h3⟩
  .by_cases e:f m=g m
   .exact .inl fun i hi=>by
     by_cases e2:i=m
     .subst e2;exact e
     .exact h1 i (by omega)
   .exact .inr ⟨m,by omega,h1,e⟩
  .exact .inr ⟨i,by omega,h2,h3⟩
theorem Tl{n:Nat}{f g:Nat->Nat}:Fo (li n f) (li n g)=true↔Q6 n f g:=by
 rcases JK (n:=n) (f:=f) (g:=g) n (Nat.le_refl _) with h1|⟨i,h1,h2,h3⟩
 .have e:li n f=li n g:=Tk h1;rw[e,Jx fun j _=>rfl];constructor
  .intro h;cases h
  .rintro⟨i,hi,_,h⟩;have:=h1 i hi;omega
 .rw[KM (i:=i) (C9 h1 f) (C9 h1 g) ac fun j hj=>by rw[C9 ac,C9 ac,h2 j hj],decide_eq_true_eq];constructor
  .intro h;exact⟨i,h1,h2,ac⟩
  .rintro⟨j,hj,j1,j2⟩;rcases Nat.lt_trichotomy i j with e|e|e
   .exact absurd (j1 i e) h3
   .subst e;omega
   .have:=h2 j e;omega
structure MS(n m:Nat)(S:List (Nat->Nat))(A:Nat->Nat->Nat):Prop where
 all:∀f,Gn S f↔∃i,i<m/\A i=f
 srt:∀a b,a<b->b<m->Q6 n (A a) (A b)
theorem MS.least{n m:Nat}{S:List (Nat->Nat)}{A:Nat->Nat->Nat}(h:MS n m S A){b x i:Nat}(hi:i<m)(h1:AY b (A i))(h2:A i b=x)(h3:∀j,j<i->¬(AY b (A j)/\A j b=x)):DQ n S b x (A i):=
 ⟨(h.all _).2 ⟨i,hi,rfl⟩,h1,h2,fun g hg hF aA=>by
  obtain⟨j,hj,rfl⟩:=(h.all g).1 hg;rcases Nat.lt_trichotomy i j with e|e|e
  .exact(h.srt i j e hj).le
  .subst e;exact .inl fun _ _=>rfl
  .exact absurd ⟨hF,aA⟩ (h3 j e)⟩
end Go.Proofs.YtehieobniamagaaGreat
