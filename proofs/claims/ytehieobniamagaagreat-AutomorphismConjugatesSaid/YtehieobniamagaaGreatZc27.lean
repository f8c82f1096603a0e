/- Walk of automorphism.Group. -/
import Derived.Test.YtehieobniamagaaGreatZc26
namespace Go.Proofs.YtehieobniamagaaGreat
open Go.RowKit
set_option linter.all false
set_option maxRecDepth 100000
set_option maxHeartbeats 8000000
def AC(c:AZ):List Cf:=Dw c.n.toNat (c.p.toNat^c.m.toNat)
def Ep(c:AZ):Nat:=c.n.toNat*(c.p.toNat^c.m.toNat-1)
theorem PG{c:AZ}{gs:List Cf}(h:Oa c gs=none):Yt c gs=0:=by unfold Yt;rw[h]
theorem rnE_ne{c:AZ}{gs:List Cf}(h:Oa c gs≠none):Yt c gs≠0:=by
 unfold Yt
 cases hb:Oa c gs with
 | none=>exact absurd hb h
 | some g=>
  unfold Oa at hb;have:=List.find?_some hb;intro e;have e2:gE c g=0:=e;simp[e2]at this
def J6(c:AZ)(e0:Int):Int:=if I8 c e0≠0 then I8 c e0 else Yt c (AC c)
def GrO(c:AZ)(r:Ending)(w':World):Prop:=∃e0:Int,BK c.p c.m c.ml c.n c.rows e0/\
 ((J6 c e0≠0/\r= .returned (.tuple #[.agg #[(0:Int),.slice none 0 0],.int .i64 (J6 c e0)]))∨(J6 c e0=0/\BldR (Ep c:Int) (Ey c.p.toNat c.m.toNat c.ml (Da c (AC c))) r w'))
def RnO(b0:Nat)(c:AZ)(r:Ending)(w':World):Prop:=∃e0:Int,BK c.p c.m c.ml c.n c.rows e0/\
 ((J6 c e0≠0/\r= .returned (.tuple #[.pointer none,.slice none 0 0,.slice none 0 0,.int .i64 (J6 c e0)]))∨
 (J6 c e0=0/\Oa c (AC c)=none/\∃(pn mn N b x0:Nat) (mv nv:Value),c.p=pn/\c.m=mn/\c.n=N/\1<=N/\N<=64/\N*(pn^mn-1)<=64/\r= .returned (.tuple #[.pointer (some (b,0)),mv,nv,(0:Int)])/\
   Bj w' b pn mn c.ml x0/\1<=x0/\x0<pn^mn/\Pb w' mv (Da c (AC c))/\Yz b0 w' nv (JS c (AC c))))
theorem Ro{b0:Nat}{c:AZ}{r:Ending}{w':World}(h:RunO b0 c r w'):RnO b0 c r w':=by
 obtain⟨e0,h1,h2|⟨h2,h3,h4⟩|⟨h2,h3,h4⟩⟩:=h
 .have:J6 c e0=I8 c e0:=by unfold J6;rw[if_pos h2.1]
  exact⟨e0,h1,.inl ⟨by rw[this];exact h2.1,by rw[this];exact h2.2⟩⟩
 .have:J6 c e0=Yt c (AC c):=by unfold J6;rw[if_neg (by rw[h2];simp)]
  exact⟨e0,h1,.inl ⟨by rw[this];exact rnE_ne h3,by rw[this];exact h4⟩⟩
 .have:J6 c e0=0:=by unfold J6;rw[if_neg (by rw[h2];simp)];exact PG h3
  exact⟨e0,h1,.inr ⟨this,h3,h4⟩⟩
theorem Fh(w:World)(c:AZ)(m1 v1:Value)(hc:c.at w m1 v1)(aC:(Da c (AC c)).length<=1000)(aO:∀M∈Da c (AC c),MU c.n.toNat M):
  Calls Tryz.prog 22 #[c.arg m1 v1] w fun r w'=>GrO c r w'/\Ex w w':=by
 obtain⟨c0,c1,c2,c3,c4⟩:=Du w c m1 v1;have aJ:=AI w (c.obj m1 v1);obtain⟨x1,y1,aN,-,z1,-⟩:=hc.g.open;obtain⟨x3,y3,aM,-,z3,-⟩:=hc.m.open;unfold maxLen at z1 z3;obtain⟨B,hB⟩:=nA w.heap.size;have aW:(w.alloc (c.obj m1 v1)).heap.size=B+1:=by simp[hB]
 have aF:=BxN.new (w.alloc (c.obj m1 v1));have aB:Ex (w.alloc (c.obj m1 v1)) ((w.alloc (c.obj m1 v1)).alloc (.cells #[(0:Int),.slice none 0 0] 43)):=(Ex.refl _).alloc _;have aD:=Aa (Jd ((w.alloc (c.obj m1 v1)).alloc (.cells #[(0:Int),.slice none 0 0] 43)) c m1 v1 (hc.ex (aJ.trans aB)));rw[aW]at aF;rw[hB]at c0 c1 c2 c3 c4;replace c0:=aB.cell c0;replace c1:=aB.cell c1;replace c2:=aB.cell c2;replace c3:=aB.cell c3;replace c4:=aB.cell c4;have aG:=Aa (aJ.trans aB);have aH:=Aa aF;obtain⟨C,hC⟩:∃C:AZ,C=c:=⟨_,rfl⟩;have bN:=Aa hC;have aY:=Aa (show ∀r w',GrO C r w'->GrO c r w' from fun r w' h=>by rw[<-hC];exact h);rw[<-hC]at aC aO;obtain⟨cp,cm,bG,cn,bF⟩:=c;unfold AZ.arg at aD ⊢;unfold AZ.obj at aG aD aH c0 c1 c2 c3 c4;dsimp only at aG aD aH c0 c1 c2 c3 c4 aN aM ⊢;rw[aN,aM]at aG aD aH c0 c1 c2 c3 c4 ⊢;rw[<-hC]at aD;have bL:=Aa aC;have bK:=Aa aO;clear hc aJ hC aN aM aB aF aW aC aO;have aZ:=Aa (show w.heap.size<=B+1 from ac);go_enter Tryz.func22,Tryz.ntmps22
 go_upto_region 1 with fail
 try simp only[hB]
 clear hB;generalize (w.alloc (.cells #[cp,cm,.slice x3 bG.length y3,cn,.slice x1 bF.length y1] 39)).alloc (.cells #[(0:Int),.slice none 0 0] 43)=w1 at *;go_wp2_with fail
 refine aD.o.mono ?_;rintro e w2⟨aE,aA⟩;have aR:=Aa aA;obtain⟨e0,aX,ho⟩:=Ro aE;have bC:=Aa aX;replace c0:=aA.cell c0;replace c1:=aA.cell c1;replace c2:=aA.cell c2;replace c3:=aA.cell c3;replace c4:=aA.cell c4;obtain⟨q0,q1,q2,aV,aU⟩:=aH.o.ex aA;obtain⟨GE,aQ⟩:∃x,J6 C e0=x:=⟨_,rfl⟩;rw[aQ]at ho;have aS:=Aa aQ;clear aE aA aX aD aQ;rcases ho with⟨h0,rfl⟩|⟨h0,aF,pn,mn,N,b,x0,mv,nv,hp,hm,hn,hN1,hN64,hD,rfl,hg,hx1,aA,hms,hns⟩
 .have hb:(GE !=0)=true:=by simpa using h0
  have H0:=Aa h0;clear h0;go_wp2_with fail
  exact bodyPost_ret (v:= .tuple #[.agg #[(0:Int),.slice none 0 0],GE]) (by simp[results,Tryz.results22,go_sem,q0,q1]) rfl ⟨aY.o _ _ ⟨e0,bC.o,.inl ⟨by rw[aS.o];exact H0.o,by rw[aS.o]⟩⟩,Kd (aG.o.trans aR.o) aZ.o _ _⟩
 .subst h0;have bE:cn=(N:Int):=by have:=bN.o;rw[this]at hn;exact hn
  subst bE;have bB:=Aa (show Ep C=N*(pn^mn-1)/\Ey C.p.toNat C.m.toNat C.ml (Da C (AC C))=Ey pn mn C.ml (Da C (AC C)) from by unfold Ep;rw[hp,hm,hn];exact⟨rfl,rfl⟩);have bJ:=Aa (show C.n.toNat=N from by rw[hn];rfl);have bA:=Aa (JW w2 hg N hN64 hD (Da C (AC C)) mv hms (fun M hM=>by have:=bK.o M hM;rwa[bJ.o]at this) bL.o);obtain⟨ma,mc,rfl,-,-,-⟩:=hms.open;obtain⟨na,nc,rfl,-,-,-⟩:=hns.open;obtain⟨BS,aI⟩:∃x,Dd ((N*(pn^mn-1):Nat):Int) (Ey pn mn C.ml (Da C (AC C)))=x:=⟨_,rfl⟩;have bO:=Aa aI;obtain⟨⟨bd,bl⟩,be⟩:=BS;obtain⟨LM,aP⟩:∃x,(Da C (AC C)).length=x:=⟨_,rfl⟩;have aT:=Aa (show Calls Tryz.prog 64 #[.pointer (some ⟨b,0,none⟩),(N:Int),.slice ma LM mc] w2 fun r w'=>(∃v,r= .returned (.tuple #[.agg #[bd,v],be])/\EH w' v bl)/\Ex w2 w' from by
   rw[<-aP];exact bA.o.mono (by
    rintro r w'⟨⟨v,h1,h2⟩,h3⟩;rw[aI]at h1 h2;exact⟨⟨v,h1,h2⟩,h3⟩))
  have bP:=Aa (show ∀l∈bl,2<=l.orb.length/\2<=l.reps.length/\∀r∈l.reps,2<=r.length from fun l hl=>Ml (n:=((N*(pn^mn-1):Nat):Int)) (rows:=Ey pn mn C.ml (Da C (AC C))) (by rw[aI];exact hl));rw[aP];clear aF hp hm hn hN1 hN64 hD hg hx1 aA hms hns aI aP bA;go_wp2_with (go_at_call 64;refine aT.o.mono ?_;rintro e w6⟨⟨v6,rfl,aL⟩,aK⟩;obtain⟨la,lc,bD,_,_,_⟩:=aL.open;subst bD;clear q0 q1 q2 aV aU;obtain⟨q0,q1,q2,aV,aU⟩:=aH.o.ex (aR.o.trans aK);have bI:=Aa aL;have bH:=Aa aK;clear aL aK)
  have bM:=Aa (bI.o.set2 q0 q1 q2 bP.o (.int .i64 bd) (.slice la bl.length lc));exact bodyPost_ret (v:= .tuple #[.agg #[bd,.slice la bl.length lc],be]) (by simp[results,Tryz.results22,go_sem,q0,q1]) rfl ⟨aY.o _ _ ⟨e0,bC.o,.inr ⟨aS.o,by rw[bB.o.1,bB.o.2];exact Kx bO.o bM.o⟩⟩,Kd (aG.o.trans (aR.o.trans bH.o)) aZ.o _ _⟩
def C9(Q:Nat->Prop)(w w':World):Prop:=∀X,¬Q X->X<w.heap.size->w'.heap[X]?=w.heap[X]?
theorem C9.refl(Q:Nat->Prop)(w:World):C9 Q w w:=fun _ _ _=>rfl
theorem C9.ex{Q:Nat->Prop}{w w':World}(h:Ex w w'):C9 Q w w':=fun X _ hX=>h.block X hX
theorem C9.trans{Q:Nat->Prop}{a b c:World}(h:C9 Q a b)(k:C9 Q b c)(hs:a.heap.size<=b.heap.size):C9 Q a c:=fun X hq hX=>(k X hq (Nat.lt_of_lt_of_le hX hs)).trans (h X hq hX)
theorem C9.mono{Q Q':Nat->Prop}{a b:World}(h:C9 Q a b)(hq:∀X,X<a.heap.size->Q X->Q' X):C9 Q' a b:=fun X hn hX=>h X (fun hx=>hn (hq X hX hx)) hX
theorem C9.set{Q:Nat->Prop}{a b:World}(h:C9 Q a b){p:Addr}(hp:Q p.block)(u:Value):C9 Q a (b.setCell p u):=fun X hn hX=>by
 rw[<-h X hn hX];exact Below.heap_setCell _ _ _ _ (fun e=>hn (by rw[e];exact hp))
theorem C9.appd{w w':World}{base:Nat}{e:TypeId}{size n:Nat}{v v':Value}{xs news:List Value}(h:Bt w w' base e size v v' n xs news):C9 (fun X=>v.ownBlock=some X) w w':=fun X hn hX=>by
 obtain⟨o,hg⟩:=h.gr;rw[hg.block X aq (fun e=>hn e.symm)];exact Below.heap_alloc _ _ _ hX
theorem C9.cell{Q:Nat->Prop}{w w':World}(h:C9 Q w w'){p:Addr}{u:Value}(hc:w.cell? p=some u)(hq:¬Q p.block):w'.cell? p=some u:=by
 rw[World.cell?_of_block (w:=w) (w':=w') (h _ hq (World.block_lt_of_cell? _ _ hc))];exact hc
theorem Sl.offQ{Q:Nat->Prop}{w w':World}{v:Value}{n size:Nat}{xs:List Value}(h:Sl w v n size xs)(hv:0<n->∀q,Q q->v.ownBlock≠some q)(hw:C9 Q w w'):Sl w' v n size xs:=by
 obtain⟨k1,a,cap,rfl,k3,k4,k5⟩:=h;refine⟨k1,a,cap,rfl,k3,k4,fun hn=>?_⟩;obtain⟨b,o,rfl,k6⟩:=k5 hn;exact⟨b,o,rfl,fun j x hx=>hw.cell (k6 j x hx) (fun hq=>hv hn b hq rfl)⟩
structure YC(w:World)(q:Nat):Prop where
 c0:w.cell? (q,0)=some (.int .i64 0)
 c1:w.cell? (q,1)=some (.slice none 0 0)
 c2:w.cell? (q,2)=some (.slice none 0 0)
 c3:∀j,3<=j->w.cell? ⟨q,j,none⟩=none
 f0:w.frozen? (q,0)=false
 f1:w.frozen? (q,1)=false
 f2:w.frozen? (q,2)=false
theorem YC.new(w:World):YC (w.alloc (.cells #[(0:Int),.slice none 0 0,.slice none 0 0] 53)) w.heap.size:=
 ⟨ag,ag,ag,fun j hj=>by
  obtain⟨i,rfl⟩:∃i,j=i+3:=⟨j-3,ac⟩;simp,ag,ag,ag⟩
theorem YC.ex{w w':World}{b:Nat}(h:YC w b)(hx:Ex w w'):YC w' b:=
 ⟨hx.cell h.c0,hx.cell h.c1,hx.cell h.c2,fun j hj=>(Below.cell hx (show(⟨b,j,none⟩:Addr).block<w.heap.size from(World.block_lt_of_cell? _ (⟨b,0,none⟩:Addr) h.c0:b<w.heap.size))).trans (h.c3 j hj),hx.frz h.c0 h.f0,hx.frz h.c1 h.f1,hx.frz h.c2 h.f2⟩
theorem Lo{w:World}{q:Nat}(hb:YC w q){v:Value}{n size:Nat}{xs:List Value}(h:Sl w v n size xs)(hl:2<=xs.length)(hx:xs[1]?≠some (.slice none 0 0)):v.ownBlock≠some q:=by
 intro e;obtain⟨k1,a,cap,rfl,_,_,k5⟩:=h;have hn:0<n:=by
  exact zcD
 obtain⟨b,o,rfl,k6⟩:=k5 hn;injection e with e;have e:b=q:=e;subst e;have x1:=k6 1 _ (List.getElem?_eq_getElem ac);have h1:xs[1]?=some (xs[1]'ac):=List.getElem?_eq_getElem _;rcases o with _ | _|o
 .rw[show(0:Nat)+1=1 from rfl,hb.c1]at x1;injection x1 with x1;exact hx (by rw[h1,<-x1])
 .rw[show(0:Nat)+1+1=2 from rfl,hb.c2]at x1;injection x1 with x1;exact hx (by rw[h1,<-x1])
 .rw[hb.c3 (o+1+1+1) ac]at x1;cases x1
theorem EH.offQ{Q:Nat->Prop}{w:World}(hQ:∀q,Q q->YC w q){v:Value}{L:List Lv}(h:EH w v L)(hL:∀l∈L,2<=l.orb.length/\2<=l.reps.length/\∀r∈l.reps,2<=r.length){w':World}(hw:C9 Q w w'):EH w' v L:=by
 obtain⟨os,k1,k2,k3⟩:=h;have aA:∀ {y:Value} {l:List Int},Aj w y l->2<=l.length->Aj w' y l:=fun {y l} hy hl=>
  Sl.offQ hy (fun _ q hq=>Lo (hQ q hq) hy (by rw[Bf];exact hl) (by
   unfold Ap;rw[List.getElem?_map]
   cases l[1]? with
   | none=>simp
   | some x=>simp)) hw
 refine⟨os,k1,?_,fun i l o a c=>?_⟩
 .refine Sl.offQ k2 (fun hn q hq=>?_) hw;have hl3:=Oq L os k1;refine Lo (hQ q hq) k2 ac (fun e=>?_);have aC:L[0]?=some (L[0]'hn):=List.getElem?_eq_getElem _;have aB:os[0]?=some (os[0]'ac):=List.getElem?_eq_getElem _;obtain⟨-,g1,-⟩:=Ot L os 0 _ _ aC aB;rw[show 3*0+1=1 from rfl,e]at g1;injection g1 with g1;obtain⟨b1,-,-⟩:=hL _ (List.getElem_mem hn);obtain⟨-,a,cap,ha,-⟩:=(k3 0 _ _ aC aB).1;rw[<-g1]at ha;injection ha with _ ha;omega
 .obtain⟨g1,vals,g2,g3⟩:=k3 i l o a c;obtain⟨b1,b2,b3⟩:=hL l (List.mem_of_getElem? a);refine⟨aA g1 b1,vals,?_,fun j r y hr hy=>aA (g3 j r y hr hy) (b3 r (List.mem_of_getElem? hr))⟩;have hvl:vals.length=l.reps.length:=by have:=g2.1;omega
  refine Sl.offQ g2 (fun hn q hq=>Lo (hQ q hq) g2 ac (fun e=>?_)) hw;have aD:l.reps[1]?=some (l.reps[1]'ac):=List.getElem?_eq_getElem _;obtain⟨-,a2,c2,h2,-⟩:=g3 1 _ _ aD e;injection h2 with _ h2;have:=b3 _ (List.getElem_mem (show 1<l.reps.length by omega));omega
structure Hi where
 i:Int
 j:Int
 a:Int
 pf:List Rf
def OR:List Hi->List Value->List Value
 | x :: xs,v :: vs=> .int .i64 x.i :: .int .i64 x.j :: .int .i64 x.a :: v :: OR xs vs
 | _,_=> []
theorem TT:∀(L:List Hi) (os:List Value) (i:Nat) (l:Hi) (o:Value),L[i]?=some l->os[i]?=some o->(OR L os)[4*i]?=some (.int .i64 l.i)/\(OR L os)[4*i+1]?=some (.int .i64 l.j)/\(OR L os)[4*i+2]?=some (.int .i64 l.a)/\(OR L os)[4*i+3]?=some o
 | l' :: L,o' :: os,0,l,o,h,k=>by
  simp at h k;subst h k;exact⟨rfl,rfl,rfl,rfl⟩
 | l' :: L,o' :: os,i+1,l,o,h,k=>by
  have:=TT L os i l o ay (by simpa using k);rw[show 4*(i+1)=4*i+4 by omega,show 4*i+4+1=4*i+1+4 by omega,show 4*i+4+2=4*i+2+4 by omega,show 4*i+4+3=4*i+3+4 by omega];simpa[OR]using this
 | [],os,i,l,o,h,k=>by simp at h
 | l' :: L, [],i,l,o,h,k=>by simp at k
theorem TU:∀(L:List Hi) (os:List Value) (l:Hi) (o:Value),os.length=L.length->OR (L ++ [l]) (os ++ [o])=OR L os ++ [.int .i64 l.i,.int .i64 l.j,.int .i64 l.a,o]
 | [], [],l,o,_=>rfl
 | l' :: L,o' :: os,l,o,h=>by
  have:=TU L os l o ay;simp only[List.cons_append,OR,this]
 | [],o' :: os,l,o,h=>by simp at h
 | l' :: L, [],l,o,h=>by simp at h
def Mz(w:World)(v:Value)(xs:List Hi):Prop:=∃evs:List Value,evs.length=xs.length/\Sl w v xs.length 4 (OR xs evs)/\∀(i:Nat) (x:Hi) (ev:Value),xs[i]?=some x->evs[i]?=some ev->Yj w ev x.pf
theorem Mz.ex{w w':World}{v:Value}{L:List Hi}(h:Mz w v L)(hx:Ex w w'):Mz w' v L:=by
 obtain⟨os,h1,h2,h3⟩:=h;exact⟨os,h1,h2.ex hx,fun i l o a b=>(h3 i l o a b).ex hx⟩
theorem Mz.open{w:World}{v:Value}{L:List Hi}(h:Mz w v L):∃a cap,v= .slice a L.length cap/\L.length<=cap/\cap<=maxLen/\
  (0<L.length->∃b o,a=some ⟨b,o,none⟩/\∀(i:Nat) (l:Hi),L[i]?=some l->∃u,w.cell? ⟨b,o+4*i,none⟩=some (.int .i64 l.i)/\w.cell? ⟨b,o+(4*i+1),none⟩=some (.int .i64 l.j)/\w.cell? ⟨b,o+(4*i+2),none⟩=some (.int .i64 l.a)/\w.cell? ⟨b,o+(4*i+3),none⟩=some u/\Yj w u l.pf):=by
 obtain⟨os,h1,⟨h2,a,cap,h3,h4,h5,h6⟩,h7⟩:=h;refine⟨a,cap,h3,h4,h5,fun hn=>?_⟩;obtain⟨b,o,h8,h9⟩:=h6 hn;refine⟨b,o,h8,fun i l hl=>?_⟩;have hi:=(List.getElem?_eq_some_iff.1 hl).1;have ho:os[i]?=some (os[i]'ac):=List.getElem?_eq_getElem _;obtain⟨g1,g2,g3,g4⟩:=TT L os i l _ hl ho;exact⟨_,h9 _ _ g1,h9 _ _ g2,h9 _ _ g3,h9 _ _ g4,h7 i l _ hl ho⟩
def MR(FB:Nat->Prop)(w:World)(v:Value)(es:List Rf):Prop:=∃mvs:List Value,mvs.length=es.length/\Sl w v es.length 4 (PP es mvs)/\(∀(i:Nat) (e:Rf) (mv:Value),es[i]?=some e->mvs[i]?=some mv->Aj w mv e.msg/\(e.msg≠ []->∀X,mv.ownBlock=some X->¬FB X))/\(es≠ []->∀X,v.ownBlock=some X->¬FB X)
theorem Q7.g{FB:Nat->Prop}{w:World}{v:Value}{es:List Rf}(h:Q7 FB w v es):MR FB w v es:=by
 obtain⟨m,h1,h2,h3,h4⟩:=h;exact⟨m,h1,h2,h3,fun _=>h4⟩
theorem MR.rsl{FB:Nat->Prop}{w:World}{v:Value}{es:List Rf}(h:MR FB w v es):Yj w v es:=by
 obtain⟨m,h1,h2,h3,_⟩:=h;exact⟨m,h1,h2,fun i e mv a b=>(h3 i e mv a b).1⟩
theorem Sl.blk{w:World}{v:Value}{n size:Nat}{xs:List Value}(h:Sl w v n size xs)(hn:0<xs.length){X:Nat}(hX:v.ownBlock=some X):X<w.heap.size:=by
 obtain⟨k1,a,cap,rfl,_,_,k5⟩:=h;have aA:0<n:=by
  apply Classical.byContradiction;intro h0;have:n=0:=ac;subst this;omega
 obtain⟨b,o,rfl,k6⟩:=k5 aA;injection hX with hX;have hX:b=X:=hX;subst hX;exact(World.block_lt_of_cell? _ _ (k6 0 _ (List.getElem?_eq_getElem hn)):b<w.heap.size)
theorem MR.off{FB FB':Nat->Prop}{w w':World}{v:Value}{es:List Rf}(h:MR FB w v es)(hw:C9 FB w w')(hf:∀X,X<w.heap.size->FB' X->FB X):MR FB' w' v es:=by
 obtain⟨m,h1,h2,h3,h4⟩:=h;have h2l:=S7 es m h1;refine⟨m,h1,Sl.offQ h2 (fun hn q hq e=>h4 (by intro e2;subst e2;simp at hn) q e hq) hw,fun i e mv a b=>?_,fun aA X hX hF=>?_⟩
 .obtain⟨g1,g2⟩:=h3 i e mv a b;refine⟨Sl.offQ g1 (fun hn q hq e2=>g2 (by intro e3;rw[e3]at hn;simp at hn) q e2 hq) hw,fun aA X hX hF=>?_⟩;exact g2 aA X hX (hf X (Sl.blk g1 (by rw[Bf];exact List.length_pos_iff.2 aA) hX) hF)
 .exact h4 aA X hX (hf X (Sl.blk h2 (by have:=List.length_pos_iff.2 aA;omega) hX) hF)
def Vg(c:AZ)(g:Cf):Hi:=⟨g.i,g.j,g.a,Jh 0 (gF c g)⟩
def Jw(c:AZ)(gs:List Cf):List Hi:=gs.map (Vg c)
theorem ZS:(Tryz.prog.info? 96).map (fun i=>(i.zero,i.size,i.bytes))=some (some (.agg #[(0:Int),(0:Int),(0:Int),.slice none 0 0]),4,48):=ah
structure Up(w6 wr:World)(OB RB:Nat)(d:Int)(lv rv:Value)(xs:List Hi)(evs:List Value):Prop where
 off:C9 (fun X=>X=OB) w6 wr
 size:w6.heap.size<=wr.heap.size
 ob:OB<w6.heap.size
 rb:RB<w6.heap.size
 b0:wr.cell? (OB,0)=some (.int .i64 d)
 b1:wr.cell? (OB,1)=some lv
 b2:wr.cell? (OB,2)=some rv
 f2:wr.frozen? (OB,2)=false
 own:wr.ownsRow w6.heap.size 96 4 rv xs.length (OR xs evs)
 len:evs.length=xs.length
 at_:∀(i:Nat) (x:Hi) (ev:Value),xs[i]?=some x->evs[i]?=some ev->MR (fun X=>X=OB∨X=RB∨rv.ownBlock=some X) wr ev x.pf
section
variable {w6 wr w':World} {OB RB:Nat} {d:Int} {lv rv v' ev:Value} {xs:List Hi} {evs:List Value}
theorem Up.later(h:Up w6 wr OB RB d lv rv xs evs)(hx:Ex wr w'):Up w6 w' OB RB d lv rv xs evs:=
 ⟨h.off.trans (.ex hx) h.size,Nat.le_trans h.size hx.size,h.ob,h.rb,hx.cell h.b0,hx.cell h.b1,hx.cell h.b2,hx.frz h.b2 h.f2,Ai h.own hx,h.len,fun i x e a b=>(h.at_ i x e a b).off (.ex hx) fun X _ hX=>hX⟩
theorem Up.no(h:Up w6 wr OB RB d lv rv xs evs):some OB≠rv.ownBlock/\some RB≠rv.ownBlock:=⟨fun e=>by have:=(h.own.lt OB e.symm).1;have:=h.ob;omega,fun e=>by have:=(h.own.lt RB e.symm).1;have:=h.rb;omega⟩
theorem Up.app(h:Up w6 wr OB RB d lv rv xs evs){x:Hi}(he:MR (fun X=>X=OB∨X=RB∨rv.ownBlock=some X) wr ev x.pf)
  (ha:Bt wr w' w6.heap.size 96 4 rv v' xs.length (OR xs evs) [.int .i64 x.i,.int .i64 x.j,.int .i64 x.a,ev]):w'.cell? (OB,2)=some rv/\w'.frozen? (OB,2)=false/\Up w6 (w'.setCell (OB,2) v') OB RB d lv v' (xs ++ [x]) (evs ++ [ev]):=by
 have aD:=ha.cell h.b2 h.no.1;have aC:=C9.appd ha;have hsz:=ha.grow;have aB:∀X,v'.ownBlock=some X->rv.ownBlock=some X∨wr.heap.size<=X:=fun X hX=>by
  rcases ha.at_ with h1|h1
  .left;rw[<-h1];exact hX
  .right;rw[h1]at hX;injection hX with hX;omega
 have aE:v'.ownBlock≠some OB:=fun e=>by
  rcases aB OB e with h1|h1
  .exact h.no.1 h1.symm
  .have:=h.ob;have:=h.size;omega
 have aA:∀ {e:Value} {es:List Rf},MR (fun X=>X=OB∨X=RB∨rv.ownBlock=some X) wr e es->MR (fun X=>X=OB∨X=RB∨v'.ownBlock=some X) (w'.setCell (OB,2) v') e es:=fun {e es} hr=>
  hr.off ((aC.mono fun X _ hX=> .inr (.inr hX)).set (p:=⟨OB,2,none⟩) (.inl rfl) _) fun X hX hF=>by
   rcases hF with hF|hF|hF
   .exact .inl hF
   .exact .inr (.inl hF)
   .rcases aB X hF with h1|h1
    .exact .inr (.inr h1)
    .omega
 refine⟨aD,ha.frz h.b2 h.f2 h.no.1,?_,?_,h.ob,h.rb,?_,?_,World.cell?_setCell_same _ _ _ aD,?_,?_,by simp[h.len],fun i y e a b=>?_⟩
 .refine C9.set (Q:=fun X=>X=OB) ?_ (p:=⟨OB,2,none⟩) rfl _;intro X hn hX;rw[aC X (fun e=>by have:=(h.own.lt X e).1;omega) (Nat.lt_of_lt_of_le hX h.size)];exact h.off X hn hX
 .have:=h.size;simp;omega
 .rw[Ag ae];exact ha.cell h.b0 h.no.1
 .rw[Ag ae];exact ha.cell h.b1 h.no.1
 .rw[Ax];exact ha.frz h.b2 h.f2 h.no.1
 .have:=Ac (a:=⟨OB,2,none⟩) ha.own aE v';rw[TU xs evs x ev h.len,List.length_append];exact this
 .by_cases hi:i<xs.length
  .rw[List.getElem?_append_left hi]at a;rw[List.getElem?_append_left ee]at b;exact aA (h.at_ i y e a b)
  .have aF:i=xs.length:=by
    exact zc0
   subst aF;rw[List.getElem?_append_right (Nat.le_refl _)]at a;rw[List.getElem?_append_right (by rw[h.len];exact Nat.le_refl _),h.len]at b;simp at a b;subst a b;exact aA he
end
theorem Up.start{w4:World}{OB RB:Nat}{d:Int}{lv:Value}(ho:YC w4 OB)(hr:RB<w4.heap.size):Up w4 ((w4.setCell (OB,0) (.int .i64 d)).setCell (OB,1) lv) OB RB d lv (.slice none 0 0) [] []:=
 ⟨C9.set (Q:=fun X=>X=OB) (C9.set (Q:=fun X=>X=OB) (C9.refl _ _) (p:=⟨OB,0,none⟩) rfl _) (p:=⟨OB,1,none⟩) rfl _,ag,(World.block_lt_of_cell? _ (⟨OB,0,none⟩:Addr) ho.c0:OB<w4.heap.size),hr,
  by rw[Ag ae];exact World.cell?_setCell_same _ _ _ ho.c0,World.cell?_setCell_same _ _ _ ((Ag ae).trans ho.c1),by rw[Ag ae,Ag ae];exact ho.c2,by rw[Ax,Ax];exact ho.f2,
  World.ownsRow_nil _ _ _ _,rfl,fun i x e h=>by simp at h⟩
theorem KV{w:World}{q:Nat}(u v z:Value):C9 (fun X=>X=q) w (((w.setCell (q,0) u).setCell (q,1) v).setCell (q,2) z):=
 C9.set (Q:=fun X=>X=q) (C9.set (Q:=fun X=>X=q) (C9.set (Q:=fun X=>X=q) (C9.refl _ _) (p:=⟨q,0,none⟩) rfl _) (p:=⟨q,1,none⟩) rfl _) (p:=⟨q,2,none⟩) rfl _
theorem Up.fin{w6 wr:World}{OB RB:Nat}{d:Int}{lv rv:Value}{xs:List Hi}{evs:List Value}(h:Up w6 wr OB RB d lv rv xs evs)(u v z:Value):Mz (((wr.setCell (RB,0) u).setCell (RB,1) v).setCell (RB,2) z) rv xs:=
 ⟨evs,h.len,Sl.offQ (Q:=fun X=>X=RB) (Sl.own h.own) (fun _ q hq e=>by subst hq;exact h.no.2 e.symm) (KV u v z),fun i x e a b=>
  ((h.at_ i x e a b).off (FB':=fun _=>False) ((KV u v z).mono fun X _ hX=> .inr (.inl hX)) fun X _ hX=>hX.elim).rsl⟩
noncomputable def Mm(c:AZ):Chn × Int:=Dd (Ep c:Int) (Ey c.p.toNat c.m.toNat c.ml (Da c (AC c)))
noncomputable def Yx(c:AZ)(e0:Int):Int:=if J6 c e0≠0 then J6 c e0 else(Mm c).2
def CeO(c:AZ)(r:Ending)(w':World):Prop:=∃e0:Int,BK c.p c.m c.ml c.n c.rows e0/\
 ((Yx c e0≠0/\r= .returned (.tuple #[.agg #[(0:Int),.slice none 0 0,.slice none 0 0],.int .i64 (Yx c e0)]))∨
 (Yx c e0=0/\∃lv rv,r= .returned (.tuple #[.agg #[.int .i64 (Mm c).1.deg,lv,rv],(0:Int)])/\EH w' lv (Mm c).1.lev/\Mz w' rv (Jw c (JS c (AC c)))))
theorem dj{P:Prop}(h:P:=by simp[results,Tryz.results32,go_sem,q0,q1,q2]):P:=h
theorem Na(w:World)(c:AZ)(m1 v1:Value)(hc:c.at w m1 v1)(aJ:(Da c (AC c)).length<=1000)(cP:(JS c (AC c)).length<=1000)(cQ:∀M∈Da c (AC c),MU c.n.toNat M)(cO:∀g∈JS c (AC c),Ji 0 (gF c g)=0):
  Calls Tryz.prog 32 #[c.arg m1 v1] w fun r w'=>CeO c r w'/\Ex w w':=by
 obtain⟨c0,c1,c2,c3,c4⟩:=Du w c m1 v1;have aX:=AI w (c.obj m1 v1);have bO:=Aa (hc.ex aX);have bE:=Aa aX;obtain⟨x1,y1,cL,-,z1,-⟩:=hc.g.open;obtain⟨x3,y3,cK,-,z3,-⟩:=hc.m.open;unfold maxLen at z1 z3;obtain⟨B,hB⟩:=nA w.heap.size;have cM:(w.alloc (c.obj m1 v1)).heap.size=B+1:=by simp[hB]
 have bC:=YC.new (w.alloc (c.obj m1 v1));have aF:Ex (w.alloc (c.obj m1 v1)) ((w.alloc (c.obj m1 v1)).alloc (.cells #[(0:Int),.slice none 0 0,.slice none 0 0] 53)):=(Ex.refl _).alloc _;have aO:=Aa (Jd ((w.alloc (c.obj m1 v1)).alloc (.cells #[(0:Int),.slice none 0 0,.slice none 0 0] 53)) c m1 v1 (hc.ex (aX.trans aF)));have aP:=Aa (fun (w5:World) (h5:Ex (w.alloc (c.obj m1 v1)) w5) (g:Cf) (u r:Value) (hu:Aj w5 u g.tl) (hr:Aj w5 r g.sl) (FB:Nat->Prop) (h1:∀X,FB X->X<w5.heap.size) (h2:∀X,u.ownBlock=some X->¬FB X) (h3:∀X,r.ownBlock=some X->¬FB X)=>Q6 w5 c c m1 m1 v1 v1 (bO.o.ex h5) (bO.o.ex h5) g.tl g.sl u r hu hr FB h1 (fun _=>h2) (fun _=>h3));rw[cM]at bC;rw[hB]at c0 c1 c2 c3 c4;replace c0:=aF.cell c0;replace c1:=aF.cell c1;replace c2:=aF.cell c2;replace c3:=aF.cell c3;replace c4:=aF.cell c4;obtain⟨bX,aC,bW,bP,aB⟩:=Of aF cM (aX.trans aF) bC (show((w.alloc (c.obj m1 v1)).alloc (.cells #[(0:Int),.slice none 0 0,.slice none 0 0] 53)).heap.size=B+1+1 from by simp[hB]);obtain⟨C,hC⟩:∃C:AZ,C=c:=⟨_,rfl⟩;have dF:=Aa hC;have cY:=Aa (show ∀r w',CeO C r w'->CeO c r w' from fun r w' h=>by rw[<-hC];exact h);rw[<-hC]at aJ cQ cP cO;obtain⟨cp,cm,aR,cn,bV⟩:=c;unfold AZ.arg at aO aP ⊢;unfold AZ.obj at bE aC bW bX aO aP bP aB bO c0 c1 c2 c3 c4;dsimp only at bE aC bW bX aO aP bP aB bO c0 c1 c2 c3 c4 cL cK ⊢;rw[cL,cK]at bE aC bW bX aO aP bP aB c0 c1 c2 c3 c4 ⊢;rw[<-hC]at aO aP;obtain⟨eS,bZ,eR,dX⟩:=Eq aJ cP cQ cO;clear hc aX hC cL cK aF bC cM aJ cP cQ cO bO;have dB:=Aa (show w.heap.size<=B+1 from ac);go_enter Tryz.func32,Tryz.ntmps32
 go_upto_region 1 with fail
 try simp only[hB]
 clear hB;generalize w.alloc (.cells #[cp,cm,.slice x3 aR.length y3,cn,.slice x1 bV.length y1] 39)=wa at *;generalize wa.alloc (.cells #[(0:Int),.slice none 0 0,.slice none 0 0] 53)=w1 at *;go_wp2_with fail
 refine aO.o.mono ?_;rintro e w2⟨aZ,aD⟩;have bY:=Aa aD;obtain⟨e0,dN,ho⟩:=Ro aZ;have cA:=Aa dN;replace c0:=aD.cell c0;replace c1:=aD.cell c1;replace c2:=aD.cell c2;replace c3:=aD.cell c3;replace c4:=aD.cell c4;obtain⟨q0,q1,q2,q3,cH,cG,cF⟩:=bP.o.ex aD;obtain⟨GE,cV⟩:∃x,J6 C e0=x:=⟨_,rfl⟩;rw[cV]at ho;have dC:=Aa cV;clear aZ aD dN aO cV;rcases ho with⟨h0,rfl⟩|⟨h0,bC,pn,mn,N,b,x0,mv,nv,hp,hm,hn,hN1,hN64,hD,rfl,hg,hx1,aD,hms,hns⟩
 .have hb:(GE !=0)=true:=by simpa using h0
  have HZ:=Aa (show Yx C e0=GE/\GE≠0 from by unfold Yx;rw[dC.o,if_pos h0];exact⟨rfl,h0⟩);clear h0;go_wp2_with fail
  exact bodyPost_ret (v:= .tuple #[.agg #[(0:Int),.slice none 0 0,.slice none 0 0],GE]) dj rfl ⟨cY.o _ _ ⟨e0,cA.o,.inl ⟨by rw[HZ.o.1];exact HZ.o.2,by rw[HZ.o.1]⟩⟩,Co (bW.o.trans bY.o) dB.o _ _ _⟩
 .subst h0;have eM:cn=(N:Int):=by have:=dF.o;rw[this]at hn;exact hn
  subst eM;have eX:=Aa (show e0=0 from by
   have h1:=dC.o;unfold J6 at h1;split at h1
   .rename_i h2;exact absurd h1 h2
   .rename_i h2;have h3:I8 C e0=0:=by simpa using h2
    unfold I8 at h3;split at h3
    .exact h3
    .rename_i h4;simpa using h4)
  have bI:=Aa (show C.p=pn/\C.m=mn/\C.n=N from⟨hp,hm,hn⟩);have eQ:=Aa (show C.n.toNat=N from by rw[hn];rfl);have dI:=Aa (show Mm C=Dd ((N*(pn^mn-1):Nat):Int) (Ey pn mn C.ml (Da C (AC C))) from by unfold Mm Ep;rw[hp,hm,hn];rfl);have eA:=Aa (fun (w5:World) (h5:Ex w2 w5)=>JW w5 (hg.ex h5) N hN64 hD (Da C (AC C)) mv (hms.ex h5) (fun M hM=>by have:=eR.o M hM;rwa[eQ.o]at this) eS.o);have cX:=Aa (show Yx C e0=(Mm C).2 from by unfold Yx;rw[dC.o,if_neg ag]);obtain⟨ma,mc,rfl,-,-,-⟩:=hms.open;obtain⟨na,nc,rfl,-,zn,n3⟩:=hns.open;unfold maxLen at zn;obtain⟨BS,cW⟩:∃x,Mm C=x:=⟨_,rfl⟩;have eF:=Aa cW;rw[cW]at cX dI;obtain⟨⟨bd,bl⟩,be⟩:=BS;obtain⟨LM,cU⟩:∃x,(Da C (AC C)).length=x:=⟨_,rfl⟩;have dH:=Aa (show ∀w5,Ex w2 w5->Calls Tryz.prog 64 #[.pointer (some ⟨b,0,none⟩),(N:Int),.slice ma LM mc] w5 fun r w'=>(∃v,r= .returned (.tuple #[.agg #[bd,v],be])/\EH w' v bl)/\Ex w5 w' from fun w5 h5=>by
   rw[<-cU];exact(eA.o w5 h5).mono (by
    rintro r w'⟨⟨v,h1,h2⟩,h3⟩;rw[<-dI.o]at h1 h2;exact⟨⟨v,h1,h2⟩,h3⟩))
  have eH:=Aa (show ∀l∈bl,2<=l.orb.length/\2<=l.reps.length/\∀r∈l.reps,2<=r.length from fun l hl=>Ml (n:=((N*(pn^mn-1):Nat):Int)) (rows:=Ey pn mn C.ml (Da C (AC C))) (by rw[<-dI.o];exact hl));obtain⟨NS,cS⟩:∃x,JS C (AC C)=x:=⟨_,rfl⟩;have dY:=Aa cS;rw[cS]at n3 bZ dX ⊢;obtain⟨LN,cT⟩:∃x,NS.length=x:=⟨_,rfl⟩;have dZ:=Aa cT;rw[cT]at n3 bZ ⊢;have N3:=Aa n3;rw[cU];have cZ:=Aa (show ∀(w5:World) (h5:Ex wa w5) (g:Cf) (u r:Value),g∈NS->Aj w5 u g.tl->Aj w5 r g.sl->∀(FB:Nat->Prop),(∀X,FB X->X<w5.heap.size)->(∀X,u.ownBlock=some X->¬FB X)->(∀X,r.ownBlock=some X->¬FB X)->Calls Tryz.prog 83 #[.agg #[cp,cm,.slice x3 aR.length y3,N,.slice x1 bV.length y1],.agg #[cp,cm,.slice x3 aR.length y3,N,.slice x1 bV.length y1],.agg #[u,r]] w5 fun r' w'=>RfF FB (Jh 0 (gF C g)) 0 r' w'/\Ex w5 w' from fun w5 h5 g u r bA hu hr FB h1 h2 h3=>by
   refine(aP.o w5 h5 g u r hu hr FB h1 h2 h3).mono ?_;rintro r' w'⟨⟨e1,e2,k1,k2,k3⟩,k4⟩;refine⟨?_,k4⟩;have hz:=eX.o;have bB:BK cp cm aR N bV 0:=by have h1:=cA.o;rw[dF.o,hz]at h1;exact h1
   obtain rfl:e1=0:=Ch k1 bB;obtain rfl:e2=0:=Ch (k2 rfl) bB;have dK:=bI.o.1;have dL:=bI.o.2.1;rw[dF.o]at dK dL;have eK:g∈Dw N (pn^mn):=by
    rw[<-dY.o]at bA;unfold JS AC at bA;rw[bI.o.1,bI.o.2.1,bI.o.2.2]at bA;exact(List.mem_filter.1 bA).1
   have BC:Gj 0 0 (CN cp cm aR cp cm aR) N N g.tl g.sl (cp.toNat^cm.toNat)=0:=R5 (N:=N) rfl (q:=cp.toNat^cm.toNat) (by
    have h1:cp=pn:=dK;have h2:cm=mn:=dL;rw[h1,h2];exact IL eK)
   rw[BC]at k3;have eI:=dX.o g bA;have:GQ C C g.tl g.sl=gF C g:=rfl;rw[this,eI]at k3;exact k3)
  clear bC hp hm hn hN1 hN64 hD hg hx1 aD hms hns cW cU eA n3 cS cT aP;obtain⟨OB,bU⟩:∃x,w2.heap.size=x:=⟨_,rfl⟩;have bg:=YC.new w2;rw[bU]at bg;have bN:=Aa (show Ex w2 (w2.alloc (.cells #[(0:Int),.slice none 0 0,.slice none 0 0] 53)) from(Ex.refl w2).alloc _);have dG:=Aa bg;go_upto_region 5 with fail
  try simp only[bU]
  have bJ:=Aa bU;clear bU bg;generalize w2.alloc (.cells #[(0:Int),.slice none 0 0,.slice none 0 0] 53)=w3 at *;replace c3:=bN.o.cell c3;obtain⟨t0,t1,t2,t3,cE,cD,cC⟩:=dG.o;go_upto_region 6 with (go_at_call 64;refine(dH.o w3 bN.o).mono ?_;rintro e w6⟨⟨v6,rfl,cJ⟩,cI⟩;obtain⟨la,lc,eJ,_,_,_⟩:=cJ.open;subst eJ;clear t0 t1 t2 t3 cE cD cC;obtain⟨t0,t1,t2,t3,cE,cD,cC⟩:=dG.o.ex cI;have dT:=Aa cJ;have bG:=Aa cI;clear cJ cI)
  have dD:=Aa (dG.o.ex bG.o);have aI:=Aa (bP.o.ex (bY.o.trans (bN.o.trans bG.o)));have dJ:B+1<w6.heap.size:=(World.block_lt_of_cell? _ (⟨B+1,0,none⟩:Addr) aI.o.c0);have cB:=Aa (Up.start (RB:=B+1) (d:=bd) (lv:= .slice la bl.length lc) dD.o dJ);have aT:=Aa (show B+1<OB from by have:=bY.o.size;have:=aB.o;have:=bJ.o;omega);have aS:=Aa (show Ex wa ((w6.setCell (OB,0) (.int .i64 bd)).setCell (OB,1) (.slice la bl.length lc)) from Kd (bX.o.trans (bY.o.trans (bN.o.trans bG.o))) (by have:=aT.o;have:=aC.o;omega) _ _);have bH:=Aa (bN.o.trans bG.o);clear t0 t1 t2 t3 cE cD cC q0 q1 q2 q3 cH cG cF dJ;obtain⟨w7,bR⟩:∃x,(w6.setCell (OB,0) (.int .i64 bd)).setCell (OB,1) (.slice la bl.length lc)=x:=⟨_,rfl⟩;rw[bR]at cB aS;have dE:=Aa (show w7.frozen? (B+1,0)=false/\w7.frozen? (B+1,1)=false/\w7.frozen? (B+1,2)=false from by rw[<-bR];exact⟨by rw[Ax,Ax];exact aI.o.f0,by rw[Ax,Ax];exact aI.o.f1,by rw[Ax,Ax];exact aI.o.f2⟩)
  try simp only[bR]
  clear bR;have dA:=Aa (show ∀w',C9 (fun X=>X=OB) w6 w'->w'.cell? (B+1,0)=some (.int .i64 0)/\w'.cell? (B+1,1)=some (.slice none 0 0)/\w'.cell? (B+1,2)=some (.slice none 0 0) from fun w' h=>
   ⟨h.cell aI.o.c0 (by show ¬B+1=OB;have:=aT.o;omega),h.cell aI.o.c1 (by show ¬B+1=OB;have:=aT.o;omega),h.cell aI.o.c2 (by show ¬B+1=OB;have:=aT.o;omega)⟩)
  by_cases hbe:be=0
  rotate_left
  .have hb:(be !=0)=true:=by simpa using hbe
   have HZ:=Aa (show Yx C e0=be/\be≠0 from⟨cX.o,hbe⟩);obtain⟨q0,q1,q2⟩:=dA.o w7 cB.o.off;obtain⟨cH,cG,cF⟩:=dE.o;clear hbe;go_wp2_with fail
   exact bodyPost_ret (v:= .tuple #[.agg #[(0:Int),.slice none 0 0,.slice none 0 0],be]) dj rfl ⟨cY.o _ _ ⟨e0,cA.o,.inl ⟨by rw[HZ.o.1];exact HZ.o.2,by rw[HZ.o.1]⟩⟩,Co (bE.o.trans aS.o) dB.o _ _ _⟩
  .subst hbe;go_wp2_with fail
   go_loopw [39] (fun k' wr=>∃(k:Nat) (rv:Value) (evs:List Value),k<=LN/\k'= .int .i64 k/\Hia (Up w6 wr OB (B+1) bd (.slice la bl.length lc) rv (Jw C (NS.take k)) evs)/\Hia (Ex wa wr)/\Hia (wr.frozen? (B+1,0)=false/\wr.frozen? (B+1,1)=false/\wr.frozen? (B+1,2)=false)) (fun k' _=>LN-(intOf k').toNat)
   case atStart=>exact⟨0,_, [],ac,rfl,cB,aS,dE⟩
   case round=>
    clear cB aS dE;obtain⟨k,rv,evs,hk,rfl,aK,bQ,bT⟩:=hrel;obtain⟨ra,rc,rfl⟩:=Ad aK.o.own;by_cases hkl:k<LN
    .have aA:=Aa aK.o;have dR:=Aa bQ.o;have eW:=Aa bT.o;have aG:=Aa (show ∀(q:Addr) (u:Value),w2.cell? q=some u->wr.cell? q=some u from fun q u h=>aA.o.off.cell (bH.o.cell h) (fun e=>by
      have h1:q.block<w2.heap.size:=World.block_lt_of_cell? _ _ h;have h2:q.block=OB:=e;have:=bJ.o;omega))
     have eB:=Aa (show ∀(v:Value) (l:List Int),Aj w2 v l->0<l.length->Aj wr v l from fun v l h hl=>Sl.offQ (h.ex bH.o) (fun _ q hq e=>by
      have h1:=Sl.blk h (by rw[Bf];exact hl) e;have h2:q=OB:=hq;have:=bJ.o;omega) aA.o.off)
     obtain⟨gb,go,rfl,dM⟩:=N3.o ac;obtain⟨g,hg⟩:∃g,NS[k]?=some g:=⟨_,List.getElem?_eq_getElem (by rw[dZ.o];exact hkl)⟩;obtain⟨u,r,d0,d1,d2,d3,d4,hu,bS,dO,dP⟩:=dM k g hg;obtain⟨eV,eU,eE,eG,HU,dW⟩:=To hg (List.mem_of_getElem? hg) (show ∀X,u.ownBlock=some X->B+1<X/\X<OB from fun X e=>⟨by have:=dO X e;have:=aB.o;omega,by have:=Sl.blk hu (by rw[Bf,AM];omega) e;have:=bJ.o;omega⟩) (show ∀X,r.ownBlock=some X->B+1<X/\X<OB from fun X e=>⟨by have:=dP X e;have:=aB.o;omega,by have:=Sl.blk bS (by rw[Bf,BJ];omega) e;have:=bJ.o;omega⟩) (eB.o _ _ hu (by rw[AM];omega)) (eB.o _ _ bS (by rw[BJ];omega));obtain⟨ua,uc,rfl,-,-,-⟩:=hu.open;obtain⟨qa,qc,rfl,-,-,-⟩:=bS.open;rw[AM]at d3 HU eE;rw[BJ]at d4 dW eG;replace d0:=aG.o _ _ d0;replace d1:=aG.o _ _ d1;replace d2:=aG.o _ _ d2;replace d3:=aG.o _ _ d3;replace d4:=aG.o _ _ d4;rw[show go+5*k=go+k*5 from ac]at d0;rw[show go+(5*k+1)=go+k*5+1 from ac]at d1;rw[show go+(5*k+2)=go+k*5+2 from ac]at d2;rw[show go+(5*k+3)=go+k*5+3 from ac]at d3;rw[show go+(5*k+4)=go+k*5+4 from ac]at d4;have k0:=aG.o _ _ c0;have k1:=aG.o _ _ c1;have k2:=aG.o _ _ c2;have k4:=aG.o _ _ c4;have k3:=aA.o.off.cell ((bG.o).cell c3) (show ¬B=OB from by have:=aT.o;omega);have i1:(0:Int)<=(k:Int):=by omega
     have i2:(k:Int)<(LN:Int):=ac;have bM:=Aa hkl;clear aK bQ bT hg dM hu bS dO dP hkl;go_upto_region 11 with fail
     obtain⟨XB,aM⟩:∃x,wr.heap.size=x:=⟨_,rfl⟩;have x3:(wr.alloc (.cells #[g.i,g.j,g.a,.slice ua (g.i+1) uc,.slice qa (g.i+1) qc] 129)).cell? (XB,3)=some (.slice ua (g.i+1) uc):=by rw[<-aM];simp
     have x4:(wr.alloc (.cells #[g.i,g.j,g.a,.slice ua (g.i+1) uc,.slice qa (g.i+1) qc] 129)).cell? (XB,4)=some (.slice qa (g.i+1) qc):=by rw[<-aM];simp
     have aW:(wr.alloc (.cells #[g.i,g.j,g.a,.slice ua (g.i+1) uc,.slice qa (g.i+1) qc] 129)).cell? (XB,0)=some (.int .i64 g.i):=by rw[<-aM];simp
     have aV:(wr.alloc (.cells #[g.i,g.j,g.a,.slice ua (g.i+1) uc,.slice qa (g.i+1) qc] 129)).cell? (XB,1)=some (.int .i64 g.j):=by rw[<-aM];simp
     have aU:(wr.alloc (.cells #[g.i,g.j,g.a,.slice ua (g.i+1) uc,.slice qa (g.i+1) qc] 129)).cell? (XB,2)=some (.int .i64 g.a):=by rw[<-aM];simp
     have aE:=Aa (show Ex wr (wr.alloc (.cells #[g.i,g.j,g.a,.slice ua (g.i+1) uc,.slice qa (g.i+1) qc] 129)) from(Ex.refl wr).alloc _)
     try simp only[aM]
     clear aM d0 d1 d2 d3 d4 i1 i2;generalize wr.alloc (.cells #[g.i,g.j,g.a,.slice ua (g.i+1) uc,.slice qa (g.i+1) qc] 129)=w5 at *;replace k0:=aE.o.cell k0;replace k1:=aE.o.cell k1;replace k2:=aE.o.cell k2;replace k3:=aE.o.cell k3;replace k4:=aE.o.cell k4;obtain⟨LE,aN⟩:∃x,(Jw C (NS.take k)).length=x:=⟨_,rfl⟩;have bL:=Aa (show LE<=1000 from by
      rw[<-aN];have:=bZ.o;have:=bM.o;unfold Jw;rw[List.length_map,List.length_take];omega)
     have bK:=Aa aN;rw[aN]at aA;have eC:=Aa (cZ.o w5 (dR.o.trans aE.o) g _ _ eU.o (HU.o.ex aE.o) (dW.o.ex aE.o) (fun X=>X=OB∨X=B+1∨(Value.slice ra LE rc).ownBlock=some X)
      (fun X hX=>by
       have h1:=aE.o.size;have h2:=aA.o.size;have h3:=aA.o.ob;have h4:=aA.o.rb;rcases hX with hX|hX|hX
       .omega
       .omega
       .have:=(aA.o.own.lt X hX).2;omega)
      (fun X e hX=>by
       have h3:=aA.o.ob;obtain⟨h1,h2⟩:=eE.o X e;rcases hX with hX|hX|hX
       .omega
       .omega
       .have:=(aA.o.own.lt X hX).1;omega)
      (fun X e hX=>by
       have h3:=aA.o.ob;obtain⟨h1,h2⟩:=eG.o X e;rcases hX with hX|hX|hX
       .omega
       .omega
       .have:=(aA.o.own.lt X hX).1;omega))
     clear aN;go_wp2_with fail
     refine eC.o.mono ?_;rintro e w9⟨⟨ev,rfl,cN⟩,aY⟩;have dV:=Aa cN;obtain⟨-,-,⟨-,ea,ec,eL,-⟩,-⟩:=cN.g.rsl;subst eL;obtain⟨LP,dQ⟩:∃x,(Jh 0 (gF C g)).length=x:=⟨_,rfl⟩;rw[dQ]at dV ⊢;replace aW:=aY.cell aW;replace aV:=aY.cell aV;replace aU:=aY.cell aU;have bF:=Aa (show Ex w9 (w9.alloc (.cells #[.slice ea LP ec] 94)) from(Ex.refl w9).alloc _);have t0:(w9.alloc (.cells #[.slice ea LP ec] 94)).cell? (w9.heap.size,0)=some (.slice ea LP ec):=ag;obtain⟨TB,cR⟩:∃x,w9.heap.size=x:=⟨_,rfl⟩;rw[cR]at t0;have aH:=Aa (aE.o.trans (aY.trans bF.o));replace aW:=bF.o.cell aW;replace aV:=bF.o.cell aV;replace aU:=bF.o.cell aU;have eO:=Aa (dV.o.g.off (.ex bF.o) fun X _ hX=>hX);clear cN dQ aY eC k0 k1 k2 k3 k4 x3 x4;go_upto_region 12 with fail
     try simp only[cR]
     clear cR;generalize w9.alloc (.cells #[.slice ea LP ec] 94)=w10 at *;have aQ:=Aa (aA.o.later aH.o);have b2:=aQ.o.b2;have eP:=Aa (show w10.ownsRow w6.heap.size 96 4 (.slice ra LE rc) LE (OR (Jw C (NS.take k)) evs) from by have:=aQ.o.own;rwa[bK.o]at this);have eN:=Aa aQ.o.size;have hk64:k<=1048576:=by have:=bM.o;have:=bZ.o;omega
     go_wp2_with (at_builtin;refine Am _ rfl _ _ 51 rfl w6.heap.size 96 (.agg #[(0:Int),(0:Int),(0:Int),.slice none 0 0]) 4 48 Tryz.underlying51 ZS rfl ae _ LE _ rfl eP.o [.int .i64 (g.i:Int),.int .i64 (g.j:Int),.int .i64 (g.a:Int),.slice ea LP ec] 96 _ rfl ag rfl aj (by have:=bL.o;unfold maxLen;omega) (by have:=bL.o;omega) eN.o ?_)
     intro v8 w8 aL;have bD:Bt w10 w8 w6.heap.size 96 4 (.slice ra LE rc) v8 (Jw C (NS.take k)).length (OR (Jw C (NS.take k)) evs) [.int .i64 (Vg C g).i,.int .i64 (Vg C g).j,.int .i64 (Vg C g).a,.slice ea LP ec]:=by rw[bK.o];exact aL
     obtain⟨cc2,ff2,hn⟩:=aQ.o.app (x:=Vg C g) eO.o bD;rw[show Jw C (NS.take k) ++ [Vg C g]=Jw C (NS.take (k+1)) from by unfold Jw;rw[List.take_add_one,eV.o,List.map_append];rfl]at hn;have HN:=Aa hn;have dS:=Aa (show Ex wa (w8.setCell (OB,2) v8) from(aL.ex (dR.o.trans aH.o) (by have:=aA.o.rb;have:=aC.o;omega)).setCell (p:=⟨OB,2,none⟩) (by have:=aT.o;have:=aC.o;show wa.heap.size<=OB;omega) _);have eD:=Aa (show(w8.setCell (OB,2) v8).frozen? (B+1,0)=false/\(w8.setCell (OB,2) v8).frozen? (B+1,1)=false/\(w8.setCell (OB,2) v8).frozen? (B+1,2)=false from by
      obtain⟨h0,h1,h2⟩:=dA.o wr aA.o.off;obtain⟨f0,f1,f2⟩:=eW.o;rw[Ax,Ax,Ax];exact⟨aL.frz (aH.o.cell h0) (aH.o.frz h0 f0) aQ.o.no.2,aL.frz (aH.o.cell h1) (aH.o.frz h1 f1) aQ.o.no.2,aL.frz (aH.o.cell h2) (aH.o.frz h2 f2) aQ.o.no.2⟩)
     obtain⟨na8,nc8,rfl⟩:=Ad aL.own;clear aL bD hn aW aV aU t0 b2;go_wp2_with fail
     go_roundw
     case rel=>first|exact⟨k+1,_,_,by have:=bM.o;omega,by go_num,HN,dS,eD⟩|((repeat apply Exists.intro);exact⟨⟨k+1,_,_,by have:=bM.o;omega,by go_num,HN,dS,eD⟩,rfl⟩)
     case measure=>have:=bM.o;simp[intOf];omega
    .obtain rfl:LN=k:=by omega
     have dU:=Aa (show NS.take LN=NS from List.take_of_length_le (by rw[dZ.o];exact Nat.le_refl _));obtain⟨LE,aN⟩:∃x,(Jw C (NS.take LN)).length=x:=⟨_,rfl⟩;rw[aN]at aK;rw[dU.o]at aK;have aA:=Aa aK.o;have aS:=Aa bQ.o;have HLV:=Aa (show EH wr (.slice la bl.length lc) bl from EH.offQ (Q:=fun X=>X=OB) (fun q hq=>by rw[hq];exact dD.o) dT.o eH.o aA.o.off);have eT:=Aa (show ∀u v z,EH (((wr.setCell (B+1,0) u).setCell (B+1,1) v).setCell (B+1,2) z) (.slice la bl.length lc) bl from fun u v z=>EH.offQ (Q:=fun X=>X=OB∨X=B+1) (fun q hq=>by rcases hq with hq|hq <;> rw[hq];exact dD.o;exact aI.o) dT.o eH.o ((aA.o.off.mono fun X _ h=> .inl h).trans ((KV u v z).mono fun X _ h=> .inr h) aA.o.size));obtain⟨q0,q1,q2⟩:=dA.o wr aA.o.off;obtain⟨cH,cG,cF⟩:=bT.o;have d0:=aA.o.b0;have d1:=aA.o.b1;have d2:=aA.o.b2;clear aK bQ bT aN dU;go_wp2_with fail
     exact bodyPost_ret (v:= .tuple #[.agg #[bd,.slice la bl.length lc,.slice ra LE rc],(0:Int)]) dj rfl ⟨cY.o _ _ ⟨e0,cA.o,.inr ⟨cX.o,_,_,by rw[eF.o],by rw[eF.o];exact eT.o _ _ _,by rw[dY.o];exact aA.o.fin _ _ _⟩⟩,Co (bE.o.trans aS.o) dB.o _ _ _⟩
def Ii(p m:Nat)(N:Nat)(P:List Int):List Int:=il N (FS (p^m-1) P)
def Ih(p m:Nat)(N:Nat)(P:List Int):List Int:=il N (Gu (p^m-1) P)
open Classical in
noncomputable def Gs (p m:Nat) (ml:List Int) (N:Nat) (rows:List (List Int)) (P:List Int):Bool:=
 decide (Ve p m ml N P=true/\CL p m ml N (Ii p m N P) (Ih p m N P) 0=0/\∃(piv:List Nat) (a':Nat->Nat->Int),
  Hk p m ml N (E3 p m ml (Ii p m N P) (Ih p m N P) 0 N rows rows.length).length (An (E3 p m ml (Ii p m N P) (Ih p m N P) 0 N rows rows.length)) a' piv/\rows=Au N piv.length a')
theorem Qa{p m:Nat}{ml:List Int}{N:Nat}{rows:List (List Int)}{P:List Int}:Gs p m ml N rows P=true↔(Ve p m ml N P=true/\CL p m ml N (Ii p m N P) (Ih p m N P) 0=0/\∃(piv:List Nat) (a':Nat->Nat->Int),
  Hk p m ml N (E3 p m ml (Ii p m N P) (Ih p m N P) 0 N rows rows.length).length (An (E3 p m ml (Ii p m N P) (Ih p m N P) 0 N rows rows.length)) a' piv/\rows=Au N piv.length a'):=by
 unfold Gs;simp only[decide_eq_true_eq]
theorem du{P:Prop}(h:P:=by simp[results,Tryz.results73,go_sem]):P:=h
theorem RQ(w:World){b p m x0 N:Nat}{ml:List Int}{rows:List (List Int)}(hg:Bj w b p m ml x0)(bK:1<=N)(hN:N<=64)(hd:N*(p^m-1)<=64)(ho:BK p m ml N rows 0)(m1 v1:Value)(hc:(⟨p,m,ml,N,rows⟩:AZ).at w m1 v1)(P:List Int)(pv:Value)(hp:Aj w pv P)(aF:P.length=N*(p^m-1))(aW:∀x∈P,0<=x/\x<(P.length:Int)):
  Calls Tryz.prog 73 #[.pointer (some (b,0)),(⟨p,m,ml,N,rows⟩:AZ).arg m1 v1,pv] w fun r w'=>r= .returned (.bool (Gs p m ml N rows P))/\Ex w w':=by
 obtain⟨c0,c1,c2,c3,c4⟩:=Du w ⟨p,m,ml,N,rows⟩ m1 v1;have aE:=AI w ((⟨p,m,ml,N,rows⟩:AZ).obj m1 v1);have HG:=Aa (hg.ex aE);have aI:=Aa (hc.ex aE);have HP:=Aa (hp.ex aE);have aN:=Aa (Qu (w.alloc ((⟨p,m,ml,N,rows⟩:AZ).obj m1 v1)) HG.o N bK hN P pv HP.o hd aF aW);obtain⟨x1,y1,bJ,-,z1,-⟩:=hc.g.open;obtain⟨x3,y3,bI,-,z3,-⟩:=hc.m.open;obtain⟨x5,y5,bH,-,z5,-⟩:=hp.open;unfold maxLen at z1 z3 z5;have aU:=Aa (fun (w5:World) (h5:Ex (w.alloc ((⟨p,m,ml,N,rows⟩:AZ).obj m1 v1)) w5) (u r:Value) (hu:Aj w5 u (Ii p m N P)) (hr:Aj w5 r (Ih p m N P))=>NV w5 p m ml m1 (aI.o.ex h5).m N rows v1 (aI.o.ex h5).g _ _ u r hu hr 0);have aM:=Aa (show ∀q:Bool,(q=true↔(Ve p m ml N P=true/\CL p m ml N (Ii p m N P) (Ih p m N P) 0=0/\∃(piv:List Nat) (a':Nat->Nat->Int),Hk p m ml N (E3 p m ml (Ii p m N P) (Ih p m N P) 0 N rows rows.length).length (An (E3 p m ml (Ii p m N P) (Ih p m N P) 0 N rows rows.length)) a' piv/\rows=Au N piv.length a'))->q=Gs p m ml N rows P from fun q h=>
  Bool.eq_iff_iff.2 (h.trans Qa.symm))
 obtain⟨MB,bA⟩:∃x,Gs p m ml N rows P=x:=⟨_,rfl⟩;rw[bA]at aM ⊢;obtain⟨B,hB⟩:=nA w.heap.size;rw[hB]at c0 c1 c2 c3 c4;have aH:=Aa aE;unfold AZ.arg;unfold AZ.obj at aH aN aU aI HG HP c0 c1 c2 c3 c4;dsimp only at aH aN aU aI HG HP c0 c1 c2 c3 c4 ⊢;subst bJ bI bH;have HO:=Aa ho;have HRW:=Aa hc.g;clear hc aE hg hp ho bA aF aW hd;go_enter Tryz.func73,Tryz.ntmps73
 go_upto_region 1 with fail
 try simp only[hB]
 clear hB;generalize w.alloc _=w1 at *;have bE:=Aa aN.o;go_wp2_with fail
 refine bE.o.mono ?_;rintro e w2⟨u,v,rfl,hu,hv,-,aA⟩;have HU:=Aa (show Aj w2 u (Ii p m N P) from hu);have HV:=Aa (show Aj w2 v (Ih p m N P) from hv);obtain⟨ua,uc,rfl,-,-,-⟩:=hu.open;obtain⟨va,vc,rfl,-,-,-⟩:=hv.open;simp only[Ao]at HU HV ⊢;obtain⟨FB,aQ⟩:∃x,Ve p m ml N P=x:=⟨_,rfl⟩;have bD:=Aa aQ;rw[aQ];replace c0:=aA.cell c0;replace c1:=aA.cell c1;replace c2:=aA.cell c2;replace c3:=aA.cell c3;replace c4:=aA.cell c4;obtain⟨t0,t1,t2,et⟩:=Bh w2 (.slice ua N uc) (.slice va N vc) 0;obtain⟨TB,aP⟩:∃x,w2.heap.size=x:=⟨_,rfl⟩;rw[aP]at t0 t1 t2;have aL:=Aa (aA.trans et);replace c0:=et.cell c0;replace c1:=et.cell c1;replace c2:=et.cell c2;replace c3:=et.cell c3;replace c4:=et.cell c4;have bN:=Aa (HU.o.ex et);have bM:=Aa (HV.o.ex et);clear hu hv aA et aN bE aQ HU HV;go_upto_region 2 with fail
 try simp only[aP]
 clear aP;generalize w2.alloc (.cells #[.slice ua N uc,.slice va N vc,(0:Int)] 26)=w3 at *;have bG:=Aa (aU.o w3 aL.o _ _ bN.o bM.o);by_cases hf:FB=true
 rotate_left
 .obtain rfl:FB=false:=by cases FB with
   | true=>exact absurd rfl hf
   | false=>rfl
  have HM:=Aa (aM.o false ⟨fun h=>bj,fun h=>(by have:=h.1.symm.trans bD.o;cases this)⟩);clear hf;go_wp2_with fail
  exact bodyPost_ret (v:= .bool false) du rfl ⟨by rw[HM.o],aH.o.trans aL.o⟩
 .subst hf;by_cases hm0:CL p m ml N (Ii p m N P) (Ih p m N P) 0=0
  .have aB:=Aa hm0;clear hm0;go_wp2_with fail
   refine bG.o.mono ?_;rintro e w4⟨aG,aD⟩;obtain⟨piv,a',rv,v',rfl,aY,aV,aJ⟩:=Yc (fr:=0) (show AppR p m ml N rows _ _ ((0:Nat):Int) _ _ _ from aG) HO.o aB.o;have bF:=Aa aY;obtain⟨M,hM⟩:∃x,Au N piv.length a'=x:=⟨_,rfl⟩;rw[hM]at aJ;have bC:=Aa hM;obtain⟨d0,d1,d2,d3,d4⟩:=Du w4 ⟨p,m,ml,N,M⟩ v' rv;have aC:=AI w4 ((⟨p,m,ml,N,M⟩:AZ).obj v' rv);have aT:=Aa (aJ.ex aC);obtain⟨a6,b6,rfl,-,-,-⟩:=aV.open;obtain⟨a7,b7,rfl,-,-,-⟩:=aJ.open;unfold AZ.obj at d0 d1 d2 d3 d4 aC aT;dsimp only at d0 d1 d2 d3 d4 aC aT;obtain⟨DB,aS⟩:∃x,w4.heap.size=x:=⟨_,rfl⟩;rw[aS]at d0 d1 d2 d3 d4;have aK:=Aa (aL.o.trans (aD.trans aC));replace c4:=aC.cell (aD.cell c4);clear aG aY hM aV aJ aC aD c0 c1 c2 c3 t0 t1 t2;go_upto_region 5 with fail
   try simp only[aS]
   clear aS;generalize w4.alloc (.cells #[p,m,.slice a6 ml.length b6,N,.slice a7 M.length b7] 39)=w5 at *;have HQ:=Aa (Ea w5 rows M _ _ (aI.o.ex aK.o).g aT.o);have HM:=Aa (aM.o (decide (rows=M)) ⟨fun h=>⟨bD.o,aB.o,piv,a',bF.o,by rw[bC.o];exact of_decide_eq_true h⟩,fun h=>by
    obtain⟨-,-,piv2,a2,h1,h2⟩:=h;obtain⟨_,_,_,_,g1,g2,g3,g4,-,-,aZ⟩:=IG aB.o;obtain rfl:p=_:=Int.ofNat.inj g1;obtain rfl:m=_:=Int.ofNat.inj g2;have:=(Ma aZ.hp aZ.hm (fun x=>Iff.rfl) h1 bF.o).1;exact decide_eq_true (by rw[h2,this,bC.o])⟩)
   clear d0 d1 d2 d3;obtain⟨DD,bB⟩:∃x,decide (rows=M)=x:=⟨_,rfl⟩;rw[bB]at HQ HM;clear bB;go_wp2_with fail
   refine HQ.o.mono ?_;rintro e w6⟨rfl,n6,rfl⟩;have bL:=Aa (aK.o.drewN n6);clear c4 d4;go_wp2_with fail
   exact bodyPost_ret (v:= .bool DD) du rfl ⟨by rw[HM.o],aH.o.trans bL.o⟩
  .have aB:=Aa hm0;have HM:=Aa (aM.o false ⟨fun h=>bj,fun h=>absurd h.2.1 aB.o⟩);obtain⟨EE,aR⟩:∃x,CL p m ml N (Ii p m N P) (Ih p m N P) 0=x:=⟨_,rfl⟩;have bO:=Aa aR;have hb:(EE==0)=false:=by
    have h1:=aB.o;rw[aR]at h1;simpa using h1
   clear hm0 aR;go_wp2_with fail
   refine bG.o.mono ?_;rintro e w4⟨⟨e1,aX,aG⟩,aD⟩;obtain rfl:=Ch aX HO.o;have aO:e= .returned (.tuple #[.agg #[(0:Int),(0:Int),.slice none 0 0,(0:Int),.slice none 0 0],EE]):=by
    rcases aG with⟨h,_⟩|⟨_,_,h⟩|⟨_,h,_⟩
    .exact absurd rfl h
    .rw[bO.o]at h;exact h
    .exact absurd h aB.o
   subst aO;have aK:=Aa (aL.o.trans (aD.trans (AI w4 (.cells #[(0:Int),(0:Int),.slice none 0 0,(0:Int),.slice none 0 0] 39))));clear aG aX aD c0 c1 c2 c3 c4 t0 t1 t2;go_wp2_with fail
   exact bodyPost_ret (v:= .bool false) du rfl ⟨by rw[HM.o],aH.o.trans aK.o⟩
def Xi(A:Nat->Nat->Nat)(b x i:Nat):Bool:=fixB b (A i)&&(A i b==x)
def UQ(n m:Nat)(A:Nat->Nat->Nat)(b:Nat):List Nat:=(List.range n).filter fun x=>(List.range m).any (Xi A b x)
def firA(m:Nat)(A:Nat->Nat->Nat)(b x:Nat):Nat:=((List.range m).find? (Xi A b x)).getD 0
def ZI(n m:Nat)(A:Nat->Nat->Nat)(b:Nat):Lv:=⟨b,CU (UQ n m A b),(UQ n m A b).map fun x=>li n (A (firA m A b x))⟩
def chnA(n m:Nat)(A:Nat->Nat->Nat)(k:Nat):List Lv:=((List.range k).map (ZI n m A)).filter fun l=>decide (1<l.orb.length)
theorem IK{A:Nat->Nat->Nat}{b x i:Nat}:Xi A b x i=true↔AW b (A i)/\A i b=x:=by
 unfold Xi;rw[Bool.and_eq_true,Xu,beq_iff_eq]
theorem Yd{n m:Nat}{S:List (Nat->Nat)}{A:Nat->Nat->Nat}(h:Pe n m S A){b x:Nat}:(List.range m).any (Xi A b x)=true↔∃f,Gn S f/\AW b f/\f b=x:=by
 rw[List.any_eq_true];constructor
 .rintro⟨i,hi,e⟩;have:=IK.1 e;exact⟨A i,(h.all _).2 ⟨i,List.mem_range.1 hi,rfl⟩,this⟩
 .rintro⟨f,h1,h2,h3⟩;obtain⟨i,hi,rfl⟩:=(h.all f).1 h1;exact⟨i,List.mem_range.2 hi,IK.2 ⟨h2,h3⟩⟩
open Classical in
theorem Zy {n m:Nat} {S:List (Nat->Nat)} {A:Nat->Nat->Nat} (h:Pe n m S A) (b:Nat):A7 S b n=UQ n m A b:=by
 unfold A7 UQ;apply List.filter_congr;intro x _;rw[Bool.eq_iff_iff,decide_eq_true_eq,Yd h]
theorem Xv{n m:Nat}{S:List (Nat->Nat)}{A:Nat->Nat->Nat}(h:Pe n m S A)(hS:∀s∈S,AY n s){b x i:Nat}(hi:i<m)(h1:AW b (A i))(h2:A i b=x)(h3:∀j,j<i->¬(AW b (A j)/\A j b=x)):CH n S b x=A i:=
 Kj hS (h.least hi h1 h2 h3)
theorem R9{m:Nat}{p:Nat->Bool}(h:∃i,i<m/\p i=true):∃i,i<m/\p i=true/\(∀j,j<i->p j=false)/\(List.range m).find? p=some i:=by
 obtain⟨i0,aD,aB⟩:=h
 cases hf:(List.range m).find? p with
 | none=>exact absurd (List.find?_eq_none.1 hf i0 (List.mem_range.2 aD)) (by simp[aB])
 | some i=>
  have h1:=List.find?_some hf;have h2:=List.mem_range.1 (List.mem_of_find?_eq_some hf);refine⟨i,h2,h1,fun j hj=>?_,rfl⟩;rw[List.find?_eq_some_iff_append]at hf;obtain⟨_,as',bs,e,aA⟩:=hf;have hlen:as'.length=i:=by
   have h3:=congrArg (fun l=>l[as'.length]?) e;simp only[List.getElem?_append_right (Nat.le_refl _),Nat.sub_self,List.getElem?_cons_zero]at h3;have h4:=(List.getElem?_eq_some_iff.1 h3);obtain⟨h5,h6⟩:=h4;simpa using h6
  have aC:j∈as':=by
   have h3:=congrArg (fun l=>l[j]?) e;simp only[List.getElem?_append_left (show j<as'.length by omega)]at h3;rw[List.getElem?_eq_getElem aq]at h3;have h4:(List.range m)[j]'aq=j:=by simp
   rw[h4]at h3;exact List.mem_of_getElem? h3.symm
  have:=aA j aC;simpa using this
theorem firA_eq{n m:Nat}{S:List (Nat->Nat)}{A:Nat->Nat->Nat}(h:Pe n m S A)(hS:∀s∈S,AY n s){b x:Nat}(hx:x∈UQ n m A b):CH n S b x=A (firA m A b x):=by
 unfold UQ at hx;have h1:=(List.mem_filter.1 hx).2;obtain⟨i0,aA,e0⟩:=List.any_eq_true.1 h1;obtain⟨i,hi,h2,h3,h4⟩:=R9 ⟨i0,List.mem_range.1 aA,e0⟩;have hf:firA m A b x=i:=by unfold firA;rw[h4];rfl
 rw[hf];have h5:=IK.1 h2;exact Xv h hS hi h5.1 h5.2 fun j hj k=>by
  have:=h3 j hj;rw[IK.2 k]at this;cases this
theorem ZH{n m:Nat}{S:List (Nat->Nat)}{A:Nat->Nat->Nat}(h:Pe n m S A)(hS:∀s∈S,AY n s)(b:Nat):Fo n S b=ZI n m A b:=by
 unfold Fo ZI Ec;rw[Zy h]
 congr 1
 exact List.map_congr_left fun x hx=>by rw[firA_eq h hS hx]
theorem chnA_eq{n m:Nat}{S:List (Nat->Nat)}{A:Nat->Nat->Nat}(h:Pe n m S A)(hS:∀s∈S,AY n s)(k:Nat):B3 n S k=chnA n m A k:=by
 unfold B3 chnA;rw[show Fo n S=ZI n m A from funext (ZH h hS)]
theorem OD{l:List Int}(h:BA l=0):AY l.length (CJ l):=by
 obtain⟨n,f,_,_,h1,h2,rfl⟩:=Fd h;rw[F8 h2,h1];exact h2
theorem Ov{l:List Int}(h:BA l=0):li l.length (CJ l)=l:=by
 obtain⟨n,f,_,_,h1,h2,rfl⟩:=Fd h;rw[F8 h2,h1]
theorem TR{n:Nat}{p q:List Int}(hp:BA p=0)(hq:BA q=0)(h1:p.length=n)(h2:q.length=n):CJ (Re p q)=Ak (CJ p) (CJ q):=by
 have e1:=Ov hp;have e2:=Ov hq;have k1:=OD hp;have k2:=OD hq;rw[h1]at e1 k1;rw[h2]at e2 k2;have:Re p q=li n (Ak (CJ p) (CJ q)):=by
  conv=>lhs;rw[<-e1,<-e2]
  exact KH k1.lt
 rw[this,F8 (k1.comp k2)]
def wordL(n:Nat)(gens:List (List Int))(w:List Nat):List Int:=w.foldl (fun p k=>Re p (gens.getD k [])) (VI n)
theorem Nw{n:Nat}{T gens:List (List Int)}(W:List (List Nat))(h1:∀r∈T,BA r=0/\r.length=n)(h2:∀r∈gens,BA r=0/\r.length=n)(hn:n<=64)(hn1:1<=n)(hu:VI n∈T)(hc:∀r∈T,∀s∈gens,Re r s∈T)(hw:T=W.map (wordL n gens))(aF:∀w∈W,∀k∈w,k<gens.length)(f:Nat->Nat):
  Gn (gens.map CJ) f↔∃r∈T,CJ r=f:=by
 have aC:CJ (VI n)=DA:=F8 (DW n);constructor
 .intro h
  induction h with
  | one=>exact⟨_,hu,aC⟩
  | step _ hs ih=>
   obtain⟨r,hr,e⟩:=ih;obtain⟨s,aB,e2⟩:=List.mem_map.1 hs;exact⟨Re r s,hc r hr s aB,by rw[TR (h1 r hr).1 (h2 s aB).1 (h1 r hr).2 (h2 s aB).2,e,e2]⟩
 .rintro⟨r,hr,rfl⟩;rw[hw]at hr;obtain⟨w,aG,rfl⟩:=List.mem_map.1 hr;have aE:∀(w:List Nat) (p:List Int),p∈T->Gn (gens.map CJ) (CJ p)->(∀k∈w,k<gens.length)->Gn (gens.map CJ) (CJ (w.foldl (fun p k=>Re p (gens.getD k [])) p)):=by
   intro w
   induction w with
   | nil=>exact fun p _ h _=>h
   | cons k w ih=>
    intro p hp hg hk;have aD:=hk k ag;have aA:gens.getD k []∈gens:=by
     rw[List.getD_eq_getElem?_getD,List.getElem?_eq_getElem aD];exact List.getElem_mem aD
    rw[List.foldl_cons];refine ih _ (hc p hp _ aA) ?_ fun j hj=>hk j (by simp[hj]);rw[TR (h1 p hp).1 (h2 _ aA).1 (h1 p hp).2 (h2 _ aA).2];exact hg.step (List.mem_map.2 ⟨_,aA,rfl⟩)
  exact aE w (VI n) hu (by rw[aC];exact .one) (aF w aG)
def Yq(P:Prop)(r:Ending):Prop:=∃b:Bool,r= .returned (.bool b)/\(b=true↔P)
theorem GV{P:Prop}(h:¬P):Yq P (.returned (.bool false)):=⟨false,rfl,⟨fun h=>bj,fun k=>absurd k h⟩⟩
theorem Vq{P:Prop}(h:P):Yq P (.returned (.bool true)):=⟨true,rfl,⟨fun _=>h,fun _=>rfl⟩⟩
theorem ZG{l k:Lv}(h1:l.pt=k.pt)(h2:l.orb=k.orb)(h3:l.reps=k.reps):l=k:=by
 cases l;cases k
 simp only at h1 h2 h3;rw[h1,h2,h3]
theorem bi{P:Prop}(h:P:=by first|exact HN.o|exact fun h=>HN.o h.2):P:=h
theorem Rv(w:World)(d1 d2:Int)(L K:List Lv)(lv kv:Value)(hL:EH w lv L)(hK:EH w kv K):
  Calls Tryz.prog 26 #[.agg #[d1,lv],.agg #[d2,kv]] w fun r w'=>Yq (d1=d2/\L=K) r/\Ex w w':=by
 obtain⟨b0,b1,e0⟩:=BW w d1 lv;obtain⟨f0,f1,e1⟩:=BW (w.alloc (.cells #[d1,lv] 43)) d2 kv;have b0:=e1.cell b0;have b1:=e1.cell b1;have aS:(w.alloc (.cells #[d1,lv] 43)).heap.size=w.heap.size+1:=ag;rw[aS]at f0 f1;obtain⟨za,zc,rfl,z1,z2,z3⟩:=(hL.ex (e0.trans e1)).open3;obtain⟨ya,yc,rfl,y1,y2,y3⟩:=(hK.ex (e0.trans e1)).open3;unfold maxLen at z2 y2;have Z3:=Aa z3;have Y3:=Aa y3;have aG:=Aa (e0.trans e1);clear z3 y3 hL hK e0 e1 aS;by_cases hd:d1=d2
 .subst hd;have aZ:(d1 !=d1)=false:=by simp
  by_cases hlen:L.length=K.length
  .have aX:((L.length:Int) !=(K.length:Int))=false:=by simp;omega
   have aV:=Aa hlen;clear hlen;go_enter Tryz.func26,Tryz.ntmps26
   go_wp2_with fail
   obtain⟨q,hq⟩:=nA w.heap.size;rw[hq]at b0 b1 f0 f1
   try simp only[hq]
   clear hq;generalize (w.alloc (.cells #[d1,.slice za L.length zc] 43)).alloc (.cells #[d1,.slice ya K.length yc] 43)=w1 at *;have B1:=Aa b1;have F1:=Aa f1;clear b0 b1 f0 f1
   go_loopw [5] (fun j' wr=>∃(j:Nat),j<=L.length/\j'= .int .i64 j/\Hia (∀i,i<j->L[i]?=K[i]?)/\Hia (Ex w1 wr)) (fun j' _=>L.length-(intOf j').toNat)
   case atStart=>exact⟨0,ac,rfl,Aa (fun i h=>ac),Aa (Ex.refl _)⟩
   case round=>
    obtain⟨j,hj,rfl,aB,aA⟩:=hrel;have b1:=aA.o.cell B1.o;have f1:=aA.o.cell F1.o;by_cases hjl:j<L.length
    .obtain⟨l,hl⟩:∃l,L[j]?=some l:=⟨_,List.getElem?_eq_getElem hjl⟩;have aY:j<K.length:=by have:=aV.o;omega
     obtain⟨k,hk⟩:∃k,K[j]?=some k:=⟨_,List.getElem?_eq_getElem aY⟩;obtain⟨zb,zo,rfl,aQ⟩:=Z3.o ac;obtain⟨yb,yo,rfl,aR⟩:=Y3.o ac;obtain⟨u,r,c0,c1,c2,hu,hr⟩:=aQ j l hl;obtain⟨v,s,g0,g1,g2,hv,hs⟩:=aR j k hk;have c0:=aA.o.cell c0;have c1:=aA.o.cell c1;have c2:=aA.o.cell c2;have g0:=aA.o.cell g0;have g1:=aA.o.cell g1;have g2:=aA.o.cell g2;obtain⟨oa,oc,rfl,_,_,_⟩:=hu.open;obtain⟨ra,rc,rfl,_,_,_⟩:=hr.open;obtain⟨pa,pc,rfl,_,_,_⟩:=hv.open;obtain⟨sa,sc,rfl,_,_,_⟩:=hs.open;have i1:(0:Int)<=(j:Int):=bu;have i2:(j:Int)<(L.length:Int):=ac;have i3:(j:Int)<(K.length:Int):=ac;obtain⟨p,hp⟩:=nA l.pt;rw[hp]at c0;obtain⟨t,ht⟩:=nA k.pt;rw[ht]at g0;obtain⟨HU,HR,HV,HS,aJ,aK,aT,aU⟩:=On (hu.ex aA.o) (hr.ex aA.o) (hv.ex aA.o) (hs.ex aA.o) hl hk hp ht;clear hl hk hp ht hu hr hv hs aQ aR;have bP:=fun o=>((Ex.refl wr).alloc o).cell b1;have bO:=fun o o2=>(((Ex.refl wr).alloc o).alloc o2).cell b1;have bH:=fun o=>((Ex.refl wr).alloc o).cell f1;have bG:=fun o o2=>(((Ex.refl wr).alloc o).alloc o2).cell f1;have bN:=fun o=>((Ex.refl wr).alloc o).cell c0;have bM:=fun o o2=>(((Ex.refl wr).alloc o).alloc o2).cell c0;have bL:=fun o=>((Ex.refl wr).alloc o).cell c1;have bK:=fun o o2=>(((Ex.refl wr).alloc o).alloc o2).cell c1;have bJ:=fun o=>((Ex.refl wr).alloc o).cell c2;have bI:=fun o o2=>(((Ex.refl wr).alloc o).alloc o2).cell c2;have bF:=fun o=>((Ex.refl wr).alloc o).cell g0;have bE:=fun o o2=>(((Ex.refl wr).alloc o).alloc o2).cell g0;have bD:=fun o=>((Ex.refl wr).alloc o).cell g1;have bC:=fun o o2=>(((Ex.refl wr).alloc o).alloc o2).cell g1;have bB:=fun o=>((Ex.refl wr).alloc o).cell g2;have bA:=fun o o2=>(((Ex.refl wr).alloc o).alloc o2).cell g2;go_upto_region 6 with fail
     go_cut [6,7] from 29 to 59 (fun s6 s7 wx=>∃B1 B2:Nat,s6= .pointer (some ⟨B1,0,none⟩)/\s7= .pointer (some ⟨B2,0,none⟩)/\Hia (wx.cell? (B1,0)=some (.int .i64 p)/\wx.cell? (B1,1)=some (.slice oa l.orb.length oc)/\wx.cell? (B1,2)=some (.slice ra l.reps.length rc))/\Hia (wx.cell? (B2,0)=some (.int .i64 t)/\wx.cell? (B2,1)=some (.slice pa k.orb.length pc)/\wx.cell? (B2,2)=some (.slice sa k.reps.length sc))/\Hia (Ex wr wx))
     case first=>
      go_region
      all_goals go_wp2_with fail
      all_goals go_meet
      all_goals exact⟨_,_,rfl,rfl,Aa ⟨ag,ag,ag⟩,Aa ⟨ag,ag,ag⟩,Aa (((Ex.refl wr).alloc _).alloc _).drew⟩
     case rest=>
      obtain⟨B1,B2,rfl,rfl,hA,hB,aC⟩:=hcut;clear b1 f1 c0 c1 c2 g0 g1 g2 bP bO bH bG bN bM bL bK bJ bI bF bE bD bC bB bA;obtain⟨a0,a1,a2⟩:=hA.o;obtain⟨g0,g1,g2⟩:=hB.o;have aO:=Aa (show(L[j]?≠K[j]?)->¬(L=K) from fun h e=>h cw);by_cases hpt:p=t
      .subst hpt;have aW:(p !=p)=false:=by simp
       have A2:=Aa a2;have G2:=Aa g2;have aF:=DI wc l.orb k.orb _ _ (HU.o.ex aC.o) (HV.o.ex aC.o);by_cases DX:l.orb=k.orb
       .rw[decide_eq_true DX]at aF;have aL:=Aa aF;clear aF;by_cases hre:l.reps=k.reps
        .have HE:=Aa (show L[j]?=K[j]? from by
          rw[aJ.o,aK.o,ZG (aT.o.trans aU.o.symm) DX hre])
         have aP:=Aa (show ∀i,i<j+1->L[i]?=K[i]? from fun i hi=>by
          by_cases e:i=j
          .subst e;exact HE.o
          .exact aB.o i ac)
         have aN:=Aa (decide_eq_true hre);clear DX hre aB;go_wp2_with (first|(go_at_call 19;refine aL.o.mono ?_;rintro e w6⟨rfl,n6,aE⟩;have X6:=(show Ex wc w6 from by rw[aE];exact(Ex.refl _).drewN n6);have a2:=X6.cell A2.o;have g2:=X6.cell G2.o;have aD:=EG w6 l.reps k.reps _ _ ((HR.o.ex aC.o).ex X6) ((HS.o.ex aC.o).ex X6);rw[aN.o]at aD;have aD:=Aa aD;have aI:=Aa X6;clear aE X6)|(go_at_call 27;refine aD.o.mono ?_;rintro e w7⟨rfl,n7,aH⟩;have aM:=Aa (aI.o.trans (show Ex w6 w7 from by rw[aH];exact(Ex.refl w6).drewN n7));clear aH))
         go_roundw
         case rel=>exact⟨j+1,ac,by go_num,aP,Aa (aA.o.trans (aC.o.trans aM.o))⟩
         case measure=>simp[intOf];omega
        .have HN:=Aa (aO.o (by
          rw[aJ.o,aK.o];intro e;injection e with e;exact hre cw))
         have aN:=Aa (decide_eq_false hre);clear DX hre aB;go_wp2_with (first|(go_at_call 19;refine aL.o.mono ?_;rintro e w6⟨rfl,n6,aE⟩;have X6:=(show Ex wc w6 from by rw[aE];exact(Ex.refl _).drewN n6);have a2:=X6.cell A2.o;have g2:=X6.cell G2.o;have aD:=EG w6 l.reps k.reps _ _ ((HR.o.ex aC.o).ex X6) ((HS.o.ex aC.o).ex X6);rw[aN.o]at aD;have aD:=Aa aD;have aI:=Aa X6;clear aE X6)|(go_at_call 27;refine aD.o.mono ?_;rintro e w7⟨rfl,n7,aH⟩;have aM:=Aa (aI.o.trans (show Ex w6 w7 from by rw[aH];exact(Ex.refl w6).drewN n7));clear aH))
         go_ret;exact⟨GV bi,aG.o.trans (aA.o.trans (aC.o.trans aM.o))⟩
       .have HN:=Aa (aO.o (by
         rw[aJ.o,aK.o];intro e;injection e with e;exact DX cw))
        rw[decide_eq_false DX]at aF;have aL:=Aa aF;clear aF DX aB;go_wp2_with (go_at_call 19;refine aL.o.mono ?_;rintro e w6⟨rfl,n6,aE⟩;have aI:=Aa (show Ex wc w6 from by rw[aE];exact(Ex.refl _).drewN n6);clear aE)
        go_ret;exact⟨GV bi,aG.o.trans (aA.o.trans (aC.o.trans aI.o))⟩
      .have aW:(p !=t)=true:=by simpa using hpt
       have HN:=Aa (aO.o (by
        rw[aJ.o,aK.o];intro e;injection e with e;have e1:=aT.o;have e2:=aU.o;exact hpt (by rw[<-e1,<-e2,e])))
       clear hpt;go_wp2_with fail
       go_ret;exact⟨GV bi,aG.o.trans (aA.o.trans aC.o)⟩
    .obtain rfl:j=L.length:=by omega
     have HR:=Aa (show L=K from Ts aV.o aB.o);go_wp2_with fail
     go_ret;exact⟨Vq (by first|exact HR.o|exact⟨trivial,HR.o⟩|exact⟨rfl,HR.o⟩),aG.o.trans aA.o⟩
  .have aX:((L.length:Int) !=(K.length:Int))=true:=by simp;omega
   have HN:=Aa (show ¬L=K from fun e=>hlen cw);clear hlen;go_enter Tryz.func26,Tryz.ntmps26
   go_wp2_with fail
   go_ret;exact⟨GV bi,aG.o⟩
 .have aZ:(d1 !=d2)=true:=by simpa using hd
  have HN:=Aa (show ¬(d1=d2/\L=K) from fun ⟨e,_⟩=>hd e);clear hd;go_enter Tryz.func26,Tryz.ntmps26
  go_wp2_with fail
  go_ret;exact⟨GV HN.o,aG.o⟩
end Go.Proofs.YtehieobniamagaaGreat
