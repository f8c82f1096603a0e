/- Plain: the points of a map tell the map. -/
import Derived.Shelf.Sort.Plain
import Derived.Test.YtehieobniamagaaGreatProg
import Derived.Sort.OwnSortedInts
import Derived.Test.YtehieobniamagaaGreatZp10
import Derived.Test.YtehieobniamagaaGreatZp13
import Derived.Test.YtehieobniamagaaGreatZp25
import Derived.Test.YtehieobniamagaaGreatZp26
import Derived.Test.YtehieobniamagaaGreatZp27
import Derived.Test.YtehieobniamagaaGreatZp31
import Derived.Test.YtehieobniamagaaGreatZp33
namespace Go.Proofs.YtehieobniamagaaGreat
set_option linter.unusedVariables false
set_option linter.unusedSimpArgs false
set_option maxRecDepth 100000
set_option maxHeartbeats 8000000
section
open Go.RowKit
section
variable {p m N:Nat} {ml pl sl:List Int}
theorem Td(h:DZ p m ml pl sl 0 N){i:Nat}(hi:i<N):∃z:Nat,sl.getD i 0=z/\1<=z/\z<p^m/\(Fu p m ml pl sl).getD (i*(p^m-1)) 0=((Et pl i*(p^m-1)+z:Nat):Int)-1:=by
 obtain⟨z,hz,h1,h2⟩:=h.sc i hi;refine⟨z,hz,h1,h2,?_⟩;have hQ:0<p^m-1:=ac;have aA:i*(p^m-1)<N*(p^m-1):=(Nat.mul_lt_mul_right hQ).2 hi;unfold Fu;rw[h.pll,List.getD_eq_getElem?_getD,AH aA];show Jt p m ml pl sl (i*(p^m-1))=_
 unfold Jt;rw[Nat.mul_div_cancel _ hQ,Nat.mul_mod_left,hz,Bu h2,Nat.zero_add,Cb h.hp h.hm h2]
theorem Qf(h:DZ p m ml pl sl 0 N):il N (BW (p^m-1) (Fu p m ml pl sl))=il N (fun i=>(Et pl i:Int))/\il N (Cj (p^m-1) (Fu p m ml pl sl))=il N (fun i=>sl.getD i 0):=by
 constructor
 .refine FS fun i hi=>?_;obtain⟨z,hz,h1,h2,h3⟩:=Td h hi;unfold BW;rw[h3];have:((Et pl i*(p^m-1)+z:Nat):Int)-1=((Et pl i*(p^m-1)+(z-1):Nat):Int):=by omega
  rw[this,<-Int.natCast_ediv,Nat.mul_comm,Nat.mul_add_div ac,Nat.div_eq_of_lt ac,Nat.add_zero]
 .refine FS fun i hi=>?_;obtain⟨z,hz,h1,h2,h3⟩:=Td h hi;unfold Cj;rw[h3,hz];have:((Et pl i*(p^m-1)+z:Nat):Int)-1=((Et pl i*(p^m-1)+(z-1):Nat):Int):=by omega
  rw[this,<-Int.natCast_emod,Nat.mul_comm,Nat.mul_add_mod,Nat.mod_eq_of_lt ac];omega
theorem Hi(h:DZ p m ml pl sl 0 N){k:Nat}(hk:k<N*(p^m-1)):∃z:Nat,1<=z/\z<p^m/\z=Ar p m (lw ml) (AA (p^m) (sl.getD (k/(p^m-1)) 0)) (k%(p^m-1)+1)/\k/(p^m-1)<N/\Et pl (k/(p^m-1))<N/\Jt p m ml pl sl k=((Et pl (k/(p^m-1))*(p^m-1)+(z-1):Nat):Int):=by
 have hQ:0<p^m-1:=by
  apply Nat.pos_of_ne_zero;intro e;rw[e,Nat.mul_zero]at hk;omega
 have hi:k/(p^m-1)<N:=Nat.div_lt_of_lt_mul (by rw[Nat.mul_comm];exact hk);obtain⟨s,hs,h1,h2⟩:=h.sc _ hi;have hr:=Nat.mod_lt k hQ;have aB:=h.hF.ne_zero h.hp h.hm h1 h2 (show 1<=k%(p^m-1)+1 by omega) (show k%(p^m-1)+1<p^m by omega);have aA:=Cg (p:=p) (m:=m) (low:=lw ml) (by have:=h.hp;omega) s (k%(p^m-1)+1);refine⟨Ar p m (lw ml) s (k%(p^m-1)+1),aB,aA,by rw[hs,Bu h2],hi,h.inj.1 _ hi,?_⟩;unfold Jt;rw[hs,Bu h2];omega
theorem S5(h:DZ p m ml pl sl 0 N)(hd:N*(p^m-1)<=64)(aC:1<=N*(p^m-1)):AU (Fu p m ml pl sl)=0:=by
 have hl:(Fu p m ml pl sl).length=N*(p^m-1):=by unfold Fu;rw[Aj,h.pll]
 have aA:∀k,k<N*(p^m-1)->(Fu p m ml pl sl)[k]?=some (Jt p m ml pl sl k):=fun k hk=>by unfold Fu;rw[h.pll];exact AH hk _
 have hQ:0<p^m-1:=by
  apply Nat.pos_of_ne_zero;intro e;rw[e,Nat.mul_zero]at aC;omega
 unfold AU;rw[hl,if_neg ac,if_neg ?_,if_pos ?_]
 .rw[Cd];intro i j hji hi e;rw[hl]at hi;rw[aA i hi,aA j ac]at e;injection e with e;obtain⟨z,z1,z2,z3,zi,zp,zf⟩:=Hi h hi;obtain⟨y,y1,y2,y3,yi,yp,yf⟩:=Hi h (show j<N*(p^m-1) by omega);rw[zf,yf]at e;have e1:Et pl (i/(p^m-1))*(p^m-1)+(z-1)=Et pl (j/(p^m-1))*(p^m-1)+(y-1):=by omega
  have e2:Et pl (i/(p^m-1))=Et pl (j/(p^m-1)):=by
   have:=congrArg (·/ (p^m-1)) e1;simp only[Nat.mul_comm _ (p^m-1)]at this
   rwa[Nat.mul_add_div hQ,Nat.mul_add_div hQ,Nat.div_eq_of_lt (show z-1<p^m-1 by omega),Nat.div_eq_of_lt (show y-1<p^m-1 by omega),Nat.add_zero,Nat.add_zero]at this
  have e3:=h.inj.2 _ _ zi yi e2;rw[e2]at e1;have e4:z=y:=ac;rw[z3,y3,e3]at e4;obtain⟨s,hs,h1,h2⟩:=h.sc _ yi;rw[hs,Bu h2,Bn s,Bn s]at e4;have hr:=Nat.mod_lt i hQ;have hr2:=Nat.mod_lt j hQ;have e5:=h.hF.cancel h.hp h.hm h1 h2 (show i%(p^m-1)+1<p^m by omega) (show j%(p^m-1)+1<p^m by omega) e4;have d1:=Nat.div_add_mod i (p^m-1);have d2:=Nat.div_add_mod j (p^m-1);rw[e3]at d1;omega
 .rintro⟨x,hx,hr⟩;obtain⟨k,hk⟩:=List.mem_iff_getElem?.1 hx;have aB:k<N*(p^m-1):=by have:=(List.getElem?_eq_some_iff.1 hk).1;omega
  rw[aA k aB]at hk;injection hk with hk;obtain⟨z,z1,z2,z3,zi,zp,zf⟩:=Hi h aB;rw[<-hk,zf]at hr;have:=Nat.mul_le_mul_right (p^m-1) (show Et pl (k/(p^m-1))+1<=N from zp);rw[Nat.succ_mul]at this;omega
theorem Pp{l:List Int}{N:Nat}(h:l.length=N){f:Nat->Int}(hf:∀i,i<N->f i=l.getD i 0):il N f=l:=by
 subst h;refine List.ext_getElem? fun i=>?_;by_cases hi:i<l.length
 .rw[AH hi,hf i hi,List.getD_eq_getElem?_getD,List.getElem?_eq_getElem hi];rfl
 .rw[List.getElem?_eq_none (by rw[Aj];omega),List.getElem?_eq_none ac]
end
theorem SZ{p m:Int}{ml pl sl:List Int}{fr:Int}(h:O4 p m ml pl sl fr=0):fr=0/\Mb p m ml pl.length (Sg p m ml pl sl fr)=0/\Tk p m ml pl.length (Sg p m ml pl sl fr)=⟨pl,sl,0⟩:=by
 have hL:Sg p m ml pl sl fr=Fu p.toNat m.toNat ml pl sl:=by unfold Sg;rw[if_pos h]
 rw[hL];unfold O4 at h;split at h
 .rename_i h1;exact absurd h h1
 .rename_i h1;split at h
  .cases h
  .rename_i h2;split at h
   .cases h
   .rename_i h3;have aA:Ck p m ml pl.length pl sl fr=0:=by simpa using h1
    have aB:fr=0:=by simpa using h2
    subst aB;obtain⟨pn,mn,N,fn,rfl,rfl,e3,e4,hf,hc,hM⟩:=Jw aA;obtain⟨n1,n2,n3,n4,n5,n6,n7,n8,n9,n10⟩:=Hj aA;obtain rfl:fn=0:=ac;obtain rfl:N=pl.length:=ac;simp only[Int.toNat_natCast]at h3 ⊢;have hq2:2<=pn^mn:=Nat.le_trans hM.hp (Nat.le_self_pow (by have:=hM.hm;omega) pn);have aC:1<=pl.length*(pn^mn-1):=Nat.mul_pos (by have:=hM.n1;omega) ac;have e1:il pl.length (BW (pn^mn-1) (Fu pn mn ml pl sl))=pl:=by
     rw[(Qf hM).1];refine Pp rfl fun i hi=>?_;have:=Dk n6 (i:=i) ac;unfold Et;omega
    have e2:il pl.length (Cj (pn^mn-1) (Fu pn mn ml pl sl))=sl:=by
     rw[(Qf hM).2];exact Pp (by have:=hM.sll;omega) fun i hi=>rfl
    have hb:JK pn mn ml pl.length (Fu pn mn ml pl sl)=true:=by
     unfold JK;rw[e1,e2];simp
    have hE:Mb pn mn ml pl.length (Fu pn mn ml pl sl)=0:=by
     have hl:(Fu pn mn ml pl sl).length=pl.length*(pn^mn-1):=by unfold Fu;rw[Aj]
     unfold Mb;simp only[Int.toNat_natCast];rw[if_neg (by rw[hc];simp),if_neg (by have:=hM.n1;have:=hM.n2;omega),if_neg h3,if_neg (by rw[S5 hM ac aC];simp),if_neg (by rw[hl];simp),if_neg (by rw[hb];simp)]
    refine⟨trivial,hE,?_⟩;unfold Tk;rw[if_pos hE];simp only[Int.toNat_natCast];rw[e1,e2]
end
section
open Go.RowKit
noncomputable def MK(c:AZ):Z6 × Int:=C7 (JV c:Int) (Eo c.p.toNat c.m.toNat c.ml (Dr c (AD c)))
noncomputable def UR(c:AZ)(e0:Int):Int:=if JI c e0≠0 then JI c e0 else(MK c).2
def Z7(c:AZ)(r:Ending)(w':World):Prop:=∃e0:Int,Cm c.p c.m c.ml c.n c.rows e0/\
 ((UR c e0≠0/\r= .returned (.tuple #[.agg #[.int .i64 0,.slice none 0 0,.slice none 0 0],.int .i64 (UR c e0)]))∨
 (UR c e0=0/\∃lv rv,r= .returned (.tuple #[.agg #[.int .i64 (MK c).1.deg,lv,rv],.int .i64 0])/\Eh w' lv (MK c).1.lev/\Ke w' rv (Hq c (Ia c (AD c)))))
theorem di{P:Prop}(h:P:=by simp[results,Tryz.results32,go_sem,q0,q1,q2]):P:=h
theorem KC(w:World)(c:AZ)(m1 v1:Value)(hc:c.at w m1 v1)(aJ:(Dr c (AD c)).length<=1000)(cP:(Ia c (AD c)).length<=1000)(cQ:∀M∈Dr c (AD c),R9 c.n.toNat M)(cO:∀g∈Ia c (AD c),Hd 0 (gF c g)=0):
  Calls Tryz.prog 32 #[c.arg m1 v1] w fun r w'=>Z7 c r w'/\Ex w w':=by
 obtain⟨c0,c1,c2,c3,c4⟩:=Dv w c m1 v1;have aX:=AI w (c.obj m1 v1);have bO:=Aa (hc.ex aX);have bE:=Aa aX;obtain⟨x1,y1,cL,-,z1,-⟩:=hc.g.open;obtain⟨x3,y3,cK,-,z3,-⟩:=hc.m.open;unfold maxLen at z1 z3;obtain⟨B,hB⟩:=nA w.heap.size;have cM:(w.alloc (c.obj m1 v1)).heap.size=B+1:=dy;have bC:=UT.new (w.alloc (c.obj m1 v1));have aF:Ex (w.alloc (c.obj m1 v1)) ((w.alloc (c.obj m1 v1)).alloc (.cells #[.int .i64 0,.slice none 0 0,.slice none 0 0] 53)):=(Ex.refl _).alloc _;have aO:=Aa (G8 ((w.alloc (c.obj m1 v1)).alloc (.cells #[.int .i64 0,.slice none 0 0,.slice none 0 0] 53)) c m1 v1 (hc.ex (aX.trans aF)));have aP:=Aa (fun (w5:World) (h5:Ex (w.alloc (c.obj m1 v1)) w5) (g:B9) (u r:Value) (hu:Ak w5 u g.tl) (hr:Ak w5 r g.sl) (FB:Nat->Prop) (h1:∀X,FB X->X<w5.heap.size) (h2:∀X,u.ownBlock=some X->¬FB X) (h3:∀X,r.ownBlock=some X->¬FB X)=>Ot w5 c c m1 m1 v1 v1 (bO.o.ex h5) (bO.o.ex h5) g.tl g.sl u r hu hr FB h1 (fun _=>h2) (fun _=>h3));rw[cM]at bC;rw[hB]at c0 c1 c2 c3 c4;replace c0:=aF.cell c0;replace c1:=aF.cell c1;replace c2:=aF.cell c2;replace c3:=aF.cell c3;replace c4:=aF.cell c4;have bX:=Aa aF;have aC:=Aa cM;have bW:=Aa (aX.trans aF);have bP:=Aa bC;have aB:=Aa (show((w.alloc (c.obj m1 v1)).alloc (.cells #[.int .i64 0,.slice none 0 0,.slice none 0 0] 53)).heap.size=B+1+1 from by simp[hB]);obtain⟨C,hC⟩:∃C:AZ,C=c:=⟨_,rfl⟩;have dF:=Aa hC;have cY:=Aa (show ∀r w',Z7 C r w'->Z7 c r w' from fun r w' h=>by rw[<-hC];exact h);rw[<-hC]at aJ cQ cP cO;obtain⟨cp,cm,aR,cn,bV⟩:=c;unfold AZ.arg at aO aP ⊢;unfold AZ.obj at bE aC bW bX aO aP bP aB bO c0 c1 c2 c3 c4;dsimp only at bE aC bW bX aO aP bP aB bO c0 c1 c2 c3 c4 cL cK ⊢;rw[cL,cK]at bE aC bW bX aO aP bP aB c0 c1 c2 c3 c4 ⊢;rw[<-hC]at aO aP;have eS:=Aa aJ;have bZ:=Aa cP;have eR:=Aa cQ;have dX:=Aa cO;clear hc aX hC cL cK aF bC cM aJ cP cQ cO bO;have dB:=Aa (show w.heap.size<=B+1 from ac);go_enter Tryz.func32,Tryz.ntmps32
 go_upto_region 1 with fail
 try simp only[hB]
 clear hB;generalize w.alloc (.cells #[.int .i64 cp,.int .i64 cm,.slice x3 aR.length y3,.int .i64 cn,.slice x1 bV.length y1] 39)=wa at *;generalize wa.alloc (.cells #[.int .i64 0,.slice none 0 0,.slice none 0 0] 53)=w1 at *;go_wp2_with fail
 refine aO.o.mono ?_;rintro e w2⟨aZ,aD⟩;have bY:=Aa aD;obtain⟨e0,dN,ho⟩:=OR aZ;have cA:=Aa dN;replace c0:=aD.cell c0;replace c1:=aD.cell c1;replace c2:=aD.cell c2;replace c3:=aD.cell c3;replace c4:=aD.cell c4;obtain⟨q0,q1,q2,q3,cH,cG,cF⟩:=bP.o.ex aD;obtain⟨GE,cV⟩:∃x,JI C e0=x:=⟨_,rfl⟩;rw[cV]at ho;have dC:=Aa cV;clear aZ aD dN aO cV;rcases ho with⟨h0,rfl⟩|⟨h0,bC,pn,mn,N,b,x0,mv,nv,hp,hm,hn,hN1,hN64,hD,rfl,hg,hx1,aD,hms,hns⟩
 .have hb:(GE !=0)=true:=by simpa using h0
  have HZ:=Aa (show UR C e0=GE/\GE≠0 from by unfold UR;rw[dC.o,if_pos h0];exact⟨rfl,h0⟩);clear h0;go_wp2_with fail
  exact bodyPost_ret (v:= .tuple #[.agg #[.int .i64 0,.slice none 0 0,.slice none 0 0],.int .i64 GE]) di rfl ⟨cY.o _ _ ⟨e0,cA.o,.inl ⟨by rw[HZ.o.1];exact HZ.o.2,by rw[HZ.o.1]⟩⟩,AT (bW.o.trans bY.o) dB.o _ _ _⟩
 .subst h0;have eM:cn=(N:Int):=by have:=dF.o;rw[this]at hn;exact hn
  subst eM;have eX:=Aa (show e0=0 from by
   have h1:=dC.o;unfold JI at h1;split at h1
   .rename_i h2;exact absurd h1 h2
   .rename_i h2;have h3:Ii C e0=0:=by simpa using h2
    unfold Ii at h3;split at h3
    .exact h3
    .rename_i h4;simpa using h4)
  have bI:=Aa (show C.p=pn/\C.m=mn/\C.n=N from⟨hp,hm,hn⟩);have eQ:=Aa (show C.n.toNat=N from by rw[hn];rfl);have dI:=Aa (show MK C=C7 ((N*(pn^mn-1):Nat):Int) (Eo pn mn C.ml (Dr C (AD C))) from by unfold MK JV;rw[hp,hm,hn];rfl);have eA:=Aa (fun (w5:World) (h5:Ex w2 w5)=>Il w5 (hg.ex h5) N hN64 hD (Dr C (AD C)) mv (hms.ex h5) (fun M hM=>by have:=eR.o M hM;rwa[eQ.o]at this) eS.o);have cX:=Aa (show UR C e0=(MK C).2 from by unfold UR;rw[dC.o,if_neg ag]);obtain⟨ma,mc,rfl,-,-,-⟩:=hms.open;obtain⟨na,nc,rfl,-,zn,n3⟩:=hns.open;unfold maxLen at zn;obtain⟨BS,cW⟩:∃x,MK C=x:=⟨_,rfl⟩;have eF:=Aa cW;rw[cW]at cX dI;obtain⟨⟨bd,bl⟩,be⟩:=BS;obtain⟨LM,cU⟩:∃x,(Dr C (AD C)).length=x:=⟨_,rfl⟩;have dH:=Aa (show ∀w5,Ex w2 w5->Calls Tryz.prog 64 #[.pointer (some ⟨b,0,none⟩),.int .i64 (N:Int),.slice ma LM mc] w5 fun r w'=>(∃v,r= .returned (.tuple #[.agg #[.int .i64 bd,v],.int .i64 be])/\Eh w' v bl)/\Ex w5 w' from fun w5 h5=>by
   rw[<-cU];exact(eA.o w5 h5).mono (by
    rintro r w'⟨⟨v,h1,h2⟩,h3⟩;rw[<-dI.o]at h1 h2;exact⟨⟨v,h1,h2⟩,h3⟩))
  have eH:=Aa (show ∀l∈bl,2<=l.orb.length/\2<=l.reps.length/\∀r∈l.reps,2<=r.length from fun l hl=>J0 (n:=((N*(pn^mn-1):Nat):Int)) (rows:=Eo pn mn C.ml (Dr C (AD C))) (by rw[<-dI.o];exact hl));obtain⟨NS,cS⟩:∃x,Ia C (AD C)=x:=⟨_,rfl⟩;have dY:=Aa cS;rw[cS]at n3 bZ dX ⊢;obtain⟨LN,cT⟩:∃x,NS.length=x:=⟨_,rfl⟩;have dZ:=Aa cT;rw[cT]at n3 bZ ⊢;have N3:=Aa n3;rw[cU];have cZ:=Aa (show ∀(w5:World) (h5:Ex wa w5) (g:B9) (u r:Value),g∈NS->Ak w5 u g.tl->Ak w5 r g.sl->∀(FB:Nat->Prop),(∀X,FB X->X<w5.heap.size)->(∀X,u.ownBlock=some X->¬FB X)->(∀X,r.ownBlock=some X->¬FB X)->Calls Tryz.prog 83 #[.agg #[.int .i64 cp,.int .i64 cm,.slice x3 aR.length y3,.int .i64 N,.slice x1 bV.length y1],.agg #[.int .i64 cp,.int .i64 cm,.slice x3 aR.length y3,.int .i64 N,.slice x1 bV.length y1],.agg #[u,r]] w5 fun r' w'=>Zp FB (Hc 0 (gF C g)) 0 r' w'/\Ex w5 w' from fun w5 h5 g u r bA hu hr FB h1 h2 h3=>by
   refine(aP.o w5 h5 g u r hu hr FB h1 h2 h3).mono ?_;rintro r' w'⟨⟨e1,e2,k1,k2,k3⟩,k4⟩;refine⟨?_,k4⟩;have hz:=eX.o;have bB:Cm cp cm aR N bV 0:=by have h1:=cA.o;rw[dF.o,hz]at h1;exact h1
   obtain rfl:e1=0:=Cs k1 bB;obtain rfl:e2=0:=Cs (k2 rfl) bB;have dK:=bI.o.1;have dL:=bI.o.2.1;rw[dF.o]at dK dL;have eK:g∈DA N (pn^mn):=by
    rw[<-dY.o]at bA;unfold Ia AD at bA;rw[bI.o.1,bI.o.2.1,bI.o.2.2]at bA;exact(List.mem_filter.1 bA).1
   have Bf:Fb 0 0 (Cw cp cm aR cp cm aR) N N g.tl g.sl (cp.toNat^cm.toNat)=0:=Pq (N:=N) rfl (q:=cp.toNat^cm.toNat) (by
    have h1:cp=pn:=dK;have h2:cm=mn:=dL;rw[h1,h2];exact IU eK)
   rw[Bf]at k3;have eI:=dX.o g bA;have:F6 C C g.tl g.sl=gF C g:=rfl;rw[this,eI]at k3;exact k3)
  clear bC hp hm hn hN1 hN64 hD hg hx1 aD hms hns cW cU eA n3 cS cT aP;obtain⟨OB,bU⟩:∃x,w2.heap.size=x:=⟨_,rfl⟩;have bg:=UT.new w2;rw[bU]at bg;have bN:=Aa (show Ex w2 (w2.alloc (.cells #[.int .i64 0,.slice none 0 0,.slice none 0 0] 53)) from(Ex.refl w2).alloc _);have dG:=Aa bg;go_upto_region 5 with fail
  try simp only[bU]
  have bJ:=Aa bU;clear bU bg;generalize w2.alloc (.cells #[.int .i64 0,.slice none 0 0,.slice none 0 0] 53)=w3 at *;replace c3:=bN.o.cell c3;obtain⟨t0,t1,t2,t3,cE,cD,cC⟩:=dG.o;go_upto_region 6 with (go_at_call 64;refine(dH.o w3 bN.o).mono ?_;rintro e w6⟨⟨v6,rfl,cJ⟩,cI⟩;obtain⟨la,lc,eJ,_,_,_⟩:=cJ.open;subst eJ;clear t0 t1 t2 t3 cE cD cC;obtain⟨t0,t1,t2,t3,cE,cD,cC⟩:=dG.o.ex cI;have dT:=Aa cJ;have bG:=Aa cI;clear cJ cI)
  have dD:=Aa (dG.o.ex bG.o);have aI:=Aa (bP.o.ex (bY.o.trans (bN.o.trans bG.o)));have dJ:B+1<w6.heap.size:=(World.block_lt_of_cell? _ (⟨B+1,0,none⟩:Addr) aI.o.c0);have cB:=Aa (Rc.start (RB:=B+1) (d:=bd) (lv:= .slice la bl.length lc) dD.o dJ);have aT:=Aa (show B+1<OB from by have:=bY.o.size;have:=aB.o;have:=bJ.o;omega);have aS:=Aa (show Ex wa ((w6.setCell ⟨OB,0,none⟩ (.int .i64 bd)).setCell ⟨OB,1,none⟩ (.slice la bl.length lc)) from IB (bX.o.trans (bY.o.trans (bN.o.trans bG.o))) (by have:=aT.o;have:=aC.o;omega) _ _);have bH:=Aa (bN.o.trans bG.o);clear t0 t1 t2 t3 cE cD cC q0 q1 q2 q3 cH cG cF dJ;obtain⟨w7,bR⟩:∃x,(w6.setCell ⟨OB,0,none⟩ (.int .i64 bd)).setCell ⟨OB,1,none⟩ (.slice la bl.length lc)=x:=⟨_,rfl⟩;rw[bR]at cB aS;have dE:=Aa (show w7.frozen? ⟨B+1,0,none⟩=false/\w7.frozen? ⟨B+1,1,none⟩=false/\w7.frozen? ⟨B+1,2,none⟩=false from by rw[<-bR];exact⟨by rw[Au,Au];exact aI.o.f0,by rw[Au,Au];exact aI.o.f1,by rw[Au,Au];exact aI.o.f2⟩)
  try simp only[bR]
  clear bR;have dA:=Aa (show ∀w',CA (fun X=>X=OB) w6 w'->w'.cell? ⟨B+1,0,none⟩=some (.int .i64 0)/\w'.cell? ⟨B+1,1,none⟩=some (.slice none 0 0)/\w'.cell? ⟨B+1,2,none⟩=some (.slice none 0 0) from fun w' h=>
   ⟨h.cell aI.o.c0 (by show ¬B+1=OB;have:=aT.o;omega),h.cell aI.o.c1 (by show ¬B+1=OB;have:=aT.o;omega),h.cell aI.o.c2 (by show ¬B+1=OB;have:=aT.o;omega)⟩)
  by_cases hbe:be=0
  rotate_left
  .have hb:(be !=0)=true:=by simpa using hbe
   have HZ:=Aa (show UR C e0=be/\be≠0 from⟨cX.o,hbe⟩);obtain⟨q0,q1,q2⟩:=dA.o w7 cB.o.off;obtain⟨cH,cG,cF⟩:=dE.o;clear hbe;go_wp2_with fail
   exact bodyPost_ret (v:= .tuple #[.agg #[.int .i64 0,.slice none 0 0,.slice none 0 0],.int .i64 be]) di rfl ⟨cY.o _ _ ⟨e0,cA.o,.inl ⟨by rw[HZ.o.1];exact HZ.o.2,by rw[HZ.o.1]⟩⟩,AT (bE.o.trans aS.o) dB.o _ _ _⟩
  .subst hbe;go_wp2_with fail
   go_loopw [39] (fun k' wr=>∃(k:Nat) (rv:Value) (evs:List Value),k<=LN/\k'= .int .i64 k/\Hia (Rc w6 wr OB (B+1) bd (.slice la bl.length lc) rv (Hq C (NS.take k)) evs)/\Hia (Ex wa wr)/\Hia (wr.frozen? ⟨B+1,0,none⟩=false/\wr.frozen? ⟨B+1,1,none⟩=false/\wr.frozen? ⟨B+1,2,none⟩=false)) (fun k' _=>LN-(intOf k').toNat)
   case atStart=>exact⟨0,_, [],ac,rfl,cB,aS,dE⟩
   case round=>
    clear cB aS dE;obtain⟨k,rv,evs,hk,rfl,aK,bQ,bT⟩:=hrel;obtain⟨ra,rc,rfl⟩:=Ac aK.o.own;by_cases hkl:k<LN
    .have aA:=Aa aK.o;have dR:=Aa bQ.o;have eW:=Aa bT.o;have aG:=Aa (show ∀(q:Addr) (u:Value),w2.cell? q=some u->wr.cell? q=some u from fun q u h=>aA.o.off.cell (bH.o.cell h) (fun e=>by
      have h1:q.block<w2.heap.size:=World.block_lt_of_cell? _ _ h;have h2:q.block=OB:=e;have:=bJ.o;omega))
     have eB:=Aa (show ∀(v:Value) (l:List Int),Ak w2 v l->0<l.length->Ak wr v l from fun v l h hl=>Sl.offQ (h.ex bH.o) (fun _ q hq e=>by
      have h1:=Sl.blk h (by rw[AP];exact hl) e;have h2:q=OB:=hq;have:=bJ.o;omega) aA.o.off)
     obtain⟨gb,go,rfl,dM⟩:=N3.o ac;obtain⟨g,hg⟩:∃g,NS[k]?=some g:=⟨_,List.getElem?_eq_getElem (by rw[dZ.o];exact hkl)⟩;obtain⟨u,r,d0,d1,d2,d3,d4,hu,bS,dO,dP⟩:=dM k g hg;have eV:=Aa hg;have eU:=Aa (List.mem_of_getElem? hg);have eE:=Aa (show ∀X,u.ownBlock=some X->B+1<X/\X<OB from fun X e=>⟨by have:=dO X e;have:=aB.o;omega,by have:=Sl.blk hu (by rw[AP,BY];omega) e;have:=bJ.o;omega⟩);have eG:=Aa (show ∀X,r.ownBlock=some X->B+1<X/\X<OB from fun X e=>⟨by have:=dP X e;have:=aB.o;omega,by have:=Sl.blk bS (by rw[AP,Cn];omega) e;have:=bJ.o;omega⟩);have HU:=Aa (eB.o _ _ hu (by rw[BY];omega));have dW:=Aa (eB.o _ _ bS (by rw[Cn];omega));obtain⟨ua,uc,rfl,-,-,-⟩:=hu.open;obtain⟨qa,qc,rfl,-,-,-⟩:=bS.open;rw[BY]at d3 HU eE;rw[Cn]at d4 dW eG;replace d0:=aG.o _ _ d0;replace d1:=aG.o _ _ d1;replace d2:=aG.o _ _ d2;replace d3:=aG.o _ _ d3;replace d4:=aG.o _ _ d4;rw[show go+5*k=go+k*5 from ac]at d0;rw[show go+(5*k+1)=go+k*5+1 from ac]at d1;rw[show go+(5*k+2)=go+k*5+2 from ac]at d2;rw[show go+(5*k+3)=go+k*5+3 from ac]at d3;rw[show go+(5*k+4)=go+k*5+4 from ac]at d4;have k0:=aG.o _ _ c0;have k1:=aG.o _ _ c1;have k2:=aG.o _ _ c2;have k4:=aG.o _ _ c4;have k3:=aA.o.off.cell ((bG.o).cell c3) (show ¬B=OB from by have:=aT.o;omega);have i1:(0:Int)<=(k:Int):=by omega
     have i2:(k:Int)<(LN:Int):=ac;have bM:=Aa hkl;clear aK bQ bT hg dM hu bS dO dP hkl;go_upto_region 11 with fail
     obtain⟨XB,aM⟩:∃x,wr.heap.size=x:=⟨_,rfl⟩;have x3:(wr.alloc (.cells #[.int .i64 g.i,.int .i64 g.j,.int .i64 g.a,.slice ua (g.i+1) uc,.slice qa (g.i+1) qc] 129)).cell? ⟨XB,3,none⟩=some (.slice ua (g.i+1) uc):=by rw[<-aM];simp
     have x4:(wr.alloc (.cells #[.int .i64 g.i,.int .i64 g.j,.int .i64 g.a,.slice ua (g.i+1) uc,.slice qa (g.i+1) qc] 129)).cell? ⟨XB,4,none⟩=some (.slice qa (g.i+1) qc):=by rw[<-aM];simp
     have aW:(wr.alloc (.cells #[.int .i64 g.i,.int .i64 g.j,.int .i64 g.a,.slice ua (g.i+1) uc,.slice qa (g.i+1) qc] 129)).cell? ⟨XB,0,none⟩=some (.int .i64 g.i):=by rw[<-aM];simp
     have aV:(wr.alloc (.cells #[.int .i64 g.i,.int .i64 g.j,.int .i64 g.a,.slice ua (g.i+1) uc,.slice qa (g.i+1) qc] 129)).cell? ⟨XB,1,none⟩=some (.int .i64 g.j):=by rw[<-aM];simp
     have aU:(wr.alloc (.cells #[.int .i64 g.i,.int .i64 g.j,.int .i64 g.a,.slice ua (g.i+1) uc,.slice qa (g.i+1) qc] 129)).cell? ⟨XB,2,none⟩=some (.int .i64 g.a):=by rw[<-aM];simp
     have aE:=Aa (show Ex wr (wr.alloc (.cells #[.int .i64 g.i,.int .i64 g.j,.int .i64 g.a,.slice ua (g.i+1) uc,.slice qa (g.i+1) qc] 129)) from(Ex.refl wr).alloc _)
     try simp only[aM]
     clear aM d0 d1 d2 d3 d4 i1 i2;generalize wr.alloc (.cells #[.int .i64 g.i,.int .i64 g.j,.int .i64 g.a,.slice ua (g.i+1) uc,.slice qa (g.i+1) qc] 129)=w5 at *;replace k0:=aE.o.cell k0;replace k1:=aE.o.cell k1;replace k2:=aE.o.cell k2;replace k3:=aE.o.cell k3;replace k4:=aE.o.cell k4;obtain⟨LE,aN⟩:∃x,(Hq C (NS.take k)).length=x:=⟨_,rfl⟩;have bL:=Aa (show LE<=1000 from by
      rw[<-aN];have:=bZ.o;have:=bM.o;unfold Hq;rw[List.length_map,List.length_take];omega)
     have bK:=Aa aN;rw[aN]at aA;have eC:=Aa (cZ.o w5 (dR.o.trans aE.o) g _ _ eU.o (HU.o.ex aE.o) (dW.o.ex aE.o) (fun X=>X=OB∨X=B+1∨(Value.slice ra LE rc).ownBlock=some X)
      (fun X hX=>by
       have h1:=aE.o.size;have h2:=aA.o.size;have h3:=aA.o.ob;have h4:=aA.o.rb;rcases hX with hX|hX|hX
       .omega
       .omega
       .have:=(aA.o.own.lt X hX).2;omega)
      (fun X e hX=>by
       have h3:=aA.o.ob;obtain⟨h1,h2⟩:=eE.o X e;rcases hX with hX|hX|hX
       .omega
       .omega
       .have:=(aA.o.own.lt X hX).1;omega)
      (fun X e hX=>by
       have h3:=aA.o.ob;obtain⟨h1,h2⟩:=eG.o X e;rcases hX with hX|hX|hX
       .omega
       .omega
       .have:=(aA.o.own.lt X hX).1;omega))
     clear aN;go_wp2_with fail
     refine eC.o.mono ?_;rintro e w9⟨⟨ev,rfl,cN⟩,aY⟩;have dV:=Aa cN;obtain⟨-,-,⟨-,ea,ec,eL,-⟩,-⟩:=cN.g.rsl;subst eL;obtain⟨LP,dQ⟩:∃x,(Hc 0 (gF C g)).length=x:=⟨_,rfl⟩;rw[dQ]at dV ⊢;replace aW:=aY.cell aW;replace aV:=aY.cell aV;replace aU:=aY.cell aU;have bF:=Aa (show Ex w9 (w9.alloc (.cells #[.slice ea LP ec] 94)) from(Ex.refl w9).alloc _);have t0:(w9.alloc (.cells #[.slice ea LP ec] 94)).cell? ⟨w9.heap.size,0,none⟩=some (.slice ea LP ec):=ag;obtain⟨TB,cR⟩:∃x,w9.heap.size=x:=⟨_,rfl⟩;rw[cR]at t0;have aH:=Aa (aE.o.trans (aY.trans bF.o));replace aW:=bF.o.cell aW;replace aV:=bF.o.cell aV;replace aU:=bF.o.cell aU;have eO:=Aa (dV.o.g.off (.ex bF.o) fun X _ hX=>hX);clear cN dQ aY eC k0 k1 k2 k3 k4 x3 x4;go_upto_region 12 with fail
     try simp only[cR]
     clear cR;generalize w9.alloc (.cells #[.slice ea LP ec] 94)=w10 at *;have aQ:=Aa (aA.o.later aH.o);have b2:=aQ.o.b2;have eP:=Aa (show w10.ownsRow w6.heap.size 96 4 (.slice ra LE rc) LE (Mu (Hq C (NS.take k)) evs) from by have:=aQ.o.own;rwa[bK.o]at this);have eN:=Aa aQ.o.size;have hk64:k<=1048576:=by have:=bM.o;have:=bZ.o;omega
     go_wp2_with (at_builtin;refine Al _ rfl _ _ 51 rfl w6.heap.size 96 (.agg #[.int .i64 0,.int .i64 0,.int .i64 0,.slice none 0 0]) 4 48 Tryz.underlying51 VX rfl ae _ LE _ rfl eP.o [.int .i64 (g.i:Int),.int .i64 (g.j:Int),.int .i64 (g.a:Int),.slice ea LP ec] 96 _ rfl ag rfl ak (by have:=bL.o;unfold maxLen;omega) (by have:=bL.o;omega) eN.o ?_)
     intro v8 w8 aL;have bD:A8 w10 w8 w6.heap.size 96 4 (.slice ra LE rc) v8 (Hq C (NS.take k)).length (Mu (Hq C (NS.take k)) evs) [.int .i64 (RP C g).i,.int .i64 (RP C g).j,.int .i64 (RP C g).a,.slice ea LP ec]:=by rw[bK.o];exact aL
     obtain⟨cc2,ff2,hn⟩:=aQ.o.app (x:=RP C g) eO.o bD;rw[show Hq C (NS.take k) ++ [RP C g]=Hq C (NS.take (k+1)) from by unfold Hq;rw[List.take_add_one,eV.o,List.map_append];rfl]at hn;have HN:=Aa hn;have dS:=Aa (show Ex wa (w8.setCell ⟨OB,2,none⟩ v8) from(aL.ex (dR.o.trans aH.o) (by have:=aA.o.rb;have:=aC.o;omega)).setCell (p:=⟨OB,2,none⟩) (by have:=aT.o;have:=aC.o;show wa.heap.size<=OB;omega) _);have eD:=Aa (show(w8.setCell ⟨OB,2,none⟩ v8).frozen? ⟨B+1,0,none⟩=false/\(w8.setCell ⟨OB,2,none⟩ v8).frozen? ⟨B+1,1,none⟩=false/\(w8.setCell ⟨OB,2,none⟩ v8).frozen? ⟨B+1,2,none⟩=false from by
      obtain⟨h0,h1,h2⟩:=dA.o wr aA.o.off;obtain⟨f0,f1,f2⟩:=eW.o;rw[Au,Au,Au];exact⟨aL.frz (aH.o.cell h0) (aH.o.frz h0 f0) aQ.o.no.2,aL.frz (aH.o.cell h1) (aH.o.frz h1 f1) aQ.o.no.2,aL.frz (aH.o.cell h2) (aH.o.frz h2 f2) aQ.o.no.2⟩)
     obtain⟨na8,nc8,rfl⟩:=Ac aL.own;clear aL bD hn aW aV aU t0 b2;go_wp2_with fail
     go_roundw
     case rel=>first|exact⟨k+1,_,_,by have:=bM.o;omega,by go_num,HN,dS,eD⟩|((repeat apply Exists.intro);exact⟨⟨k+1,_,_,by have:=bM.o;omega,by go_num,HN,dS,eD⟩,rfl⟩)
     case measure=>have:=bM.o;simp[intOf];omega
    .obtain rfl:LN=k:=by omega
     have dU:=Aa (show NS.take LN=NS from List.take_of_length_le (by rw[dZ.o];exact Nat.le_refl _));obtain⟨LE,aN⟩:∃x,(Hq C (NS.take LN)).length=x:=⟨_,rfl⟩;rw[aN]at aK;rw[dU.o]at aK;have aA:=Aa aK.o;have aS:=Aa bQ.o;have HLV:=Aa (show Eh wr (.slice la bl.length lc) bl from Eh.offQ (Q:=fun X=>X=OB) (fun q hq=>by rw[hq];exact dD.o) dT.o eH.o aA.o.off);have eT:=Aa (show ∀u v z,Eh (((wr.setCell ⟨B+1,0,none⟩ u).setCell ⟨B+1,1,none⟩ v).setCell ⟨B+1,2,none⟩ z) (.slice la bl.length lc) bl from fun u v z=>Eh.offQ (Q:=fun X=>X=OB∨X=B+1) (fun q hq=>by rcases hq with hq|hq <;> rw[hq];exact dD.o;exact aI.o) dT.o eH.o ((aA.o.off.mono fun X _ h=> .inl h).trans ((Jc u v z).mono fun X _ h=> .inr h) aA.o.size));obtain⟨q0,q1,q2⟩:=dA.o wr aA.o.off;obtain⟨cH,cG,cF⟩:=bT.o;have d0:=aA.o.b0;have d1:=aA.o.b1;have d2:=aA.o.b2;clear aK bQ bT aN dU;go_wp2_with fail
     exact bodyPost_ret (v:= .tuple #[.agg #[.int .i64 bd,.slice la bl.length lc,.slice ra LE rc],.int .i64 0]) di rfl ⟨cY.o _ _ ⟨e0,cA.o,.inr ⟨cX.o,_,_,by rw[eF.o],by rw[eF.o];exact eT.o _ _ _,by rw[dY.o];exact aA.o.fin _ _ _⟩⟩,AT (bE.o.trans aS.o) dB.o _ _ _⟩
end
section
open Go.RowKit
def Gl(p m:Nat)(N:Nat)(P:List Int):List Int:=il N (BW (p^m-1) P)
def Gk(p m:Nat)(N:Nat)(P:List Int):List Int:=il N (Cj (p^m-1) P)
open Classical in
noncomputable def Fg (p m:Nat) (ml:List Int) (N:Nat) (rows:List (List Int)) (P:List Int):Bool:=
 decide (JK p m ml N P=true/\Ck p m ml N (Gl p m N P) (Gk p m N P) 0=0/\∃(piv:List Nat) (a':Nat->Nat->Int),
  OF p m ml N (Hn p m ml (Gl p m N P) (Gk p m N P) 0 N rows rows.length).length (AX (Hn p m ml (Gl p m N P) (Gk p m N P) 0 N rows rows.length)) a' piv/\rows=AM N piv.length a')
theorem ND{p m:Nat}{ml:List Int}{N:Nat}{rows:List (List Int)}{P:List Int}:Fg p m ml N rows P=true↔(JK p m ml N P=true/\Ck p m ml N (Gl p m N P) (Gk p m N P) 0=0/\∃(piv:List Nat) (a':Nat->Nat->Int),
  OF p m ml N (Hn p m ml (Gl p m N P) (Gk p m N P) 0 N rows rows.length).length (AX (Hn p m ml (Gl p m N P) (Gk p m N P) 0 N rows rows.length)) a' piv/\rows=AM N piv.length a'):=by
 unfold Fg;simp only[decide_eq_true_eq]
theorem dv{P:Prop}(h:P:=by simp[results,Tryz.results73,go_sem]):P:=h
theorem Pg(w:World){b p m x0 N:Nat}{ml:List Int}{rows:List (List Int)}(hg:AR w b p m ml x0)(bK:1<=N)(hN:N<=64)(hd:N*(p^m-1)<=64)(ho:Cm p m ml N rows 0)(m1 v1:Value)(hc:(⟨p,m,ml,N,rows⟩:AZ).at w m1 v1)(P:List Int)(pv:Value)(hp:Ak w pv P)(aF:P.length=N*(p^m-1))(aW:∀x∈P,0<=x/\x<(P.length:Int)):
  Calls Tryz.prog 73 #[.pointer (some ⟨b,0,none⟩),(⟨p,m,ml,N,rows⟩:AZ).arg m1 v1,pv] w fun r w'=>r= .returned (.bool (Fg p m ml N rows P))/\Ex w w':=by
 obtain⟨c0,c1,c2,c3,c4⟩:=Dv w ⟨p,m,ml,N,rows⟩ m1 v1;have aE:=AI w ((⟨p,m,ml,N,rows⟩:AZ).obj m1 v1);have HG:=Aa (hg.ex aE);have aI:=Aa (hc.ex aE);have HP:=Aa (hp.ex aE);have aN:=Aa (NU (w.alloc ((⟨p,m,ml,N,rows⟩:AZ).obj m1 v1)) HG.o N bK hN P pv HP.o hd aF aW);obtain⟨x1,y1,bJ,-,z1,-⟩:=hc.g.open;obtain⟨x3,y3,bI,-,z3,-⟩:=hc.m.open;obtain⟨x5,y5,bH,-,z5,-⟩:=hp.open;unfold maxLen at z1 z3 z5;have aU:=Aa (fun (w5:World) (h5:Ex (w.alloc ((⟨p,m,ml,N,rows⟩:AZ).obj m1 v1)) w5) (u r:Value) (hu:Ak w5 u (Gl p m N P)) (hr:Ak w5 r (Gk p m N P))=>Se w5 p m ml m1 (aI.o.ex h5).m N rows v1 (aI.o.ex h5).g _ _ u r hu hr 0);have aM:=Aa (show ∀q:Bool,(q=true↔(JK p m ml N P=true/\Ck p m ml N (Gl p m N P) (Gk p m N P) 0=0/\∃(piv:List Nat) (a':Nat->Nat->Int),OF p m ml N (Hn p m ml (Gl p m N P) (Gk p m N P) 0 N rows rows.length).length (AX (Hn p m ml (Gl p m N P) (Gk p m N P) 0 N rows rows.length)) a' piv/\rows=AM N piv.length a'))->q=Fg p m ml N rows P from fun q h=>
  Bool.eq_iff_iff.2 (h.trans ND.symm))
 obtain⟨MB,bA⟩:∃x,Fg p m ml N rows P=x:=⟨_,rfl⟩;rw[bA]at aM ⊢;obtain⟨B,hB⟩:=nA w.heap.size;rw[hB]at c0 c1 c2 c3 c4;have aH:=Aa aE;unfold AZ.arg;unfold AZ.obj at aH aN aU aI HG HP c0 c1 c2 c3 c4;dsimp only at aH aN aU aI HG HP c0 c1 c2 c3 c4 ⊢;subst bJ bI bH;have HO:=Aa ho;have HRW:=Aa hc.g;clear hc aE hg hp ho bA aF aW hd;go_enter Tryz.func73,Tryz.ntmps73
 go_upto_region 1 with fail
 try simp only[hB]
 clear hB;generalize w.alloc _=w1 at *;have bE:=Aa aN.o;go_wp2_with fail
 refine bE.o.mono ?_;rintro e w2⟨u,v,rfl,hu,hv,-,aA⟩;have HU:=Aa (show Ak w2 u (Gl p m N P) from hu);have HV:=Aa (show Ak w2 v (Gk p m N P) from hv);obtain⟨ua,uc,rfl,-,-,-⟩:=hu.open;obtain⟨va,vc,rfl,-,-,-⟩:=hv.open;simp only[Aj]at HU HV ⊢;obtain⟨FB,aQ⟩:∃x,JK p m ml N P=x:=⟨_,rfl⟩;have bD:=Aa aQ;rw[aQ];replace c0:=aA.cell c0;replace c1:=aA.cell c1;replace c2:=aA.cell c2;replace c3:=aA.cell c3;replace c4:=aA.cell c4;obtain⟨t0,t1,t2,et⟩:=Az w2 (.slice ua N uc) (.slice va N vc) 0;obtain⟨TB,aP⟩:∃x,w2.heap.size=x:=⟨_,rfl⟩;rw[aP]at t0 t1 t2;have aL:=Aa (aA.trans et);replace c0:=et.cell c0;replace c1:=et.cell c1;replace c2:=et.cell c2;replace c3:=et.cell c3;replace c4:=et.cell c4;have bN:=Aa (HU.o.ex et);have bM:=Aa (HV.o.ex et);clear hu hv aA et aN bE aQ HU HV;go_upto_region 2 with fail
 try simp only[aP]
 clear aP;generalize w2.alloc (.cells #[.slice ua N uc,.slice va N vc,.int .i64 0] 26)=w3 at *;have bG:=Aa (aU.o w3 aL.o _ _ bN.o bM.o);by_cases hf:FB=true
 rotate_left
 .obtain rfl:FB=false:=by cases FB with
   | true=>exact absurd rfl hf
   | false=>rfl
  have HM:=Aa (aM.o false ⟨fun h=>bf,fun h=>(by have:=h.1.symm.trans bD.o;cases this)⟩);clear hf;go_wp2_with fail
  exact bodyPost_ret (v:= .bool false) dv rfl ⟨by rw[HM.o],aH.o.trans aL.o⟩
 .subst hf;by_cases hm0:Ck p m ml N (Gl p m N P) (Gk p m N P) 0=0
  .have aB:=Aa hm0;clear hm0;go_wp2_with fail
   refine bG.o.mono ?_;rintro e w4⟨aG,aD⟩;obtain⟨piv,a',rv,v',rfl,aY,aV,aJ⟩:=Yl (fr:=0) (show Ys p m ml N rows _ _ ((0:Nat):Int) _ _ _ from aG) HO.o aB.o;have bF:=Aa aY;obtain⟨M,hM⟩:∃x,AM N piv.length a'=x:=⟨_,rfl⟩;rw[hM]at aJ;have bC:=Aa hM;obtain⟨d0,d1,d2,d3,d4⟩:=Dv w4 ⟨p,m,ml,N,M⟩ v' rv;have aC:=AI w4 ((⟨p,m,ml,N,M⟩:AZ).obj v' rv);have aT:=Aa (aJ.ex aC);obtain⟨a6,b6,rfl,-,-,-⟩:=aV.open;obtain⟨a7,b7,rfl,-,-,-⟩:=aJ.open;unfold AZ.obj at d0 d1 d2 d3 d4 aC aT;dsimp only at d0 d1 d2 d3 d4 aC aT;obtain⟨DB,aS⟩:∃x,w4.heap.size=x:=⟨_,rfl⟩;rw[aS]at d0 d1 d2 d3 d4;have aK:=Aa (aL.o.trans (aD.trans aC));replace c4:=aC.cell (aD.cell c4);clear aG aY hM aV aJ aC aD c0 c1 c2 c3 t0 t1 t2;go_upto_region 5 with fail
   try simp only[aS]
   clear aS;generalize w4.alloc (.cells #[.int .i64 p,.int .i64 m,.slice a6 ml.length b6,.int .i64 N,.slice a7 M.length b7] 39)=w5 at *;have HQ:=Aa (Dn w5 rows M _ _ (aI.o.ex aK.o).g aT.o);have HM:=Aa (aM.o (decide (rows=M)) ⟨fun h=>⟨bD.o,aB.o,piv,a',bF.o,by rw[bC.o];exact of_decide_eq_true h⟩,fun h=>by
    obtain⟨-,-,piv2,a2,h1,h2⟩:=h;obtain⟨_,_,_,_,g1,g2,g3,g4,-,-,aZ⟩:=Jw aB.o;obtain rfl:p=_:=Int.ofNat.inj g1;obtain rfl:m=_:=Int.ofNat.inj g2;have:=(N4 aZ.hp aZ.hm (fun x=>Iff.rfl) h1 bF.o).1;exact decide_eq_true (by rw[h2,this,bC.o])⟩)
   clear d0 d1 d2 d3;obtain⟨DD,bB⟩:∃x,decide (rows=M)=x:=⟨_,rfl⟩;rw[bB]at HQ HM;clear bB;go_wp2_with fail
   refine HQ.o.mono ?_;rintro e w6⟨rfl,n6,rfl⟩;have bL:=Aa (aK.o.drewN n6);clear c4 d4;go_wp2_with fail
   exact bodyPost_ret (v:= .bool DD) dv rfl ⟨by rw[HM.o],aH.o.trans bL.o⟩
  .have aB:=Aa hm0;have HM:=Aa (aM.o false ⟨fun h=>bf,fun h=>absurd h.2.1 aB.o⟩);obtain⟨EE,aR⟩:∃x,Ck p m ml N (Gl p m N P) (Gk p m N P) 0=x:=⟨_,rfl⟩;have bO:=Aa aR;have hb:(EE==0)=false:=by
    have h1:=aB.o;rw[aR]at h1;simpa using h1
   clear hm0 aR;go_wp2_with fail
   refine bG.o.mono ?_;rintro e w4⟨⟨e1,aX,aG⟩,aD⟩;obtain rfl:=Cs aX HO.o;have aO:e= .returned (.tuple #[.agg #[.int .i64 0,.int .i64 0,.slice none 0 0,.int .i64 0,.slice none 0 0],.int .i64 EE]):=by
    rcases aG with⟨h,_⟩|⟨_,_,h⟩|⟨_,h,_⟩
    .exact absurd rfl h
    .rw[bO.o]at h;exact h
    .exact absurd h aB.o
   subst aO;have aK:=Aa (aL.o.trans (aD.trans (AI w4 (.cells #[.int .i64 0,.int .i64 0,.slice none 0 0,.int .i64 0,.slice none 0 0] 39))));clear aG aX aD c0 c1 c2 c3 c4 t0 t1 t2;go_wp2_with fail
   exact bodyPost_ret (v:= .bool false) dv rfl ⟨by rw[HM.o],aH.o.trans aK.o⟩
end
section
open Go.RowKit
def G6(L:List Lv):Nat:=Ih (L.map fun l=>l.orb.length)
theorem KH{L:List Lv}{k:Nat}{l:Lv}(h:L[k]?=some l):G6 (L.take (k+1))=G6 (L.take k)*l.orb.length:=by
 unfold G6;rw[List.map_take,List.map_take];exact Jm (by rw[List.getElem?_map,h];rfl)
theorem Pj{n:Nat}{S:List (Nat->Nat)}{bs:List Nat}{l:Lv}(h:l∈bs.map (Fh n S)):l.orb.length<=n:=by
 obtain⟨b,_,rfl⟩:=List.mem_map.1 h;show(Db (Bh S b n)).length<=n
 rw[Ci];exact Ft S b n
theorem OL{L:List Lv}(h:∀l∈L,l.orb.length<=64):∀k,k<=64->CO (G6 (L.take k)):=by
 have aA:∀k,G6 (L.take k)<=64^k:=by
  intro k
  induction k with
  | zero=>exact Nat.le_refl _
  | succ k ih=>
   by_cases hk:k<L.length
   .have hl:L[k]?=some (L[k]'hk):=List.getElem?_eq_getElem hk;rw[KH hl,Nat.pow_succ];exact Nat.mul_le_mul ih (h _ (List.getElem_mem hk))
   .rw[List.take_of_length_le ac]at ih ⊢;exact Nat.le_trans ih (Nat.pow_le_pow_right ac ac)
 intro k hk;have h1:(64:Nat)^k<=64^64:=Nat.pow_le_pow_right ac hk;have h2:(64:Nat)^64=Bo^12:=ae;have h3:Bo^12<Bo^200:=(Nat.pow_lt_pow_iff_right (by decide:1<Bo)).2 ac;have:=aA k;unfold CO;omega
def Z1(d:Int)(L:List Lv)(r:Ending)(w':World):Prop:=(Be d L≠0/\r= .returned (.tuple #[.slice none 0 0,.int .i64 (Be d L)]))∨(Be d L=0/\∃v,r= .returned (.tuple #[v,.int .i64 0])/\GU w' v (G6 L))
theorem ZS{w:World}{u v:Value}{x y:Nat}(hu:GU w u x)(hv:GU w v y)(t:TypeId):Zq (w.alloc (.cells #[u,v] t)) (.slice (some ⟨w.heap.size,0,none⟩) 2 2) [x,y]:=by
 have ea:Ex w (w.alloc (.cells #[u,v] t)):=(Ex.refl _).alloc _;refine⟨[u,v],⟨rfl,_,2,rfl,Nat.le_refl _,by unfold maxLen;omega,fun _=>⟨_,0,rfl,fun j z hz=>?_⟩⟩,fun i z s h1 h2=>?_⟩
 .match j,hz with
  | 0,hz=>simp at hz;subst hz;simp
  | 1,hz=>simp at hz;subst hz;simp
  | j+2,hz=>simp at hz
 .match i,h1,h2 with
  | 0,h1,h2=>simp at h1 h2;subst h1 h2;exact hu.ex ea
  | 1,h1,h2=>simp at h1 h2;subst h1 h2;exact hv.ex ea
  | i+2,h1,h2=>simp at h1
theorem YJ{w:World}{u v:Value}{x y:Nat}(hu:GU w u x)(hv:GU w v y)(hx:CO x)(hy:CO y)(aA:CO (x*y))(t:TypeId):
  Calls Tryz.prog 41 #[.slice (some ⟨w.heap.size,0,none⟩) 2 2] (w.alloc (.cells #[u,v] t)) fun r w'=>(∃u,r= .returned u/\GU w' u (x*y))/\Ex w w':=by
 have h:=Tf _ _ _ (ZS hu hv t) (fun z hz=>by
  simp at hz;rcases hz with e|e
  .rw[e];exact hx
  .rw[e];exact hy) (fun j hj=>by
  match j,hj with
  | 0,_=>exact FK (by show(1:Nat)<_;omega)
  | 1,_=>show CO (1*x);rw[Nat.one_mul];exact hx
  | 2,_=>show CO (1*x*y);rw[Nat.one_mul];exact aA)
 have e:Ih [x,y]=x*y:=by show 1*x*y=_;rw[Nat.one_mul]
 rw[e]at h;exact h.mono fun r w' ⟨h1,h2⟩=>⟨h1,((Ex.refl w).alloc _).trans h2⟩
theorem Oo(w:World)(d:Int)(L:List Lv)(lv:Value)(hL:Eh w lv L)(hg:(Bb L).length<=1000):
  Calls Tryz.prog 35 #[.agg #[.int .i64 d,lv]] w fun r w'=>Z1 d L r w'/\Ex w w':=by
 obtain⟨d0,d1,e0⟩:=Cp w d lv;obtain⟨za,zc,rfl,z1,z2,z3⟩:=(hL.ex e0).open3;unfold maxLen at z2;have bF:=Aa (FH _ d L _ (hL.ex e0) hg);have Z3:=Aa z3;clear z3 hL;go_enter Tryz.func35,Tryz.ntmps35
 go_wp2_with fail
 obtain⟨q,hq⟩:=nA w.heap.size;rw[hq]at d0 d1
 try simp only[hq]
 clear hq;generalize w.alloc (.cells #[.int .i64 d,.slice za L.length zc] 43)=w1 at *;have aR:=Aa e0;clear e0;refine bF.o.mono ?_;rintro e w2⟨rfl,aA⟩;have d1:=aA.cell d1;have aH:=Aa aA;obtain⟨E,hE⟩:=nA (Be d L);rw[hE];by_cases h0:E=0
 .subst h0;obtain⟨n,rfl,hn1,hn2,S,hS,aS,aG⟩:=QV hE;have aB:∀l∈L,l.orb.length<=n:=fun l hl=>Pj (aG ▸ hl);have hll:L.length<=n:=by
   rw[aG,List.length_map];unfold Nu;have:=List.length_filter_le (fun b=>decide (1<(Bh S b n).length)) (List.range n);rw[List.length_range]at this;exact this
  have bA:=Aa aB;have aQ:=Aa (OL (L:=L) fun l hl=>by have:=aB l hl;omega);have D1:=Aa d1;have HE:=Aa hE;have bB:=Aa (UG w2 1 ac);clear aA hE aB aG aS hS d0;go_wp2_with (go_at_call 42;refine bB.o.mono ?_;rintro e w3⟨⟨u,rfl,hu⟩,aD⟩;have HU:=Aa hu;have aO:=Aa aD;have d1:=aD.cell D1.o;clear hu aD)
  clear d1
  go_loopw [5,17] (fun p' k' wr=>∃(k:Nat),k<=L.length/\k'= .int .i64 k/\Hia (GU wr p' (G6 (L.take k)))/\Hia (Ex w3 wr)) (fun _ k' _=>L.length-(intOf k').toNat)
  case atStart=>exact⟨0,ac,rfl,HU,Aa (Ex.refl _)⟩
  case round=>
   clear HU;obtain⟨k,hk,rfl,hn,aF⟩:=hrel;obtain⟨pn,pf,_,_,aN⟩:=id hn.o;obtain⟨pa,pc,rfl,_,_,_⟩:=aN.open;clear aN;by_cases hkl:k<L.length
   .obtain⟨l,hl⟩:∃l,L[k]?=some l:=⟨_,List.getElem?_eq_getElem hkl⟩;obtain⟨zb,zo,rfl,aK⟩:=Z3.o ac;have aJ:=Aa (aH.o.trans (aO.o.trans aF.o));obtain⟨u,r,c0,c1,c2,hu,hr⟩:=aK k l hl;have c0:=aJ.o.cell c0;have c1:=aJ.o.cell c1;have c2:=aJ.o.cell c2;obtain⟨oa,oc,rfl,_,_,_⟩:=hu.open;obtain⟨ra,rc,rfl,_,_,_⟩:=hr.open;have i1:(0:Int)<=(k:Int):=by omega
    have i2:(k:Int)<(L.length:Int):=ac;have aB:=bA.o l (List.mem_of_getElem? hl);obtain⟨p,hp⟩:=nA l.pt;rw[hp]at c0;obtain⟨b0,b1,b2,eb⟩:=Ef wr p (.slice oa l.orb.length oc) (.slice ra l.reps.length rc);have e1:IntKind.u64.wrap (l.orb.length:Int)=(l.orb.length:Int):=bm;have aI:=Aa (UG (wr.alloc (.cells #[.int .i64 p,.slice oa l.orb.length oc,.slice ra l.reps.length rc] 90)) l.orb.length ac);have HN:=Aa (hn.o.ex eb);have bE:=Aa eb;have aP:=Aa (KH hl);have aY:=Aa (aQ.o (k+1) ac);have aZ:=Aa (aQ.o k ac);have aX:=Aa (FK (x:=l.orb.length) ac);clear aK hl hp hu hr eb hn;go_wp2_with (first|(go_at_call 42;refine aI.o.mono ?_;rintro e w5⟨⟨u5,rfl,aE⟩,aC⟩;obtain⟨_,_,_,_,h5⟩:=id aE;obtain⟨ya,yc,rfl,_,_,_⟩:=h5.open;have bC:=Aa (YJ (HN.o.ex aC) aE aZ.o aX.o (by rw[<-aP.o];exact aY.o) 56);have aU:=Aa aC;clear h5 aE aC)|(go_at_call 41;refine bC.o.mono ?_;rintro e w6⟨⟨u6,rfl,aM⟩,aL⟩;have aW:=Aa aM;have aT:=Aa aL;clear aM aL))
    have bD:=Aa (aF.o.trans (bE.o.trans (aU.o.trans aT.o)));have aV:=Aa (show GU w6 u6 (G6 (L.take (k+1))) from by
     rw[aP.o];exact aW.o)
    go_roundw
    case rel=>exact⟨k+1,ac,by go_num,aV,bD⟩
    case measure=>simp[intOf];omega
   .obtain rfl:k=L.length:=by omega
    have HN:=Aa (show GU wr (.slice pa pn pc) (G6 L) from by have:=hn.o;rwa[List.take_length]at this);go_wp2_with fail
    go_ret2;exact⟨.inr ⟨HE.o,_,rfl,HN.o⟩,aR.o.trans (aH.o.trans (aO.o.trans aF.o))⟩
 .have hb:(E !=0)=true:=by simpa using h0
  have HR:=Aa (show Be d L≠0 from by rw[hE];exact h0);have HE:=Aa hE;clear h0 hE aA;go_wp2_with fail
  go_ret2;exact⟨.inl ⟨HR.o,Xo HE.o.symm⟩,aR.o.trans aH.o⟩
end
section
open Go.RowKit
theorem Wk(w:World)(pt:Int)(u v:Value)(YB QB i q:Nat)(hi:i<=64)(hq:1<=q)(hq2:q<=1048576)(h0:w.cell? ⟨YB,0,none⟩=some (.int .i64 i))(h1:w.cell? ⟨QB,0,none⟩=some (.int .i64 q)):
  Calls Tryz.prog 131 #[.agg #[.int .i64 pt,u,v],.pointer (some ⟨YB,0,none⟩),.pointer (some ⟨QB,0,none⟩)] w fun r w'=>r= .returned (.bool (pt==(i:Int)*((q:Int)-1)))/\Ex w w':=by
 have b0:(w.alloc (.cells #[.int .i64 pt,u,v] 90)).cell? ⟨w.heap.size,0,none⟩=some (.int .i64 pt):=ag;have HX:=Aa (AI w (.cells #[.int .i64 pt,u,v] 90));replace h0:=HX.o.cell h0;replace h1:=HX.o.cell h1;have a1:(0:Int)<=(i:Int):=ac;have a2:(i:Int)<=64:=ac;have a3:(1:Int)<=(q:Int):=ac;have a4:(q:Int)<=1048576:=ac;have h2:wrap64 ((i:Int)*((q:Int)-1))=(i:Int)*((q:Int)-1):=by
  have m1:(0:Int)<=(i:Int)*((q:Int)-1):=Int.mul_nonneg a1 ac;have m2:(i:Int)*((q:Int)-1)<=64*1048576:=Int.mul_le_mul a2 ac ac ac;unfold wrap64;omega
 go_enter Tryz.func131,Tryz.ntmps131
 obtain⟨B,hB⟩:=nA w.heap.size;rw[hB]at b0;go_upto_region 1 with fail
 try simp only[hB]
 clear hB;generalize w.alloc (.cells #[.int .i64 pt,u,v] 90)=w1 at *;go_wp2_with fail
 go_ret;exact⟨rfl,HX.o⟩
theorem Ku(w:World)(YB QB i0 q:Nat)(hi:i0<=64)(hq:1<=q)(aC:q<=1048576)(h0:w.cell? ⟨YB,0,none⟩=some (.int .i64 i0))(h1:w.cell? ⟨QB,0,none⟩=some (.int .i64 q))(L:List Lv)(v:Value)(hL:Eh w v L)(pr:Nat->Bool)
  (hp:∀(j:Nat) (l:Lv),L[j]?=some l->pr j=(l.pt==(i0:Int)*((q:Int)-1))):
  Calls Tryz.prog 130 #[v,.func (.func 131) #[] #[.pointer (some ⟨YB,0,none⟩),.pointer (some ⟨QB,0,none⟩)]] w fun r w'=>r= .returned (.int .i64 (CM pr L.length))/\Ex w w':=by
 obtain⟨a,cap,rfl,s1,s2,s3⟩:=hL.open3;have S3:=Aa s3;have HP:=Aa hp;have aE:=Aa (fun (w1:World) (h:Ex w w1) (pt:Int) (u v:Value)=>Wk w1 pt u v YB QB i0 q hi hq aC (h.cell h0) (h.cell h1));obtain⟨n,hn⟩:=nA L.length;have HL:=Aa hn;rw[hn]at S3 s1 ⊢;unfold maxLen at s2;clear s3 hp hn hL h0 h1;go_enter Tryz.func130,Tryz.ntmps130
 go_wp2_with fail
 go_loopg [5,8] n (fun gg _ i' wr=>∃i:Nat,i<=n/\n-i<=gg/\i'= .int .i64 i/\Hia (Ex w wr)/\Hia (∀j,j<i->pr j=false))
 case atStart=>exact⟨0,ac,ac,rfl,Aa (Ex.refl _),Aa (fun j hj=>ac)⟩
 case round=>
  obtain⟨i,hi,hg,rfl,aA,aB⟩:=hrel;by_cases hlt:i<n
  .obtain⟨l,hl⟩:∃l,L[i]?=some l:=⟨_,List.getElem?_eq_getElem az⟩;obtain⟨bb,o,rfl,hc⟩:=S3.o ac;obtain⟨u,r,c0,c1,c2,-,-⟩:=hc i l hl;replace c0:=aA.o.cell c0;replace c1:=aA.o.cell c1;replace c2:=aA.o.cell c2;have aD:=Aa (HP.o i l hl);have HC:=Aa (aE.o wr aA.o l.pt u r);have i1:(0:Int)<=(i:Int):=by omega
   have hlt':(i:Int)<(n:Int):=ac;rw[<-aD.o]at HC;clear hc hl
   cases hb:pr i with
   | true=>
    rw[hb]at HC;have HF:=Aa (Co hlt hb aB.o);clear hb;go_wp2_with (go_at_call 131;refine HC.o.mono ?_;rintro e w'⟨rfl,hx⟩;have HX:=Aa (aA.o.trans hx);clear hx)
    go_ret;exact⟨Af HF.o.symm,HX.o⟩
   | false=>
    rw[hb]at HC;have HA:=Aa (show ∀j,j<i+1->pr j=false from fun j hj=>by
     by_cases e:j=i
     .subst e;exact hb
     .exact aB.o j ac)
    clear hb;go_wp2_with (go_at_call 131;refine HC.o.mono ?_;rintro e w'⟨rfl,hx⟩;have HX:=Aa (aA.o.trans hx);clear hx)
    exact zbB
  .obtain rfl:i=n:=by omega
   have HF:=Aa (BM aB.o);go_wp2_with fail
   go_ret;exact⟨Af HF.o.symm,aA.o⟩
end
section
open Go.Shelf
def Tryz.lays189_ren:Go.Shelf.Ren:=⟨fun | 189=>125 | 125=>178 | 257=>177 | 128=>221 | 129=>222 | 294=>212 | 295=>213 | 296=>214 | 297=>215 | 298=>216 | 299=>217 | 216=>218 | 300=>219 | 301=>220 | 328=>255 | 329=>256 | 330=>257 | 331=>258 | 332=>259 | 215=>260 | 343=>267|n=>n,fun | 28=>22 | 3=>3 | 46=>146 | 0=>0 | 51=>91 | 53=>77 | 4=>4 | 183=>248 | 182=>247 | 131=>253 | 5=>5 | 9=>9 | 218=>278 | 222=>282 | 228=>289 | 229=>203|n=>n,fun|n=>n⟩
theorem Tryz.lays189:Go.Proofs.Lays.n189 Tryz.prog Tryz.lays189_ren:= {
 mixed:=ah
 f125:=Tryz.func178.trans (congrArg some ah)
 f128:=Tryz.func221.trans (congrArg some ah)
 f129:=Tryz.func222.trans (congrArg some ah)
 f189:=Tryz.func125.trans (congrArg some ah)
 f215:=Tryz.func260.trans (congrArg some ah)
 f216:=Tryz.func218.trans (congrArg some ah)
 f257:=Tryz.func177.trans (congrArg some ah)
 f294:=Tryz.func212.trans (congrArg some ah)
 f295:=Tryz.func213.trans (congrArg some ah)
 f296:=Tryz.func214.trans (congrArg some ah)
 f297:=Tryz.func215.trans (congrArg some ah)
 f298:=Tryz.func216.trans (congrArg some ah)
 f299:=Tryz.func217.trans (congrArg some ah)
 f300:=Tryz.func219.trans (congrArg some ah)
 f301:=Tryz.func220.trans (congrArg some ah)
 f328:=Tryz.func255.trans (congrArg some ah)
 f329:=Tryz.func256.trans (congrArg some ah)
 f330:=Tryz.func257.trans (congrArg some ah)
 f331:=Tryz.func258.trans (congrArg some ah)
 f332:=Tryz.func259.trans (congrArg some ah)
 f343:=Tryz.func267.trans (congrArg some ah)
 t0:=Tryz.underlying0
 a0:=Tryz.isAgg0
 z0:=Tryz.sizeOf0
 v0:=Tryz.zeroValue0
 t3:=Tryz.underlying3
 a3:=Tryz.isAgg3
 z3:=Tryz.sizeOf3
 v3:=Tryz.zeroValue3
 t4:=Tryz.underlying4
 a4:=Tryz.isAgg4
 z4:=Tryz.sizeOf4
 v4:=Tryz.zeroValue4
 t5:=Tryz.underlying5
 a5:=Tryz.isAgg5
 z5:=Tryz.sizeOf5
 v5:=Tryz.zeroValue5
 t9:=Tryz.underlying9
 a9:=Tryz.isAgg9
 z9:=Tryz.sizeOf9
 v9:=Tryz.zeroValue9
 t28:=Tryz.underlying22
 a28:=Tryz.isAgg22
 z28:=Tryz.sizeOf22
 v28:=Tryz.zeroValue22
 t46:=Tryz.underlying146
 a46:=Tryz.isAgg146
 z46:=Tryz.sizeOf146
 v46:=Tryz.zeroValue146
 t51:=Tryz.underlying91
 a51:=Tryz.isAgg91
 z51:=Tryz.sizeOf91
 v51:=Tryz.zeroValue91
 t53:=Tryz.underlying77
 a53:=Tryz.isAgg77
 z53:=Tryz.sizeOf77
 v53:=Tryz.zeroValue77
 t131:=Tryz.underlying253
 a131:=Tryz.isAgg253
 z131:=Tryz.sizeOf253
 v131:=Tryz.zeroValue253
 t182:=Tryz.underlying247
 a182:=Tryz.isAgg247
 z182:=Tryz.sizeOf247
 v182:=Tryz.zeroValue247
 t183:=Tryz.underlying248
 a183:=Tryz.isAgg248
 z183:=Tryz.sizeOf248
 v183:=Tryz.zeroValue248
 t218:=Tryz.underlying278
 a218:=Tryz.isAgg278
 z218:=Tryz.sizeOf278
 v218:=Tryz.zeroValue278
 t222:=Tryz.underlying282
 a222:=Tryz.isAgg282
 z222:=Tryz.sizeOf282
 v222:=Tryz.zeroValue282
 t228:=Tryz.underlying289
 a228:=Tryz.isAgg289
 z228:=Tryz.sizeOf289
 v228:=Tryz.zeroValue289
 t229:=Tryz.underlying203
 a229:=Tryz.isAgg203
 z229:=Tryz.sizeOf203
 v229:=Tryz.zeroValue203 }
open Go.Sort Go.RowKit in
theorem Tryz.slices_Sort_int (blk aA cap:Nat) (zs:List Int) (w:World) (hH:Holds (Value.int .i64) w blk aA zs.toArray) (aB:blk<w.heap.size) (aC:zs.length<4611686018427387904):
  Calls Tryz.prog 125 #[.slice (some ⟨blk,aA,none⟩) zs.length cap] w fun e w'=>
   e= .returned (.tuple #[])/\∃n os,w'=grow (putRow (Value.int .i64) (Sort.ahead w n) blk aA (zs.mergeSort fun x y=>decide (x<=y)).toArray) os:=Any.slices_Sort_int Tryz.lays189 blk aA cap zs w hH aB aC
end
section
open Go.RowKit
theorem Xh:PI:=by
 intro w base v l hv h1 h2;rcases hv.2 with⟨_,h0⟩|⟨g,cap,cur,rfl,hbase,hb,c1,c2,c3,c4⟩
 .omega
 .have aA:cur.toList.take l.length=l.map (Value.int .i64):=by simpa[Am]using c4
  have hg:g<w.heap.size:=(Array.getElem?_eq_some_iff.1 hb).1;refine(Tryz.slices_Sort_int g 0 cap l w (holds_of_blockI hb aA) hg ac).mono ?_;rintro e w'⟨rfl,n,os,rfl⟩;have hl:(l.mergeSort fun x y=>decide (x<=y)).length=l.length:=List.length_mergeSort _;exact⟨rfl,ownsRow_sortedI hl hbase hb c1 c2 c3,grownBy_sortedI _⟩
end
section
def TT(A:Nat->Nat->Nat)(b x i:Nat):Bool:=XP b (A i)&&(A i b==x)
def Rt(n m:Nat)(A:Nat->Nat->Nat)(b:Nat):List Nat:=(List.range n).filter fun x=>(List.range m).any (TT A b x)
def Wh(m:Nat)(A:Nat->Nat->Nat)(b x:Nat):Nat:=((List.range m).find? (TT A b x)).getD 0
def VN(n m:Nat)(A:Nat->Nat->Nat)(b:Nat):Lv:=⟨b,Db (Rt n m A b),(Rt n m A b).map fun x=>li n (A (Wh m A b x))⟩
def X9(n m:Nat)(A:Nat->Nat->Nat)(k:Nat):List Lv:=((List.range k).map (VN n m A)).filter fun l=>decide (1<l.orb.length)
theorem GM{A:Nat->Nat->Nat}{b x i:Nat}:TT A b x i=true↔A7 b (A i)/\A i b=x:=by
 unfold TT;rw[Bool.and_eq_true,T7,beq_iff_eq]
theorem Uz{n m:Nat}{S:List (Nat->Nat)}{A:Nat->Nat->Nat}(h:MW n m S A){b x:Nat}:(List.range m).any (TT A b x)=true↔∃f,Gn S f/\A7 b f/\f b=x:=by
 rw[List.any_eq_true];constructor
 .rintro⟨i,hi,e⟩;have:=GM.1 e;exact⟨A i,(h.all _).2 ⟨i,List.mem_range.1 hi,rfl⟩,this⟩
 .rintro⟨f,h1,h2,h3⟩;obtain⟨i,hi,rfl⟩:=(h.all f).1 h1;exact⟨i,List.mem_range.2 hi,GM.2 ⟨h2,h3⟩⟩
open Classical in
theorem VA {n m:Nat} {S:List (Nat->Nat)} {A:Nat->Nat->Nat} (h:MW n m S A) (b:Nat):Bh S b n=Rt n m A b:=by
 unfold Bh Rt;apply List.filter_congr;intro x _;rw[Bool.eq_iff_iff,decide_eq_true_eq,Uz h]
theorem T8{n m:Nat}{S:List (Nat->Nat)}{A:Nat->Nat->Nat}(h:MW n m S A)(hS:∀s∈S,Bj n s){b x i:Nat}(hi:i<m)(h1:A7 b (A i))(h2:A i b=x)(h3:∀j,j<i->¬(A7 b (A j)/\A j b=x)):F4 n S b x=A i:=
 IK hS (h.least hi h1 h2 h3)
theorem Pu{m:Nat}{p:Nat->Bool}(h:∃i,i<m/\p i=true):∃i,i<m/\p i=true/\(∀j,j<i->p j=false)/\(List.range m).find? p=some i:=by
 obtain⟨i0,aD,aB⟩:=h
 cases hf:(List.range m).find? p with
 | none=>exact absurd (List.find?_eq_none.1 hf i0 (List.mem_range.2 aD)) (by simp[aB])
 | some i=>
  have h1:=List.find?_some hf;have h2:=List.mem_range.1 (List.mem_of_find?_eq_some hf);refine⟨i,h2,h1,fun j hj=>?_,rfl⟩;rw[List.find?_eq_some_iff_append]at hf;obtain⟨_,as',bs,e,aA⟩:=hf;have hlen:as'.length=i:=by
   have h3:=congrArg (fun l=>l[as'.length]?) e;simp only[List.getElem?_append_right (Nat.le_refl _),Nat.sub_self,List.getElem?_cons_zero]at h3;have h4:=(List.getElem?_eq_some_iff.1 h3);obtain⟨h5,h6⟩:=h4;simpa using h6
  have aC:j∈as':=by
   have h3:=congrArg (fun l=>l[j]?) e;simp only[List.getElem?_append_left (show j<as'.length by omega)]at h3;rw[List.getElem?_eq_getElem al]at h3;have h4:(List.range m)[j]'al=j:=by simp
   rw[h4]at h3;exact List.mem_of_getElem? h3.symm
  have:=aA j aC;simpa using this
theorem Wg{n m:Nat}{S:List (Nat->Nat)}{A:Nat->Nat->Nat}(h:MW n m S A)(hS:∀s∈S,Bj n s){b x:Nat}(hx:x∈Rt n m A b):F4 n S b x=A (Wh m A b x):=by
 unfold Rt at hx;have h1:=(List.mem_filter.1 hx).2;obtain⟨i0,aA,e0⟩:=List.any_eq_true.1 h1;obtain⟨i,hi,h2,h3,h4⟩:=Pu ⟨i0,List.mem_range.1 aA,e0⟩;have hf:Wh m A b x=i:=by unfold Wh;rw[h4];rfl
 rw[hf];have h5:=GM.1 h2;exact T8 h hS hi h5.1 h5.2 fun j hj k=>by
  have:=h3 j hj;rw[GM.2 k]at this;cases this
theorem VM{n m:Nat}{S:List (Nat->Nat)}{A:Nat->Nat->Nat}(h:MW n m S A)(hS:∀s∈S,Bj n s)(b:Nat):Fh n S b=VN n m A b:=by
 unfold Fh VN Ds;rw[VA h]
 congr 1
 exact List.map_congr_left fun x hx=>by rw[Wg h hS hx]
theorem Wo{n m:Nat}{S:List (Nat->Nat)}{A:Nat->Nat->Nat}(h:MW n m S A)(hS:∀s∈S,Bj n s)(k:Nat):Cl n S k=X9 n m A k:=by
 unfold Cl X9;rw[show Fh n S=VN n m A from funext (VM h hS)]
theorem Mk{l:List Int}(h:AU l=0):Bj l.length (C6 l):=by
 obtain⟨n,f,_,_,h1,h2,rfl⟩:=IF h;rw[JM h2,h1];exact h2
theorem Mg{l:List Int}(h:AU l=0):li l.length (C6 l)=l:=by
 obtain⟨n,f,_,_,h1,h2,rfl⟩:=IF h;rw[JM h2,h1]
theorem QD{n:Nat}{p q:List Int}(hp:AU p=0)(hq:AU q=0)(h1:p.length=n)(h2:q.length=n):C6 (WG p q)=An (C6 p) (C6 q):=by
 have e1:=Mg hp;have e2:=Mg hq;have k1:=Mk hp;have k2:=Mk hq;rw[h1]at e1 k1;rw[h2]at e2 k2;have:WG p q=li n (An (C6 p) (C6 q)):=by
  conv=>lhs;rw[<-e1,<-e2]
  exact Xb k1.lt
 rw[this,JM (k1.comp k2)]
def YC(n:Nat)(gens:List (List Int))(w:List Nat):List Int:=w.foldl (fun p k=>WG p (gens.getD k [])) (Zi n)
theorem K4{n:Nat}{T gens:List (List Int)}(W:List (List Nat))(h1:∀r∈T,AU r=0/\r.length=n)(h2:∀r∈gens,AU r=0/\r.length=n)(hn:n<=64)(hn1:1<=n)(hu:Zi n∈T)(hc:∀r∈T,∀s∈gens,WG r s∈T)(hw:T=W.map (YC n gens))(aF:∀w∈W,∀k∈w,k<gens.length)(f:Nat->Nat):
  Gn (gens.map C6) f↔∃r∈T,C6 r=f:=by
 have aC:C6 (Zi n)=ED:=JM (Fz n);constructor
 .intro h
  induction h with
  | one=>exact⟨_,hu,aC⟩
  | step _ hs ih=>
   obtain⟨r,hr,e⟩:=ih;obtain⟨s,aB,e2⟩:=List.mem_map.1 hs;exact⟨WG r s,hc r hr s aB,by rw[QD (h1 r hr).1 (h2 s aB).1 (h1 r hr).2 (h2 s aB).2,e,e2]⟩
 .rintro⟨r,hr,rfl⟩;rw[hw]at hr;obtain⟨w,aG,rfl⟩:=List.mem_map.1 hr;have aE:∀(w:List Nat) (p:List Int),p∈T->Gn (gens.map C6) (C6 p)->(∀k∈w,k<gens.length)->Gn (gens.map C6) (C6 (w.foldl (fun p k=>WG p (gens.getD k [])) p)):=by
   intro w
   induction w with
   | nil=>exact fun p _ h _=>h
   | cons k w ih=>
    intro p hp hg hk;have aD:=hk k ag;have aA:gens.getD k []∈gens:=by
     rw[List.getD_eq_getElem?_getD,List.getElem?_eq_getElem aD];exact List.getElem_mem aD
    rw[List.foldl_cons];refine ih _ (hc p hp _ aA) ?_ fun j hj=>hk j (by simp[hj]);rw[QD (h1 p hp).1 (h2 _ aA).1 (h1 p hp).2 (h2 _ aA).2];exact hg.step (List.mem_map.2 ⟨_,aA,rfl⟩)
  exact aE w (Zi n) hu (by rw[aC];exact .one) (aF w aG)
end
section
open Go.RowKit
theorem WL{N Q i c:Nat}(hi:i<N)(hc:c<Q):i*Q+c<N*Q:=by
 have:=Nat.mul_le_mul_right Q (show i+1<=N from hi);rw[Nat.succ_mul]at this;omega
theorem Xs{Q i j c d:Nat}(hc:c<Q)(hd:d<Q)(h:i*Q+c=j*Q+d):i=j/\c=d:=by
 have h1:=congrArg (·/ Q) h;simp only[Nat.mul_comm _ Q]at h1;rw[Nat.mul_add_div ac,Nat.mul_add_div ac,Nat.div_eq_of_lt hc,Nat.div_eq_of_lt hd,Nat.add_zero,Nat.add_zero]at h1;subst h1;exact⟨rfl,ac⟩
section
variable {p m N:Nat} {ml pl sl ql tl:List Int}
end
section
variable {p m n:Nat} {ml:List Int} {l1 l2 l3:List (List Int)} {pl sl ql tl:List Int}
end
end
end Go.Proofs.YtehieobniamagaaGreat
