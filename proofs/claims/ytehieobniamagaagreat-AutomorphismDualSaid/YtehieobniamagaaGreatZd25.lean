/- Plain: the end of EquivalenceFound. -/
import Derived.Test.YtehieobniamagaaGreatZd24
namespace Go.Proofs.YtehieobniamagaaGreat
open Go.RowKit
set_option linter.all false
set_option maxRecDepth 100000
set_option maxHeartbeats 8000000
def JY(N q:Nat):Nat->Nat × Nat
 | 0=>(1,1)
 | i+1=>((JY N q i).1*((N-i)*max 1 (q-1)),(JY N q i).2+(JY N q i).1*((N-i)*max 1 (q-1)))
def Us(n:Int)(q:Nat):Prop:=(n<1∨7<n->n<1∨64<n)/\(1<=n->n<=7->∀i,i<=n.toNat->(JY n.toNat q i).2<=3000)
theorem Tz:∀N,N<8->∀q,q<17->(JY N q N).2<=3000->OC (N*(q-1)) N<=65536:=ak
theorem Ny{q N:Nat}{rows:List (List Int)}(hN:N<=256)(hr:rows.length<=256)(h:∀r∈rows,r.length=N/\B3 q r=0):BL q N rows=0:=by
 unfold BL;rw[if_neg ac,if_pos (List.all_eq_true.2 fun r hr=>by simp[(h r hr).1]),if_pos (List.all_eq_true.2 fun r hr=>by simp[(h r hr).2])]
theorem VY{p m:Nat}{ml pl ul:List Int}{fr N:Nat}{x:List Int}(h:BD p m ml pl ul fr N):B3 (p^m) (il N (Lz p m ml pl ul fr x N))=0:=N0 fun y hy=>by
 obtain⟨i,hi,rfl⟩:=List.getElem_of_mem hy;rw[AF]at hi;obtain⟨z,h1,h2⟩:=YD h (x:=x) i hi;rw[List.getD_eq_getElem?_getD,List.getElem?_eq_getElem (by rw[AF];exact hi)]at h1;have aA:(il N (Lz p m ml pl ul fr x N))[i]'(by rw[AF];exact hi)=z:=h1;rw[aA];omega
theorem imL_ok{p m:Nat}{ml pl ul:List Int}{fr N:Nat}{l1:List (List Int)}(h:BD p m ml pl ul fr N):∀r∈IR p m ml pl ul fr N l1 l1.length,r.length=N/\B3 (p^m) r=0:=fun r hr=>by
 unfold IR at hr;obtain⟨x,_,rfl⟩:=List.mem_map.1 hr;exact⟨AF _ _,VY h⟩
theorem Vt{p m:Nat}{ml pl ul:List Int}{fr N:Nat}{l1:List (List Int)}(hc:Cp p m ml=0)(hl:l1.length<=256)(h:BD p m ml pl ul fr N):Kq p m ml N (IR p m ml pl ul fr N l1 l1.length)=0:=by
 have h1:Dp p m ml N (IR p m ml pl ul fr N l1 l1.length)=0:=by
  unfold Dp;rw[if_neg (fun h=>h hc)];have e:(p:Int).toNat^(m:Int).toNat=p^m:=ag;rw[e];exact Ny (by have:=h.n2;omega) (by rw[JK (Nat.le_refl _)];exact hl) (imL_ok h)
 unfold Kq;rw[if_neg (fun h=>h h1)];unfold Ec;rw[if_neg (by have:=h.n1;have:=h.n2;omega)]
theorem WB{p m N:Nat}{ml:List Int}{R:Nat}{a a':Nat->Nat->Int}{piv:List Nat}(hF:EG p m ml)(hn1:1<=N)(hn2:N<=64)(hR:R<=256)(h:Iq p m ml N R a a' piv):BN p m ml N (Av N piv.length a') 0:=by
 have hc:Cp p m ml=0:=(Cg _ _ _).2 hF;have aA:BL (p^m) N (Av N piv.length a')=0:=Ny ac (by rw[AE];have:=(Eu h).1;omega) (Eu h).2;have aD:Dp p m ml N (Av N piv.length a')=0:=by
  unfold Dp;rw[if_neg (fun h=>h hc)];have e:(p:Int).toNat^(m:Int).toNat=p^m:=ag;rw[e];exact aA
 have hl:Ec N=0:=by unfold Ec;rw[if_neg ac]
 have hlen:=(Eu h).1;obtain⟨c,aE,hP,hend,hS⟩:=h;have aF:PV p m piv.length N (Ak (Av N piv.length a')) piv c:=by
  have e:∀i j,i<piv.length->j<N->Ak (Av N piv.length a') i j=a' i j:=fun i j hi hj=>Jf hi hj;have aB:∀j q:Nat,piv[j]?=some q->j<piv.length:=fun j q hq=>(List.getElem?_eq_some_iff.1 hq).1;refine⟨Nat.le_refl _,fun i hi j hj=>?_,hP.lt,fun j q hq=>?_,fun j q i hq hi aC=>?_,fun i j h1 h2 _=>ac,fun j q k hq hk=>?_,hP.asc⟩
  .rw[e i j hi hj];exact hP.rng i ac j hj
  .rw[e j q (aB j q hq) (by have:=hP.lt j q hq;omega)];exact hP.one j q hq
  .rw[e i q hi (by have:=hP.lt j q hq;omega)];exact hP.zer j q i hq ac aC
  .rw[e j k (aB j q hq) (by have:=hP.lt j q hq;omega)];exact hP.lead j q k hq hk
 refine .inr (.inr ⟨hc,hl,.inr ⟨aD,p,m,N,piv,Ak (Av N piv.length a'),rfl,rfl,rfl,hF,aA,?_,?_⟩⟩)
 .rw[AE];exact H7 aF aE rfl
 .have h5:Av N piv.length (Ak (Av N piv.length a'))=Av N piv.length a':=by
   have:=Je (N:=N) (rows:=Av N piv.length a') fun r hr=>by
    unfold Av at hr;obtain⟨i,_,rfl⟩:=List.mem_map.1 hr;exact AF _ _
   rw[AE]at this;exact this
  rw[if_pos h5]
section
variable {p m:Nat} {ml:List Int} {n:Nat} {l1 l2:List (List Int)} {pl sl:List Int}
theorem Xa.takes{tl sc:List Int}{nd:Nd}(hp:2<=p)(h:Xa p m ml l1 l2 n nd tl sc):Bd p m ml n l1 l2 nd.tl nd.sc:=
 Bd.of hp h.len (by rw[h.v.len];exact h.len) (fun i hi=>(h.v.rng i d9).1) (h.v.injN h.len) (fun i hi=>h.v.sc i d9) h.c
end
theorem app_ok{p m N fr:Nat}{ml pl ul:List Int}{rows:List (List Int)}{b0:Nat}{r:Ending}{w':World}(h:AppR p m ml N rows pl ul fr b0 r w')(ho:BN p m ml N rows 0)(aA:Ey p m ml N pl ul fr=0):
  ∃(piv:List Nat) (a':Nat->Nat->Int) (rv v':Value),r= .returned (.tuple #[.agg #[.int .i64 p,.int .i64 m,v',.int .i64 N,rv],.int .i64 0])/\Iq p m ml N (IR p m ml pl ul fr N rows rows.length).length (Ak (IR p m ml pl ul fr N rows rows.length)) a' piv/\Am w' v' ml/\BO w' rv (Av N piv.length a'):=by
 obtain⟨e1,aB,h⟩:=h;obtain rfl:=BZ aB ho;have aC:imA p m ml pl ul fr N rows=IR p m ml pl ul fr N rows rows.length:=by unfold imA;simp
 obtain⟨p2,m2,N2,f2,j1,j2,j3,j4,hf,aD,hM⟩:=Pk aA;obtain rfl:p=p2:=ac;obtain rfl:m=m2:=ac;obtain rfl:N=N2:=ac;obtain rfl:fr=f2:=ac;rcases h with⟨h,_⟩|⟨_,h,_⟩|⟨_,_,h⟩
 .exact absurd rfl h
 .exact absurd aA h
 .rw[aC]at h;rcases h with⟨h,_⟩|⟨_,pn,mn,N',piv,a',rv,v',e1,e2,e3,_,_,hr,hel,hv,hrv,_⟩
  .exact absurd (Vt aD (Dk ho).1 hM) h
  .obtain rfl:p=pn:=by omega
   obtain rfl:m=mn:=ac;obtain rfl:N=N':=ac;exact⟨piv,a',rv,v',hr,hel,hv,hrv⟩
theorem Pf{p m:Nat}{ml:List Int}(h:GD p m ml):CF p m=((p^m:Nat):Int):=by
 unfold CF;have h1:((p:Int)^(m:Int).toNat)=((p^m:Nat):Int):=ag;have h2:=h.p2;have h3:=h.m1;have h4:=h.m8;have h5:=h.q;rw[h1,if_pos ac]
theorem SO(c:AU)(g:B6):(gM c g).frob=0:=by
 unfold gM IT;split
 .rfl
 .split <;> rfl
def Zh(b0:Nat)(c:AU)(r:Ending)(w':World):Prop:=∃e0:Int,BN c.p c.m c.ml c.n c.rows e0/\
 ((Ip c e0≠0/\r= .returned (.tuple #[.pointer none,.slice none 0 0,.slice none 0 0,.int .i64 (Ip c e0)]))∨
 (Ip c e0=0/\Ni c (Dn c.n.toNat (c.p.toNat^c.m.toNat))≠none/\r= .returned (.tuple #[.pointer none,.slice none 0 0,.slice none 0 0,.int .i64 (WZ c (Dn c.n.toNat (c.p.toNat^c.m.toNat)))]))∨
 (Ip c e0=0/\Ni c (Dn c.n.toNat (c.p.toNat^c.m.toNat))=none/\∃(pn mn N b x0:Nat) (mv nv:Value),c.p=pn/\c.m=mn/\c.n=N/\1<=N/\N<=64/\N*(pn^mn-1)<=64/\r= .returned (.tuple #[.pointer (some ⟨b,0,none⟩),mv,nv,.int .i64 0])/\
   A9 w' b pn mn c.ml x0/\1<=x0/\x0<pn^mn/\Oo w' mv (Da c (Dn c.n.toNat (c.p.toNat^c.m.toNat)))/\W9 b0 w' nv (Jg c (Dn c.n.toNat (c.p.toNat^c.m.toNat)))))
theorem zba{P:Prop}(h:P:=by
 clear aJ aA aH aG aF x3 x4 t0 t1 t2;go_wp2_with fail
 go_roundw
 case rel=>first|exact⟨k+1,_,_,rfl,by have:=aD.o;omega,by go_num,bG.o,HN⟩|((repeat apply Exists.intro);exact⟨⟨k+1,_,_,rfl,by have:=aD.o;omega,by go_num,bG.o,HN⟩,rfl⟩)
 case measure=>have:=aD.o;simp[intOf];omega):P:=h
theorem dr{P:Prop}(h:P:=by simp[results,Tryz.results63,go_sem]):P:=h
theorem Iy(w:World)(c:AU)(m1 v1:Value)(hc:c.at w m1 v1):
  Calls Tryz.prog 63 #[c.arg m1 v1] w fun r w'=>Zh w.heap.size c r w'/\Ex w w':=by
 obtain⟨c0,c1,c2,c3,c4⟩:=C6 w c m1 v1;have bR:=AJ w (c.obj m1 v1);have aS:=Aa (hc.ex bR);obtain⟨x1,y1,bU,-,z1,-⟩:=hc.g.open;obtain⟨x3,y3,bT,-,z3,-⟩:=hc.m.open;unfold maxLen at z1 z3;have aP:=Aa (Kn (w.alloc (c.obj m1 v1)) c m1 v1 aS.o);have aR:=Aa (fun (w5:World) (h5:Ex (w.alloc (c.obj m1 v1)) w5) (g:B6) (u r:Value) (hu:Am w5 u g.tl) (hr:Am w5 r g.sl)=>Uv w5 c c m1 m1 v1 v1 (aS.o.ex h5) (aS.o.ex h5) g.tl g.sl u r hu hr);obtain⟨B,hB⟩:=nA w.heap.size;rw[hB]at c0 c1 c2 c3 c4;have aM:=Aa bR;obtain⟨C,hC⟩:∃C:AU,C=c:=⟨_,rfl⟩;have cF:=Aa hC;have cB:=Aa (show ∀r w',Zh w.heap.size C r w'->Zh w.heap.size c r w' from fun r w' h=>by rw[<-hC];exact h);obtain⟨cp,cm,aL,cn,aX⟩:=c;unfold AU.arg at aP aR ⊢;unfold AU.obj at aM aP aS aR c0 c1 c2 c3 c4;dsimp only at aM aP aS aR c0 c1 c2 c3 c4 bU bT ⊢;rw[bU,bT]at aM aP aR c0 c1 c2 c3 c4 ⊢;rw[<-hC]at aP aR;clear hc bR hC bU bT aS;go_enter Tryz.func63,Tryz.ntmps63
 go_upto_region 1 with fail
 try simp only[hB]
 clear hB;generalize w.alloc (.cells #[.int .i64 cp,.int .i64 cm,.slice x3 aL.length y3,.int .i64 cn,.slice x1 aX.length y1] 39)=w1 at *;go_wp2_with fail
 refine aP.o.mono ?_;rintro e w2⟨⟨e0,cO,ho⟩,aB⟩;have aZ:=Aa aB;have bQ:=Aa cO;replace c0:=aB.cell c0;replace c1:=aB.cell c1;replace c2:=aB.cell c2;replace c3:=aB.cell c3;replace c4:=aB.cell c4;clear aB cO aP;obtain⟨OE,aK⟩:∃x,Ip C e0=x:=⟨_,rfl⟩;rw[aK]at ho;have bN:=Aa aK;rcases ho with⟨h0,ptr,d,rfl⟩|⟨h0,pn,mn,N,b,x0,hp,hm,hn,hN1,hN64,hD,rfl,hg,hx1,aB⟩
 .have hb:(OE !=0)=true:=by simpa using h0
  have H0:=Aa h0;clear h0 aK;go_wp2_with fail
  exact bodyPost_ret (v:= .tuple #[.pointer none,.slice none 0 0,.slice none 0 0,.int .i64 OE]) dr rfl ⟨cB.o _ _ ⟨e0,bQ.o,.inl ⟨by rw[bN.o];exact H0.o,by rw[bN.o]⟩⟩,aM.o.trans aZ.o⟩
 .subst h0;have eB:=Aa (show e0=0 from by
   unfold Ip at aK;split at aK
   .exact aK
   .omega)
  have dK:cn=(N:Int):=by have:=cF.o;rw[this]at hn;exact hn
  subst dK;obtain⟨bB,aO,HN,HG,cU⟩:=Of (show C.p=pn/\C.m=mn/\C.n=N from⟨hp,hm,hn⟩) (show Dn C.n.toNat (C.p.toNat^C.m.toNat)=Dn N (pn^mn) from by rw[hp,hm,hn];rfl) (show 1<=N/\N<=64/\N*(pn^mn-1)<=64 from⟨hN1,hN64,hD⟩) hg (show 1<=x0/\x0<pn^mn from⟨hx1,aB⟩);have cH:2<=pn^mn:=Nat.le_trans hg.sh.p2 (Nat.le_self_pow (by have:=hg.sh.m1;omega) pn);have bH:=hg.sh.q;have dB:=Aa (fun (w5:World) (h5:Ex w2 w5)=>Cr w5 (HG.o.ex h5));have bP:=Aa (fun (w5:World)=>My w5 N (pn^mn) hN64 ac bH);have cE:=Aa (show ∀(w5:World) (h5:Ex w1 w5) (g:B6) (u r:Value),g∈Dn N (pn^mn)->Am w5 u g.tl->Am w5 r g.sl->Calls Tryz.prog 122 #[.agg #[.int .i64 cp,.int .i64 cm,.slice x3 aL.length y3,.int .i64 N,.slice x1 aX.length y1],.agg #[.int .i64 cp,.int .i64 cm,.slice x3 aL.length y3,.int .i64 N,.slice x1 aX.length y1],.agg #[u,r]] w5 fun r' w'=>MoF w5.heap.size (gM C g) (gE C g) r' w'/\Ex w5 w' from fun w5 h5 g u r dJ hu hr=>by
   refine(aR.o w5 h5 g u r hu hr).mono ?_;rintro r' w'⟨⟨e1,e2,k1,k2,k3⟩,k4⟩;refine⟨?_,k4⟩;have hz:=eB.o;have aU:BN cp cm aL N aX 0:=by have h1:=bQ.o;rw[cF.o,hz]at h1;exact h1
   obtain rfl:e1=0:=BZ k1 aU;obtain rfl:e2=0:=BZ (k2 rfl) aU;have cI:=bB.o.1;have cJ:=bB.o.2.1;rw[cF.o]at cI cJ;have BC:FR 0 0 (CR cp cm aL cp cm aL) N N g.tl g.sl (cp.toNat^cm.toNat)=0:=Rm (N:=N) rfl (q:=cp.toNat^cm.toNat) (by
    have h1:cp=pn:=cI;have h2:cm=mn:=cJ;rw[h1,h2];exact Hz dJ)
   rw[BC]at k3;exact k3)
  obtain⟨q,hq⟩:=nA (pn^mn);have HQ:=Aa hq;rw[hq]at dB bP cE aO cH bH;have dV:=Aa bH;clear hp hm hn hN1 hN64 hD hg hx1 aB hq cH bH aR aK;obtain⟨GS,bY⟩:∃g,Dn N q=g:=⟨_,rfl⟩;rw[bY]at cE aO bP;have dY:=Aa bY;obtain⟨LG,cT⟩:∃n,GS.length=n:=⟨_,rfl⟩;have aQ:=Aa cT;have dF:=Aa (fun (w5:World) (h5:Ex w2 w5)=>h5.cell c3);have eC:=Aa (fun (w5:World) (h5:Ex w2 w5)=>(⟨h5.cell c0,h5.cell c1,h5.cell c2,h5.cell c3,h5.cell c4⟩:w5.cell? ⟨B,0,none⟩=some (.int .i64 cp)/\w5.cell? ⟨B,1,none⟩=some (.int .i64 cm)/\w5.cell? ⟨B,2,none⟩=some (.slice x3 aL.length y3)/\w5.cell? ⟨B,3,none⟩=some (.int .i64 N)/\w5.cell? ⟨B,4,none⟩=some (.slice x1 aX.length y1)));clear bY cT c0 c1 c2 c4;go_wp2_with fail
  clear c3;have G0:Ex w2 w2.drew:=(Ex.refl w2).drew
  go_cut [23,24,25] from 19 to 25 (fun gv lv zv wx=>∃ga gc,gv= .slice ga LG gc/\lv= .int .i64 LG/\zv= .int .i64 0/\Hia (W9 w2.heap.size wx gv GS)/\Hia (Ex w2 wx))
  case first=>
   go_region_held3 (fun w'=>w'.cell? ⟨B,3,none⟩=some (.int .i64 N))
    (first|with_reducible exact dF.o _ X6|with_reducible exact dF.o _ G0)
    (first|(go_at_call 54;(with_reducible refine(dB.o _ G0).mono ?_);rintro e w5⟨rfl,rfl⟩)|(go_at_call 121;(with_reducible refine(bP.o _).mono ?_);rintro e w6⟨v6,cs6,rfl,bJ⟩;have X6:=G0.trans bJ.ex;have dS:=Aa (bJ.gsl.mono (show w2.heap.size<=w2.drew.heap.size from Nat.le_refl _));obtain⟨dM,dL,cG⟩:=Ad bJ.own;rw[aQ.o]at cG;subst cG;clear bJ))
   all_goals
    go_wp2_with fail
    go_meet
    exact⟨dM,dL,rfl,rfl,rfl,dS,Aa X6⟩
  case rest=>
   obtain⟨ga,gc,rfl,rfl,rfl,bI,bS⟩:=hcut;obtain⟨w3,h3⟩:∃x,x=wc:=⟨_,rfl⟩;rw[<-h3]at bI bS ⊢;have aY:=Aa bS.o;have HGL:=Aa bI.o;obtain⟨dN,gc',cN,g1,g2,g3⟩:=bI.o.open;have aT:dN=ga:=by injection cN with e1 e2 e3;exact e1.symm
   have eA:=Aa (show 0<LG->∃b o,ga=some ⟨b,o,none⟩/\∀(i:Nat) (l:B6),GS[i]?=some l->∃u r,w3.cell? ⟨b,o+5*i,none⟩=some (.int .i64 l.i)/\w3.cell? ⟨b,o+(5*i+1),none⟩=some (.int .i64 l.j)/\w3.cell? ⟨b,o+(5*i+2),none⟩=some (.int .i64 l.a)/\w3.cell? ⟨b,o+(5*i+3),none⟩=some u/\w3.cell? ⟨b,o+(5*i+4),none⟩=some r/\Am w3 u l.tl/\Am w3 r l.sl/\(∀X,u.ownBlock=some X->w2.heap.size<=X)/\∀X,r.ownBlock=some X->w2.heap.size<=X from fun h=>by
    rw[<-aT];exact g3 (by rw[aQ.o];exact h))
   have dA:=Aa (Qq.nil w2.heap.size w3);have dC:=Aa (show LG<=1048576 from by rw[<-aQ.o,<-dY.o];have:=NV N q HN.o.2.1 dV.o N;have:=HN.o.2.1;unfold Dn;omega);clear bI bS g1 g2 g3 cN aT h3 G0 bP;go_wp2_with fail
   go_loopw [2,3,4,25] (fun pv mv nv k' wr=>∃(k:Nat) (cs ds:List (Value × Value)),pv= .pointer (some ⟨b,0,none⟩)/\k<=LG/\k'= .int .i64 k/\Ni C (GS.take k)=none/\Hia (Qq w2.heap.size w3 wr mv nv (Da C (GS.take k)) cs (Jg C (GS.take k)) ds)) (fun _ _ _ k' _=>LG-(intOf k').toNat)
   case atStart=>exact⟨0, [], [],rfl,ac,rfl,rfl,dA⟩
   case round=>
    clear dA;obtain⟨k,cs,ds,rfl,hk,rfl,aW,hr⟩:=hrel;obtain⟨ma,mc,rfl⟩:=Ad hr.o.mown;obtain⟨na,nc,rfl⟩:=Ad hr.o.nown;by_cases hkl:k<LG
    .obtain⟨gb,go,rfl,cK⟩:=eA.o ac;obtain⟨g,hg⟩:∃g,GS[k]?=some g:=⟨_,List.getElem?_eq_getElem (by rw[aQ.o];exact hkl)⟩;obtain⟨u,r,d0,d1,d2,d3,d4,hu,bW,cP,cQ⟩:=cK k g hg;have dG:=Aa cP;have dH:=Aa cQ;clear cP cQ;obtain⟨ua,uc,rfl,-,-,-⟩:=hu.open;obtain⟨ra,rc,rfl,-,-,-⟩:=bW.open;rw[AM]at d3;rw[BJ]at d4;have HU:=Aa hu;have cA:=Aa bW;rw[AM]at HU dG;rw[BJ]at cA dH;replace d0:=hr.o.ex.cell d0;replace d1:=hr.o.ex.cell d1;replace d2:=hr.o.ex.cell d2;replace d3:=hr.o.ex.cell d3;replace d4:=hr.o.ex.cell d4;obtain⟨HR,bE,bF,dZ⟩:=Eq hr.o hg aW (List.mem_of_getElem? hg);rw[show go+5*k=go+k*5 from ac]at d0;rw[show go+(5*k+1)=go+k*5+1 from ac]at d1;rw[show go+(5*k+2)=go+k*5+2 from ac]at d2;rw[show go+(5*k+3)=go+k*5+3 from ac]at d3;rw[show go+(5*k+4)=go+k*5+4 from ac]at d4;have i1:(0:Int)<=(k:Int):=by omega
     have i2:(k:Int)<(LG:Int):=ac;have aD:=Aa hkl;clear hr hg aW hu bW cK hkl;go_upto_region 7 with fail
     obtain⟨XB,aC⟩:∃x,wr.heap.size=x:=⟨_,rfl⟩;have x3:(wr.alloc (.cells #[.int .i64 g.i,.int .i64 g.j,.int .i64 g.a,.slice ua (g.i+1) uc,.slice ra (g.i+1) rc] 129)).cell? ⟨XB,3,none⟩=some (.slice ua (g.i+1) uc):=dd;have x4:(wr.alloc (.cells #[.int .i64 g.i,.int .i64 g.j,.int .i64 g.a,.slice ua (g.i+1) uc,.slice ra (g.i+1) rc] 129)).cell? ⟨XB,4,none⟩=some (.slice ra (g.i+1) rc):=dd;have aH:(wr.alloc (.cells #[.int .i64 g.i,.int .i64 g.j,.int .i64 g.a,.slice ua (g.i+1) uc,.slice ra (g.i+1) rc] 129)).cell? ⟨XB,0,none⟩=some (.int .i64 g.i):=dd;have aG:(wr.alloc (.cells #[.int .i64 g.i,.int .i64 g.j,.int .i64 g.a,.slice ua (g.i+1) uc,.slice ra (g.i+1) rc] 129)).cell? ⟨XB,1,none⟩=some (.int .i64 g.j):=dd;have aF:(wr.alloc (.cells #[.int .i64 g.i,.int .i64 g.j,.int .i64 g.a,.slice ua (g.i+1) uc,.slice ra (g.i+1) rc] 129)).cell? ⟨XB,2,none⟩=some (.int .i64 g.a):=dd;have aN:=Aa (show Ex wr (wr.alloc (.cells #[.int .i64 g.i,.int .i64 g.j,.int .i64 g.a,.slice ua (g.i+1) uc,.slice ra (g.i+1) rc] 129)) from(Ex.refl wr).alloc _)
     try simp only[aC]
     have HXB:=Aa aC;clear aC d0 d1 d2 d3 d4 i1 i2;generalize wr.alloc (.cells #[.int .i64 g.i,.int .i64 g.j,.int .i64 g.a,.slice ua (g.i+1) uc,.slice ra (g.i+1) rc] 129)=w5 at *;obtain⟨c0,c1,c2,c3,c4⟩:=eC.o w5 (aY.o.trans (HR.o.ex.trans aN.o));have cD:=Aa (cE.o w5 (aZ.o.trans (aY.o.trans (HR.o.ex.trans aN.o))) g _ _ dZ.o (HU.o.ex (HR.o.ex.trans aN.o)) (cA.o.ex (HR.o.ex.trans aN.o)));obtain⟨EE,bZ⟩:∃x,gE C g=x:=⟨_,rfl⟩;rw[bZ]at cD;have aE:=Aa bZ;go_wp2_with fail
     refine cD.o.mono ?_;rintro e w6⟨⟨u6,r6,rfl,bV,bX,cM,cL⟩,aI⟩;rw[SO];obtain⟨cW,cZ,dE,dD⟩:=Eq bV bX cM cL;obtain⟨a6,b6,rfl,-,-,-⟩:=bV.open;obtain⟨a7,b7,rfl,-,-,-⟩:=bX.open;obtain⟨LP,cS⟩:∃x,(gM C g).perm.length=x:=⟨_,rfl⟩;obtain⟨LS,cR⟩:∃x,(gM C g).scale.length=x:=⟨_,rfl⟩;rw[cS]at cW dE ⊢;rw[cR]at cZ dD ⊢;have dO:=Aa (aN.o.trans aI);replace aH:=aI.cell aH;replace aG:=aI.cell aG;replace aF:=aI.cell aF;replace x3:=aI.cell x3;replace x4:=aI.cell x4;obtain⟨t0,t1,t2,et⟩:=Bo w6 (.slice a6 LP b6) (.slice a7 LS b7) 0;obtain⟨TB,bK⟩:∃x,w6.heap.size=x:=⟨_,rfl⟩;rw[bK]at t0 t1 t2;have cV:=Aa (dO.o.trans et);replace aH:=et.cell aH;replace aG:=et.cell aG;replace aF:=et.cell aF;replace x3:=et.cell x3;replace x4:=et.cell x4;have dP:=Aa (cW.o.ex et);have dU:=Aa (cZ.o.ex et);have HTB:=Aa bK;clear bV bX cM cL cS cR aI et cD bZ c0 c1 c2 c3 c4;go_upto_region 8 with fail
     try simp only[bK]
     clear bK;generalize w6.alloc (.cells #[.slice a6 LP b6,.slice a7 LS b7,.int .i64 0] 26)=w7 at *;obtain⟨LM,bM⟩:∃x,(Da C (GS.take k)).length=x:=⟨_,rfl⟩;obtain⟨LN,bL⟩:∃x,(Jg C (GS.take k)).length=x:=⟨_,rfl⟩;have bO:=Aa (show LM<=1048576/\LN<=1048576 from by
      have hkk:=aD.o;have hl:=dC.o;constructor
      .rw[<-bM];unfold Da;rw[List.length_map];exact Nat.le_trans (List.length_filter_le _ _) bn
      .rw[<-bL];unfold Jg;exact Nat.le_trans (List.length_filter_le _ _) bn)
     rw[bM,bL]at HR ⊢;have bD:=Aa bM;have bC:=Aa bL;have bA:=Aa (HR.o.later cV.o);have hk64:k<=1048576:=by have:=aD.o;have:=dC.o;omega
     have dI:=Aa (show(∀c:Value,(∀X,c.ownBlock=some X->w5.heap.size<=X)->AQ c (.slice ma LM mc)/\AQ c (.slice na LN nc)) from fun c hc=>
      ⟨Gp hc fun X e=>Nat.lt_of_lt_of_le (HR.o.mown.lt X e).2 aN.o.size,Gp hc fun X e=>Nat.lt_of_lt_of_le (HR.o.nown.lt X e).2 aN.o.size⟩)
     have cX:=Aa bA.o.ex.size;clear bM bL;by_cases h0:EE=0
     .subst h0;have HM:=Aa (XJ bE.o aE.o);have bG:=Aa (U2 bE.o bF.o (.inl aE.o));have cC:=Aa (show w7.ownsRow w3.heap.size 26 3 (.slice ma LM mc) LM (T5 (Da C (GS.take k)) cs) from by have:=bA.o.mown;rwa[bD.o]at this);go_wp2_with (at_builtin;refine Al _ rfl _ _ 68 rfl w3.heap.size 26 (.agg #[.slice none 0 0,.slice none 0 0,.int .i64 0]) 3 56 Tryz.underlying68 VW rfl ae _ LM _ rfl cC.o [.slice a6 LP b6,.slice a7 LS b7,.int .i64 0] 26 _ rfl ag rfl aj (by have:=bO.o.1;unfold maxLen;omega) (by have:=bO.o.1;omega) cX.o ?_)
      intro v8 w8 aJ;have aA:Bn w7 w8 w3.heap.size 26 3 (.slice ma LM mc) v8 (Da C (GS.take k)).length (T5 (Da C (GS.take k)) cs) [.slice a6 LP b6,.slice a7 LS b7,.int .i64 (gM C g).frob]:=by rw[SO,bD.o];exact aJ
      have HN:=Aa (bA.o.appM dP.o dU.o (dI.o _ dE.o) (dI.o _ dD.o) aA);rw[<-HM.o.1,<-HM.o.2]at HN;obtain⟨ma8,mc8,rfl⟩:=Ad aJ.own;exact zba
     .by_cases h11:EE=11
      .subst h11;have HM:=Aa (XI bE.o aE.o);have bG:=Aa (U2 bE.o bF.o (.inr aE.o));have cC:=Aa (show w7.ownsRow w3.heap.size 129 5 (.slice na LN nc) LN (Fq (Jg C (GS.take k)) ds) from by have:=bA.o.nown;rwa[bC.o]at this);clear h0;go_wp2_with (at_builtin;refine Al _ rfl _ _ 109 rfl w3.heap.size 129 (.agg #[.int .i64 0,.int .i64 0,.int .i64 0,.slice none 0 0,.slice none 0 0]) 5 72 Tryz.underlying109 PD rfl ae _ LN _ rfl cC.o [.int .i64 (g.i:Int),.int .i64 (g.j:Int),.int .i64 (g.a:Int),.slice ua (g.i+1) uc,.slice ra (g.i+1) rc] 129 _ rfl ag rfl aj (by have:=bO.o.2;unfold maxLen;omega) (by have:=bO.o.2;omega) cX.o ?_)
       intro v8 w8 aJ;have aA:Bn w7 w8 w3.heap.size 129 5 (.slice na LN nc) v8 (Jg C (GS.take k)).length (Fq (Jg C (GS.take k)) ds) [.int .i64 (g.i:Int),.int .i64 (g.j:Int),.int .i64 (g.a:Int),.slice ua (g.i+1) uc,.slice ra (g.i+1) rc]:=by rw[bC.o];exact aJ
       have HN:=Aa (bA.o.appN HU.o cA.o dG.o dH.o aA);rw[<-HM.o.1,<-HM.o.2]at HN;obtain⟨na8,nc8,rfl⟩:=Ad aJ.own;exact zba
      .have k0:(EE==0)=false:=by simpa using h0
       have k11:(EE==11)=false:=by simpa using h11
       have cY:=Aa (XL bE.o bF.o (by rw[aE.o];exact h0) (by rw[aE.o];exact h11));have dT:=Aa (show Ni C GS≠none from fun hn=>by
        have h1:=cY.o;unfold WZ at h1;rw[hn,aE.o]at h1;exact h0 h1.symm)
       clear h0 h11 aH aG aF x3 x4 t0 t1 t2;go_wp2_with fail
       exact bodyPost_ret (v:= .tuple #[.pointer none,.slice none 0 0,.slice none 0 0,.int .i64 EE]) dr rfl ⟨cB.o _ _ ⟨e0,bQ.o,.inr (.inl ⟨bN.o,by rw[aO.o];exact dT.o,by rw[aO.o,cY.o,aE.o]⟩)⟩,aM.o.trans (aZ.o.trans (aY.o.trans (HR.o.ex.trans cV.o)))⟩
    .obtain rfl:LG=k:=by omega
     have aV:Ni C GS=none:=by rw[<-aQ.o,List.take_length]at aW;exact aW
     obtain⟨HR,dX,dW,dR,dQ,bF⟩:=To hr.o hr.o.msl hr.o.nsl (show Da C GS=Da C (GS.take LG) from by rw[<-aQ.o,List.take_length]) (show Jg C GS=Jg C (GS.take LG) from by rw[<-aQ.o,List.take_length]) aV;clear hr aW aV;go_wp2_with fail
     exact bodyPost_ret (v:= .tuple #[.pointer (some ⟨b,0,none⟩),.slice ma (Da C (GS.take LG)).length mc,.slice na (Jg C (GS.take LG)).length nc,.int .i64 0]) dr rfl ⟨cB.o _ _ ⟨e0,bQ.o,.inr (.inr ⟨bN.o,by rw[aO.o];exact bF.o,pn,mn,N,b,x0,_,_,bB.o.1,bB.o.2.1,bB.o.2.2,HN.o.1,HN.o.2.1,HN.o.2.2,rfl,HG.o.ex (aY.o.trans HR.o.ex),cU.o.1,cU.o.2,by rw[aO.o,dR.o];exact dX.o,by rw[aO.o,dQ.o];exact dW.o.mono (Nat.le_trans aM.o.size aZ.o.size)⟩)⟩,aM.o.trans (aZ.o.trans (aY.o.trans HR.o.ex))⟩
def Ee(p m:Nat)(ml:List Int)(Ms:List CL):List (List Int):=Ms.map fun M=>OA p m ml M.perm M.scale
def Om(N:Nat)(M:CL):Prop:=M.perm.length=N/\M.scale.length=N/\BU M.perm N=true
theorem Lb{n:Int}{rows:List (List Int)}{l:Lv}(h:l∈(C7 n rows).1.lev):2<=l.orb.length/\2<=l.reps.length/\∀r∈l.reps,2<=r.length:=by
 unfold C7 at h;split at h
 .cases h
 .exact Qd h
theorem boxCn(w:World):(w.alloc (.cells #[.int .i64 0,.slice none 0 0] 43)).cell? ⟨w.heap.size,0,none⟩=some (.int .i64 0)/\(w.alloc (.cells #[.int .i64 0,.slice none 0 0] 43)).cell? ⟨w.heap.size,1,none⟩=some (.slice none 0 0)/\
  (∀j,2<=j->(w.alloc (.cells #[.int .i64 0,.slice none 0 0] 43)).cell? ⟨w.heap.size,j,none⟩=none)/\(w.alloc (.cells #[.int .i64 0,.slice none 0 0] 43)).frozen? ⟨w.heap.size,0,none⟩=false/\(w.alloc (.cells #[.int .i64 0,.slice none 0 0] 43)).frozen? ⟨w.heap.size,1,none⟩=false:=
 ⟨ag,ag,fun j hj=>by
  obtain⟨i,rfl⟩:∃i,j=i+2:=⟨j-2,ac⟩;simp,ag,ag⟩
structure BxN(w:World)(b:Nat):Prop where
 c0:w.cell? ⟨b,0,none⟩=some (.int .i64 0)
 c1:w.cell? ⟨b,1,none⟩=some (.slice none 0 0)
 c2:∀j,2<=j->w.cell? ⟨b,j,none⟩=none
 f0:w.frozen? ⟨b,0,none⟩=false
 f1:w.frozen? ⟨b,1,none⟩=false
theorem BxN.new(w:World):BxN (w.alloc (.cells #[.int .i64 0,.slice none 0 0] 43)) w.heap.size:=by
 obtain⟨a,b,c,d,e⟩:=boxCn w;exact⟨a,b,c,d,e⟩
theorem BxN.ex{w w':World}{b:Nat}(h:BxN w b)(hx:Ex w w'):BxN w' b:=⟨hx.cell h.c0,hx.cell h.c1,fun j hj=>(Below.cell hx (show(⟨b,j,none⟩:Addr).block<w.heap.size from(World.block_lt_of_cell? _ (⟨b,0,none⟩:Addr) h.c0:b<w.heap.size))).trans (h.c2 j hj),hx.frz h.c0 h.f0,hx.frz h.c1 h.f1⟩
theorem Jz{w0 w:World}{q:Nat}(hx:Ex w0 w)(hq:w0.heap.size<=q)(u v:Value):Ex w0 ((w.setCell ⟨q,0,none⟩ u).setCell ⟨q,1,none⟩ v):=(hx.setCell (p:=⟨q,0,none⟩) hq _).setCell (p:=⟨q,1,none⟩) hq _
section
variable {b p m x0:Nat} {ml:List Int}
theorem Jm(w:World)(hg:A9 w b p m ml x0)(N:Nat)(hN:N<=64)(hd:N*(p^m-1)<=64)(Ms:List CL)(mv:Value)(hM:Oo w mv Ms)(aF:∀M∈Ms,Om N M)(aG:Ms.length<=1000):
  Calls Tryz.prog 64 #[.pointer (some ⟨b,0,none⟩),.int .i64 N,mv] w fun r w'=>Zn ((N*(p^m-1):Nat):Int) (Ee p m ml Ms) r w'/\Ex w w':=by
 have bJ:=Aa (BxN.new w);have aU:=Aa (fun (w1:World) (h:Ex w w1) (M:CL) (hM:M∈Ms) (u v:Value) (hu:Am w1 u M.perm) (hv:Am w1 v M.scale)=>Q7 w1 (hg.ex h) N hN M.perm M.scale u v hu hv (aF M hM).1 (aF M hM).2.1 (aF M hM).2.2 hd M.frob);have bL:2<=p^m:=Nat.le_trans hg.sh.p2 (Nat.le_self_pow (by have:=hg.sh.m1;omega) p);have bK:=hg.sh.q;have bE:=Aa (fun w1 (h:Ex w w1)=>Cr w1 (hg.ex h));have bW:=Aa (fun (M:CL) (hM:M∈Ms)=>(show OA p m ml M.perm M.scale=il (N*(p^m-1)) (Qy p m ml M.perm M.scale) from by unfold OA;rw[(aF M hM).1]));obtain⟨GL,aM⟩:∃g,Ee p m ml Ms=g:=⟨_,rfl⟩;have aX:=Aa (show ∀k (M:CL),Ms[k]?=some M->GL.take (k+1)=GL.take k ++ [il (N*(p^m-1)) (Qy p m ml M.perm M.scale)] from fun k M h=>by
  rw[<-aM,<-bW.o M (List.mem_of_getElem? h)];exact El (by unfold Ee;rw[List.getElem?_map,h];rfl))
 have aV:=Aa (show GL.length=Ms.length from by rw[<-aM];unfold Ee;rw[List.length_map]);rw[aM];have HM:=Aa hM;obtain⟨q,hq⟩:=nA (p^m);rw[hq]at bE aU aX bL bK hd ⊢;obtain⟨D,hD⟩:=nA (N*(q-1));have kD:(N:Int)*((q:Int)-1)=(D:Int):=by rw[<-hD,Int.natCast_mul,Int.natCast_sub ac];rfl
 rw[hD]at aU aX hd ⊢;obtain⟨ma,mc,rfl,z1,z2,m3⟩:=hM.open;unfold maxLen at z2;have M3:=Aa m3;obtain⟨LM,aS⟩:∃n,Ms.length=n:=⟨_,rfl⟩;rw[aS]at HM M3 aV z1 aG ⊢;have bS:=Aa aS;have bV:=Aa kD;clear hg hM aF m3 aS aM hD hq kD;go_enter Tryz.func64,Tryz.ntmps64
 go_upto_region 1 with fail
 obtain⟨RB,aL⟩:∃x,w.heap.size=x:=⟨_,rfl⟩;rw[aL]at bJ;have aT:=Aa (show Ex w (w.alloc (.cells #[.int .i64 0,.slice none 0 0] 43)) from(Ex.refl w).alloc _)
 try simp only[aL]
 have bQ:=Aa aL;clear aL;generalize w.alloc (.cells #[.int .i64 0,.slice none 0 0] 43)=w1 at *;have bD:=Aa (Bv.nil w1 w1.heap.size);go_wp2_with fail
 go_loopw [8,13] (fun gv k' wr=>∃(k:Nat) (vals:List Value),k<=LM/\k'= .int .i64 k/\Hia (Bv wr w1.heap.size gv (GL.take k) vals)/\Hia (Ex w1 wr)) (fun _ k' _=>LM-(intOf k').toNat)
 case atStart=>exact⟨0, [],ac,rfl,bD,Ex.refl _⟩
 case round=>
  clear bD;obtain⟨k,vals,hk,rfl,hr,hx⟩:=hrel;obtain⟨ga,gc,rfl⟩:=Ad hr.o.cvo;by_cases hkl:k<LM
  .obtain⟨mb,mo,rfl,aY⟩:=M3.o ac;obtain⟨M,hM⟩:∃M,Ms[k]?=some M:=⟨_,List.getElem?_eq_getElem (by rw[bS.o];exact hkl)⟩;obtain⟨u,r,d0,d1,d2,hu,aQ⟩:=aY k M hM;obtain⟨ua,uc,rfl,-,-,-⟩:=hu.open;obtain⟨ra,rc,rfl,-,-,-⟩:=aQ.open;have aE:=Aa (aT.o.trans hx.o);replace d0:=aE.o.cell d0;replace d1:=aE.o.cell d1;replace d2:=aE.o.cell d2;rw[show mo+3*k=mo+k*3 from ac]at d0;rw[show mo+(3*k+1)=mo+k*3+1 from ac]at d1;rw[show mo+(3*k+2)=mo+k*3+2 from ac]at d2;have HU:=Aa (hu.ex aE.o);have bC:=Aa (aQ.ex aE.o);obtain⟨LP,bA⟩:∃x,M.perm.length=x:=⟨_,rfl⟩;obtain⟨LS,aZ⟩:∃x,M.scale.length=x:=⟨_,rfl⟩;rw[bA]at d0 HU;rw[aZ]at d1 bC;have HR:=Aa hr.o;have HX:=Aa hx.o;have bG:=Aa hM;have i1:(0:Int)<=(k:Int):=by omega
   have i2:(k:Int)<(LM:Int):=ac;have aW:=Aa hkl;obtain⟨TB,aK⟩:∃x,wr.heap.size=x:=⟨_,rfl⟩;obtain⟨t0,t1,t2,et⟩:=Bo wr (.slice ua LP uc) (.slice ra LS rc) M.frob;rw[aK]at t0 t1 t2;have aD:=Aa et;clear hr hx hM hu aQ aY hkl bA aZ et;go_upto_region 5 with fail
   try simp only[aK]
   have HTB:=Aa aK;clear aK d0 d1 d2 i1 i2;generalize wr.alloc (.cells #[.slice ua LP uc,.slice ra LS rc,.int .i64 M.frob] 26)=w5 at *;have aO:=Aa (aU.o w5 (aE.o.trans aD.o) M (List.mem_of_getElem? bG.o) _ _ (HU.o.ex aD.o) (bC.o.ex aD.o));go_wp2_with fail
   refine aO.o.mono ?_;rintro e w6⟨v6,rfl,aR,aB⟩;have bF:=Aa aR;obtain⟨va,vc,rfl⟩:=Ad aR;have aC:=Aa (aD.o.trans aB);obtain⟨LG,aA⟩:∃x,(GL.take k).length=x:=⟨_,rfl⟩;have bT:=Aa aA;have bH:=Aa (show LG<=1000 from by rw[<-aA,List.length_take];omega);rw[aA]at HR ⊢;have bR:=Aa (show w6.ownsRow w1.heap.size 22 1 (.slice ga LG gc) LG vals from by have:=(HR.o.ex aC.o).cvo;rwa[aA]at this);have bP:=Aa (HX.o.trans aC.o).size;have hkb:k<=1000:=by omega
   clear aR aB t0 t1 t2 aO aA;go_wp2_with (at_builtin;refine Al _ rfl _ _ 37 rfl w1.heap.size 22 (.slice none 0 0) 1 24 Tryz.underlying37 BH rfl ae _ LG vals rfl bR.o [.slice va D vc] 22 _ rfl ag rfl aj (by have:=bH.o;unfold maxLen;omega) (by have:=bH.o;omega) bP.o ?_)
   intro v8 w8 aJ;have aH:Bn w6 w8 w1.heap.size 22 1 (.slice ga LG gc) v8 (GL.take k).length vals [.slice va D vc]:=by rw[bT.o];exact aJ
   have HN:=Aa ((HR.o.ex aC.o).app (L:=il D (Qy p m ml M.perm M.scale)) (by rw[An,Cf];exact Fy bF.o (Nat.le_trans HX.o.size aD.o.size)) (Gp (fun X e=>Nat.le_trans aD.o.size (bF.o.lt X e).1) (fun X e=>(HR.o.cvo.lt X e).2)) aH);rw[<-aX.o k M bG.o]at HN;have bB:=Aa (aJ.ex (HX.o.trans aC.o) (Nat.le_refl _));obtain⟨ga8,gc8,rfl⟩:=Ad aJ.own;clear aJ aH;go_wp2_with fail
   go_roundw
   case rel=>first|exact⟨k+1,_,by have:=aW.o;omega,by go_num,HN,bB⟩|((repeat apply Exists.intro);exact⟨⟨k+1,_,by have:=aW.o;omega,by go_num,HN,bB⟩,rfl⟩)
   case measure=>have:=aW.o;simp[intOf];omega
  .obtain rfl:LM=k:=by omega
   have bO:=Aa (show GL.take LM=GL from List.take_of_length_le (by rw[aV.o];exact Nat.le_refl _));rw[bO.o]at hr ⊢;obtain⟨HX,HMS,bI,aO⟩:=Eq hx.o hr.o.msl (MZ wr (D:Int) GL _ hr.o.msl (by rw[aV.o];exact aG)) (bE.o wr (aT.o.trans hx.o));have k3:=bV.o;obtain⟨BS,aN⟩:∃x,C7 (D:Int) GL=x:=⟨_,rfl⟩;have bX:=Aa aN;obtain⟨⟨bd,bl⟩,be⟩:=BS;have aI:=Aa (show Calls Tryz.prog 123 #[.int .i64 (D:Int),.slice ga GL.length gc] wr fun r w'=>(∃v,r= .returned (.tuple #[.agg #[.int .i64 bd,v],.int .i64 be])/\EF w' v bl)/\Ex wr w' from bI.o.mono (by
    rintro r w'⟨⟨v,h1,h2⟩,h3⟩;rw[aN]at h1 h2;exact⟨⟨v,h1,h2⟩,h3⟩))
   have bY:=Aa (show ∀l∈bl,2<=l.orb.length/\2<=l.reps.length/\∀r∈l.reps,2<=r.length from fun l hl=>Lb (n:=(D:Int)) (rows:=GL) (by rw[aN];exact hl));obtain⟨LG,aA⟩:∃x,GL.length=x:=⟨_,rfl⟩;rw[aA]at aI ⊢;have HQ:=Aa (bJ.o.ex hx.o);clear hr hx bI aN aA;go_wp2_with (first|(go_at_call 54;refine aO.o.mono ?_;rintro e w5⟨rfl,rfl⟩)|(go_at_call 123;refine aI.o.mono ?_;rintro e w6⟨⟨v6,rfl,aP⟩,aB⟩;obtain⟨la,lc,bM,_,_,_⟩:=aP.open;subst bM;obtain⟨q0,q1,q2,qf0,qf1⟩:=HQ.o.ex aB;have bN:=Aa aP;have aC:=Aa aB;clear aP aB))
   have bU:=Aa (bN.o.set2 q0 q1 q2 bY.o (.int .i64 bd) (.slice la bl.length lc));exact bodyPost_ret (v:= .tuple #[.agg #[.int .i64 bd,.slice la bl.length lc],.int .i64 be]) (by simp[results,Tryz.results64,go_sem,q0,q1]) rfl ⟨JO bX.o bU.o,Jz (aT.o.trans (HX.o.trans aC.o)) (Nat.le_of_eq bQ.o) _ _⟩
end
def AD(c:AU):List B6:=Dn c.n.toNat (c.p.toNat^c.m.toNat)
def Fa(c:AU):Nat:=c.n.toNat*(c.p.toNat^c.m.toNat-1)
theorem O3{c:AU}{gs:List B6}(h:Ni c gs=none):WZ c gs=0:=by unfold WZ;rw[h]
theorem Z4{c:AU}{gs:List B6}(h:Ni c gs≠none):WZ c gs≠0:=by
 unfold WZ
 cases hb:Ni c gs with
 | none=>exact absurd hb h
 | some g=>
  unfold Ni at hb;have:=List.find?_some hb;intro e;have e2:gE c g=0:=e;simp[e2]at this
def Jt(c:AU)(e0:Int):Int:=if Ip c e0≠0 then Ip c e0 else WZ c (AD c)
def GrO(c:AU)(r:Ending)(w':World):Prop:=∃e0:Int,BN c.p c.m c.ml c.n c.rows e0/\
 ((Jt c e0≠0/\r= .returned (.tuple #[.agg #[.int .i64 0,.slice none 0 0],.int .i64 (Jt c e0)]))∨(Jt c e0=0/\Zn (Fa c:Int) (Ee c.p.toNat c.m.toNat c.ml (Da c (AD c))) r w'))
def RnO(b0:Nat)(c:AU)(r:Ending)(w':World):Prop:=∃e0:Int,BN c.p c.m c.ml c.n c.rows e0/\
 ((Jt c e0≠0/\r= .returned (.tuple #[.pointer none,.slice none 0 0,.slice none 0 0,.int .i64 (Jt c e0)]))∨
 (Jt c e0=0/\Ni c (AD c)=none/\∃(pn mn N b x0:Nat) (mv nv:Value),c.p=pn/\c.m=mn/\c.n=N/\1<=N/\N<=64/\N*(pn^mn-1)<=64/\r= .returned (.tuple #[.pointer (some ⟨b,0,none⟩),mv,nv,.int .i64 0])/\
   A9 w' b pn mn c.ml x0/\1<=x0/\x0<pn^mn/\Oo w' mv (Da c (AD c))/\W9 b0 w' nv (Jg c (AD c))))
theorem QO{b0:Nat}{c:AU}{r:Ending}{w':World}(h:Zh b0 c r w'):RnO b0 c r w':=by
 obtain⟨e0,h1,h2|⟨h2,h3,h4⟩|⟨h2,h3,h4⟩⟩:=h
 .have:Jt c e0=Ip c e0:=by unfold Jt;rw[if_pos h2.1]
  exact⟨e0,h1,.inl ⟨by rw[this];exact h2.1,by rw[this];exact h2.2⟩⟩
 .have:Jt c e0=WZ c (AD c):=by unfold Jt;rw[if_neg (by rw[h2];simp)]
  exact⟨e0,h1,.inl ⟨by rw[this];exact Z4 h3,by rw[this];exact h4⟩⟩
 .have:Jt c e0=0:=by unfold Jt;rw[if_neg (by rw[h2];simp)];exact O3 h3
  exact⟨e0,h1,.inr ⟨this,h3,h4⟩⟩
theorem EU(w:World)(c:AU)(m1 v1:Value)(hc:c.at w m1 v1)(aC:(Da c (AD c)).length<=1000)(aO:∀M∈Da c (AD c),Om c.n.toNat M):
  Calls Tryz.prog 22 #[c.arg m1 v1] w fun r w'=>GrO c r w'/\Ex w w':=by
 obtain⟨c0,c1,c2,c3,c4⟩:=C6 w c m1 v1;have aJ:=AJ w (c.obj m1 v1);obtain⟨x1,y1,aN,-,z1,-⟩:=hc.g.open;obtain⟨x3,y3,aM,-,z3,-⟩:=hc.m.open;unfold maxLen at z1 z3;obtain⟨B,hB⟩:=nA w.heap.size;have aW:(w.alloc (c.obj m1 v1)).heap.size=B+1:=by simp[hB]
 have aF:=BxN.new (w.alloc (c.obj m1 v1));have aB:Ex (w.alloc (c.obj m1 v1)) ((w.alloc (c.obj m1 v1)).alloc (.cells #[.int .i64 0,.slice none 0 0] 43)):=(Ex.refl _).alloc _;have aD:=Aa (Iy ((w.alloc (c.obj m1 v1)).alloc (.cells #[.int .i64 0,.slice none 0 0] 43)) c m1 v1 (hc.ex (aJ.trans aB)));rw[aW]at aF;rw[hB]at c0 c1 c2 c3 c4;replace c0:=aB.cell c0;replace c1:=aB.cell c1;replace c2:=aB.cell c2;replace c3:=aB.cell c3;replace c4:=aB.cell c4;have aG:=Aa (aJ.trans aB);have aH:=Aa aF;obtain⟨C,hC⟩:∃C:AU,C=c:=⟨_,rfl⟩;have bN:=Aa hC;have aY:=Aa (show ∀r w',GrO C r w'->GrO c r w' from fun r w' h=>by rw[<-hC];exact h);rw[<-hC]at aC aO;obtain⟨cp,cm,bG,cn,bF⟩:=c;unfold AU.arg at aD ⊢;unfold AU.obj at aG aD aH c0 c1 c2 c3 c4;dsimp only at aG aD aH c0 c1 c2 c3 c4 aN aM ⊢;rw[aN,aM]at aG aD aH c0 c1 c2 c3 c4 ⊢;rw[<-hC]at aD;have bL:=Aa aC;have bK:=Aa aO;clear hc aJ hC aN aM aB aF aW aC aO;have aZ:=Aa (show w.heap.size<=B+1 from ac);go_enter Tryz.func22,Tryz.ntmps22
 go_upto_region 1 with fail
 try simp only[hB]
 clear hB;generalize (w.alloc (.cells #[.int .i64 cp,.int .i64 cm,.slice x3 bG.length y3,.int .i64 cn,.slice x1 bF.length y1] 39)).alloc (.cells #[.int .i64 0,.slice none 0 0] 43)=w1 at *;go_wp2_with fail
 refine aD.o.mono ?_;rintro e w2⟨aE,aA⟩;have aR:=Aa aA;obtain⟨e0,aX,ho⟩:=QO aE;have bC:=Aa aX;replace c0:=aA.cell c0;replace c1:=aA.cell c1;replace c2:=aA.cell c2;replace c3:=aA.cell c3;replace c4:=aA.cell c4;obtain⟨q0,q1,q2,aV,aU⟩:=aH.o.ex aA;obtain⟨GE,aQ⟩:∃x,Jt C e0=x:=⟨_,rfl⟩;rw[aQ]at ho;have aS:=Aa aQ;clear aE aA aX aD aQ;rcases ho with⟨h0,rfl⟩|⟨h0,aF,pn,mn,N,b,x0,mv,nv,hp,hm,hn,hN1,hN64,hD,rfl,hg,hx1,aA,hms,hns⟩
 .have hb:(GE !=0)=true:=by simpa using h0
  have H0:=Aa h0;clear h0;go_wp2_with fail
  exact bodyPost_ret (v:= .tuple #[.agg #[.int .i64 0,.slice none 0 0],.int .i64 GE]) (by simp[results,Tryz.results22,go_sem,q0,q1]) rfl ⟨aY.o _ _ ⟨e0,bC.o,.inl ⟨by rw[aS.o];exact H0.o,by rw[aS.o]⟩⟩,Jz (aG.o.trans aR.o) aZ.o _ _⟩
 .subst h0;have bE:cn=(N:Int):=by have:=bN.o;rw[this]at hn;exact hn
  subst bE;have bB:=Aa (show Fa C=N*(pn^mn-1)/\Ee C.p.toNat C.m.toNat C.ml (Da C (AD C))=Ee pn mn C.ml (Da C (AD C)) from by unfold Fa;rw[hp,hm,hn];exact⟨rfl,rfl⟩);have bJ:=Aa (show C.n.toNat=N from by rw[hn];rfl);have bA:=Aa (Jm w2 hg N hN64 hD (Da C (AD C)) mv hms (fun M hM=>by have:=bK.o M hM;rwa[bJ.o]at this) bL.o);obtain⟨ma,mc,rfl,-,-,-⟩:=hms.open;obtain⟨na,nc,rfl,-,-,-⟩:=hns.open;obtain⟨BS,aI⟩:∃x,C7 ((N*(pn^mn-1):Nat):Int) (Ee pn mn C.ml (Da C (AD C)))=x:=⟨_,rfl⟩;have bO:=Aa aI;obtain⟨⟨bd,bl⟩,be⟩:=BS;obtain⟨LM,aP⟩:∃x,(Da C (AD C)).length=x:=⟨_,rfl⟩;have aT:=Aa (show Calls Tryz.prog 64 #[.pointer (some ⟨b,0,none⟩),.int .i64 (N:Int),.slice ma LM mc] w2 fun r w'=>(∃v,r= .returned (.tuple #[.agg #[.int .i64 bd,v],.int .i64 be])/\EF w' v bl)/\Ex w2 w' from by
   rw[<-aP];exact bA.o.mono (by
    rintro r w'⟨⟨v,h1,h2⟩,h3⟩;rw[aI]at h1 h2;exact⟨⟨v,h1,h2⟩,h3⟩))
  have bP:=Aa (show ∀l∈bl,2<=l.orb.length/\2<=l.reps.length/\∀r∈l.reps,2<=r.length from fun l hl=>Lb (n:=((N*(pn^mn-1):Nat):Int)) (rows:=Ee pn mn C.ml (Da C (AD C))) (by rw[aI];exact hl));rw[aP];clear aF hp hm hn hN1 hN64 hD hg hx1 aA hms hns aI aP bA;go_wp2_with (go_at_call 64;refine aT.o.mono ?_;rintro e w6⟨⟨v6,rfl,aL⟩,aK⟩;obtain⟨la,lc,bD,_,_,_⟩:=aL.open;subst bD;clear q0 q1 q2 aV aU;obtain⟨q0,q1,q2,aV,aU⟩:=aH.o.ex (aR.o.trans aK);have bI:=Aa aL;have bH:=Aa aK;clear aL aK)
  have bM:=Aa (bI.o.set2 q0 q1 q2 bP.o (.int .i64 bd) (.slice la bl.length lc));exact bodyPost_ret (v:= .tuple #[.agg #[.int .i64 bd,.slice la bl.length lc],.int .i64 be]) (by simp[results,Tryz.results22,go_sem,q0,q1]) rfl ⟨aY.o _ _ ⟨e0,bC.o,.inr ⟨aS.o,by rw[bB.o.1,bB.o.2];exact JO bO.o bM.o⟩⟩,Jz (aG.o.trans (aR.o.trans bH.o)) aZ.o _ _⟩
def CU(Q:Nat->Prop)(w w':World):Prop:=∀X,¬Q X->X<w.heap.size->w'.heap[X]?=w.heap[X]?
theorem CU.refl(Q:Nat->Prop)(w:World):CU Q w w:=fun _ _ _=>rfl
theorem CU.ex{Q:Nat->Prop}{w w':World}(h:Ex w w'):CU Q w w':=fun X _ hX=>h.block X hX
theorem CU.trans{Q:Nat->Prop}{a b c:World}(h:CU Q a b)(k:CU Q b c)(hs:a.heap.size<=b.heap.size):CU Q a c:=fun X hq hX=>(k X hq (Nat.lt_of_lt_of_le hX hs)).trans (h X hq hX)
theorem CU.mono{Q Q':Nat->Prop}{a b:World}(h:CU Q a b)(hq:∀X,X<a.heap.size->Q X->Q' X):CU Q' a b:=fun X hn hX=>h X (fun hx=>hn (hq X hX hx)) hX
theorem CU.set{Q:Nat->Prop}{a b:World}(h:CU Q a b){p:Addr}(hp:Q p.block)(u:Value):CU Q a (b.setCell p u):=fun X hn hX=>by
 rw[<-h X hn hX];exact Below.heap_setCell _ _ _ _ (fun e=>hn (by rw[e];exact hp))
theorem CU.appd{w w':World}{base:Nat}{e:TypeId}{size n:Nat}{v v':Value}{xs news:List Value}(h:Bn w w' base e size v v' n xs news):CU (fun X=>v.ownBlock=some X) w w':=fun X hn hX=>by
 obtain⟨o,hg⟩:=h.gr;rw[hg.block X aq (fun e=>hn e.symm)];exact Below.heap_alloc _ _ _ hX
theorem CU.cell{Q:Nat->Prop}{w w':World}(h:CU Q w w'){p:Addr}{u:Value}(hc:w.cell? p=some u)(hq:¬Q p.block):w'.cell? p=some u:=by
 rw[World.cell?_of_block (w:=w) (w':=w') (h _ hq (World.block_lt_of_cell? _ _ hc))];exact hc
theorem Sl.offQ{Q:Nat->Prop}{w w':World}{v:Value}{n size:Nat}{xs:List Value}(h:Sl w v n size xs)(hv:0<n->∀q,Q q->v.ownBlock≠some q)(hw:CU Q w w'):Sl w' v n size xs:=by
 obtain⟨k1,a,cap,rfl,k3,k4,k5⟩:=h;refine⟨k1,a,cap,rfl,k3,k4,fun hn=>?_⟩;obtain⟨b,o,rfl,k6⟩:=k5 hn;exact⟨b,o,rfl,fun j x hx=>hw.cell (k6 j x hx) (fun hq=>hv hn b hq rfl)⟩
structure Xb(w:World)(q:Nat):Prop where
 c0:w.cell? ⟨q,0,none⟩=some (.int .i64 0)
 c1:w.cell? ⟨q,1,none⟩=some (.slice none 0 0)
 c2:w.cell? ⟨q,2,none⟩=some (.slice none 0 0)
 c3:∀j,3<=j->w.cell? ⟨q,j,none⟩=none
 f0:w.frozen? ⟨q,0,none⟩=false
 f1:w.frozen? ⟨q,1,none⟩=false
 f2:w.frozen? ⟨q,2,none⟩=false
theorem Xb.new(w:World):Xb (w.alloc (.cells #[.int .i64 0,.slice none 0 0,.slice none 0 0] 53)) w.heap.size:=
 ⟨ag,ag,ag,fun j hj=>by
  obtain⟨i,rfl⟩:∃i,j=i+3:=⟨j-3,ac⟩;simp,ag,ag,ag⟩
theorem Xb.ex{w w':World}{b:Nat}(h:Xb w b)(hx:Ex w w'):Xb w' b:=
 ⟨hx.cell h.c0,hx.cell h.c1,hx.cell h.c2,fun j hj=>(Below.cell hx (show(⟨b,j,none⟩:Addr).block<w.heap.size from(World.block_lt_of_cell? _ (⟨b,0,none⟩:Addr) h.c0:b<w.heap.size))).trans (h.c3 j hj),hx.frz h.c0 h.f0,hx.frz h.c1 h.f1,hx.frz h.c2 h.f2⟩
theorem Ko{w:World}{q:Nat}(hb:Xb w q){v:Value}{n size:Nat}{xs:List Value}(h:Sl w v n size xs)(hl:2<=xs.length)(hx:xs[1]?≠some (.slice none 0 0)):v.ownBlock≠some q:=by
 intro e;obtain⟨k1,a,cap,rfl,_,_,k5⟩:=h;have hn:0<n:=by
  exact zcx
 obtain⟨b,o,rfl,k6⟩:=k5 hn;injection e with e;have e:b=q:=e;subst e;have x1:=k6 1 _ (List.getElem?_eq_getElem ac);have h1:xs[1]?=some (xs[1]'ac):=List.getElem?_eq_getElem _;rcases o with _ | _|o
 .rw[show(0:Nat)+1=1 from rfl,hb.c1]at x1;injection x1 with x1;exact hx (by rw[h1,<-x1])
 .rw[show(0:Nat)+1+1=2 from rfl,hb.c2]at x1;injection x1 with x1;exact hx (by rw[h1,<-x1])
 .rw[hb.c3 (o+1+1+1) ac]at x1;cases x1
theorem EF.offQ{Q:Nat->Prop}{w:World}(hQ:∀q,Q q->Xb w q){v:Value}{L:List Lv}(h:EF w v L)(hL:∀l∈L,2<=l.orb.length/\2<=l.reps.length/\∀r∈l.reps,2<=r.length){w':World}(hw:CU Q w w'):EF w' v L:=by
 obtain⟨os,k1,k2,k3⟩:=h;have aA:∀ {y:Value} {l:List Int},Am w y l->2<=l.length->Am w' y l:=fun {y l} hy hl=>
  Sl.offQ hy (fun _ q hq=>Ko (hQ q hq) hy (by rw[A7];exact hl) (by
   unfold Ao;rw[List.getElem?_map]
   cases l[1]? with
   | none=>simp
   | some x=>simp)) hw
 refine⟨os,k1,?_,fun i l o a c=>?_⟩
 .refine Sl.offQ k2 (fun hn q hq=>?_) hw;have hl3:=Nz L os k1;refine Ko (hQ q hq) k2 ac (fun e=>?_);have aC:L[0]?=some (L[0]'hn):=List.getElem?_eq_getElem _;have aB:os[0]?=some (os[0]'ac):=List.getElem?_eq_getElem _;obtain⟨-,g1,-⟩:=NA L os 0 _ _ aC aB;rw[show 3*0+1=1 from rfl,e]at g1;injection g1 with g1;obtain⟨b1,-,-⟩:=hL _ (List.getElem_mem hn);obtain⟨-,a,cap,ha,-⟩:=(k3 0 _ _ aC aB).1;rw[<-g1]at ha;injection ha with _ ha;omega
 .obtain⟨g1,vals,g2,g3⟩:=k3 i l o a c;obtain⟨b1,b2,b3⟩:=hL l (List.mem_of_getElem? a);refine⟨aA g1 b1,vals,?_,fun j r y hr hy=>aA (g3 j r y hr hy) (b3 r (List.mem_of_getElem? hr))⟩;have hvl:vals.length=l.reps.length:=by have:=g2.1;omega
  refine Sl.offQ g2 (fun hn q hq=>Ko (hQ q hq) g2 ac (fun e=>?_)) hw;have aD:l.reps[1]?=some (l.reps[1]'ac):=List.getElem?_eq_getElem _;obtain⟨-,a2,c2,h2,-⟩:=g3 1 _ _ aD e;injection h2 with _ h2;have:=b3 _ (List.getElem_mem (show 1<l.reps.length by omega));omega
structure GF where
 i:Int
 j:Int
 a:Int
 pf:List Rf
def NZ:List GF->List Value->List Value
 | x :: xs,v :: vs=> .int .i64 x.i :: .int .i64 x.j :: .int .i64 x.a :: v :: NZ xs vs
 | _,_=> []
theorem SY:∀(L:List GF) (os:List Value) (i:Nat) (l:GF) (o:Value),L[i]?=some l->os[i]?=some o->(NZ L os)[4*i]?=some (.int .i64 l.i)/\(NZ L os)[4*i+1]?=some (.int .i64 l.j)/\(NZ L os)[4*i+2]?=some (.int .i64 l.a)/\(NZ L os)[4*i+3]?=some o
 | l' :: L,o' :: os,0,l,o,h,k=>by
  simp at h k;subst h k;exact⟨rfl,rfl,rfl,rfl⟩
 | l' :: L,o' :: os,i+1,l,o,h,k=>by
  have:=SY L os i l o az (by simpa using k);rw[show 4*(i+1)=4*i+4 by omega,show 4*i+4+1=4*i+1+4 by omega,show 4*i+4+2=4*i+2+4 by omega,show 4*i+4+3=4*i+3+4 by omega];simpa[NZ]using this
 | [],os,i,l,o,h,k=>by simp at h
 | l' :: L, [],i,l,o,h,k=>by simp at k
theorem SZ:∀(L:List GF) (os:List Value) (l:GF) (o:Value),os.length=L.length->NZ (L ++ [l]) (os ++ [o])=NZ L os ++ [.int .i64 l.i,.int .i64 l.j,.int .i64 l.a,o]
 | [], [],l,o,_=>rfl
 | l' :: L,o' :: os,l,o,h=>by
  have:=SZ L os l o az;simp only[List.cons_append,NZ,this]
 | [],o' :: os,l,o,h=>by simp at h
 | l' :: L, [],l,o,h=>by simp at h
def Lo(w:World)(v:Value)(xs:List GF):Prop:=∃evs:List Value,evs.length=xs.length/\Sl w v xs.length 4 (NZ xs evs)/\∀(i:Nat) (x:GF) (ev:Value),xs[i]?=some x->evs[i]?=some ev->Qz w ev x.pf
theorem Lo.ex{w w':World}{v:Value}{L:List GF}(h:Lo w v L)(hx:Ex w w'):Lo w' v L:=by
 obtain⟨os,h1,h2,h3⟩:=h;exact⟨os,h1,h2.ex hx,fun i l o a b=>(h3 i l o a b).ex hx⟩
theorem Lo.open{w:World}{v:Value}{L:List GF}(h:Lo w v L):∃a cap,v= .slice a L.length cap/\L.length<=cap/\cap<=maxLen/\
  (0<L.length->∃b o,a=some ⟨b,o,none⟩/\∀(i:Nat) (l:GF),L[i]?=some l->∃u,w.cell? ⟨b,o+4*i,none⟩=some (.int .i64 l.i)/\w.cell? ⟨b,o+(4*i+1),none⟩=some (.int .i64 l.j)/\w.cell? ⟨b,o+(4*i+2),none⟩=some (.int .i64 l.a)/\w.cell? ⟨b,o+(4*i+3),none⟩=some u/\Qz w u l.pf):=by
 obtain⟨os,h1,⟨h2,a,cap,h3,h4,h5,h6⟩,h7⟩:=h;refine⟨a,cap,h3,h4,h5,fun hn=>?_⟩;obtain⟨b,o,h8,h9⟩:=h6 hn;refine⟨b,o,h8,fun i l hl=>?_⟩;have hi:=(List.getElem?_eq_some_iff.1 hl).1;have ho:os[i]?=some (os[i]'ac):=List.getElem?_eq_getElem _;obtain⟨g1,g2,g3,g4⟩:=SY L os i l _ hl ho;exact⟨_,h9 _ _ g1,h9 _ _ g2,h9 _ _ g3,h9 _ _ g4,h7 i l _ hl ho⟩
def LH(FB:Nat->Prop)(w:World)(v:Value)(es:List Rf):Prop:=∃mvs:List Value,mvs.length=es.length/\Sl w v es.length 4 (Mi es mvs)/\(∀(i:Nat) (e:Rf) (mv:Value),es[i]?=some e->mvs[i]?=some mv->Am w mv e.msg/\(e.msg≠ []->∀X,mv.ownBlock=some X->¬FB X))/\(es≠ []->∀X,v.ownBlock=some X->¬FB X)
theorem Qs.g{FB:Nat->Prop}{w:World}{v:Value}{es:List Rf}(h:Qs FB w v es):LH FB w v es:=by
 obtain⟨m,h1,h2,h3,h4⟩:=h;exact⟨m,h1,h2,h3,fun _=>h4⟩
theorem LH.rsl{FB:Nat->Prop}{w:World}{v:Value}{es:List Rf}(h:LH FB w v es):Qz w v es:=by
 obtain⟨m,h1,h2,h3,_⟩:=h;exact⟨m,h1,h2,fun i e mv a b=>(h3 i e mv a b).1⟩
theorem Sl.blk{w:World}{v:Value}{n size:Nat}{xs:List Value}(h:Sl w v n size xs)(hn:0<xs.length){X:Nat}(hX:v.ownBlock=some X):X<w.heap.size:=by
 obtain⟨k1,a,cap,rfl,_,_,k5⟩:=h;have aA:0<n:=by
  apply Classical.byContradiction;intro h0;have:n=0:=ac;subst this;omega
 obtain⟨b,o,rfl,k6⟩:=k5 aA;injection hX with hX;have hX:b=X:=hX;subst hX;exact(World.block_lt_of_cell? _ _ (k6 0 _ (List.getElem?_eq_getElem hn)):b<w.heap.size)
theorem LH.off{FB FB':Nat->Prop}{w w':World}{v:Value}{es:List Rf}(h:LH FB w v es)(hw:CU FB w w')(hf:∀X,X<w.heap.size->FB' X->FB X):LH FB' w' v es:=by
 obtain⟨m,h1,h2,h3,h4⟩:=h;have h2l:=Nk es m h1;refine⟨m,h1,Sl.offQ h2 (fun hn q hq e=>h4 (by intro e2;subst e2;simp at hn) q e hq) hw,fun i e mv a b=>?_,fun aA X hX hF=>?_⟩
 .obtain⟨g1,g2⟩:=h3 i e mv a b;refine⟨Sl.offQ g1 (fun hn q hq e2=>g2 (by intro e3;rw[e3]at hn;simp at hn) q e2 hq) hw,fun aA X hX hF=>?_⟩;exact g2 aA X hX (hf X (Sl.blk g1 (by rw[A7];exact List.length_pos_iff.2 aA) hX) hF)
 .exact h4 aA X hX (hf X (Sl.blk h2 (by have:=List.length_pos_iff.2 aA;omega) hX) hF)
def Ug(c:AU)(g:B6):GF:=⟨g.i,g.j,g.a,IC 0 (gF c g)⟩
def IU(c:AU)(gs:List B6):List GF:=gs.map (Ug c)
theorem YC:(Tryz.prog.info? 96).map (fun i=>(i.zero,i.size,i.bytes))=some (some (.agg #[.int .i64 0,.int .i64 0,.int .i64 0,.slice none 0 0]),4,48):=ah
structure Tr(w6 wr:World)(OB RB:Nat)(d:Int)(lv rv:Value)(xs:List GF)(evs:List Value):Prop where
 off:CU (fun X=>X=OB) w6 wr
 size:w6.heap.size<=wr.heap.size
 ob:OB<w6.heap.size
 rb:RB<w6.heap.size
 b0:wr.cell? ⟨OB,0,none⟩=some (.int .i64 d)
 b1:wr.cell? ⟨OB,1,none⟩=some lv
 b2:wr.cell? ⟨OB,2,none⟩=some rv
 f2:wr.frozen? ⟨OB,2,none⟩=false
 own:wr.ownsRow w6.heap.size 96 4 rv xs.length (NZ xs evs)
 len:evs.length=xs.length
 at_:∀(i:Nat) (x:GF) (ev:Value),xs[i]?=some x->evs[i]?=some ev->LH (fun X=>X=OB∨X=RB∨rv.ownBlock=some X) wr ev x.pf
section
variable {w6 wr w':World} {OB RB:Nat} {d:Int} {lv rv v' ev:Value} {xs:List GF} {evs:List Value}
theorem Tr.later(h:Tr w6 wr OB RB d lv rv xs evs)(hx:Ex wr w'):Tr w6 w' OB RB d lv rv xs evs:=
 ⟨h.off.trans (.ex hx) h.size,Nat.le_trans h.size hx.size,h.ob,h.rb,hx.cell h.b0,hx.cell h.b1,hx.cell h.b2,hx.frz h.b2 h.f2,Aj h.own hx,h.len,fun i x e a b=>(h.at_ i x e a b).off (.ex hx) fun X _ hX=>hX⟩
theorem Tr.no(h:Tr w6 wr OB RB d lv rv xs evs):some OB≠rv.ownBlock/\some RB≠rv.ownBlock:=⟨fun e=>by have:=(h.own.lt OB e.symm).1;have:=h.ob;omega,fun e=>by have:=(h.own.lt RB e.symm).1;have:=h.rb;omega⟩
theorem Tr.app(h:Tr w6 wr OB RB d lv rv xs evs){x:GF}(he:LH (fun X=>X=OB∨X=RB∨rv.ownBlock=some X) wr ev x.pf)
  (ha:Bn wr w' w6.heap.size 96 4 rv v' xs.length (NZ xs evs) [.int .i64 x.i,.int .i64 x.j,.int .i64 x.a,ev]):w'.cell? ⟨OB,2,none⟩=some rv/\w'.frozen? ⟨OB,2,none⟩=false/\Tr w6 (w'.setCell ⟨OB,2,none⟩ v') OB RB d lv v' (xs ++ [x]) (evs ++ [ev]):=by
 have aD:=ha.cell h.b2 h.no.1;have aC:=CU.appd ha;have hsz:=ha.grow;have aB:∀X,v'.ownBlock=some X->rv.ownBlock=some X∨wr.heap.size<=X:=fun X hX=>by
  rcases ha.at_ with h1|h1
  .left;rw[<-h1];exact hX
  .right;rw[h1]at hX;injection hX with hX;omega
 have aE:v'.ownBlock≠some OB:=fun e=>by
  rcases aB OB e with h1|h1
  .exact h.no.1 h1.symm
  .have:=h.ob;have:=h.size;omega
 have aA:∀ {e:Value} {es:List Rf},LH (fun X=>X=OB∨X=RB∨rv.ownBlock=some X) wr e es->LH (fun X=>X=OB∨X=RB∨v'.ownBlock=some X) (w'.setCell ⟨OB,2,none⟩ v') e es:=fun {e es} hr=>
  hr.off ((aC.mono fun X _ hX=> .inr (.inr hX)).set (p:=⟨OB,2,none⟩) (.inl rfl) _) fun X hX hF=>by
   rcases hF with hF|hF|hF
   .exact .inl hF
   .exact .inr (.inl hF)
   .rcases aB X hF with h1|h1
    .exact .inr (.inr h1)
    .omega
 refine⟨aD,ha.frz h.b2 h.f2 h.no.1,?_,?_,h.ob,h.rb,?_,?_,World.cell?_setCell_same _ _ _ aD,?_,?_,by simp[h.len],fun i y e a b=>?_⟩
 .refine CU.set (Q:=fun X=>X=OB) ?_ (p:=⟨OB,2,none⟩) rfl _;intro X hn hX;rw[aC X (fun e=>by have:=(h.own.lt X e).1;omega) (Nat.lt_of_lt_of_le hX h.size)];exact h.off X hn hX
 .have:=h.size;simp;omega
 .rw[Af ae];exact ha.cell h.b0 h.no.1
 .rw[Af ae];exact ha.cell h.b1 h.no.1
 .rw[Ay];exact ha.frz h.b2 h.f2 h.no.1
 .have:=Ac (a:=⟨OB,2,none⟩) ha.own aE v';rw[SZ xs evs x ev h.len,List.length_append];exact this
 .by_cases hi:i<xs.length
  .rw[List.getElem?_append_left hi]at a;rw[List.getElem?_append_left d9]at b;exact aA (h.at_ i y e a b)
  .have aF:i=xs.length:=by
    exact zcT
   subst aF;rw[List.getElem?_append_right (Nat.le_refl _)]at a;rw[List.getElem?_append_right (by rw[h.len];exact Nat.le_refl _),h.len]at b;simp at a b;subst a b;exact aA he
end
theorem Tr.start{w4:World}{OB RB:Nat}{d:Int}{lv:Value}(ho:Xb w4 OB)(hr:RB<w4.heap.size):Tr w4 ((w4.setCell ⟨OB,0,none⟩ (.int .i64 d)).setCell ⟨OB,1,none⟩ lv) OB RB d lv (.slice none 0 0) [] []:=
 ⟨CU.set (Q:=fun X=>X=OB) (CU.set (Q:=fun X=>X=OB) (CU.refl _ _) (p:=⟨OB,0,none⟩) rfl _) (p:=⟨OB,1,none⟩) rfl _,ag,(World.block_lt_of_cell? _ (⟨OB,0,none⟩:Addr) ho.c0:OB<w4.heap.size),hr,
  by rw[Af ae];exact World.cell?_setCell_same _ _ _ ho.c0,World.cell?_setCell_same _ _ _ ((Af ae).trans ho.c1),by rw[Af ae,Af ae];exact ho.c2,by rw[Ay,Ay];exact ho.f2,
  World.ownsRow_nil _ _ _ _,rfl,fun i x e h=>by simp at h⟩
theorem J3{w:World}{q:Nat}(u v z:Value):CU (fun X=>X=q) w (((w.setCell ⟨q,0,none⟩ u).setCell ⟨q,1,none⟩ v).setCell ⟨q,2,none⟩ z):=
 CU.set (Q:=fun X=>X=q) (CU.set (Q:=fun X=>X=q) (CU.set (Q:=fun X=>X=q) (CU.refl _ _) (p:=⟨q,0,none⟩) rfl _) (p:=⟨q,1,none⟩) rfl _) (p:=⟨q,2,none⟩) rfl _
theorem Tr.fin{w6 wr:World}{OB RB:Nat}{d:Int}{lv rv:Value}{xs:List GF}{evs:List Value}(h:Tr w6 wr OB RB d lv rv xs evs)(u v z:Value):Lo (((wr.setCell ⟨RB,0,none⟩ u).setCell ⟨RB,1,none⟩ v).setCell ⟨RB,2,none⟩ z) rv xs:=
 ⟨evs,h.len,Sl.offQ (Q:=fun X=>X=RB) (Sl.own h.own) (fun _ q hq e=>by subst hq;exact h.no.2 e.symm) (J3 u v z),fun i x e a b=>
  ((h.at_ i x e a b).off (FB':=fun _=>False) ((J3 u v z).mono fun X _ hX=> .inr (.inl hX)) fun X _ hX=>hX.elim).rsl⟩
def Gf:List Int->List Int->Bool
 | x :: l,y :: k=>if x=y then Gf l k else decide (x<y)
 | _,_=>false
theorem Mq:∀ {l k:List Int} {i:Nat} {x y:Int},l[i]?=some x->k[i]?=some y->x≠y->(∀j,j<i->l[j]?=k[j]?)->Gf l k=decide (x<y)
 | x' :: l,y' :: k,0,x,y,h1,h2,hne,_=>by
  simp at h1 h2;subst h1 h2;unfold Gf;rw[if_neg hne]
 | x' :: l,y' :: k,i+1,x,y,h1,h2,hne,ha=>by
  have h0:=ha 0 ac;simp at h0;subst h0;unfold Gf;rw[if_pos rfl];exact Mq (i:=i) cw (by simpa using h2) hne fun j hj=>by
   have:=ha (j+1) ac;simpa using this
 | [],k,i,x,y,h1,_,_,_=>by simp at h1
 | x' :: l, [],i,x,y,_,h2,_,_=>by simp at h2
theorem Ku:∀ {l k:List Int},(∀j,j<l.length->l[j]?=k[j]?)->Gf l k=false
 | [],k,_=>by unfold Gf;rfl
 | x :: l, [],h=>by
  have:=h 0 ag;simp at this
 | x :: l,y :: k,h=>by
  have h0:=h 0 ag;simp at h0;subst h0;unfold Gf;rw[if_pos rfl];exact Ku fun j hj=>by
   have:=h (j+1) (by simpa using hj);simpa using this
def fixB(b:Nat)(f:Nat->Nat):Bool:=(List.range b).all fun i=>f i==i
theorem Wg(b:Nat)(f:Nat->Nat):fixB b f=true↔AW b f:=by
 unfold fixB AW;rw[List.all_eq_true];exact⟨fun h i hi=>by simpa using h i (List.mem_range.2 hi),fun h i hi=>by simpa using h i (List.mem_range.1 hi)⟩
def BK:Nat:=4294967296
theorem Ig:0<BK:=ae
def vS(f:Nat->Nat):Nat->Nat
 | 0=>0
 | n+1=>vS f n+f n*BK^n
theorem Hj{f g:Nat->Nat}:∀ {n},(∀k,k<n->f k=g k)->vS f n=vS g n
 | 0,_=>rfl
 | n+1,h=>by unfold vS;rw[Hj fun k hk=>h k (by omega),h n (by omega)]
theorem OP{f:Nat->Nat}:∀n,(∀k,k<n->f k<BK)->vS f n<BK^n
 | 0,_=>by unfold vS;decide
 | n+1,h=>by
  have h1:=OP n fun k hk=>h k ac;have h2:f n+1<=BK:=h n ac;have h3:=Nat.mul_le_mul_right (BK^n) h2;rw[Nat.add_mul,Nat.one_mul]at h3;unfold vS;rw[Nat.pow_succ,Nat.mul_comm (BK^n) BK];omega
theorem QE{f:Nat->Nat}{j x:Nat}:∀ {n},j<n->vS (Az f j x) n+f j*BK^j=vS f n+x*BK^j
 | 0,h=>by omega
 | n+1,h=>by
  by_cases e:j=n
  .subst e;unfold vS;have h1:vS (Az f j x) j=vS f j:=Hj fun k hk=>by unfold Az;rw[if_neg ac]
   have h2:Az f j x j=x:=by unfold Az;rw[if_pos rfl]
   rw[h1,h2];omega
  .have h1:=QE (f:=f) (x:=x) (n:=n) (j:=j) ac;have h2:Az f j x n=f n:=by unfold Az;rw[if_neg ac]
   unfold vS;rw[h2];omega
theorem M7{f:Nat->Nat}:∀ {n m},m<=n->(∀k,m<=k->k<n->f k=0)->vS f n=vS f m
 | 0,m,h,_=>by rw[show m=0 by omega]
 | n+1,m,h,h0=>by
  by_cases e:m=n+1
  .rw[e]
  .show vS f n+f n*BK^n=vS f m
   rw[h0 n (by omega) (by omega),Nat.zero_mul,Nat.add_zero];exact M7 (by omega) fun k h1 h2=>h0 k h1 (by omega)
structure I9(n:Nat)(f:Nat->Nat):Prop where
 lt:∀k,k<n->f k<BK
 top:∀m,n=m+1->f m≠0
theorem I9.ge{m:Nat}{f:Nat->Nat}(h:I9 (m+1) f):BK^m<=vS f (m+1):=by
 have h1:1<=f m:=Nat.one_le_iff_ne_zero.2 (h.top m rfl);have:=Nat.mul_le_mul_right (BK^m) h1;unfold vS;omega
theorem I9.len{n m:Nat}{f:Nat->Nat}(h:I9 n f)(hv:vS f n<BK^m):n<=m:=by
 cases n with
 | zero=>omega
 | succ k=>
  have h1:=h.ge;have h2:BK^k<BK^m:=ac;have:=(Nat.pow_lt_pow_iff_right (by decide:1<BK)).1 h2;omega
theorem zck{P:Prop}(h:P:=by
 have:=Nat.mul_le_mul_right (BK^n) h3;rw[Nat.add_mul,Nat.one_mul]at this;omega):P:=h
theorem UH{f g:Nat->Nat}:∀n,(∀k,k<n->f k<BK)->(∀k,k<n->g k<BK)->vS f n=vS g n->∀k,k<n->f k=g k
 | 0,_,_,_,k,hk=>by omega
 | n+1,hf,hg,h,k,hk=>by
  have h1:=OP n fun k hk=>hf k ac;have h2:=OP n fun k hk=>hg k ac;unfold vS at h;have e:f n=g n:=by
   apply Classical.byContradiction;intro aA;rcases Nat.lt_or_gt_of_ne aA with h3|h3
   .have h3:f n+1<=g n:=h3;exact zck
   .have h3:g n+1<=f n:=h3;exact zck
  by_cases e2:k=n
  .subst e2;exact e
  .rw[e]at h;exact UH n (fun k hk=>hf k ac) (fun k hk=>hg k ac) ac k ac
theorem I9.uniq{n m:Nat}{f g:Nat->Nat}(hf:I9 n f)(hg:I9 m g)(h:vS f n=vS g m):n=m/\∀k,k<n->f k=g k:=by
 have h1:n<=m:=hf.len (by rw[h];exact OP m hg.lt);have h2:m<=n:=hg.len (by rw[<-h];exact OP n hf.lt);have e:n=m:=by omega
 subst e;exact⟨rfl,UH n hf.lt hg.lt h⟩
structure RO(N i m:Nat)(a b:Nat->Nat)(f:Nat->Nat)(c j:Nat):Prop where
 lt:∀k,k<N->f k<BK
 zero:∀k,i+m<=k->f k=0
 cl:c<BK
 val:vS f N+c*BK^(i+j)=vS a i*vS b m+a i*vS b j*BK^i
structure RP(N i m:Nat)(a b:Nat->Nat)(f:Nat->Nat):Prop where
 lt:∀k,k<N->f k<BK
 zero:∀k,i+m<=k->f k=0
 val:vS f N=vS a i*vS b m
theorem RP.start(N m:Nat)(a b:Nat->Nat):RP N 0 m a b (fun _=>0):=
 ⟨fun _ _=>Ig,fun _ _=>rfl,by rw[M7 (m:=0) (Nat.zero_le _) fun _ _ _=>rfl];unfold vS;rw[Nat.zero_mul]⟩
theorem RP.inner{N i m:Nat}{a b f:Nat->Nat}(h:RP N i m a b f):RO N i m a b f 0 0:=
 ⟨h.lt,h.zero,Ig,by rw[h.val,Nat.zero_mul];show _=_+a i*0*_;rw[Nat.mul_zero,Nat.zero_mul]⟩
theorem Mp{x y u c:Nat}(hx:x<BK)(hy:y<BK)(hu:u<BK)(hc:c<BK):x*y+u+c<BK*BK:=by
 have h1:x<=BK-1:=ac;have h2:y<=BK-1:=ac;have h3:=Nat.mul_le_mul h1 h2;have h4:(BK-1)*(BK-1)+(BK-1)+(BK-1)<BK*BK:=ae;omega
theorem RO.step{N i m:Nat}{a b f:Nat->Nat}{c j:Nat}(h:RO N i m a b f c j)(hj:j<m)(hN:i+m<=N)(ha:a i<BK)(hb:b j<BK):
  RO N i m a b (Az f (i+j) ((a i*b j+f (i+j)+c)%BK)) ((a i*b j+f (i+j)+c)/BK) (j+1):=by
 refine⟨fun k hk=>?_,fun k hk=>?_,?_,?_⟩
 .unfold Az;split
  .exact Nat.mod_lt _ Ig
  .exact h.lt k hk
 .unfold Az;rw[if_neg ac];exact h.zero k hk
 .exact Nat.div_lt_of_lt_mul (Mp ha hb (h.lt (i+j) ac) h.cl)
 .have h1:=QE (f:=f) (j:=i+j) (x:=(a i*b j+f (i+j)+c)%BK) (n:=N) ac;have h2:=h.val;have h3:=Nat.div_add_mod (a i*b j+f (i+j)+c) BK;generalize (a i*b j+f (i+j)+c)/BK=q at *;generalize (a i*b j+f (i+j)+c)%BK=r at *;generalize vS (Az f (i+j) r) N=V at *;have h4:(BK*q+r)*BK^(i+j)=(a i*b j+f (i+j)+c)*BK^(i+j):=by rw[h3]
  have h5:BK^(i+(j+1))=BK^(i+j)*BK:=by rw[<-Nat.add_assoc,Nat.pow_succ]
  have h6:BK^(i+j)=BK^j*BK^i:=by rw[Nat.add_comm,Nat.pow_add]
  have h7:vS b (j+1)=vS b j+b j*BK^j:=rfl;rw[h5,h7];rw[Nat.add_mul]at h4;rw[Nat.add_mul,Nat.add_mul]at h4;have h8:BK*q*BK^(i+j)=q*(BK^(i+j)*BK):=by rw[Nat.mul_comm BK q,Nat.mul_assoc,Nat.mul_comm BK]
  have h9:a i*(vS b j+b j*BK^j)*BK^i=a i*vS b j*BK^i+a i*b j*BK^(i+j):=by
   rw[Nat.mul_add,Nat.add_mul,h6];simp only[Nat.mul_assoc]
  rw[h9];rw[h8]at h4;omega
theorem RO.fin{N i m:Nat}{a b f:Nat->Nat}{c:Nat}(h:RO N i m a b f c m)(hN:i+m<N):RP N (i+1) m a b (Az f (i+m) c):=by
 refine⟨fun k hk=>?_,fun k hk=>?_,?_⟩
 .unfold Az;split
  .exact h.cl
  .exact h.lt k hk
 .unfold Az;rw[if_neg ac];exact h.zero k ac
 .have h1:=QE (f:=f) (j:=i+m) (x:=c) (n:=N) hN;rw[h.zero (i+m) (Nat.le_refl _),Nat.zero_mul,Nat.add_zero]at h1;rw[h1,h.val];show _=(vS a i+a i*BK^i)*vS b m
  rw[Nat.add_mul,Nat.mul_right_comm]
structure MS(f:Nat->Nat)(N n:Nat):Prop where
 le:n<=N
 val:vS f n=vS f N
theorem MS.step{f:Nat->Nat}{N n:Nat}(h:MS f N (n+1))(h0:f n=0):MS f N n:=
 ⟨by have:=h.le;omega,by rw[<-h.val,show vS f (n+1)=vS f n+f n*BK^n from rfl,h0];omega⟩
theorem MS.fin{f:Nat->Nat}{N n:Nat}(h:MS f N n)(hl:∀k,k<N->f k<BK)(h0:∀m,n=m+1->f m≠0):I9 n f:=⟨fun k hk=>hl k (by have:=h.le;omega),h0⟩
def Tl(n:Nat)(f g:Nat->Nat):Prop:=∃i,i<n/\(∀j,j<i->f j=g j)/\f i<g i
theorem Tl.le{n:Nat}{f g:Nat->Nat}(h:Tl n f g):EL n f g:= .inr h
theorem KT{n:Nat}{f g:Nat->Nat}:∀m,m<=n->(∀i,i<m->f i=g i)∨∃i,i<m/\(∀j,j<i->f j=g j)/\f i≠g i
 | 0,_=> .inl fun i h=>by omega
 | m+1,h=>by
  rcases KT (n:=n) (f:=f) (g:=g) m (by omega) with h1|⟨i,h1,h2,h3⟩
  .by_cases e:f m=g m
   .exact .inl fun i hi=>by
     by_cases e2:i=m
     .subst e2;exact e
     .exact h1 i (by omega)
   .exact .inr ⟨m,by omega,h1,e⟩
  .exact .inr ⟨i,by omega,h2,h3⟩
theorem VI{n:Nat}{f g:Nat->Nat}:Gf (li n f) (li n g)=true↔Tl n f g:=by
 rcases KT (n:=n) (f:=f) (g:=g) n (Nat.le_refl _) with h1|⟨i,h1,h2,h3⟩
 .have e:li n f=li n g:=VH h1;rw[e,Ku fun j _=>rfl];constructor
  .intro h;cases h
  .rintro⟨i,hi,_,h⟩;have:=h1 i hi;omega
 .rw[Mq (i:=i) (DK h1 f) (DK h1 g) ac fun j hj=>by rw[DK ac,DK ac,h2 j hj],decide_eq_true_eq];constructor
  .intro h;exact⟨i,h1,h2,ac⟩
  .rintro⟨j,hj,j1,j2⟩;rcases Nat.lt_trichotomy i j with e|e|e
   .exact absurd (j1 i e) h3
   .subst e;omega
   .have:=h2 j e;omega
structure Ov(n m:Nat)(S:List (Nat->Nat))(A:Nat->Nat->Nat):Prop where
 all:∀f,Gn S f↔∃i,i<m/\A i=f
 srt:∀a b,a<b->b<m->Tl n (A a) (A b)
theorem Ov.least{n m:Nat}{S:List (Nat->Nat)}{A:Nat->Nat->Nat}(h:Ov n m S A){b x i:Nat}(hi:i<m)(h1:AW b (A i))(h2:A i b=x)(h3:∀j,j<i->¬(AW b (A j)/\A j b=x)):DQ n S b x (A i):=
 ⟨(h.all _).2 ⟨i,hi,rfl⟩,h1,h2,fun g hg hF aA=>by
  obtain⟨j,hj,rfl⟩:=(h.all g).1 hg;rcases Nat.lt_trichotomy i j with e|e|e
  .exact(h.srt i j e hj).le
  .subst e;exact .inl fun _ _=>rfl
  .exact absurd ⟨hF,aA⟩ (h3 j e)⟩
end Go.Proofs.YtehieobniamagaaGreat
