/- Plain: compatible partial maps; a refutation is sound; the search finds the first map. -/
import Derived.Deep.CutRange
import Derived.Test.YtehieobniamagaaGreatZp20
import Derived.Test.YtehieobniamagaaGreatZp22
import Derived.Test.YtehieobniamagaaGreatZp23
import Derived.Test.YtehieobniamagaaGreatZp24
import Derived.Test.YtehieobniamagaaGreatZp26
import Derived.Test.YtehieobniamagaaGreatZp30
namespace Go.Proofs.YtehieobniamagaaGreat
set_option linter.unusedVariables false
set_option linter.unusedSimpArgs false
set_option maxRecDepth 100000
set_option maxHeartbeats 8000000
section
open Go.RowKit
section
variable {p m:Nat} {ml:List Int} {N:Nat}
variable {l1 l2:List (List Int)} {n:Nat} {tl sc:List Int}
end
section
variable {p m:Nat} {ml:List Int} {n:Nat} {l1 l2:List (List Int)} {pl sl:List Int}
end
section
variable {σ:Type} {step:σ->List Int->List Int->σ × Int} {tl sc:List Int}
end
section
variable {p m:Nat} {ml:List Int} {n:Nat} {l1 l2:List (List Int)} {pl sl:List Int}
end
end
section
open Go.RowKit
section
variable {p m:Nat} {ml:List Int} {n:Nat} {l1 l2:List (List Int)} {pl sl tl sc:List Int} {nd:Nd}
variable {step:Nat × List Nd->List Int->List Int->(Nat × List Nd) × Int} {b:Nat}
end
end
section
open Go.RowKit
end
section
open Go.RowKit
theorem VJ{q N:Nat}{rows:List (List Int)}(hN:N<=256)(hr:rows.length<=256)(h:∀r∈rows,r.length=N/\Cz q r=0):BV q N rows=0:=by
 unfold BV;rw[if_neg ac,if_pos (List.all_eq_true.2 fun r hr=>by simp[(h r hr).1]),if_pos (List.all_eq_true.2 fun r hr=>by simp[(h r hr).2])]
theorem TN{p m:Nat}{ml pl ul:List Int}{fr N:Nat}{x:List Int}(h:DZ p m ml pl ul fr N):Cz (p^m) (il N (Ki p m ml pl ul fr x N))=0:=QJ fun y hy=>by
 obtain⟨i,hi,rfl⟩:=List.getElem_of_mem hy;rw[AY]at hi;obtain⟨z,h1,h2⟩:=VY h (x:=x) i hi;rw[List.getD_eq_getElem?_getD,List.getElem?_eq_getElem (by rw[AY];exact hi)]at h1;have aA:(il N (Ki p m ml pl ul fr x N))[i]'(by rw[AY];exact hi)=z:=h1;rw[aA];omega
theorem XH{p m:Nat}{ml pl ul:List Int}{fr N:Nat}{l1:List (List Int)}(h:DZ p m ml pl ul fr N):∀r∈Hn p m ml pl ul fr N l1 l1.length,r.length=N/\Cz (p^m) r=0:=fun r hr=>by
 unfold Hn at hr;obtain⟨x,_,rfl⟩:=List.mem_map.1 hr;exact⟨AY _ _,TN h⟩
theorem Te{p m:Nat}{ml pl ul:List Int}{fr N:Nat}{l1:List (List Int)}(hc:BN p m ml=0)(hl:l1.length<=256)(h:DZ p m ml pl ul fr N):Ju p m ml N (Hn p m ml pl ul fr N l1 l1.length)=0:=by
 have h1:Du p m ml N (Hn p m ml pl ul fr N l1 l1.length)=0:=by
  unfold Du;rw[if_neg (fun h=>h hc)];have e:(p:Int).toNat^(m:Int).toNat=p^m:=ag;rw[e];exact VJ (by have:=h.n2;omega) (by rw[IR (Nat.le_refl _)];exact hl) (XH h)
 unfold Ju;rw[if_neg (fun h=>h h1)];unfold GK;rw[if_neg (by have:=h.n1;have:=h.n2;omega)]
section
variable {p m:Nat} {ml:List Int} {n:Nat} {l1 l2:List (List Int)} {pl sl:List Int}
end
theorem Yl{p m N fr:Nat}{ml pl ul:List Int}{rows:List (List Int)}{b0:Nat}{r:Ending}{w':World}(h:Ys p m ml N rows pl ul fr b0 r w')(ho:Cm p m ml N rows 0)(aA:Ck p m ml N pl ul fr=0):
  ∃(piv:List Nat) (a':Nat->Nat->Int) (rv v':Value),r= .returned (.tuple #[.agg #[.int .i64 p,.int .i64 m,v',.int .i64 N,rv],.int .i64 0])/\OF p m ml N (Hn p m ml pl ul fr N rows rows.length).length (AX (Hn p m ml pl ul fr N rows rows.length)) a' piv/\Ak w' v' ml/\B6 w' rv (AM N piv.length a'):=by
 obtain⟨e1,aB,h⟩:=h;obtain rfl:=Cs aB ho;have aC:YS p m ml pl ul fr N rows=Hn p m ml pl ul fr N rows rows.length:=by unfold YS;simp
 obtain⟨p2,m2,N2,f2,j1,j2,j3,j4,hf,aD,hM⟩:=Jw aA;obtain rfl:p=p2:=ac;obtain rfl:m=m2:=ac;obtain rfl:N=N2:=ac;obtain rfl:fr=f2:=ac;rcases h with⟨h,_⟩|⟨_,h,_⟩|⟨_,_,h⟩
 .exact absurd rfl h
 .exact absurd aA h
 .rw[aC]at h;rcases h with⟨h,_⟩|⟨_,pn,mn,N',piv,a',rv,v',e1,e2,e3,_,_,hr,hel,hv,hrv,_⟩
  .exact absurd (Te aD (CQ ho).1 hM) h
  .obtain rfl:p=pn:=by omega
   obtain rfl:m=mn:=ac;obtain rfl:N=N':=ac;exact⟨piv,a',rv,v',hr,hel,hv,hrv⟩
theorem GF{p m:Nat}{ml:List Int}(h:Iz p m ml):CV p m=((p^m:Nat):Int):=by
 unfold CV;have h1:((p:Int)^(m:Int).toNat)=((p^m:Nat):Int):=ag;have h2:=h.p2;have h3:=h.m1;have h4:=h.m8;have h5:=h.q;rw[h1,if_pos ac]
end
section
open Go.RowKit
theorem Qy(c:AZ)(g:B9):(gM c g).frob=0:=by
 unfold gM Iv;split
 .rfl
 .split <;> rfl
def Wy(b0:Nat)(c:AZ)(r:Ending)(w':World):Prop:=∃e0:Int,Cm c.p c.m c.ml c.n c.rows e0/\
 ((Ii c e0≠0/\r= .returned (.tuple #[.pointer none,.slice none 0 0,.slice none 0 0,.int .i64 (Ii c e0)]))∨
 (Ii c e0=0/\Nm c (DA c.n.toNat (c.p.toNat^c.m.toNat))≠none/\r= .returned (.tuple #[.pointer none,.slice none 0 0,.slice none 0 0,.int .i64 (UN c (DA c.n.toNat (c.p.toNat^c.m.toNat)))]))∨
 (Ii c e0=0/\Nm c (DA c.n.toNat (c.p.toNat^c.m.toNat))=none/\∃(pn mn N b x0:Nat) (mv nv:Value),c.p=pn/\c.m=mn/\c.n=N/\1<=N/\N<=64/\N*(pn^mn-1)<=64/\r= .returned (.tuple #[.pointer (some ⟨b,0,none⟩),mv,nv,.int .i64 0])/\
   AR w' b pn mn c.ml x0/\1<=x0/\x0<pn^mn/\MT w' mv (Dr c (DA c.n.toNat (c.p.toNat^c.m.toNat)))/\US b0 w' nv (Ia c (DA c.n.toNat (c.p.toNat^c.m.toNat)))))
theorem zaT{P:Prop}(h:P:=by
 clear aJ aA aH aG aF x3 x4 t0 t1 t2;go_wp2_with fail
 go_roundw
 case rel=>first|exact⟨k+1,_,_,rfl,by have:=aD.o;omega,by go_num,bG.o,HN⟩|((repeat apply Exists.intro);exact⟨⟨k+1,_,_,rfl,by have:=aD.o;omega,by go_num,bG.o,HN⟩,rfl⟩)
 case measure=>have:=aD.o;simp[intOf];omega):P:=h
theorem du{P:Prop}(h:P:=by simp[results,Tryz.results63,go_sem]):P:=h
theorem G8(w:World)(c:AZ)(m1 v1:Value)(hc:c.at w m1 v1):
  Calls Tryz.prog 63 #[c.arg m1 v1] w fun r w'=>Wy w.heap.size c r w'/\Ex w w':=by
 obtain⟨c0,c1,c2,c3,c4⟩:=Dv w c m1 v1;have bR:=AI w (c.obj m1 v1);have aS:=Aa (hc.ex bR);obtain⟨x1,y1,bU,-,z1,-⟩:=hc.g.open;obtain⟨x3,y3,bT,-,z3,-⟩:=hc.m.open;unfold maxLen at z1 z3;have aP:=Aa (Jr (w.alloc (c.obj m1 v1)) c m1 v1 aS.o);have aR:=Aa (fun (w5:World) (h5:Ex (w.alloc (c.obj m1 v1)) w5) (g:B9) (u r:Value) (hu:Ak w5 u g.tl) (hr:Ak w5 r g.sl)=>Sb w5 c c m1 m1 v1 v1 (aS.o.ex h5) (aS.o.ex h5) g.tl g.sl u r hu hr);obtain⟨B,hB⟩:=nA w.heap.size;rw[hB]at c0 c1 c2 c3 c4;have aM:=Aa bR;obtain⟨C,hC⟩:∃C:AZ,C=c:=⟨_,rfl⟩;have cF:=Aa hC;have cB:=Aa (show ∀r w',Wy w.heap.size C r w'->Wy w.heap.size c r w' from fun r w' h=>by rw[<-hC];exact h);obtain⟨cp,cm,aL,cn,aX⟩:=c;unfold AZ.arg at aP aR ⊢;unfold AZ.obj at aM aP aS aR c0 c1 c2 c3 c4;dsimp only at aM aP aS aR c0 c1 c2 c3 c4 bU bT ⊢;rw[bU,bT]at aM aP aR c0 c1 c2 c3 c4 ⊢;rw[<-hC]at aP aR;clear hc bR hC bU bT aS;go_enter Tryz.func63,Tryz.ntmps63
 go_upto_region 1 with fail
 try simp only[hB]
 clear hB;generalize w.alloc (.cells #[.int .i64 cp,.int .i64 cm,.slice x3 aL.length y3,.int .i64 cn,.slice x1 aX.length y1] 39)=w1 at *;go_wp2_with fail
 refine aP.o.mono ?_;rintro e w2⟨⟨e0,cO,ho⟩,aB⟩;have aZ:=Aa aB;have bQ:=Aa cO;replace c0:=aB.cell c0;replace c1:=aB.cell c1;replace c2:=aB.cell c2;replace c3:=aB.cell c3;replace c4:=aB.cell c4;clear aB cO aP;obtain⟨OE,aK⟩:∃x,Ii C e0=x:=⟨_,rfl⟩;rw[aK]at ho;have bN:=Aa aK;rcases ho with⟨h0,ptr,d,rfl⟩|⟨h0,pn,mn,N,b,x0,hp,hm,hn,hN1,hN64,hD,rfl,hg,hx1,aB⟩
 .have hb:(OE !=0)=true:=by simpa using h0
  have H0:=Aa h0;clear h0 aK;go_wp2_with fail
  exact bodyPost_ret (v:= .tuple #[.pointer none,.slice none 0 0,.slice none 0 0,.int .i64 OE]) du rfl ⟨cB.o _ _ ⟨e0,bQ.o,.inl ⟨by rw[bN.o];exact H0.o,by rw[bN.o]⟩⟩,aM.o.trans aZ.o⟩
 .subst h0;have eB:=Aa (show e0=0 from by
   unfold Ii at aK;split at aK
   .exact aK
   .omega)
  have dK:cn=(N:Int):=by have:=cF.o;rw[this]at hn;exact hn
  subst dK;have bB:=Aa (show C.p=pn/\C.m=mn/\C.n=N from⟨hp,hm,hn⟩);have aO:=Aa (show DA C.n.toNat (C.p.toNat^C.m.toNat)=DA N (pn^mn) from by rw[hp,hm,hn];rfl);have HN:=Aa (show 1<=N/\N<=64/\N*(pn^mn-1)<=64 from⟨hN1,hN64,hD⟩);have HG:=Aa hg;have cU:=Aa (show 1<=x0/\x0<pn^mn from⟨hx1,aB⟩);have cH:2<=pn^mn:=Nat.le_trans hg.sh.p2 (Nat.le_self_pow (by have:=hg.sh.m1;omega) pn);have bH:=hg.sh.q;have dB:=Aa (fun (w5:World) (h5:Ex w2 w5)=>BR w5 (HG.o.ex h5));have bP:=Aa (fun (w5:World)=>K5 w5 N (pn^mn) hN64 ac bH);have cE:=Aa (show ∀(w5:World) (h5:Ex w1 w5) (g:B9) (u r:Value),g∈DA N (pn^mn)->Ak w5 u g.tl->Ak w5 r g.sl->Calls Tryz.prog 122 #[.agg #[.int .i64 cp,.int .i64 cm,.slice x3 aL.length y3,.int .i64 N,.slice x1 aX.length y1],.agg #[.int .i64 cp,.int .i64 cm,.slice x3 aL.length y3,.int .i64 N,.slice x1 aX.length y1],.agg #[u,r]] w5 fun r' w'=>Zs w5.heap.size (gM C g) (gE C g) r' w'/\Ex w5 w' from fun w5 h5 g u r dJ hu hr=>by
   refine(aR.o w5 h5 g u r hu hr).mono ?_;rintro r' w'⟨⟨e1,e2,k1,k2,k3⟩,k4⟩;refine⟨?_,k4⟩;have hz:=eB.o;have aU:Cm cp cm aL N aX 0:=by have h1:=bQ.o;rw[cF.o,hz]at h1;exact h1
   obtain rfl:e1=0:=Cs k1 aU;obtain rfl:e2=0:=Cs (k2 rfl) aU;have cI:=bB.o.1;have cJ:=bB.o.2.1;rw[cF.o]at cI cJ;have Bf:Fb 0 0 (Cw cp cm aL cp cm aL) N N g.tl g.sl (cp.toNat^cm.toNat)=0:=Pq (N:=N) rfl (q:=cp.toNat^cm.toNat) (by
    have h1:cp=pn:=cI;have h2:cm=mn:=cJ;rw[h1,h2];exact IU dJ)
   rw[Bf]at k3;exact k3)
  obtain⟨q,hq⟩:=nA (pn^mn);have HQ:=Aa hq;rw[hq]at dB bP cE aO cH bH;have dV:=Aa bH;clear hp hm hn hN1 hN64 hD hg hx1 aB hq cH bH aR aK;obtain⟨GS,bY⟩:∃g,DA N q=g:=⟨_,rfl⟩;rw[bY]at cE aO bP;have dY:=Aa bY;obtain⟨LG,cT⟩:∃n,GS.length=n:=⟨_,rfl⟩;have aQ:=Aa cT;have dF:=Aa (fun (w5:World) (h5:Ex w2 w5)=>h5.cell c3);have eC:=Aa (fun (w5:World) (h5:Ex w2 w5)=>(⟨h5.cell c0,h5.cell c1,h5.cell c2,h5.cell c3,h5.cell c4⟩:w5.cell? ⟨B,0,none⟩=some (.int .i64 cp)/\w5.cell? ⟨B,1,none⟩=some (.int .i64 cm)/\w5.cell? ⟨B,2,none⟩=some (.slice x3 aL.length y3)/\w5.cell? ⟨B,3,none⟩=some (.int .i64 N)/\w5.cell? ⟨B,4,none⟩=some (.slice x1 aX.length y1)));clear bY cT c0 c1 c2 c4;go_wp2_with fail
  clear c3;have G0:Ex w2 w2.drew:=(Ex.refl w2).drew
  go_cut [23,24,25] from 19 to 25 (fun gv lv zv wx=>∃ga gc,gv= .slice ga LG gc/\lv= .int .i64 LG/\zv= .int .i64 0/\Hia (US w2.heap.size wx gv GS)/\Hia (Ex w2 wx))
  case first=>
   go_region_held3 (fun w'=>w'.cell? ⟨B,3,none⟩=some (.int .i64 N))
    (first|with_reducible exact dF.o _ X6|with_reducible exact dF.o _ G0)
    (first|(go_at_call 54;(with_reducible refine(dB.o _ G0).mono ?_);rintro e w5⟨rfl,rfl⟩)|(go_at_call 121;(with_reducible refine(bP.o _).mono ?_);rintro e w6⟨v6,cs6,rfl,bJ⟩;have X6:=G0.trans bJ.ex;have dS:=Aa (bJ.gsl.mono (show w2.heap.size<=w2.drew.heap.size from Nat.le_refl _));obtain⟨dM,dL,cG⟩:=Ac bJ.own;rw[aQ.o]at cG;subst cG;clear bJ))
   all_goals
    go_wp2_with fail
    go_meet
    exact⟨dM,dL,rfl,rfl,rfl,dS,Aa X6⟩
  case rest=>
   obtain⟨ga,gc,rfl,rfl,rfl,bI,bS⟩:=hcut;obtain⟨w3,h3⟩:∃x,x=wc:=⟨_,rfl⟩;rw[<-h3]at bI bS ⊢;have aY:=Aa bS.o;have HGL:=Aa bI.o;obtain⟨dN,gc',cN,g1,g2,g3⟩:=bI.o.open;have aT:dN=ga:=by injection cN with e1 e2 e3;exact e1.symm
   have eA:=Aa (show 0<LG->∃b o,ga=some ⟨b,o,none⟩/\∀(i:Nat) (l:B9),GS[i]?=some l->∃u r,w3.cell? ⟨b,o+5*i,none⟩=some (.int .i64 l.i)/\w3.cell? ⟨b,o+(5*i+1),none⟩=some (.int .i64 l.j)/\w3.cell? ⟨b,o+(5*i+2),none⟩=some (.int .i64 l.a)/\w3.cell? ⟨b,o+(5*i+3),none⟩=some u/\w3.cell? ⟨b,o+(5*i+4),none⟩=some r/\Ak w3 u l.tl/\Ak w3 r l.sl/\(∀X,u.ownBlock=some X->w2.heap.size<=X)/\∀X,r.ownBlock=some X->w2.heap.size<=X from fun h=>by
    rw[<-aT];exact g3 (by rw[aQ.o];exact h))
   have dA:=Aa (Oq.nil w2.heap.size w3);have dC:=Aa (show LG<=1048576 from by rw[<-aQ.o,<-dY.o];have:=Mq N q HN.o.2.1 dV.o N;have:=HN.o.2.1;unfold DA;omega);clear bI bS g1 g2 g3 cN aT h3 G0 bP;go_wp2_with fail
   go_loopw [2,3,4,25] (fun pv mv nv k' wr=>∃(k:Nat) (cs ds:List (Value × Value)),pv= .pointer (some ⟨b,0,none⟩)/\k<=LG/\k'= .int .i64 k/\Nm C (GS.take k)=none/\Hia (Oq w2.heap.size w3 wr mv nv (Dr C (GS.take k)) cs (Ia C (GS.take k)) ds)) (fun _ _ _ k' _=>LG-(intOf k').toNat)
   case atStart=>exact⟨0, [], [],rfl,ac,rfl,rfl,dA⟩
   case round=>
    clear dA;obtain⟨k,cs,ds,rfl,hk,rfl,aW,hr⟩:=hrel;obtain⟨ma,mc,rfl⟩:=Ac hr.o.mown;obtain⟨na,nc,rfl⟩:=Ac hr.o.nown;by_cases hkl:k<LG
    .obtain⟨gb,go,rfl,cK⟩:=eA.o ac;obtain⟨g,hg⟩:∃g,GS[k]?=some g:=⟨_,List.getElem?_eq_getElem (by rw[aQ.o];exact hkl)⟩;obtain⟨u,r,d0,d1,d2,d3,d4,hu,bW,cP,cQ⟩:=cK k g hg;have dG:=Aa cP;have dH:=Aa cQ;clear cP cQ;obtain⟨ua,uc,rfl,-,-,-⟩:=hu.open;obtain⟨ra,rc,rfl,-,-,-⟩:=bW.open;rw[BY]at d3;rw[Cn]at d4;have HU:=Aa hu;have cA:=Aa bW;rw[BY]at HU dG;rw[Cn]at cA dH;replace d0:=hr.o.ex.cell d0;replace d1:=hr.o.ex.cell d1;replace d2:=hr.o.ex.cell d2;replace d3:=hr.o.ex.cell d3;replace d4:=hr.o.ex.cell d4;have HR:=Aa hr.o;have bE:=Aa hg;have bF:=Aa aW;have dZ:=Aa (List.mem_of_getElem? hg);rw[show go+5*k=go+k*5 from ac]at d0;rw[show go+(5*k+1)=go+k*5+1 from ac]at d1;rw[show go+(5*k+2)=go+k*5+2 from ac]at d2;rw[show go+(5*k+3)=go+k*5+3 from ac]at d3;rw[show go+(5*k+4)=go+k*5+4 from ac]at d4;have i1:(0:Int)<=(k:Int):=by omega
     have i2:(k:Int)<(LG:Int):=ac;have aD:=Aa hkl;clear hr hg aW hu bW cK hkl;go_upto_region 7 with fail
     obtain⟨XB,aC⟩:∃x,wr.heap.size=x:=⟨_,rfl⟩;have x3:(wr.alloc (.cells #[.int .i64 g.i,.int .i64 g.j,.int .i64 g.a,.slice ua (g.i+1) uc,.slice ra (g.i+1) rc] 129)).cell? ⟨XB,3,none⟩=some (.slice ua (g.i+1) uc):=dh;have x4:(wr.alloc (.cells #[.int .i64 g.i,.int .i64 g.j,.int .i64 g.a,.slice ua (g.i+1) uc,.slice ra (g.i+1) rc] 129)).cell? ⟨XB,4,none⟩=some (.slice ra (g.i+1) rc):=dh;have aH:(wr.alloc (.cells #[.int .i64 g.i,.int .i64 g.j,.int .i64 g.a,.slice ua (g.i+1) uc,.slice ra (g.i+1) rc] 129)).cell? ⟨XB,0,none⟩=some (.int .i64 g.i):=dh;have aG:(wr.alloc (.cells #[.int .i64 g.i,.int .i64 g.j,.int .i64 g.a,.slice ua (g.i+1) uc,.slice ra (g.i+1) rc] 129)).cell? ⟨XB,1,none⟩=some (.int .i64 g.j):=dh;have aF:(wr.alloc (.cells #[.int .i64 g.i,.int .i64 g.j,.int .i64 g.a,.slice ua (g.i+1) uc,.slice ra (g.i+1) rc] 129)).cell? ⟨XB,2,none⟩=some (.int .i64 g.a):=dh;have aN:=Aa (show Ex wr (wr.alloc (.cells #[.int .i64 g.i,.int .i64 g.j,.int .i64 g.a,.slice ua (g.i+1) uc,.slice ra (g.i+1) rc] 129)) from(Ex.refl wr).alloc _)
     try simp only[aC]
     have HXB:=Aa aC;clear aC d0 d1 d2 d3 d4 i1 i2;generalize wr.alloc (.cells #[.int .i64 g.i,.int .i64 g.j,.int .i64 g.a,.slice ua (g.i+1) uc,.slice ra (g.i+1) rc] 129)=w5 at *;obtain⟨c0,c1,c2,c3,c4⟩:=eC.o w5 (aY.o.trans (HR.o.ex.trans aN.o));have cD:=Aa (cE.o w5 (aZ.o.trans (aY.o.trans (HR.o.ex.trans aN.o))) g _ _ dZ.o (HU.o.ex (HR.o.ex.trans aN.o)) (cA.o.ex (HR.o.ex.trans aN.o)));obtain⟨EE,bZ⟩:∃x,gE C g=x:=⟨_,rfl⟩;rw[bZ]at cD;have aE:=Aa bZ;go_wp2_with fail
     refine cD.o.mono ?_;rintro e w6⟨⟨u6,r6,rfl,bV,bX,cM,cL⟩,aI⟩;rw[Qy];have cW:=Aa bV;have cZ:=Aa bX;have dE:=Aa cM;have dD:=Aa cL;obtain⟨a6,b6,rfl,-,-,-⟩:=bV.open;obtain⟨a7,b7,rfl,-,-,-⟩:=bX.open;obtain⟨LP,cS⟩:∃x,(gM C g).perm.length=x:=⟨_,rfl⟩;obtain⟨LS,cR⟩:∃x,(gM C g).scale.length=x:=⟨_,rfl⟩;rw[cS]at cW dE ⊢;rw[cR]at cZ dD ⊢;have dO:=Aa (aN.o.trans aI);replace aH:=aI.cell aH;replace aG:=aI.cell aG;replace aF:=aI.cell aF;replace x3:=aI.cell x3;replace x4:=aI.cell x4;obtain⟨t0,t1,t2,et⟩:=Az w6 (.slice a6 LP b6) (.slice a7 LS b7) 0;obtain⟨TB,bK⟩:∃x,w6.heap.size=x:=⟨_,rfl⟩;rw[bK]at t0 t1 t2;have cV:=Aa (dO.o.trans et);replace aH:=et.cell aH;replace aG:=et.cell aG;replace aF:=et.cell aF;replace x3:=et.cell x3;replace x4:=et.cell x4;have dP:=Aa (cW.o.ex et);have dU:=Aa (cZ.o.ex et);have HTB:=Aa bK;clear bV bX cM cL cS cR aI et cD bZ c0 c1 c2 c3 c4;go_upto_region 8 with fail
     try simp only[bK]
     clear bK;generalize w6.alloc (.cells #[.slice a6 LP b6,.slice a7 LS b7,.int .i64 0] 26)=w7 at *;obtain⟨LM,bM⟩:∃x,(Dr C (GS.take k)).length=x:=⟨_,rfl⟩;obtain⟨LN,bL⟩:∃x,(Ia C (GS.take k)).length=x:=⟨_,rfl⟩;have bO:=Aa (show LM<=1048576/\LN<=1048576 from by
      have hkk:=aD.o;have hl:=dC.o;constructor
      .rw[<-bM];unfold Dr;rw[List.length_map];exact Nat.le_trans (List.length_filter_le _ _) b9
      .rw[<-bL];unfold Ia;exact Nat.le_trans (List.length_filter_le _ _) b9)
     rw[bM,bL]at HR ⊢;have bD:=Aa bM;have bC:=Aa bL;have bA:=Aa (HR.o.later cV.o);have hk64:k<=1048576:=by have:=aD.o;have:=dC.o;omega
     have dI:=Aa (show(∀c:Value,(∀X,c.ownBlock=some X->w5.heap.size<=X)->AJ c (.slice ma LM mc)/\AJ c (.slice na LN nc)) from fun c hc=>
      ⟨Dw hc fun X e=>Nat.lt_of_lt_of_le (HR.o.mown.lt X e).2 aN.o.size,Dw hc fun X e=>Nat.lt_of_lt_of_le (HR.o.nown.lt X e).2 aN.o.size⟩)
     have cX:=Aa bA.o.ex.size;clear bM bL;by_cases h0:EE=0
     .subst h0;have HM:=Aa (Vk bE.o aE.o);have bG:=Aa (SO bE.o bF.o (.inl aE.o));have cC:=Aa (show w7.ownsRow w3.heap.size 26 3 (.slice ma LM mc) LM (RF (Dr C (GS.take k)) cs) from by have:=bA.o.mown;rwa[bD.o]at this);go_wp2_with (at_builtin;refine Al _ rfl _ _ 68 rfl w3.heap.size 26 (.agg #[.slice none 0 0,.slice none 0 0,.int .i64 0]) 3 56 Tryz.underlying68 TL rfl ae _ LM _ rfl cC.o [.slice a6 LP b6,.slice a7 LS b7,.int .i64 0] 26 _ rfl ag rfl ak (by have:=bO.o.1;unfold maxLen;omega) (by have:=bO.o.1;omega) cX.o ?_)
      intro v8 w8 aJ;have aA:A8 w7 w8 w3.heap.size 26 3 (.slice ma LM mc) v8 (Dr C (GS.take k)).length (RF (Dr C (GS.take k)) cs) [.slice a6 LP b6,.slice a7 LS b7,.int .i64 (gM C g).frob]:=by rw[Qy,bD.o];exact aJ
      have HN:=Aa (bA.o.appM dP.o dU.o (dI.o _ dE.o) (dI.o _ dD.o) aA);rw[<-HM.o.1,<-HM.o.2]at HN;obtain⟨ma8,mc8,rfl⟩:=Ac aJ.own;exact zaT
     .by_cases h11:EE=11
      .subst h11;have HM:=Aa (Vj bE.o aE.o);have bG:=Aa (SO bE.o bF.o (.inr aE.o));have cC:=Aa (show w7.ownsRow w3.heap.size 129 5 (.slice na LN nc) LN (EF (Ia C (GS.take k)) ds) from by have:=bA.o.nown;rwa[bC.o]at this);clear h0;go_wp2_with (at_builtin;refine Al _ rfl _ _ 109 rfl w3.heap.size 129 (.agg #[.int .i64 0,.int .i64 0,.int .i64 0,.slice none 0 0,.slice none 0 0]) 5 72 Tryz.underlying109 NP rfl ae _ LN _ rfl cC.o [.int .i64 (g.i:Int),.int .i64 (g.j:Int),.int .i64 (g.a:Int),.slice ua (g.i+1) uc,.slice ra (g.i+1) rc] 129 _ rfl ag rfl ak (by have:=bO.o.2;unfold maxLen;omega) (by have:=bO.o.2;omega) cX.o ?_)
       intro v8 w8 aJ;have aA:A8 w7 w8 w3.heap.size 129 5 (.slice na LN nc) v8 (Ia C (GS.take k)).length (EF (Ia C (GS.take k)) ds) [.int .i64 (g.i:Int),.int .i64 (g.j:Int),.int .i64 (g.a:Int),.slice ua (g.i+1) uc,.slice ra (g.i+1) rc]:=by rw[bC.o];exact aJ
       have HN:=Aa (bA.o.appN HU.o cA.o dG.o dH.o aA);rw[<-HM.o.1,<-HM.o.2]at HN;obtain⟨na8,nc8,rfl⟩:=Ac aJ.own;exact zaT
      .have k0:(EE==0)=false:=by simpa using h0
       have k11:(EE==11)=false:=by simpa using h11
       have cY:=Aa (Vl bE.o bF.o (by rw[aE.o];exact h0) (by rw[aE.o];exact h11));have dT:=Aa (show Nm C GS≠none from fun hn=>by
        have h1:=cY.o;unfold UN at h1;rw[hn,aE.o]at h1;exact h0 h1.symm)
       clear h0 h11 aH aG aF x3 x4 t0 t1 t2;go_wp2_with fail
       exact bodyPost_ret (v:= .tuple #[.pointer none,.slice none 0 0,.slice none 0 0,.int .i64 EE]) du rfl ⟨cB.o _ _ ⟨e0,bQ.o,.inr (.inl ⟨bN.o,by rw[aO.o];exact dT.o,by rw[aO.o,cY.o,aE.o]⟩)⟩,aM.o.trans (aZ.o.trans (aY.o.trans (HR.o.ex.trans cV.o)))⟩
    .obtain rfl:LG=k:=by omega
     have aV:Nm C GS=none:=by rw[<-aQ.o,List.take_length]at aW;exact aW
     have HR:=Aa hr.o;have dX:=Aa hr.o.msl;have dW:=Aa hr.o.nsl;have dR:=Aa (show Dr C GS=Dr C (GS.take LG) from by rw[<-aQ.o,List.take_length]);have dQ:=Aa (show Ia C GS=Ia C (GS.take LG) from by rw[<-aQ.o,List.take_length]);have bF:=Aa aV;clear hr aW aV;go_wp2_with fail
     exact bodyPost_ret (v:= .tuple #[.pointer (some ⟨b,0,none⟩),.slice ma (Dr C (GS.take LG)).length mc,.slice na (Ia C (GS.take LG)).length nc,.int .i64 0]) du rfl ⟨cB.o _ _ ⟨e0,bQ.o,.inr (.inr ⟨bN.o,by rw[aO.o];exact bF.o,pn,mn,N,b,x0,_,_,bB.o.1,bB.o.2.1,bB.o.2.2,HN.o.1,HN.o.2.1,HN.o.2.2,rfl,HG.o.ex (aY.o.trans HR.o.ex),cU.o.1,cU.o.2,by rw[aO.o,dR.o];exact dX.o,by rw[aO.o,dQ.o];exact dW.o.mono (Nat.le_trans aM.o.size aZ.o.size)⟩)⟩,aM.o.trans (aZ.o.trans (aY.o.trans HR.o.ex))⟩
end
section
open Go.RowKit
def Eo(p m:Nat)(ml:List Int)(Ms:List CE):List (List Int):=Ms.map fun M=>Fu p m ml M.perm M.scale
def R9(N:Nat)(M:CE):Prop:=M.perm.length=N/\M.scale.length=N/\Bq M.perm N=true
theorem J0{n:Int}{rows:List (List Int)}{l:Lv}(h:l∈(C7 n rows).1.lev):2<=l.orb.length/\2<=l.reps.length/\∀r∈l.reps,2<=r.length:=by
 unfold C7 at h;split at h
 .cases h
 .exact Oe h
theorem Zc(w:World):(w.alloc (.cells #[.int .i64 0,.slice none 0 0] 43)).cell? ⟨w.heap.size,0,none⟩=some (.int .i64 0)/\(w.alloc (.cells #[.int .i64 0,.slice none 0 0] 43)).cell? ⟨w.heap.size,1,none⟩=some (.slice none 0 0)/\
  (∀j,2<=j->(w.alloc (.cells #[.int .i64 0,.slice none 0 0] 43)).cell? ⟨w.heap.size,j,none⟩=none)/\(w.alloc (.cells #[.int .i64 0,.slice none 0 0] 43)).frozen? ⟨w.heap.size,0,none⟩=false/\(w.alloc (.cells #[.int .i64 0,.slice none 0 0] 43)).frozen? ⟨w.heap.size,1,none⟩=false:=
 ⟨ag,ag,fun j hj=>by
  obtain⟨i,rfl⟩:∃i,j=i+2:=⟨j-2,ac⟩;simp,ag,ag⟩
structure Yr(w:World)(b:Nat):Prop where
 c0:w.cell? ⟨b,0,none⟩=some (.int .i64 0)
 c1:w.cell? ⟨b,1,none⟩=some (.slice none 0 0)
 c2:∀j,2<=j->w.cell? ⟨b,j,none⟩=none
 f0:w.frozen? ⟨b,0,none⟩=false
 f1:w.frozen? ⟨b,1,none⟩=false
theorem Yr.new(w:World):Yr (w.alloc (.cells #[.int .i64 0,.slice none 0 0] 43)) w.heap.size:=by
 obtain⟨a,b,c,d,e⟩:=Zc w;exact⟨a,b,c,d,e⟩
theorem Yr.ex{w w':World}{b:Nat}(h:Yr w b)(hx:Ex w w'):Yr w' b:=⟨hx.cell h.c0,hx.cell h.c1,fun j hj=>(Below.cell hx (show(⟨b,j,none⟩:Addr).block<w.heap.size from(World.block_lt_of_cell? _ (⟨b,0,none⟩:Addr) h.c0:b<w.heap.size))).trans (h.c2 j hj),hx.frz h.c0 h.f0,hx.frz h.c1 h.f1⟩
theorem IB{w0 w:World}{q:Nat}(hx:Ex w0 w)(hq:w0.heap.size<=q)(u v:Value):Ex w0 ((w.setCell ⟨q,0,none⟩ u).setCell ⟨q,1,none⟩ v):=(hx.setCell (p:=⟨q,0,none⟩) hq _).setCell (p:=⟨q,1,none⟩) hq _
section
variable {b p m x0:Nat} {ml:List Int}
theorem Il(w:World)(hg:AR w b p m ml x0)(N:Nat)(hN:N<=64)(hd:N*(p^m-1)<=64)(Ms:List CE)(mv:Value)(hM:MT w mv Ms)(aF:∀M∈Ms,R9 N M)(aG:Ms.length<=1000):
  Calls Tryz.prog 64 #[.pointer (some ⟨b,0,none⟩),.int .i64 N,mv] w fun r w'=>WF ((N*(p^m-1):Nat):Int) (Eo p m ml Ms) r w'/\Ex w w':=by
 have bJ:=Aa (Yr.new w);have aU:=Aa (fun (w1:World) (h:Ex w w1) (M:CE) (hM:M∈Ms) (u v:Value) (hu:Ak w1 u M.perm) (hv:Ak w1 v M.scale)=>Pb w1 (hg.ex h) N hN M.perm M.scale u v hu hv (aF M hM).1 (aF M hM).2.1 (aF M hM).2.2 hd M.frob);have bL:2<=p^m:=Nat.le_trans hg.sh.p2 (Nat.le_self_pow (by have:=hg.sh.m1;omega) p);have bK:=hg.sh.q;have bE:=Aa (fun w1 (h:Ex w w1)=>BR w1 (hg.ex h));have bW:=Aa (fun (M:CE) (hM:M∈Ms)=>(show Fu p m ml M.perm M.scale=il (N*(p^m-1)) (Jt p m ml M.perm M.scale) from by unfold Fu;rw[(aF M hM).1]));obtain⟨GL,aM⟩:∃g,Eo p m ml Ms=g:=⟨_,rfl⟩;have aX:=Aa (show ∀k (M:CE),Ms[k]?=some M->GL.take (k+1)=GL.take k ++ [il (N*(p^m-1)) (Jt p m ml M.perm M.scale)] from fun k M h=>by
  rw[<-aM,<-bW.o M (List.mem_of_getElem? h)];exact DO (by unfold Eo;rw[List.getElem?_map,h];rfl))
 have aV:=Aa (show GL.length=Ms.length from by rw[<-aM];unfold Eo;rw[List.length_map]);rw[aM];have HM:=Aa hM;obtain⟨q,hq⟩:=nA (p^m);rw[hq]at bE aU aX bL bK hd ⊢;obtain⟨D,hD⟩:=nA (N*(q-1));have kD:(N:Int)*((q:Int)-1)=(D:Int):=by rw[<-hD,Int.natCast_mul,Int.natCast_sub ac];rfl
 rw[hD]at aU aX hd ⊢;obtain⟨ma,mc,rfl,z1,z2,m3⟩:=hM.open;unfold maxLen at z2;have M3:=Aa m3;obtain⟨LM,aS⟩:∃n,Ms.length=n:=⟨_,rfl⟩;rw[aS]at HM M3 aV z1 aG ⊢;have bS:=Aa aS;have bV:=Aa kD;clear hg hM aF m3 aS aM hD hq kD;go_enter Tryz.func64,Tryz.ntmps64
 go_upto_region 1 with fail
 obtain⟨RB,aL⟩:∃x,w.heap.size=x:=⟨_,rfl⟩;rw[aL]at bJ;have aT:=Aa (show Ex w (w.alloc (.cells #[.int .i64 0,.slice none 0 0] 43)) from(Ex.refl w).alloc _)
 try simp only[aL]
 have bQ:=Aa aL;clear aL;generalize w.alloc (.cells #[.int .i64 0,.slice none 0 0] 43)=w1 at *;have bD:=Aa (Bv.nil w1 w1.heap.size);go_wp2_with fail
 go_loopw [8,13] (fun gv k' wr=>∃(k:Nat) (vals:List Value),k<=LM/\k'= .int .i64 k/\Hia (Bv wr w1.heap.size gv (GL.take k) vals)/\Hia (Ex w1 wr)) (fun _ k' _=>LM-(intOf k').toNat)
 case atStart=>exact⟨0, [],ac,rfl,bD,Ex.refl _⟩
 case round=>
  clear bD;obtain⟨k,vals,hk,rfl,hr,hx⟩:=hrel;obtain⟨ga,gc,rfl⟩:=Ac hr.o.cvo;by_cases hkl:k<LM
  .obtain⟨mb,mo,rfl,aY⟩:=M3.o ac;obtain⟨M,hM⟩:∃M,Ms[k]?=some M:=⟨_,List.getElem?_eq_getElem (by rw[bS.o];exact hkl)⟩;obtain⟨u,r,d0,d1,d2,hu,aQ⟩:=aY k M hM;obtain⟨ua,uc,rfl,-,-,-⟩:=hu.open;obtain⟨ra,rc,rfl,-,-,-⟩:=aQ.open;have aE:=Aa (aT.o.trans hx.o);replace d0:=aE.o.cell d0;replace d1:=aE.o.cell d1;replace d2:=aE.o.cell d2;rw[show mo+3*k=mo+k*3 from ac]at d0;rw[show mo+(3*k+1)=mo+k*3+1 from ac]at d1;rw[show mo+(3*k+2)=mo+k*3+2 from ac]at d2;have HU:=Aa (hu.ex aE.o);have bC:=Aa (aQ.ex aE.o);obtain⟨LP,bA⟩:∃x,M.perm.length=x:=⟨_,rfl⟩;obtain⟨LS,aZ⟩:∃x,M.scale.length=x:=⟨_,rfl⟩;rw[bA]at d0 HU;rw[aZ]at d1 bC;have HR:=Aa hr.o;have HX:=Aa hx.o;have bG:=Aa hM;have i1:(0:Int)<=(k:Int):=by omega
   have i2:(k:Int)<(LM:Int):=ac;have aW:=Aa hkl;obtain⟨TB,aK⟩:∃x,wr.heap.size=x:=⟨_,rfl⟩;obtain⟨t0,t1,t2,et⟩:=Az wr (.slice ua LP uc) (.slice ra LS rc) M.frob;rw[aK]at t0 t1 t2;have aD:=Aa et;clear hr hx hM hu aQ aY hkl bA aZ et;go_upto_region 5 with fail
   try simp only[aK]
   have HTB:=Aa aK;clear aK d0 d1 d2 i1 i2;generalize wr.alloc (.cells #[.slice ua LP uc,.slice ra LS rc,.int .i64 M.frob] 26)=w5 at *;have aO:=Aa (aU.o w5 (aE.o.trans aD.o) M (List.mem_of_getElem? bG.o) _ _ (HU.o.ex aD.o) (bC.o.ex aD.o));go_wp2_with fail
   refine aO.o.mono ?_;rintro e w6⟨v6,rfl,aR,aB⟩;have bF:=Aa aR;obtain⟨va,vc,rfl⟩:=Ac aR;have aC:=Aa (aD.o.trans aB);obtain⟨LG,aA⟩:∃x,(GL.take k).length=x:=⟨_,rfl⟩;have bT:=Aa aA;have bH:=Aa (show LG<=1000 from by rw[<-aA,List.length_take];omega);rw[aA]at HR ⊢;have bR:=Aa (show w6.ownsRow w1.heap.size 22 1 (.slice ga LG gc) LG vals from by have:=(HR.o.ex aC.o).cvo;rwa[aA]at this);have bP:=Aa (HX.o.trans aC.o).size;have hkb:k<=1000:=by omega
   clear aR aB t0 t1 t2 aO aA;go_wp2_with (at_builtin;refine Al _ rfl _ _ 37 rfl w1.heap.size 22 (.slice none 0 0) 1 24 Tryz.underlying37 Bz rfl ae _ LG vals rfl bR.o [.slice va D vc] 22 _ rfl ag rfl ak (by have:=bH.o;unfold maxLen;omega) (by have:=bH.o;omega) bP.o ?_)
   intro v8 w8 aJ;have aH:A8 w6 w8 w1.heap.size 22 1 (.slice ga LG gc) v8 (GL.take k).length vals [.slice va D vc]:=by rw[bT.o];exact aJ
   have HN:=Aa ((HR.o.ex aC.o).app (L:=il D (Jt p m ml M.perm M.scale)) (by rw[Aj,Ch];exact De bF.o (Nat.le_trans HX.o.size aD.o.size)) (Dw (fun X e=>Nat.le_trans aD.o.size (bF.o.lt X e).1) (fun X e=>(HR.o.cvo.lt X e).2)) aH);rw[<-aX.o k M bG.o]at HN;have bB:=Aa (aJ.ex (HX.o.trans aC.o) (Nat.le_refl _));obtain⟨ga8,gc8,rfl⟩:=Ac aJ.own;clear aJ aH;go_wp2_with fail
   go_roundw
   case rel=>first|exact⟨k+1,_,by have:=aW.o;omega,by go_num,HN,bB⟩|((repeat apply Exists.intro);exact⟨⟨k+1,_,by have:=aW.o;omega,by go_num,HN,bB⟩,rfl⟩)
   case measure=>have:=aW.o;simp[intOf];omega
  .obtain rfl:LM=k:=by omega
   have bO:=Aa (show GL.take LM=GL from List.take_of_length_le (by rw[aV.o];exact Nat.le_refl _));rw[bO.o]at hr ⊢;have HX:=Aa hx.o;have HMS:=Aa hr.o.msl;have bI:=Aa (Lu wr (D:Int) GL _ hr.o.msl (by rw[aV.o];exact aG));have aO:=Aa (bE.o wr (aT.o.trans hx.o));have k3:=bV.o;obtain⟨BS,aN⟩:∃x,C7 (D:Int) GL=x:=⟨_,rfl⟩;have bX:=Aa aN;obtain⟨⟨bd,bl⟩,be⟩:=BS;have aI:=Aa (show Calls Tryz.prog 123 #[.int .i64 (D:Int),.slice ga GL.length gc] wr fun r w'=>(∃v,r= .returned (.tuple #[.agg #[.int .i64 bd,v],.int .i64 be])/\Eh w' v bl)/\Ex wr w' from bI.o.mono (by
    rintro r w'⟨⟨v,h1,h2⟩,h3⟩;rw[aN]at h1 h2;exact⟨⟨v,h1,h2⟩,h3⟩))
   have bY:=Aa (show ∀l∈bl,2<=l.orb.length/\2<=l.reps.length/\∀r∈l.reps,2<=r.length from fun l hl=>J0 (n:=(D:Int)) (rows:=GL) (by rw[aN];exact hl));obtain⟨LG,aA⟩:∃x,GL.length=x:=⟨_,rfl⟩;rw[aA]at aI ⊢;have HQ:=Aa (bJ.o.ex hx.o);clear hr hx bI aN aA;go_wp2_with (first|(go_at_call 54;refine aO.o.mono ?_;rintro e w5⟨rfl,rfl⟩)|(go_at_call 123;refine aI.o.mono ?_;rintro e w6⟨⟨v6,rfl,aP⟩,aB⟩;obtain⟨la,lc,bM,_,_,_⟩:=aP.open;subst bM;obtain⟨q0,q1,q2,qf0,qf1⟩:=HQ.o.ex aB;have bN:=Aa aP;have aC:=Aa aB;clear aP aB))
   have bU:=Aa (bN.o.set2 q0 q1 q2 bY.o (.int .i64 bd) (.slice la bl.length lc));exact bodyPost_ret (v:= .tuple #[.agg #[.int .i64 bd,.slice la bl.length lc],.int .i64 be]) (by simp[results,Tryz.results64,go_sem,q0,q1]) rfl ⟨IX bX.o bU.o,IB (aT.o.trans (HX.o.trans aC.o)) (Nat.le_of_eq bQ.o) _ _⟩
end
end
section
open Go.RowKit
def Fw:List Int->List Int->Bool
 | x :: l,y :: k=>if x=y then Fw l k else decide (x<y)
 | _,_=>false
theorem KW:∀ {l k:List Int} {i:Nat} {x y:Int},l[i]?=some x->k[i]?=some y->x≠y->(∀j,j<i->l[j]?=k[j]?)->Fw l k=decide (x<y)
 | x' :: l,y' :: k,0,x,y,h1,h2,hne,_=>by
  simp at h1 h2;subst h1 h2;unfold Fw;rw[if_neg hne]
 | x' :: l,y' :: k,i+1,x,y,h1,h2,hne,ha=>by
  have h0:=ha 0 ac;simp at h0;subst h0;unfold Fw;rw[if_pos rfl];exact KW (i:=i) cz (by simpa using h2) hne fun j hj=>by
   have:=ha (j+1) ac;simpa using this
 | [],k,i,x,y,h1,_,_,_=>by simp at h1
 | x' :: l, [],i,x,y,_,h2,_,_=>by simp at h2
theorem JA:∀ {l k:List Int},(∀j,j<l.length->l[j]?=k[j]?)->Fw l k=false
 | [],k,_=>by unfold Fw;rfl
 | x :: l, [],h=>by
  have:=h 0 ag;simp at this
 | x :: l,y :: k,h=>by
  have h0:=h 0 ag;simp at h0;subst h0;unfold Fw;rw[if_pos rfl];exact JA fun j hj=>by
   have:=h (j+1) (by simpa using hj);simpa using this
def XP(b:Nat)(f:Nat->Nat):Bool:=(List.range b).all fun i=>f i==i
theorem T7(b:Nat)(f:Nat->Nat):XP b f=true↔A7 b f:=by
 unfold XP A7;rw[List.all_eq_true];exact⟨fun h i hi=>by simpa using h i (List.mem_range.2 hi),fun h i hi=>by simpa using h i (List.mem_range.1 hi)⟩
end
section
def Q8(n:Nat)(f g:Nat->Nat):Prop:=∃i,i<n/\(∀j,j<i->f j=g j)/\f i<g i
theorem Q8.le{n:Nat}{f g:Nat->Nat}(h:Q8 n f g):Eb n f g:= .inr h
theorem JO{n:Nat}{f g:Nat->Nat}:∀m,m<=n->(∀i,i<m->f i=g i)∨∃i,i<m/\(∀j,j<i->f j=g j)/\f i≠g i
 | 0,_=> .inl fun i h=>by omega
 | m+1,h=>by
  rcases JO (n:=n) (f:=f) (g:=g) m (by omega) with h1|⟨i,h1,h2,h3⟩
  .by_cases e:f m=g m
   .exact .inl fun i hi=>by
     by_cases e2:i=m
     .subst e2;exact e
     .exact h1 i (by omega)
   .exact .inr ⟨m,by omega,h1,e⟩
  .exact .inr ⟨i,by omega,h2,h3⟩
theorem Ts{n:Nat}{f g:Nat->Nat}:Fw (li n f) (li n g)=true↔Q8 n f g:=by
 rcases JO (n:=n) (f:=f) (g:=g) n (Nat.le_refl _) with h1|⟨i,h1,h2,h3⟩
 .have e:li n f=li n g:=Tr h1;rw[e,JA fun j _=>rfl];constructor
  .intro h;cases h
  .rintro⟨i,hi,_,h⟩;have:=h1 i hi;omega
 .rw[KW (i:=i) (CY h1 f) (CY h1 g) ac fun j hj=>by rw[CY ac,CY ac,h2 j hj],decide_eq_true_eq];constructor
  .intro h;exact⟨i,h1,h2,ac⟩
  .rintro⟨j,hj,j1,j2⟩;rcases Nat.lt_trichotomy i j with e|e|e
   .exact absurd (j1 i e) h3
   .subst e;omega
   .have:=h2 j e;omega
structure MW(n m:Nat)(S:List (Nat->Nat))(A:Nat->Nat->Nat):Prop where
 all:∀f,Gn S f↔∃i,i<m/\A i=f
 srt:∀a b,a<b->b<m->Q8 n (A a) (A b)
theorem MW.least{n m:Nat}{S:List (Nat->Nat)}{A:Nat->Nat->Nat}(h:MW n m S A){b x i:Nat}(hi:i<m)(h1:A7 b (A i))(h2:A i b=x)(h3:∀j,j<i->¬(A7 b (A j)/\A j b=x)):D3 n S b x (A i):=
 ⟨(h.all _).2 ⟨i,hi,rfl⟩,h1,h2,fun g hg hF aA=>by
  obtain⟨j,hj,rfl⟩:=(h.all g).1 hg;rcases Nat.lt_trichotomy i j with e|e|e
  .exact(h.srt i j e hj).le
  .subst e;exact .inl fun _ _=>rfl
  .exact absurd ⟨hF,aA⟩ (h3 j e)⟩
end
end Go.Proofs.YtehieobniamagaaGreat
