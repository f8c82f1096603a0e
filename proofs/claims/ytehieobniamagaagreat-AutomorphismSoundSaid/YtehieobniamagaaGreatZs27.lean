/- Walk of excluded. -/
import Derived.Test.YtehieobniamagaaGreatZs26
namespace Go.Proofs.YtehieobniamagaaGreat
set_option linter.all false
set_option maxRecDepth 100000
set_option maxHeartbeats 8000000
open Go.RowKit
theorem IY.cons{w:World}{v:Value}{x:EW}{rest:List EW}(h:IY w v (x :: rest)):∃b o cap ev,v= .slice (some ⟨b,o,none⟩) (rest.length+1) cap/\cap<=maxLen/\rest.length+1<=cap/\w.cell? ⟨b,o,none⟩=some (.int .i64 x.i)/\w.cell? ⟨b,o+1,none⟩=some (.int .i64 x.j)/\w.cell? ⟨b,o+2,none⟩=some (.int .i64 x.a)/\w.cell? ⟨b,o+3,none⟩=some ev/\O9 w ev x.pf/\
  IY w (.slice (some (b,o+4)) rest.length (cap-1)) rest/\(rest= []->∀a c,c<=maxLen->IY w (.slice a 0 c) rest):=by
 obtain⟨aA,h1,⟨h2,a,cap,h3,h4,h5,h6⟩,h7⟩:=h
 cases aA with
 | nil=>simp at h1
 | cons mv aA=>
  obtain⟨b,o,rfl,h9⟩:=h6 ag;have c0:=h9 0 (.int .i64 x.i) rfl;have c1:=h9 1 (.int .i64 x.j) rfl;have c2:=h9 2 (.int .i64 x.a) rfl;have c3:=h9 3 mv rfl;have hl:(Mp rest aA).length=rest.length*4:=by
   have:(Mp (x :: rest) (mv :: aA)).length=(Mp rest aA).length+4:=rfl;simp at h2;omega
  refine⟨b,o,cap,mv,h3,h5,by simpa using h4,c0,c1,c2,c3,h7 0 x mv rfl rfl,⟨aA,by simpa using h1,⟨hl,some ⟨b,o+4,none⟩,cap-1,rfl,?_,?_,fun _=>⟨b,o+4,rfl,fun i u hu=>?_⟩⟩,fun i e' aB ha hb=>h7 (i+1) e' aB ha hb⟩,fun hr a c aC=>?_⟩
  .simp at h4;omega
  .omega
  .have:=h9 (i+4) u (by show(Mp (x :: rest) (mv :: aA))[i+4]?=some u;simpa[Mp]using hu);rw[show o+4+i=o+(i+4) from ac];exact this
  .subst hr;exact⟨[],rfl,⟨rfl,a,c,rfl,Nat.zero_le _,aC,fun h=>absurd h ag⟩,fun i l o h=>by simp at h⟩
def Z4(c:AT)(g:Ca)(pf:List Rf):Int:=ckE 0 (flS c c pf g.tl g.sl) pf
def Oq(q:Nat)(L:List Lv)(g:Ca):Bool:=match L.find? (fun l=>l.pt==(g.i:Int)*((q:Int)-1)) with
 | some l=>l.orb.contains ((g.j:Int)*((q:Int)-1)+(g.a:Int)-1)
 | none=>false
def excN(c:AT)(g:Ca)(f:List EW->Option (List EW)):List EW->Option (List EW)
 | []=>none
 | x :: xs=>if x.i=g.i/\x.j=g.j/\x.a=g.a/\Z4 c g x.pf=0 then f xs else none
def Et(c:AT)(q:Nat)(L:List Lv):List Ca->List EW->Option (List EW)
 | [],xs=>some xs
 | g :: gs,xs=>if g.j=g.i/\g.a=1 then Et c q L gs xs else if Oq q L g=true then Et c q L gs xs else excN c g (Et c q L gs) xs
theorem G9(c:AT)(q:Nat)(L:List Lv)(g:Ca)(gs:List Ca)(xs:List EW):Et c q L (g :: gs) xs=if g.j=g.i/\g.a=1 then Et c q L gs xs else if Oq q L g=true then Et c q L gs xs else excN c g (Et c q L gs) xs:=rfl
def Js(c:AT)(q:Nat)(L:List Lv)(gs:List Ca)(xs:List EW):Bool:=match Et c q L gs xs with
 | some []=>true
 | _=>false
theorem W7{L:List Lv}{c:Int}{pr:Nat->Bool}(hp:∀(j:Nat) (l:Lv),L[j]?=some l->pr j=(l.pt==c)):
  (∃(i:Nat) (l:Lv),L[i]?=some l/\Cv pr L.length=i/\L.find? (fun l=>l.pt==c)=some l)∨(Cv pr L.length=-1/\L.find? (fun l=>l.pt==c)=none):=by
 cases hf:L.find? (fun l=>l.pt==c) with
 | none=>
  right;refine⟨BV fun j hj=>?_,rfl⟩;rw[hp j _ (List.getElem?_eq_getElem hj)];have:=List.find?_eq_none.1 hf _ (List.getElem_mem hj);simpa using this
 | some l=>
  left;obtain⟨h1,i,hi,h2,h3⟩:=List.find?_eq_some_iff_getElem.1 hf;refine⟨i,l,by rw[List.getElem?_eq_getElem hi,h2],Cy hi (by rw[hp i l (by rw[List.getElem?_eq_getElem hi,h2])];exact h1) fun j hj=>?_,rfl⟩;rw[hp j _ (List.getElem?_eq_getElem ac)];have:=h3 j hj;simpa using this
theorem zao{P:Prop}(h:P:=by
 have e4:=T 4 _ rfl;obtain⟨c0,c1,c2,c3,c4⟩:=cH.o;replace c0:=hx.cell c0;replace c1:=hx.cell c1;replace c2:=hx.cell c2;replace c3:=hx.cell c3;replace c4:=hx.cell c4;exact zds):P:=h
theorem zaQ{P:Prop}(h:P:=by
 have dK:=T 64 _ rfl;have dJ:=T 71 _ rfl;exact zds):P:=h
theorem zaY{P:Prop}(h:P:=by
 have aL:=T 10 _ rfl;exact zds):P:=h
theorem za6{P:Prop}(h:P:=by
 exact zds):P:=h
theorem zda{P:Prop}(h:P:=by
 clear T;go_simp;rw[if_pos aR.o];exact hK _ (.refl w)):P:=h
theorem zac{P:Prop}(h:P:=by
 simp only[AJ];refine⟨?_,?_,?_,?_,?_,?_,?_,?_,?_,?_,?_,?_,?_,?_,?_,?_,?_,?_,?_,?_,?_,?_,?_,?_,?_,?_,?_,?_,?_,?_,?_,?_,?_,?_,?_,?_,?_,?_,?_,?_,?_,?_,trivial⟩
 all_goals first|refine Bu.go rfl fun a w T hx K hK=>?_|(refine Bu.gd j1 ?_;rintro rfl a w T hx K hK)|(refine Bu.gd l2 ?_;rintro rfl a w T hx K hK)|(refine Bu.gd l3 ?_;rintro rfl a w T hx K hK)
 .exact za0
 .have dN:=T 61 _ rfl;exact zds
 .have dM:=T 62 _ rfl;exact zds
 .have dL:=T 63 _ rfl;exact zds
 .exact za0
 .have gL:=T 65 _ rfl;exact zda
 .have gK:=T 66 _ rfl;exact zds
 .have gJ:=T 67 _ rfl;have c1:=hx.cell F0.o;exact zds
 .exact zaY
 .have gH:=T 69 _ rfl;have c1:=hx.cell dT.o;exact zds
 .have gI:=T 68 _ rfl;have gG:=T 70 _ rfl;have y:=cC.o;exact zds
 .exact zaQ
 .have dI:=T 72 _ rfl;exact zds
 .exact za0
 .have gF:=T 74 _ rfl;exact zda
 .have gE:=T 75 _ rfl;exact zds
 .have gD:=T 76 _ rfl;have c1:=hx.cell F1.o;exact zds
 .exact zaY
 .have gB:=T 78 _ rfl;have c1:=hx.cell dS.o;exact zds
 .have gC:=T 77 _ rfl;have gA:=T 79 _ rfl;have y:=cB.o;exact zds
 .have dH:=T 73 _ rfl;have dG:=T 80 _ rfl;obtain rfl:=bV.o;cases j1
  .exact za6
  .exact za6
 .have dF:=T 81 _ rfl;exact zds
 .exact za0
 .have fZ:=T 83 _ rfl;exact zda
 .have fY:=T 84 _ rfl;exact zds
 .have fX:=T 85 _ rfl;have c1:=hx.cell F2.o;exact zds
 .exact zaY
 .have fV:=T 87 _ rfl;have c1:=hx.cell dR.o;exact zds
 .have fW:=T 86 _ rfl;have fU:=T 88 _ rfl;have y:=cA.o;exact zds
 .have dE:=T 82 _ rfl;have dD:=T 89 _ rfl;obtain rfl:=bU.o;cases l2
  .exact za6
  .exact za6
 .have dC:=T 90 _ rfl;exact zds
 .exact zao
 .exact zao
 .exact zaY
 .have fR:=T 94 _ rfl;have c1:=hx.cell dQ.o;have c2:=hx.cell dP.o;exact zds
 .exact za0
 .have fP:=T 96 _ rfl;exact zda
 .have fO:=T 97 _ rfl;exact zds
 .have fN:=T 98 _ rfl;have c1:=hx.cell F3.o;exact zds
 .have fT:=T 92 _ rfl;have fS:=T 93 _ rfl;have fQ:=T 95 _ rfl;have fM:=T 99 _ rfl;clear T;go_simp;refine(cF.o _ hx).mono ?_;rintro e w3⟨rfl,cP⟩;exact hK _ cP
 .have dO:=T 100 _ rfl;have y:=bZ.o;exact zds
 .have dB:=T 91 _ rfl;have bA:=T 101 _ rfl;obtain rfl:=bT.o;cases l3
  .exact za6
  .exact za6):P:=h
theorem zbK{P:Prop}(h:P:=by
 clear aB;go_wp2_with fail
 exact bodyPost_ret (v:= .bool false) (by simp[results,Tryz.results74,go_sem]) rfl ⟨by rw[HM.o],aO.o⟩):P:=h
theorem zad{P:Prop}(h:P:=by
 intro wa aB;generalize hPK:Ci _ _ _ _=PK;rw[N0 hPK 61 103 (by kernel_rfl)];clear hPK PK;simp only[List.take_succ_cons,List.take_zero,List.drop_succ_cons,List.drop_zero,List.cons_append,List.nil_append];have aO:=Aa (aN.o.trans (aA.o.trans aB))
 cases l4 with
 | true=>
  have HM:=Aa (aS.o (bD.o.trans (if_neg fun h=>absurd (bW.o.2 h) (by simp))));exact zbK
 | false=>
  have HN:=Aa (bD.o.trans (if_pos (bW.o.1 rfl)));have aI:=Aa (aJ.o.trans aB);have fD:(LY:Int)<=(yc:Int):=by have:=aM.o.2;omega
  by_cases hcp:yc=1
  case' pos=>have bB:=Aa (show IY wa (.slice (some ⟨fb,fo,none⟩) (LY-1) 0) rest from by have h9:=(dZ.o (by have:=aM.o.2;have:=aQ.o;subst hcp;exact List.length_eq_zero_iff.1 (by omega)) (some ⟨fb,fo,none⟩) 0 (by unfold maxLen;omega)).ex aB;have:=aM.o.2;have:=aQ.o;rw[show LY-1=0 from by omega];exact h9);have gU:=Aa (show LY=1 from by have:=aM.o.2;have:=aQ.o;omega);subst hcp
  case' neg=>have bB:=Aa (show IY wa (.slice (some ⟨fb,fo+4,none⟩) (LY-1) (yc-1)) rest from by have:=eA.o.ex aB;rwa[show rest.length=LY-1 from by have:=aQ.o;omega]at this);have fK:¬(yc:Int)=1:=by omega
  all_goals
   clear aB;go_wp2_with fail
   go_roundw
   case rel=>first|exact⟨k+1,rest,by have:=aD.o;omega,by go_num,bB,aI,HN⟩|((repeat apply Exists.intro);exact⟨⟨k+1,rest,by have:=aD.o;omega,by go_num,bB,aI,HN⟩,rfl⟩)
   case measure=>have:=aD.o;simp[intOf];omega):P:=h
theorem zaf{P:Prop}(h:P:=by
 simp only[AJ];refine⟨?_,?_,?_,?_,?_,?_,?_,?_,?_,?_,?_,?_,?_,?_,?_,?_,?_,?_,?_,?_,?_,?_,?_,?_,?_,?_,?_,?_,?_,?_,?_,?_,?_,?_,?_,?_,?_,?_,?_,?_,?_,?_,trivial⟩
 all_goals try exact Bu.off rfl rfl
 all_goals refine Bu.go rfl fun a w T hx K hK=>?_
 .exact za0
 .have dN:=T 61 _ rfl;exact zds
 .have dM:=T 62 _ rfl;exact zds
 .have dL:=T 63 _ rfl;exact zds
 .exact zaQ
 .have dI:=T 72 _ rfl;exact zds
 .have dH:=T 73 _ rfl;have dG:=T 80 _ rfl;exact zds
 .have dF:=T 81 _ rfl;exact zds
 .have dE:=T 82 _ rfl;have dD:=T 89 _ rfl;exact zds
 .have dC:=T 90 _ rfl;exact zds
 .have dB:=T 91 _ rfl;have bA:=T 101 _ rfl;exact zds):P:=h
theorem zak{P:Prop}(h:P:=by
 intro wa aB;simp only[Ci,Act.put,List.setIfInBounds_toArray,List.set_cons_zero,List.set_cons_succ];have aO:=Aa (aN.o.trans (aA.o.trans aB));have HM:=Aa (aS.o (bD.o));exact zbK):P:=h
theorem zaR{P:Prop}(h:P:=by
 have gN:=T 42 _ rfl;have gM:=T 59 _ rfl;exact zds):P:=h
theorem zaZ{P:Prop}(h:P:=by
 have eP:=T 11 _ rfl;exact zds):P:=h
theorem za9{P:Prop}(h:P:=by
 go_upto_region 9 with fail
 obtain⟨dT,dS,dR,dQ,dP⟩:=Of (aA.o.cell eS.o) (aA.o.cell dV.o) (aA.o.cell dU.o) (aA.o.cell eR.o) (aA.o.cell eQ.o)
 cases ys with
 | nil=>
  simp only[List.length_nil];refine BL (fun k=>([.slice ya 0 yc,.int .i64 0,.bool true,.bool true,undef,undef,undef,undef,undef,undef,undef,.bool true,.bool true,undef,undef,undef,undef,undef,undef,undef,.bool true,.bool true,undef,undef,undef,undef,undef,undef,undef,.bool true,.bool true,undef,undef,undef,undef,undef,undef,undef,undef,undef,undef,.bool true]:List Value).getD k undef) (by kernel_rfl) (by kernel_rfl) (by kernel_rfl) ?_ ?_
  .exact zaf
  .exact zak
 | cons x rest=>
  obtain⟨fb,fo,cap,ev,hv,bN,bE,f0,f1,f2,f3,aY,bQ,bP⟩:=cE.o.cons;injection hv with bJ hv2 aT;subst bJ aT;obtain⟨LY,aE⟩:∃n,rest.length+1=n:=⟨_,rfl⟩;have fH:(1:Int)<=(LY:Int):=by omega
  have aR:=Aa (show 0<LY from by omega);have fG:((LY:Int)==0)=false:=by simp;omega
  simp only[List.length_cons,aE];obtain⟨F0,F1,F2,F3,eA,dZ,aQ,bC,aM⟩:=Ty f0 f1 f2 f3 bQ bP aE aY (show yc<=maxLen/\LY<=yc from⟨bN,by omega⟩);clear f0 f1 f2 f3 bQ bP bE bN aY aE hv2 yl;have cH:=Aa (show w9.cell? (B,0)=some (.int .i64 p)/\w9.cell? (B,1)=some (.int .i64 m)/\w9.cell? (B,2)=some (.slice x3 ml.length y3)/\w9.cell? (B,3)=some (.int .i64 N)/\w9.cell? (B,4)=some (.slice x1 rows.length y1) from by
   obtain⟨c0,c1,c2,c3,c4⟩:=fC.o;have h:=aF.o.trans aA.o;exact⟨h.cell c0,h.cell c1,h.cell c2,h.cell c3,h.cell c4⟩)
  obtain⟨-,-,⟨-,ea,ec,cU,-⟩,-⟩:=bC.o;subst cU;obtain⟨LP,bO⟩:∃n,x.pf.length=n:=⟨_,rfl⟩;rw[bO]at F3 bC;obtain⟨CK,aZ⟩:∃n,Z4 C g x.pf=n:=⟨_,rfl⟩;have cF:=Aa (fun (w7:World) (h7:Ex w9 w7)=>aW.o w7 (aF.o.trans (aA.o.trans h7)) g eY.o _ _ _ (HU.o.ex (bG.o.trans (aG.o.trans (aA.o.trans h7)))) (dW.o.ex (bG.o.trans (aG.o.trans (aA.o.trans h7)))) x.pf (bC.o.ex h7));rw[aZ]at cF;obtain⟨j1,cC⟩:=JS (x.i !=(g.i:Int));obtain⟨j2,cB⟩:=JS (x.j !=(g.j:Int));obtain⟨l2,bV⟩:=JS (j1||j2);obtain⟨j3,cA⟩:=JS (x.a !=(g.a:Int));obtain⟨l3,bU⟩:=JS (l2||j3);obtain⟨j4,bZ⟩:=JS (CK !=0);obtain⟨l4,bT⟩:=JS (l3||j4);have bW:=Aa (show l4=false↔x.i=g.i/\x.j=g.j/\x.a=g.a/\Z4 C g x.pf=0 from by
   rw[aZ,<-bT.o,<-bU.o,<-bV.o,<-bZ.o,<-cA.o,<-cB.o,<-cC.o];simp only[Bool.or_eq_false_iff,bne_eq_false_iff_eq,and_assoc])
  clear aZ bO;refine BL (fun k=>([.slice (some ⟨fb,fo,none⟩) LY yc,.int .i64 (LY:Int),.bool false,.bool false,.slice (some ⟨fb,fo,none⟩) LY yc,.pointer (some ⟨fb,fo,none⟩),.pointer (some ⟨fb,fo,none⟩),.int .i64 x.i,.pointer (some ⟨XB,0,none⟩),.int .i64 (g.i:Int),.bool j1,.bool j1,.bool j1,bif j1 then undef else .slice (some ⟨fb,fo,none⟩) LY yc,bif j1 then undef else .pointer (some ⟨fb,fo,none⟩),bif j1 then undef else .pointer (some ⟨fb,fo+1,none⟩),bif j1 then undef else .int .i64 x.j,bif j1 then undef else .pointer (some ⟨XB,1,none⟩),bif j1 then undef else .int .i64 (g.j:Int),bif j1 then undef else .bool j2,.bool l2,.bool l2,bif l2 then undef else .slice (some ⟨fb,fo,none⟩) LY yc,bif l2 then undef else .pointer (some ⟨fb,fo,none⟩),bif l2 then undef else .pointer (some ⟨fb,fo+2,none⟩),bif l2 then undef else .int .i64 x.a,bif l2 then undef else .pointer (some ⟨XB,2,none⟩),bif l2 then undef else .int .i64 (g.a:Int),bif l2 then undef else .bool j3,.bool l3,.bool l3,bif l3 then undef else .agg #[(p:Int),(m:Int),.slice x3 ml.length y3,(N:Int),.slice x1 rows.length y1],bif l3 then undef else .agg #[(p:Int),(m:Int),.slice x3 ml.length y3,(N:Int),.slice x1 rows.length y1],bif l3 then undef else .pointer (some ⟨XB,3,none⟩),bif l3 then undef else .agg #[.slice ua (g.i+1) uc,.slice qa (g.i+1) qc],bif l3 then undef else .slice (some ⟨fb,fo,none⟩) LY yc,bif l3 then undef else .pointer (some ⟨fb,fo,none⟩),bif l3 then undef else .pointer (some ⟨fb,fo+3,none⟩),bif l3 then undef else .agg #[.slice ea LP ec],bif l3 then undef else .int .i64 CK,bif l3 then undef else .bool j4,.bool l4]:List Value).getD k undef) (by kernel_rfl) (by kernel_rfl) (by kernel_rfl) ?_ ?_
  .exact zac
  .exact zad):P:=h
theorem OD(w:World){b p m x0 N:Nat}{ml:List Int}{rows:List (List Int)}(hg:Bh w b p m ml x0)(hN1:1<=N)(hN:N<=64)(hd:N*(p^m-1)<=64)(ho:BI p m ml N rows 0)(m1 v1:Value)(hc:(⟨p,m,ml,N,rows⟩:AT).at w m1 v1)(dg:Int)(L:List Lv)(lv:Value)(hL:DX w lv L)(xs:List EW)(rv:Value)(hx:IY w rv xs):
  Calls Tryz.prog 74 #[.pointer (some (b,0)),(⟨p,m,ml,N,rows⟩:AT).arg m1 v1,.agg #[dg,lv,rv]] w fun r w'=>r= .returned (.bool (Js ⟨p,m,ml,N,rows⟩ (p^m) L (Du N (p^m)) xs))/\Ex w w':=by
 obtain⟨c0,c1,c2,c3,c4⟩:=CY w ⟨p,m,ml,N,rows⟩ m1 v1;have eD:=AI w ((⟨p,m,ml,N,rows⟩:AT).obj m1 v1);have eF:(w.alloc ((⟨p,m,ml,N,rows⟩:AT).obj m1 v1)).heap.size=w.heap.size+1:=ag;have aX:=AI (w.alloc ((⟨p,m,ml,N,rows⟩:AT).obj m1 v1)) (.cells #[dg,lv,rv] 53);have s0:((w.alloc ((⟨p,m,ml,N,rows⟩:AT).obj m1 v1)).alloc (.cells #[dg,lv,rv] 53)).cell? ⟨(w.alloc ((⟨p,m,ml,N,rows⟩:AT).obj m1 v1)).heap.size,0,none⟩=some (.int .i64 dg):=ag;have s1:((w.alloc ((⟨p,m,ml,N,rows⟩:AT).obj m1 v1)).alloc (.cells #[dg,lv,rv] 53)).cell? ⟨(w.alloc ((⟨p,m,ml,N,rows⟩:AT).obj m1 v1)).heap.size,1,none⟩=some lv:=ag;have s2:((w.alloc ((⟨p,m,ml,N,rows⟩:AT).obj m1 v1)).alloc (.cells #[dg,lv,rv] 53)).cell? ⟨(w.alloc ((⟨p,m,ml,N,rows⟩:AT).obj m1 v1)).heap.size,2,none⟩=some rv:=ag;rw[eF]at s0 s1 s2;have aU:=Aa (eD.trans aX);obtain⟨HG,cG,HL,HX⟩:=Eq (hg.ex aU.o) (hc.ex aU.o) (hL.ex aU.o) (hx.ex aU.o);have eH:2<=p^m:=Nat.le_trans hg.sh.p2 (Nat.le_self_pow (by have:=hg.sh.m1;omega) p);have cR:=hg.sh.q;have cL:=Aa (Cs _ HG.o);have dX:=Aa (fun (w5:World)=>Ng w5 N (p^m) hN ac cR);have aW:=Aa (fun (w5:World) (h5:Ex ((w.alloc ((⟨p,m,ml,N,rows⟩:AT).obj m1 v1)).alloc (.cells #[dg,lv,rv] 53)) w5) (g:Ca) (fJ:g∈Du N (p^m)) (u r ev:Value) (hu:Al w5 u g.tl) (hr:Al w5 r g.sl) (pf:List Rf) (aY:O9 w5 ev pf)=>(Hh w5 ⟨p,m,ml,N,rows⟩ ⟨p,m,ml,N,rows⟩ m1 m1 v1 v1 (cG.o.ex h5) (cG.o.ex h5) g.tl g.sl u r hu hr pf ev aY).mono (show ∀r' w',_->(r'= .returned (.int .i64 (Z4 ⟨p,m,ml,N,rows⟩ g pf))/\Ex w5 w') from by
   rintro r' w'⟨⟨e1,e2,k1,k2,rfl⟩,k4⟩;refine⟨?_,k4⟩;obtain rfl:e1=0:=BW k1 ho;obtain rfl:e2=0:=BW (k2 rfl) ho;have BC:Gd 0 0 (CA p m ml p m ml) N N g.tl g.sl ((p:Int).toNat^(m:Int).toNat)=0:=RZ (N:=N) rfl (q:=(p:Int).toNat^(m:Int).toNat) (IF fJ);rw[BC];rfl))
 obtain⟨x1,y1,bJ,-,z1,-⟩:=hc.g.open;obtain⟨x3,y3,aT,-,z3,-⟩:=hc.m.open;obtain⟨la,lc,fF,-,zl,-⟩:=hL.open3;obtain⟨ra,rc,fE,-,zr,-⟩:=hx.open;unfold maxLen at z1 z3 zl zr;obtain⟨B,hB⟩:=nA w.heap.size;rw[hB]at c0 c1 c2 c3 c4 s0 s1 s2;replace c0:=aX.cell c0;replace c1:=aX.cell c1;replace c2:=aX.cell c2;replace c3:=aX.cell c3;replace c4:=aX.cell c4;unfold AT.arg at aW ⊢;unfold AT.obj at aU cG HG HL HX cL aW c0 c1 c2 c3 c4 s0 s1 s2;dsimp only at aU cG HG HL HX cL aW c0 c1 c2 c3 c4 s0 s1 s2 ⊢;have hA:=Aa (show ∀q,q=Js ⟨p,m,ml,N,rows⟩ (p^m) L (Du N (p^m)) xs->q=Js ⟨p,m,ml,N,rows⟩ (p^m) L (Du N (p^m)) xs from fun q h=>h);obtain⟨RB,cW⟩:∃x,Js ⟨p,m,ml,N,rows⟩ (p^m) L (Du N (p^m)) xs=x:=⟨_,rfl⟩;have bR:=Aa cW;rw[cW];subst bJ aT fF fE;obtain⟨q,hq⟩:=nA (p^m);rw[hq]at cL dX bR aW eH cR;have HQ:=Aa (show N<=64/\2<=q/\q<=256/\N*(q-1)<=64 from⟨hN,eH,cR,by rw[<-hq];exact hd⟩);clear hc eD aX hg ho hd hq cW hL hx hA eF;go_enter Tryz.func74,Tryz.ntmps74
 go_upto_region 1 with fail
 have bK:(w.alloc (.cells #[p,m,.slice x3 ml.length y3,N,.slice x1 rows.length y1] 39)).heap.size=B+1:=by simp[hB]
 try simp only[bK]
 try simp only[hB]
 clear hB bK;generalize (w.alloc (.cells #[p,m,.slice x3 ml.length y3,N,.slice x1 rows.length y1] 39)).alloc (.cells #[dg,.slice la L.length lc,.slice ra xs.length rc] 53)=w1 at *;go_upto_region 2 with (go_at_call 54;refine cL.o.mono ?_;rintro e w5⟨rfl,rfl⟩)
 have fC:=Aa (show w1.cell? (B,0)=some (.int .i64 p)/\w1.cell? (B,1)=some (.int .i64 m)/\w1.cell? (B,2)=some (.slice x3 ml.length y3)/\w1.cell? (B,3)=some (.int .i64 N)/\w1.cell? (B,4)=some (.slice x1 rows.length y1) from⟨c0,c1,c2,c3,c4⟩);clear c0 c1 c2 c4;have aV:=Aa (AI w1 (.cells #[q] 3));have qc:(w1.alloc (.cells #[q] 3)).cell? (w1.heap.size,0)=some (.int .i64 q):=ag;obtain⟨QB,cX⟩:∃x,w1.heap.size=x:=⟨_,rfl⟩;rw[cX]at qc
 try simp only[cX]
 clear cX;generalize w1.alloc (.cells #[q] 3)=w2 at *;replace s0:=aV.o.cell s0;replace s1:=aV.o.cell s1;replace s2:=aV.o.cell s2;replace c3:=aV.o.cell c3;have gR:=Aa (HX.o.ex aV.o);have i0:(N:Int)<=64:=by have:=HQ.o.1;omega
 obtain⟨GS,cZ⟩:∃g,Du N q=g:=⟨_,rfl⟩;rw[cZ]at dX bR aW;have eX:=Aa cZ;clear cZ;obtain⟨C,hC⟩:∃C:AT,C=⟨p,m,ml,N,rows⟩:=⟨_,rfl⟩;rw[<-hC]at bR aW cG;clear hC;obtain⟨LG,eN⟩:∃n,GS.length=n:=⟨_,rfl⟩;have bS:=Aa eN;clear eN;go_upto_region 4 with (go_at_call 121;refine(dX.o _).mono ?_;rintro e w3⟨v3,cs3,rfl,cI⟩;have bH:=Aa cI.ex;have eT:=Aa cI.gsl;obtain⟨ga3,gc3,aT⟩:=Ae cI.own;rw[bS.o]at aT;subst aT;clear cI)
 clear c3 s0 s2;obtain⟨fL,gc',eL,g1,g2,g3⟩:=eT.o.open;have bM:fL=ga3:=by injection eL with e1 e2 e3;exact e1.symm
 rw[bM]at g3;obtain⟨gV,fA,gT,fB⟩:=Eq (show 0<LG->_ from fun h=>g3 (by rw[bS.o];exact h)) (gR.o.ex bH.o) (show LG<=1048576 from by rw[<-bS.o,<-eX.o];have:=Oz N q HQ.o.1 HQ.o.2.2.1 N;have:=HQ.o.1;unfold Du;omega) (show Et C q L GS xs=Et C q L (GS.drop 0) xs from rfl);replace s1:=bH.o.cell s1;replace qc:=bH.o.cell qc;have S1:=Aa s1;have QC:=Aa qc;clear g1 g2 g3 eL bM eT s1 qc i0
 go_loopw [8,21] (fun rv k' wr=>∃(k:Nat) (ys:List EW),k<=LG/\k'= .int .i64 k/\Hia (IY wr rv ys)/\Hia (Ex w3 wr)/\Hia (Et C q L GS xs=Et C q L (GS.drop k) ys)) (fun _ k' _=>LG-(intOf k').toNat)
 case atStart=>exact⟨0,xs,ac,rfl,fA,Aa (Ex.refl _),fB⟩
 case round=>
  clear fA fB;obtain⟨k,ys,hk,rfl,cJ,aH,cK⟩:=hrel;obtain⟨ya,yc,rfl,yl,yz,-⟩:=cJ.o.open;unfold maxLen at yz;by_cases hkl:k<LG
  .obtain⟨gb,go,rfl,eJ⟩:=gV.o ac;obtain⟨g,hg⟩:∃g,GS[k]?=some g:=⟨_,List.getElem?_eq_getElem (by rw[bS.o];exact hkl)⟩;obtain⟨u,r,d0,d1,d2,d3,d4,hu,cQ,-,-⟩:=eJ k g hg;have HGG:=Aa hg;have eY:=Aa (List.mem_of_getElem? hg);have cD:=Aa (show EP N q g from IF (by rw[eX.o];exact List.mem_of_getElem? hg));have gY:=Aa (show GS.drop k=g :: GS.drop (k+1) from by
    have:=List.getElem?_eq_some_iff.1 hg;obtain⟨h1,h2⟩:=this;rw[List.drop_eq_getElem_cons h1,h2])
   have eB:=Aa (show Et C q L GS xs=Et C q L (g :: GS.drop (k+1)) ys from by rw[<-gY.o];exact cK.o);have HU:=Aa (hu.ex aH.o);have dW:=Aa (cQ.ex aH.o);obtain⟨ua,uc,rfl,-,-,-⟩:=hu.open;obtain⟨qa,qc,rfl,-,-,-⟩:=cQ.open;rw[AM]at d3 HU;rw[BH]at d4 dW;replace d0:=aH.o.cell d0;replace d1:=aH.o.cell d1;replace d2:=aH.o.cell d2;replace d3:=aH.o.cell d3;replace d4:=aH.o.cell d4;rw[show go+5*k=go+k*5 from ac]at d0;rw[show go+(5*k+1)=go+k*5+1 from ac]at d1;rw[show go+(5*k+2)=go+k*5+2 from ac]at d2;rw[show go+(5*k+3)=go+k*5+3 from ac]at d3;rw[show go+(5*k+4)=go+k*5+4 from ac]at d4;have i1:(0:Int)<=(k:Int):=by omega
   have i2:(k:Int)<(LG:Int):=ac;have aD:=Aa hkl;clear hg eJ hu cQ hkl cK;go_upto_region 6 with fail
   have bx:∀x:Nat,wr.heap.size=x->(wr.alloc (.cells #[g.i,g.j,g.a,.slice ua (g.i+1) uc,.slice qa (g.i+1) qc] 129)).cell? ⟨x,0,none⟩=some (.int .i64 g.i)/\(wr.alloc (.cells #[g.i,g.j,g.a,.slice ua (g.i+1) uc,.slice qa (g.i+1) qc] 129)).cell? ⟨x,1,none⟩=some (.int .i64 g.j)/\(wr.alloc (.cells #[g.i,g.j,g.a,.slice ua (g.i+1) uc,.slice qa (g.i+1) qc] 129)).cell? ⟨x,2,none⟩=some (.int .i64 g.a)/\(wr.alloc (.cells #[g.i,g.j,g.a,.slice ua (g.i+1) uc,.slice qa (g.i+1) qc] 129)).cell? ⟨x,3,none⟩=some (.slice ua (g.i+1) uc)/\(wr.alloc (.cells #[g.i,g.j,g.a,.slice ua (g.i+1) uc,.slice qa (g.i+1) qc] 129)).cell? ⟨x,4,none⟩=some (.slice qa (g.i+1) qc):=fun x h=>by
    subst h;exact⟨ag,ag,ag,ag,ag⟩
   obtain⟨XB,cV⟩:∃x,wr.heap.size=x:=⟨_,rfl⟩;obtain⟨cO,cN,cM,x3,x4⟩:=bx XB cV;have bG:=Aa (AI wr (.cells #[g.i,g.j,g.a,.slice ua (g.i+1) uc,.slice qa (g.i+1) qc] 129))
   try simp only[cV]
   clear cV d0 d1 d2 d3 d4 i1 i2 bx;generalize wr.alloc (.cells #[g.i,g.j,g.a,.slice ua (g.i+1) uc,.slice qa (g.i+1) qc] 129)=w5 at *;have aC:=Aa (aH.o.trans bG.o);have dY:=Aa (cJ.o.ex bG.o);clear cJ aH;have cT:k<=1048576:=by have:=aD.o;have:=gT.o;omega
   by_cases hid:g.j=g.i/\g.a=1
   .have HN:=Aa (show Et C q L GS xs=Et C q L (GS.drop (k+1)) ys from by rw[eB.o,G9,if_pos hid]);obtain⟨hj,ha⟩:=hid;rw[hj]at cN;rw[ha]at cM;clear hj ha;go_wp2_with fail
    go_roundw
    case rel=>first|exact⟨k+1,ys,by have:=aD.o;omega,by go_num,dY,aC,HN⟩|((repeat apply Exists.intro);exact⟨⟨k+1,ys,by have:=aD.o;omega,by go_num,dY,aC,HN⟩,rfl⟩)
    case measure=>have:=aD.o;simp[intOf];omega
   .have eW:=Aa hid;have eK:(g.j:Int)=(g.i:Int)->((g.a:Int)==1)=false:=fun h=>by simp;omega
    obtain⟨T,hT⟩:∃T:Bool,((g.j:Int)==(g.i:Int))=T:=⟨_,rfl⟩;have eM:T=true->((g.a:Int)==1)=false:=fun h=>eK (by rw[h]at hT;simpa using hT);clear hid eK;obtain⟨pr,cS⟩:∃pr:Nat->Bool,∀(j:Nat) (l:Lv),L[j]?=some l->pr j=(l.pt==(g.i:Int)*((q:Int)-1)):=⟨fun j=>match L[j]? with|some l=>l.pt==(g.i:Int)*((q:Int)-1)|none=>false,fun j l h=>by simp[h]⟩;have eV:=Aa (MF w5 XB QB g.i q (by have:=cD.o.ij;have:=cD.o.j;have:=HQ.o.1;omega) (by have:=HQ.o;omega) (by have:=HQ.o;omega) cO (aC.o.cell QC.o) L _ (HL.o.ex (aV.o.trans (bH.o.trans aC.o))) pr cS);have gX:=Aa (W7 cS);clear cS;have s1:=aC.o.cell S1.o;cases T
    case' true=>have hT2:=eM rfl
    all_goals
     clear eM;go_upto_region 8 with (go_at_call 130;refine eV.o.mono ?_;rintro e w6⟨rfl,eE⟩;have aG:=Aa eE;clear eE)
     obtain⟨K0,cY⟩:∃x,Cv pr L.length=x:=⟨_,rfl⟩;rw[cY];have gW:=Aa (show(∃(i:Nat) (l:Lv),L[i]?=some l/\K0=i/\L.find? (fun l=>l.pt==(g.i:Int)*((q:Int)-1))=some l)∨(K0=-1/\L.find? (fun l=>l.pt==(g.i:Int)*((q:Int)-1))=none) from by rw[<-cY];exact gX.o);clear cY s1 eV;obtain⟨aF,aP,eZ,eS,dV,dU,eR,eQ⟩:=On (aV.o.trans (bH.o.trans (aC.o.trans aG.o))) (aC.o.trans aG.o) (dY.o.ex aG.o) (aG.o.cell cO) (aG.o.cell cN) (aG.o.cell cM) (aG.o.cell x3) (aG.o.cell x4);have gQ:=Aa (aP.o.cell S1.o);have PQ:=Aa (aP.o.cell QC.o);clear cO cN cM x3 x4;have eC:∀CT:Bool,Oq q L g=CT->CT=false->Hia (Et C q L GS xs=excN C g (Et C q L (GS.drop (k+1))) ys):=fun CT h1 h2=>Aa (by rw[eB.o,G9,if_neg eW.o,if_neg (by rw[h1,h2];simp)]);have bI:∀CT:Bool,Oq q L g=CT->CT=true->Hia (Et C q L GS xs=Et C q L (GS.drop (k+1)) ys):=fun CT h1 h2=>Aa (by rw[eB.o,G9,if_neg eW.o,if_pos (by rw[h1,h2])]);have bY:=Aa eC;have bX:=Aa bI;clear eC bI;have eO:Et C q L GS xs=none->RB=false:=fun h=>by
      have h1:=bR.o;unfold Js at h1;rw[h]at h1;exact h1.symm
     have aS:=Aa eO;clear eO;have aN:=Aa (aU.o.trans aF.o);rcases gW.o with⟨i,l,hl,rfl,hfi⟩|⟨rfl,hfi⟩
     .have fI:=(List.getElem?_eq_some_iff.1 hl).1;obtain⟨la2,lc2,eG,-,-,h3⟩:=(HL.o.ex aF.o).open3;have eI:la=la2:=by injection eG
      obtain⟨eb,eo,bL,bE⟩:=h3 ac;rw[bL]at eI;subst eI;obtain⟨ou,orr,-,k1,-,k3,-⟩:=bE i l hl;obtain⟨oa,oc,rfl,-,-,-⟩:=k3.open;have PO:=Aa k1;have gS:=Aa k3;obtain⟨PJ,bF⟩:∃x,(g.j:Int)*((q:Int)-1)=x:=⟨_,rfl⟩;have m1:(0:Int)<=PJ:=by rw[<-bF];exact Int.mul_nonneg ac (by have:=HQ.o;omega)
      have m2:PJ<=64*256:=by rw[<-bF];exact Int.mul_le_mul (by have:=cD.o.j;have:=HQ.o;omega) (by have:=HQ.o;omega) (by have:=HQ.o;omega) ac
      have m3:wrap64 ((g.j:Int)*((q:Int)-1))=PJ:=by rw[bF];unfold wrap64;omega
      have m4:(1:Int)<=(g.a:Int):=by have:=cD.o.a1;omega
      have m5:(g.a:Int)<=256:=by have:=cD.o.a;have:=HQ.o;omega
      have m6:(1:Int)<=(q:Int):=by have:=HQ.o;omega
      have m7:(q:Int)<=256:=by have:=HQ.o;omega
      have i1:(0:Int)<=(i:Int):=ac;have i2:(i:Int)<(L.length:Int):=ac;obtain⟨W1,W2,W3,W4⟩:=Eq (show IntKind.i64.wrap ((q:Int)-1)=(q:Int)-1 from IntWalk.i64_in _ ac) (show IntKind.i64.wrap ((g.j:Int)*((q:Int)-1))=PJ from by rw[bF];exact IntWalk.i64_in _ ac) (show IntKind.i64.wrap (PJ+(g.a:Int))=PJ+(g.a:Int) from IntWalk.i64_in _ ac) (show IntKind.i64.wrap (PJ+(g.a:Int)-1)=PJ+(g.a:Int)-1 from IntWalk.i64_in _ ac);obtain⟨CT,dA⟩:∃x,l.orb.contains (PJ+(g.a:Int)-1)=x:=⟨_,rfl⟩;have gZ:=Aa (fun (w7:World) (h7:Ex w6 w7)=>(show Calls Tryz.prog 132 #[.slice oa l.orb.length oc,.int .i64 (PJ+(g.a:Int)-1)] w7 fun r w'=>r= .returned (.bool CT)/\w7=w' from by rw[<-dA];exact DC w7 l.orb _ _ (gS.o.ex h7)));have eU:=Aa (show Oq q L g=CT from by unfold Oq;rw[hfi];show l.orb.contains ((g.j:Int)*((q:Int)-1)+(g.a:Int)-1)=CT;rw[bF,dA]);clear hl hfi eG h3 bE k1 k3 dA bF fI bL;refine BL (fun k=>([.int .i64 (i:Int),.bool true,.bool true,.pointer (some ⟨B+1,0,none⟩),.pointer (some ⟨B+1,1,none⟩),.slice (some ⟨eb,eo,none⟩) L.length lc,.int .i64 (i:Int),.pointer (some ⟨eb,eo+i*3,none⟩),.pointer (some ⟨eb,eo+i*3+1,none⟩),.slice oa l.orb.length oc,.pointer (some ⟨XB,1,none⟩),.int .i64 (g.j:Int),.int .i64 (q:Int),.int .i64 ((q:Int)-1),.int .i64 PJ,.pointer (some ⟨XB,2,none⟩),.int .i64 (g.a:Int),.int .i64 (PJ+(g.a:Int)),.int .i64 (PJ+(g.a:Int)-1),.bool CT,.bool CT]:List Value).getD k undef) ah ah ah ?_ ?_
      .simp only[AJ];refine⟨?_,?_,?_,?_,?_,?_,?_,?_,?_,?_,?_,?_,?_,?_,?_,?_,?_,?_,?_,?_,?_,trivial⟩
       all_goals refine Bu.go rfl fun a w T hx K hK=>?_
       .exact zaZ
       .have gP:=T 40 _ rfl;exact zds
       .have gO:=T 41 _ rfl;exact zds
       .have e5:=T 5 _ rfl;exact zds
       .have e43:=T 43 _ rfl;exact zds
       .have e44:=T 44 _ rfl;have c1:=hx.cell gQ.o;exact zds
       .exact zaZ
       .have e45:=T 45 _ rfl;have e46:=T 46 _ rfl;exact zds
       .have e47:=T 47 _ rfl;exact zds
       .have e48:=T 48 _ rfl;have c1:=hx.cell PO.o;exact zds
       .exact zaY
       .have e50:=T 50 _ rfl;have c1:=hx.cell dV.o;exact zds
       .have e7:=T 7 _ rfl;have c1:=hx.cell PQ.o;exact zds
       .have e52:=T 52 _ rfl;clear T;go_simp;rw[W1.o];exact hK _ (Ex.refl _)
       .have e51:=T 51 _ rfl;have e53:=T 53 _ rfl;clear T;go_simp;rw[W2.o];exact hK _ (Ex.refl _)
       .exact zaY
       .have e55:=T 55 _ rfl;have c1:=hx.cell dU.o;exact zds
       .have e54:=T 54 _ rfl;have e56:=T 56 _ rfl;clear T;go_simp;rw[W3.o];exact hK _ (Ex.refl _)
       .have e57:=T 57 _ rfl;clear T;go_simp;rw[W4.o];exact hK _ (Ex.refl _)
       .have e49:=T 49 _ rfl;have e58:=T 58 _ rfl;clear T;go_simp;refine(gZ.o _ hx).mono ?_;exact zdg
       .exact zaR
      .intro w9 aK;simp only[Ci,Act.put,List.setIfInBounds_toArray,List.set_cons_zero,List.set_cons_succ];obtain⟨aA,cE,aJ,HKL9⟩:=Eq aK (eZ.o.ex aK) (aP.o.trans aK) (show k<=1048576/\k+1<=LG from⟨cT,by have:=aD.o;omega⟩);clear aK m1 m2 m3 m4 m5 m6 m7 i1 i2
       cases CT with
       | true=>
        have HN:=bX.o true eU.o rfl;go_wp2_with fail
        go_roundw
        case rel=>first|exact⟨k+1,ys,by have:=aD.o;omega,by go_num,cE,aJ,HN⟩|((repeat apply Exists.intro);exact⟨⟨k+1,ys,by have:=aD.o;omega,by go_num,cE,aJ,HN⟩,rfl⟩)
        case measure=>have:=aD.o;simp[intOf];omega
       | false=>
        have bD:=bY.o false eU.o rfl;exact za9
     .have bD:=bY.o false (by unfold Oq;rw[hfi]) rfl;clear hfi;refine BL (fun k=>([.int .i64 (-1),.bool false,.bool false,undef,undef,undef,undef,undef,undef,undef,undef,undef,undef,undef,undef,undef,undef,undef,undef,undef,.bool false]:List Value).getD k undef) ah ah ah ?_ ?_
      .simp only[AJ];refine⟨?_,?_,?_,?_,?_,?_,?_,?_,?_,?_,?_,?_,?_,?_,?_,?_,?_,?_,?_,?_,?_,trivial⟩
       all_goals try exact Bu.off rfl rfl
       all_goals refine Bu.go rfl fun a w T hx K hK=>?_
       .exact zaZ
       .have gP:=T 40 _ rfl;exact zds
       .have gO:=T 41 _ rfl;exact zds
       .exact zaR
      .intro w9 aK;simp only[Ci,Act.put,List.setIfInBounds_toArray,List.set_cons_zero,List.set_cons_succ];have aA:=Aa aK;have cE:=Aa (eZ.o.ex aK);have aJ:=Aa (aP.o.trans aK);clear aK;exact za9
  .obtain rfl:LG=k:=by omega
   have HN:=Aa (show Et C q L GS xs=some ys from by rw[cK.o,List.drop_of_length_le (by rw[bS.o];exact Nat.le_refl _)];rfl);obtain⟨LY,aE⟩:∃n,ys.length=n:=⟨_,rfl⟩;have HB:=Aa (show((LY:Int)==0)=RB from by
    rw[<-bR.o];unfold Js;rw[HN.o]
    cases ys with
    | nil=>simp at aE;subst aE;rfl
    | cons a b=>simp at aE;simp;omega)
   rw[aE];have aO:=Aa (aU.o.trans (aV.o.trans (bH.o.trans aH.o)));clear aH cK cJ aE hkl;go_wp2_with fail
   exact bodyPost_ret (v:= .bool ((LY:Int)==0)) (by simp[results,Tryz.results74,go_sem]) rfl ⟨by rw[HB.o],aO.o⟩
end Go.Proofs.YtehieobniamagaaGreat
