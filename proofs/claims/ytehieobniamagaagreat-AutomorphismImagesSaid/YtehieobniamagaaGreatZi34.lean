/- Walk of automorphism.excluded. -/
import Derived.Test.YtehieobniamagaaGreatZi33
namespace Go.Proofs.YtehieobniamagaaGreat
open List renaming getElem?_eq_getElem→γ,mem_of_getElem?→ι,getElem?_eq_some_iff→θ,setIfInBounds_toArray→γa,set_cons_zero→δb,set_cons_succ→δc
open Go.IntWalk renaming i64_in→ρ
set_option linter.all false
set_option maxRecDepth 100000
set_option maxHeartbeats 8000000
open Go.RowKit
theorem Mh.cons{w:World}{v:Value}{x:GZ}{rest:List GZ}(h:Mh w v (x :: rest)):∃b o cap ev,v= .slice (some ⟨b,o,none⟩) (rest.length+1) cap/\cap<=maxLen/\rest.length+1<=cap/\w.cell? ⟨b,o,none⟩=some (.int .i64 x.i)/\w.cell? ⟨b,o+1,none⟩=some (.int .i64 x.j)/\w.cell? ⟨b,o+2,none⟩=some (.int .i64 x.a)/\w.cell? ⟨b,o+3,none⟩=some ev/\Yt w ev x.pf/\
  Mh w (.slice (some (b,o+4)) rest.length (cap-1)) rest/\(rest= []->∀a c,c<=maxLen->Mh w (.slice a 0 c) rest):=by
 obtain⟨mvs,h1,⟨h2,a,cap,h3,h4,h5,h6⟩,h7⟩:=h
 cases mvs with
 | nil=>simp at h1
 | cons mv mvs=>
  obtain⟨b,o,rfl,h9⟩:=h6 ag;have c0:=h9 0 (.int .i64 x.i) rfl;have c1:=h9 1 (.int .i64 x.j) rfl;have c2:=h9 2 (.int .i64 x.a) rfl;have c3:=h9 3 mv rfl;have hl:(OO rest mvs).length=rest.length*4:=by
   have:(OO (x :: rest) (mv :: mvs)).length=(OO rest mvs).length+4:=rfl;simp at h2;omega
  refine⟨b,o,cap,mv,h3,h5,by simpa using h4,c0,c1,c2,c3,h7 0 x mv rfl rfl,⟨mvs,by simpa using h1,⟨hl,some ⟨b,o+4,none⟩,cap-1,rfl,?_,?_,fun _=>⟨b,o+4,rfl,fun i u hu=>?_⟩⟩,fun i e' aA ha hb=>h7 (i+1) e' aA ha hb⟩,fun hr a c aB=>?_⟩
  .simp at h4;omega
  .omega
  .have:=h9 (i+4) u (by show(OO (x :: rest) (mv :: mvs))[i+4]?=some u;simpa[OO]using hu);rw[show o+4+i=o+(i+4) from ac];exact this
  .subst hr;exact⟨[],rfl,⟨rfl,a,c,rfl,Nat.zero_le _,aB,fun h=>absurd h ag⟩,fun i l o h=>by simp at h⟩
def chK(c:AX)(g:Cd)(pf:List Rf):Int:=ckE 0 (flS c c pf g.tl g.sl) pf
def Sb(q:Nat)(L:List Lv)(g:Cd):Bool:=match L.find? (fun l=>l.pt==(g.i:Int)*((q:Int)-1)) with
 | some l=>l.orb.contains ((g.j:Int)*((q:Int)-1)+(g.a:Int)-1)
 | none=>false
def excN(c:AX)(g:Cd)(f:List GZ->Option (List GZ)):List GZ->Option (List GZ)
 | []=>none
 | x :: xs=>if x.i=g.i/\x.j=g.j/\x.a=g.a/\chK c g x.pf=0 then f xs else none
def EO(c:AX)(q:Nat)(L:List Lv):List Cd->List GZ->Option (List GZ)
 | [],xs=>some xs
 | g :: gs,xs=>if g.j=g.i/\g.a=1 then EO c q L gs xs else if Sb q L g=true then EO c q L gs xs else excN c g (EO c q L gs) xs
theorem Jn(c:AX)(q:Nat)(L:List Lv)(g:Cd)(gs:List Cd)(xs:List GZ):EO c q L (g :: gs) xs=if g.j=g.i/\g.a=1 then EO c q L gs xs else if Sb q L g=true then EO c q L gs xs else excN c g (EO c q L gs) xs:=rfl
def Lw(c:AX)(q:Nat)(L:List Lv)(gs:List Cd)(xs:List GZ):Bool:=match EO c q L gs xs with
 | some []=>true
 | _=>false
theorem XE{L:List Lv}{c:Int}{pr:Nat->Bool}(hp:∀(j:Nat) (l:Lv),L[j]?=some l->pr j=(l.pt==c)):
  (∃(i:Nat) (l:Lv),L[i]?=some l/\CG pr L.length=i/\L.find? (fun l=>l.pt==c)=some l)∨(CG pr L.length=-1/\L.find? (fun l=>l.pt==c)=none):=by
 cases hf:L.find? (fun l=>l.pt==c) with
 | none=>
  right;refine⟨Cf fun j hj=>?_,rfl⟩;rw[hp j _ (γ hj)];have:=List.find?_eq_none.1 hf _ (List.getElem_mem hj);simpa using this
 | some l=>
  left;obtain⟨h1,i,hi,h2,h3⟩:=List.find?_eq_some_iff_getElem.1 hf;refine⟨i,l,by rw[γ hi,h2],CO hi (by rw[hp i l (by rw[γ hi,h2])];exact h1) fun j hj=>?_,rfl⟩;rw[hp j _ (γ ac)];have:=h3 j hj;simpa using this
theorem zap{P:Prop}(h:P:=by
 have e4:=T 4 _ rfl;obtain⟨c0,c1,c2,c3,c4⟩:=cG.o;replace c0:=hx.cell c0;replace c1:=hx.cell c1;replace c2:=hx.cell c2;replace c3:=hx.cell c3;replace c4:=hx.cell c4;exact zdp):P:=h
theorem zaV{P:Prop}(h:P:=by
 have dK:=T 64 _ rfl;have dJ:=T 71 _ rfl;exact zdp):P:=h
theorem za3{P:Prop}(h:P:=by
 have aJ:=T 10 _ rfl;exact zdp):P:=h
theorem zbb{P:Prop}(h:P:=by
 exact zdp):P:=h
theorem zc9{P:Prop}(h:P:=by
 clear T;go_simp;rw[if_pos aQ.o];exact hK _ (.refl w)):P:=h
theorem zac{P:Prop}(h:P:=by
 simp only[AH];refine⟨?_,?_,?_,?_,?_,?_,?_,?_,?_,?_,?_,?_,?_,?_,?_,?_,?_,?_,?_,?_,?_,?_,?_,?_,?_,?_,?_,?_,?_,?_,?_,?_,?_,?_,?_,?_,?_,?_,?_,?_,?_,?_,trivial⟩
 all_goals first|refine BB.go rfl fun a w T hx K hK=>?_|(refine BB.gd j1 ?_;rintro rfl a w T hx K hK)|(refine BB.gd l2 ?_;rintro rfl a w T hx K hK)|(refine BB.gd l3 ?_;rintro rfl a w T hx K hK)
 .exact za5
 .have dN:=T 61 _ rfl;exact zdp
 .have dM:=T 62 _ rfl;exact zdp
 .have dL:=T 63 _ rfl;exact zdp
 .exact za5
 .have gL:=T 65 _ rfl;exact zc9
 .have gK:=T 66 _ rfl;exact zdp
 .have gJ:=T 67 _ rfl;have c1:=hx.cell F0.o;exact zdp
 .exact za3
 .have gH:=T 69 _ rfl;have c1:=hx.cell dT.o;exact zdp
 .have gI:=T 68 _ rfl;have gG:=T 70 _ rfl;have y:=cC.o;exact zdp
 .exact zaV
 .have dI:=T 72 _ rfl;exact zdp
 .exact za5
 .have gF:=T 74 _ rfl;exact zc9
 .have gE:=T 75 _ rfl;exact zdp
 .have gD:=T 76 _ rfl;have c1:=hx.cell F1.o;exact zdp
 .exact za3
 .have gB:=T 78 _ rfl;have c1:=hx.cell dS.o;exact zdp
 .have gC:=T 77 _ rfl;have gA:=T 79 _ rfl;have y:=cB.o;exact zdp
 .have dH:=T 73 _ rfl;have dG:=T 80 _ rfl;obtain rfl:=bV.o;cases j1
  .exact zbb
  .exact zbb
 .have dF:=T 81 _ rfl;exact zdp
 .exact za5
 .have fZ:=T 83 _ rfl;exact zc9
 .have fY:=T 84 _ rfl;exact zdp
 .have fX:=T 85 _ rfl;have c1:=hx.cell F2.o;exact zdp
 .exact za3
 .have fV:=T 87 _ rfl;have c1:=hx.cell dR.o;exact zdp
 .have fW:=T 86 _ rfl;have fU:=T 88 _ rfl;have y:=cA.o;exact zdp
 .have dE:=T 82 _ rfl;have dD:=T 89 _ rfl;obtain rfl:=bU.o;cases l2
  .exact zbb
  .exact zbb
 .have dC:=T 90 _ rfl;exact zdp
 .exact zap
 .exact zap
 .exact za3
 .have fR:=T 94 _ rfl;have c1:=hx.cell dQ.o;have c2:=hx.cell dP.o;exact zdp
 .exact za5
 .have fP:=T 96 _ rfl;exact zc9
 .have fO:=T 97 _ rfl;exact zdp
 .have fN:=T 98 _ rfl;have c1:=hx.cell F3.o;exact zdp
 .have fT:=T 92 _ rfl;have fS:=T 93 _ rfl;have fQ:=T 95 _ rfl;have fM:=T 99 _ rfl;clear T;go_simp;refine(cE.o _ hx).mono ?_;rintro e w3⟨rfl,cP⟩;exact hK _ cP
 .have dO:=T 100 _ rfl;have y:=bZ.o;exact zdp
 .have dB:=T 91 _ rfl;have aZ:=T 101 _ rfl;obtain rfl:=bT.o;cases l3
  .exact zbb
  .exact zbb):P:=h
theorem zbM{P:Prop}(h:P:=by
 clear aB;go_wp2_with fail
 exact bodyPost_ret (v:= .bool false) (by simp[results,Tryz.results74,go_sem]) rfl ⟨by rw[HM.o],aM.o⟩):P:=h
theorem zad{P:Prop}(h:P:=by
 intro wa aB;generalize hPK:Cg _ _ _ _=PK;rw[N8 hPK 61 103 (by kernel_rfl)];clear hPK PK;simp only[List.take_succ_cons,List.take_zero,List.drop_succ_cons,List.drop_zero,List.cons_append,List.nil_append];have aM:=Aa (aL.o.trans (aA.o.trans aB))
 cases l4 with
 | true=>
  have HM:=Aa (aR.o (bC.o.trans (if_neg fun h=>absurd (bW.o.2 h) (by simp))));exact zbM
 | false=>
  have HN:=Aa (bC.o.trans (if_pos (bW.o.1 rfl)));have bA:=Aa (aN.o.trans aB);have fD:(LY:Int)<=(yc:Int):=by have:=aK.o.2;omega
  by_cases hcp:yc=1
  case' pos=>have bQ:Hia (Mh wa (.slice (some (fb,fo)) (LY-1) 0) rest):=Aa (by have h9:=(dY.o (by have:=aK.o.2;have:=aP.o;subst hcp;exact List.length_eq_zero_iff.1 (by omega)) (some ⟨fb,fo,none⟩) 0 (by unfold maxLen;omega)).ex aB;have:=aK.o.2;have:=aP.o;rw[show LY-1=0 from by omega];exact h9);have gU:Hia (LY=1):=Aa (by have:=aK.o.2;have:=aP.o;omega);subst hcp
  case' neg=>have bQ:Hia (Mh wa (.slice (some (fb,fo+4)) (LY-1) (yc-1)) rest):=Aa (by have:=dZ.o.ex aB;rwa[show rest.length=LY-1 from by have:=aP.o;omega]at this);have fK:¬(yc:Int)=1:=by omega
  all_goals
   clear aB;go_wp2_with fail
   go_roundw
   case rel=>exact⟨k+1,rest,by have:=aH.o;omega,by go_num,bQ,bA,HN⟩
   case measure=>have:=aH.o;simp[intOf];omega):P:=h
theorem zaf{P:Prop}(h:P:=by
 simp only[AH];refine⟨?_,?_,?_,?_,?_,?_,?_,?_,?_,?_,?_,?_,?_,?_,?_,?_,?_,?_,?_,?_,?_,?_,?_,?_,?_,?_,?_,?_,?_,?_,?_,?_,?_,?_,?_,?_,?_,?_,?_,?_,?_,?_,trivial⟩
 all_goals try exact BB.off rfl rfl
 all_goals refine BB.go rfl fun a w T hx K hK=>?_
 .exact za5
 .have dN:=T 61 _ rfl;exact zdp
 .have dM:=T 62 _ rfl;exact zdp
 .have dL:=T 63 _ rfl;exact zdp
 .exact zaV
 .have dI:=T 72 _ rfl;exact zdp
 .have dH:=T 73 _ rfl;have dG:=T 80 _ rfl;exact zdp
 .have dF:=T 81 _ rfl;exact zdp
 .have dE:=T 82 _ rfl;have dD:=T 89 _ rfl;exact zdp
 .have dC:=T 90 _ rfl;exact zdp
 .have dB:=T 91 _ rfl;have aZ:=T 101 _ rfl;exact zdp):P:=h
theorem zak{P:Prop}(h:P:=by
 intro wa aB;simp only[Cg,Act.put,List.setIfInBounds_toArray,List.set_cons_zero,List.set_cons_succ];have aM:=Aa (aL.o.trans (aA.o.trans aB));have HM:=Aa (aR.o (bC.o));exact zbM):P:=h
theorem zaW{P:Prop}(h:P:=by
 have gN:=T 42 _ rfl;have gM:=T 59 _ rfl;exact zdp):P:=h
theorem za4{P:Prop}(h:P:=by
 have eO:=T 11 _ rfl;exact zdp):P:=h
theorem zbf{P:Prop}(h:P:=by
 go_upto_region 9 with fail
 obtain⟨dT,dS,dR,dQ,dP⟩:=On (aA.o.cell eR.o) (aA.o.cell dV.o) (aA.o.cell dU.o) (aA.o.cell eQ.o) (aA.o.cell eP.o)
 cases ys with
 | nil=>
  simp only[List.length_nil];refine BR (fun k=>([.slice ya 0 yc,.int .i64 0,.bool true,.bool true,undef,undef,undef,undef,undef,undef,undef,.bool true,.bool true,undef,undef,undef,undef,undef,undef,undef,.bool true,.bool true,undef,undef,undef,undef,undef,undef,undef,.bool true,.bool true,undef,undef,undef,undef,undef,undef,undef,undef,undef,undef,.bool true]:List Value).getD k undef) (by kernel_rfl) (by kernel_rfl) (by kernel_rfl) ?_ ?_
  .exact zaf
  .exact zak
 | cons x rest=>
  obtain⟨fb,fo,cap,ev,hv,bM,bD,f0,f1,f2,f3,aX,bP,bO⟩:=cL.o.cons;injection hv with bI hv2 aS;subst bI aS;obtain⟨LY,aC⟩:∃n,rest.length+1=n:=⟨_,rfl⟩;have fH:(1:Int)<=(LY:Int):=by omega
  have aQ:Hia (0<LY):=Aa (by omega);have fG:((LY:Int)==0)=false:=by simp;omega
  simp only[List.length_cons,aC];obtain⟨F0,F1,F2,F3,dZ,dY,aP,bB,aK⟩:=Ha0 f0 f1 f2 f3 bP bO aC aX (show yc<=maxLen/\LY<=yc from⟨bM,by omega⟩);clear f0 f1 f2 f3 bP bO bD bM aX aC hv2 yl;have cG:Hia (w9.cell? (B,0)=some (.int .i64 p)/\w9.cell? (B,1)=some (.int .i64 m)/\w9.cell? (B,2)=some (.slice x3 ml.length y3)/\w9.cell? (B,3)=some (.int .i64 N)/\w9.cell? (B,4)=some (.slice x1 rows.length y1)):=Aa (by
   obtain⟨c0,c1,c2,c3,c4⟩:=fC.o;have h:=aE.o.trans aA.o;exact⟨h.cell c0,h.cell c1,h.cell c2,h.cell c3,h.cell c4⟩)
  obtain⟨-,-,⟨-,ea,ec,cU,-⟩,-⟩:=bB.o;subst cU;obtain⟨LP,bN⟩:∃n,x.pf.length=n:=⟨_,rfl⟩;rw[bN]at F3 bB;obtain⟨CK,aY⟩:∃n,chK C g x.pf=n:=⟨_,rfl⟩;have cE:=Aa (fun (w7:World) (h7:Ex w9 w7)=>aV.o w7 (aE.o.trans (aA.o.trans h7)) g eX.o _ _ _ (HU.o.ex (bF.o.trans (aF.o.trans (aA.o.trans h7)))) (dW.o.ex (bF.o.trans (aF.o.trans (aA.o.trans h7)))) x.pf (bB.o.ex h7));rw[aY]at cE;obtain⟨j1,cC⟩:=J9 (x.i !=(g.i:Int));obtain⟨j2,cB⟩:=J9 (x.j !=(g.j:Int));obtain⟨l2,bV⟩:=J9 (j1||j2);obtain⟨j3,cA⟩:=J9 (x.a !=(g.a:Int));obtain⟨l3,bU⟩:=J9 (l2||j3);obtain⟨j4,bZ⟩:=J9 (CK !=0);obtain⟨l4,bT⟩:=J9 (l3||j4);have bW:Hia (l4=false↔x.i=g.i/\x.j=g.j/\x.a=g.a/\chK C g x.pf=0):=Aa (by
   rw[aY,<-bT.o,<-bU.o,<-bV.o,<-bZ.o,<-cA.o,<-cB.o,<-cC.o];simp only[Bool.or_eq_false_iff,bne_eq_false_iff_eq,and_assoc])
  clear aY bN;refine BR (fun k=>([.slice (some (fb,fo)) LY yc,.int .i64 (LY:Int),.bool false,.bool false,.slice (some (fb,fo)) LY yc,.pointer (some (fb,fo)),.pointer (some (fb,fo)),.int .i64 x.i,.pointer (some (XB,0)),.int .i64 (g.i:Int),.bool j1,.bool j1,.bool j1,bif j1 then undef else .slice (some (fb,fo)) LY yc,bif j1 then undef else .pointer (some (fb,fo)),bif j1 then undef else .pointer (some (fb,fo+1)),bif j1 then undef else .int .i64 x.j,bif j1 then undef else .pointer (some (XB,1)),bif j1 then undef else .int .i64 (g.j:Int),bif j1 then undef else .bool j2,.bool l2,.bool l2,bif l2 then undef else .slice (some (fb,fo)) LY yc,bif l2 then undef else .pointer (some (fb,fo)),bif l2 then undef else .pointer (some (fb,fo+2)),bif l2 then undef else .int .i64 x.a,bif l2 then undef else .pointer (some (XB,2)),bif l2 then undef else .int .i64 (g.a:Int),bif l2 then undef else .bool j3,.bool l3,.bool l3,bif l3 then undef else .agg #[(p:Int),(m:Int),(x3,ml.length,y3),(N:Int),(x1,rows.length,y1)],bif l3 then undef else .agg #[(p:Int),(m:Int),(x3,ml.length,y3),(N:Int),(x1,rows.length,y1)],bif l3 then undef else .pointer (some (XB,3)),bif l3 then undef else .agg #[(ua,g.i+1,uc),(qa,g.i+1,qc)],bif l3 then undef else .slice (some (fb,fo)) LY yc,bif l3 then undef else .pointer (some (fb,fo)),bif l3 then undef else .pointer (some (fb,fo+3)),bif l3 then undef else .agg #[(ea,LP,ec)],bif l3 then undef else .int .i64 CK,bif l3 then undef else .bool j4,.bool l4]:List Value).getD k undef) (by kernel_rfl) (by kernel_rfl) (by kernel_rfl) ?_ ?_
  .exact zac
  .exact zad):P:=h
theorem OM(w:World){b p m x0 N:Nat}{ml:List Int}{rows:List (List Int)}(hg:Bh w b p m ml x0)(hN1:1<=N)(hN:N<=64)(hd:N*(p^m-1)<=64)(ho:Bw p m ml N rows 0)(m1 v1:Value)(hc:(⟨p,m,ml,N,rows⟩:AX).at w m1 v1)(dg:Int)(L:List Lv)(lv:Value)(hL:ER w lv L)(xs:List GZ)(rv:Value)(hx:Mh w rv xs):
  Calls Tryz.prog 74 #[(b,0),(⟨p,m,ml,N,rows⟩:AX).arg m1 v1,.agg #[dg,lv,rv]] w fun r w'=>r= .returned (.bool (Lw ⟨p,m,ml,N,rows⟩ (p^m) L (Dw N (p^m)) xs))/\Ex w w':=by
 obtain⟨c0,c1,c2,c3,c4⟩:=C8 w ⟨p,m,ml,N,rows⟩ m1 v1;have eC:=AF w ((⟨p,m,ml,N,rows⟩:AX).obj m1 v1);have eE:(w.alloc ((⟨p,m,ml,N,rows⟩:AX).obj m1 v1)).heap.size=w.heap.size+1:=ag;have aW:=AF (w.alloc ((⟨p,m,ml,N,rows⟩:AX).obj m1 v1)) (.cells #[dg,lv,rv] 53);have s0:((w.alloc ((⟨p,m,ml,N,rows⟩:AX).obj m1 v1)).alloc (.cells #[dg,lv,rv] 53)).cell? ⟨(w.alloc ((⟨p,m,ml,N,rows⟩:AX).obj m1 v1)).heap.size,0,none⟩=some (.int .i64 dg):=ag;have s1:((w.alloc ((⟨p,m,ml,N,rows⟩:AX).obj m1 v1)).alloc (.cells #[dg,lv,rv] 53)).cell? ⟨(w.alloc ((⟨p,m,ml,N,rows⟩:AX).obj m1 v1)).heap.size,1,none⟩=some lv:=ag;have s2:((w.alloc ((⟨p,m,ml,N,rows⟩:AX).obj m1 v1)).alloc (.cells #[dg,lv,rv] 53)).cell? ⟨(w.alloc ((⟨p,m,ml,N,rows⟩:AX).obj m1 v1)).heap.size,2,none⟩=some rv:=ag;rw[eE]at s0 s1 s2;have aT:=Aa (eC.trans aW);obtain⟨HG,cF,HL,HX⟩:=Of (hg.ex aT.o) (hc.ex aT.o) (hL.ex aT.o) (hx.ex aT.o);have eG:2<=p^m:=Nat.le_trans hg.sh.p2 (Nat.le_self_pow (by have:=hg.sh.m1;omega) p);have cR:=hg.sh.q;have cK:=Aa (Cv _ HG.o);have dX:=Aa (fun (w5:World)=>Nj w5 N (p^m) hN ac cR);have aV:=Aa (fun (w5:World) (h5:Ex ((w.alloc ((⟨p,m,ml,N,rows⟩:AX).obj m1 v1)).alloc (.cells #[dg,lv,rv] 53)) w5) (g:Cd) (fJ:g∈Dw N (p^m)) (u r ev:Value) (hu:Ak w5 u g.tl) (hr:Ak w5 r g.sl) (pf:List Rf) (aX:Yt w5 ev pf)=>(He w5 ⟨p,m,ml,N,rows⟩ ⟨p,m,ml,N,rows⟩ m1 m1 v1 v1 (cF.o.ex h5) (cF.o.ex h5) g.tl g.sl u r hu hr pf ev aX).mono (show ∀r' w',_->(r'= .returned (.int .i64 (chK ⟨p,m,ml,N,rows⟩ g pf))/\Ex w5 w') from by
   rintro r' w'⟨⟨e1,e2,k1,k2,rfl⟩,k4⟩;refine⟨?_,k4⟩;obtain rfl:e1=0:=B3 k1 ho;obtain rfl:e2=0:=B3 (k2 rfl) ho;have BF:F5 0 0 (CE p m ml p m ml) N N g.tl g.sl ((p:Int).toNat^(m:Int).toNat)=0:=Se (N:=N) rfl (q:=(p:Int).toNat^(m:Int).toNat) (Ix fJ);rw[BF];rfl))
 obtain⟨x1,y1,bI,-,z1,-⟩:=hc.g.open;obtain⟨x3,y3,aS,-,z3,-⟩:=hc.m.open;obtain⟨la,lc,fF,-,zl,-⟩:=hL.open3;obtain⟨ra,rc,fE,-,zr,-⟩:=hx.open;unfold maxLen at z1 z3 zl zr;obtain⟨B,hB⟩:=nA w.heap.size;rw[hB]at c0 c1 c2 c3 c4 s0 s1 s2;replace c0:=aW.cell c0;replace c1:=aW.cell c1;replace c2:=aW.cell c2;replace c3:=aW.cell c3;replace c4:=aW.cell c4;unfold AX.arg at aV ⊢;unfold AX.obj at aT cF HG HL HX cK aV c0 c1 c2 c3 c4 s0 s1 s2;dsimp only at aT cF HG HL HX cK aV c0 c1 c2 c3 c4 s0 s1 s2 ⊢;have hA:Hia (∀q,q=Lw ⟨p,m,ml,N,rows⟩ (p^m) L (Dw N (p^m)) xs->q=Lw ⟨p,m,ml,N,rows⟩ (p^m) L (Dw N (p^m)) xs):=Aa (fun q h=>h);obtain⟨RB,cW⟩:∃x,Lw ⟨p,m,ml,N,rows⟩ (p^m) L (Dw N (p^m)) xs=x:=⟨_,rfl⟩;have bR:=Aa cW;rw[cW];subst bI aS fF fE;obtain⟨q,hq⟩:=nA (p^m);rw[hq]at cK dX bR aV eG cR;have HQ:=Aa (show N<=64/\2<=q/\q<=256/\N*(q-1)<=64 from⟨hN,eG,cR,by rw[<-hq];exact hd⟩);clear hc eC aW hg ho hd hq cW hL hx hA eE;go_enter Tryz.func74,Tryz.ntmps74
 go_upto_region 1 with fail
 have bJ:(w.alloc (.cells #[p,m,(x3,ml.length,y3),N,(x1,rows.length,y1)] 39)).heap.size=B+1:=by simp[hB]
 try simp only[bJ]
 try simp only[hB]
 clear hB bJ;generalize (w.alloc (.cells #[p,m,(x3,ml.length,y3),N,(x1,rows.length,y1)] 39)).alloc (.cells #[dg,(la,L.length,lc),(ra,xs.length,rc)] 53)=w1 at *;go_upto_region 2 with (go_at_call 54;refine cK.o.mono ?_;rintro e w5⟨rfl,rfl⟩)
 have fC:=Aa (show w1.cell? (B,0)=some (.int .i64 p)/\w1.cell? (B,1)=some (.int .i64 m)/\w1.cell? (B,2)=some (.slice x3 ml.length y3)/\w1.cell? (B,3)=some (.int .i64 N)/\w1.cell? (B,4)=some (.slice x1 rows.length y1) from⟨c0,c1,c2,c3,c4⟩);clear c0 c1 c2 c4;have aU:=Aa (AF w1 (.cells #[.int .i64 q] 3));have qc:(w1.alloc (.cells #[.int .i64 q] 3)).cell? (w1.heap.size,0)=some (.int .i64 q):=ag;obtain⟨QB,cX⟩:∃x,w1.heap.size=x:=⟨_,rfl⟩;rw[cX]at qc
 try simp only[cX]
 clear cX;generalize w1.alloc (.cells #[.int .i64 q] 3)=w2 at *;replace s0:=aU.o.cell s0;replace s1:=aU.o.cell s1;replace s2:=aU.o.cell s2;replace c3:=aU.o.cell c3;have gR:=Aa (HX.o.ex aU.o);have i0:(N:Int)<=64:=by have:=HQ.o.1;omega
 obtain⟨GS,cZ⟩:∃g,Dw N q=g:=⟨_,rfl⟩;rw[cZ]at dX bR aV;have eW:=Aa cZ;clear cZ;obtain⟨C,hC⟩:∃C:AX,C=⟨p,m,ml,N,rows⟩:=⟨_,rfl⟩;rw[<-hC]at bR aV cF;clear hC;obtain⟨LG,eM⟩:∃n,GS.length=n:=⟨_,rfl⟩;have bS:=Aa eM;clear eM;go_upto_region 4 with (go_at_call 121;refine(dX.o _).mono ?_;rintro e w3⟨v3,cs3,rfl,cH⟩;have bG:=Aa cH.ex;have eS:=Aa cH.gsl;obtain⟨ga3,gc3,aS⟩:=Ad cH.own;rw[bS.o]at aS;subst aS;clear cH)
 clear c3 s0 s2;obtain⟨fL,gc',eK,g1,g2,g3⟩:=eS.o.open;have bL:fL=ga3:=by injection eK with e1 e2 e3;exact e1.symm
 rw[bL]at g3;obtain⟨gV,fA,gT,fB⟩:=Of (show 0<LG->_ from fun h=>g3 (by rw[bS.o];exact h)) (gR.o.ex bG.o) (show LG<=1048576 from by rw[<-bS.o,<-eW.o];have:=OH N q HQ.o.1 HQ.o.2.2.1 N;have:=HQ.o.1;unfold Dw;omega) (show EO C q L GS xs=EO C q L (GS.drop 0) xs from rfl);replace s1:=bG.o.cell s1;replace qc:=bG.o.cell qc;have S1:=Aa s1;have QC:=Aa qc;clear g1 g2 g3 eK bL eS s1 qc i0
 go_loopw [8,21] (fun rv k' wr=>∃(k:Nat) (ys:List GZ),k<=LG/\k'= .int .i64 k/\Hia (Mh wr rv ys)/\Hia (Ex w3 wr)/\Hia (EO C q L GS xs=EO C q L (GS.drop k) ys)) (fun _ k' _=>LG-(intOf k').toNat)
 case atStart=>exact⟨0,xs,ac,rfl,fA,Aa (Ex.refl _),fB⟩
 case round=>
  clear fA fB;obtain⟨k,ys,hk,rfl,cI,aG,cJ⟩:=hrel;obtain⟨ya,yc,rfl,yl,yz,-⟩:=cI.o.open;unfold maxLen at yz;by_cases hkl:k<LG
  .obtain⟨gb,go,rfl,eI⟩:=gV.o ac;obtain⟨g,hg⟩:∃g,GS[k]?=some g:=⟨_,γ (by rw[bS.o];exact hkl)⟩;obtain⟨u,r,d0,d1,d2,d3,d4,hu,cQ,-,-⟩:=eI k g hg;have HGG:=Aa hg;have eX:=Aa (ι hg);have cD:Hia (EL N q g):=Aa (Ix (by rw[eW.o];exact ι hg));have gY:Hia (GS.drop k=g :: GS.drop (k+1)):=Aa (by
    have:=θ.1 hg;obtain⟨h1,h2⟩:=this;rw[List.drop_eq_getElem_cons h1,h2])
   have eA:Hia (EO C q L GS xs=EO C q L (g :: GS.drop (k+1)) ys):=Aa (by rw[<-gY.o];exact cJ.o);have HU:=Aa (hu.ex aG.o);have dW:=Aa (cQ.ex aG.o);obtain⟨ua,uc,rfl,-,-,-⟩:=hu.open;obtain⟨qa,qc,rfl,-,-,-⟩:=cQ.open;rw[AP]at d3 HU;rw[BL]at d4 dW;replace d0:=aG.o.cell d0;replace d1:=aG.o.cell d1;replace d2:=aG.o.cell d2;replace d3:=aG.o.cell d3;replace d4:=aG.o.cell d4;rw[show go+5*k=go+k*5 from ac]at d0;rw[show go+(5*k+1)=go+k*5+1 from ac]at d1;rw[show go+(5*k+2)=go+k*5+2 from ac]at d2;rw[show go+(5*k+3)=go+k*5+3 from ac]at d3;rw[show go+(5*k+4)=go+k*5+4 from ac]at d4;have i1:(0:Int)<=(k:Int):=by omega
   have i2:(k:Int)<(LG:Int):=ac;have aH:=Aa hkl;clear hg eI hu cQ hkl cJ;go_upto_region 6 with fail
   have bx:∀x:Nat,wr.heap.size=x->(wr.alloc (.cells #[.int .i64 g.i,.int .i64 g.j,.int .i64 g.a,.slice ua (g.i+1) uc,.slice qa (g.i+1) qc] 129)).cell? ⟨x,0,none⟩=some (.int .i64 g.i)/\(wr.alloc (.cells #[.int .i64 g.i,.int .i64 g.j,.int .i64 g.a,.slice ua (g.i+1) uc,.slice qa (g.i+1) qc] 129)).cell? ⟨x,1,none⟩=some (.int .i64 g.j)/\(wr.alloc (.cells #[.int .i64 g.i,.int .i64 g.j,.int .i64 g.a,.slice ua (g.i+1) uc,.slice qa (g.i+1) qc] 129)).cell? ⟨x,2,none⟩=some (.int .i64 g.a)/\(wr.alloc (.cells #[.int .i64 g.i,.int .i64 g.j,.int .i64 g.a,.slice ua (g.i+1) uc,.slice qa (g.i+1) qc] 129)).cell? ⟨x,3,none⟩=some (.slice ua (g.i+1) uc)/\(wr.alloc (.cells #[.int .i64 g.i,.int .i64 g.j,.int .i64 g.a,.slice ua (g.i+1) uc,.slice qa (g.i+1) qc] 129)).cell? ⟨x,4,none⟩=some (.slice qa (g.i+1) qc):=fun x h=>by
    subst h;exact⟨ag,ag,ag,ag,ag⟩
   obtain⟨XB,cV⟩:∃x,wr.heap.size=x:=⟨_,rfl⟩;obtain⟨cO,cN,cM,x3,x4⟩:=bx XB cV;have bF:=Aa (AF wr (.cells #[.int .i64 g.i,.int .i64 g.j,.int .i64 g.a,.slice ua (g.i+1) uc,.slice qa (g.i+1) qc] 129))
   try simp only[cV]
   clear cV d0 d1 d2 d3 d4 i1 i2 bx;generalize wr.alloc (.cells #[.int .i64 g.i,.int .i64 g.j,.int .i64 g.a,.slice ua (g.i+1) uc,.slice qa (g.i+1) qc] 129)=w5 at *;have aD:=Aa (aG.o.trans bF.o);have eZ:=Aa (cI.o.ex bF.o);clear cI aG;have cT:k<=1048576:=by have:=aH.o;have:=gT.o;omega
   by_cases hid:g.j=g.i/\g.a=1
   .have HN:Hia (EO C q L GS xs=EO C q L (GS.drop (k+1)) ys):=Aa (by rw[eA.o,Jn,if_pos hid]);obtain⟨hj,ha⟩:=hid;rw[hj]at cN;rw[ha]at cM;clear hj ha;go_wp2_with fail
    go_roundw
    case rel=>exact⟨k+1,ys,by have:=aH.o;omega,by go_num,eZ,aD,HN⟩
    case measure=>have:=aH.o;simp[intOf];omega
   .have eV:=Aa hid;have eJ:(g.j:Int)=(g.i:Int)->((g.a:Int)==1)=false:=fun h=>by simp;omega
    obtain⟨T,hT⟩:∃T:Bool,((g.j:Int)==(g.i:Int))=T:=⟨_,rfl⟩;have eL:T=true->((g.a:Int)==1)=false:=fun h=>eJ (by rw[h]at hT;simpa using hT);clear hid eJ;obtain⟨pr,cS⟩:∃pr:Nat->Bool,∀(j:Nat) (l:Lv),L[j]?=some l->pr j=(l.pt==(g.i:Int)*((q:Int)-1)):=⟨fun j=>match L[j]? with|some l=>l.pt==(g.i:Int)*((q:Int)-1)|none=>false,fun j l h=>by simp[h]⟩;have eU:=Aa (MF w5 XB QB g.i q (by have:=cD.o.ij;have:=cD.o.j;have:=HQ.o.1;omega) (by have:=HQ.o;omega) (by have:=HQ.o;omega) cO (aD.o.cell QC.o) L _ (HL.o.ex (aU.o.trans (bG.o.trans aD.o))) pr cS);have gX:=Aa (XE cS);clear cS;have s1:=aD.o.cell S1.o;cases T
    case' true=>have hT2:=eL rfl
    all_goals
     clear eL;go_upto_region 8 with (go_at_call 130;refine eU.o.mono ?_;rintro e w6⟨rfl,eD⟩;have aF:=Aa eD;clear eD)
     obtain⟨K0,cY⟩:∃x,CG pr L.length=x:=⟨_,rfl⟩;rw[cY];have gW:=Aa (show(∃(i:Nat) (l:Lv),L[i]?=some l/\K0=i/\L.find? (fun l=>l.pt==(g.i:Int)*((q:Int)-1))=some l)∨(K0=-1/\L.find? (fun l=>l.pt==(g.i:Int)*((q:Int)-1))=none) from by rw[<-cY];exact gX.o);clear cY s1 eU;obtain⟨aE,aO,eY,eR,dV,dU,eQ,eP⟩:=OK (aU.o.trans (bG.o.trans (aD.o.trans aF.o))) (aD.o.trans aF.o) (eZ.o.ex aF.o) (aF.o.cell cO) (aF.o.cell cN) (aF.o.cell cM) (aF.o.cell x3) (aF.o.cell x4);have gQ:=Aa (aO.o.cell S1.o);have PQ:=Aa (aO.o.cell QC.o);clear cO cN cM x3 x4;have eB:∀CT:Bool,Sb q L g=CT->CT=false->Hia (EO C q L GS xs=excN C g (EO C q L (GS.drop (k+1))) ys):=fun CT h1 h2=>Aa (by rw[eA.o,Jn,if_neg eV.o,if_neg (by rw[h1,h2];simp)]);have bH:∀CT:Bool,Sb q L g=CT->CT=true->Hia (EO C q L GS xs=EO C q L (GS.drop (k+1)) ys):=fun CT h1 h2=>Aa (by rw[eA.o,Jn,if_neg eV.o,if_pos (by rw[h1,h2])]);have bY:=Aa eB;have bX:=Aa bH;clear eB bH;have eN:EO C q L GS xs=none->RB=false:=fun h=>by
      have h1:=bR.o;unfold Lw at h1;rw[h]at h1;exact h1.symm
     have aR:=Aa eN;clear eN;have aL:=Aa (aT.o.trans aE.o);rcases gW.o with⟨i,l,hl,rfl,hfi⟩|⟨rfl,hfi⟩
     .have fI:=(θ.1 hl).1;obtain⟨la2,lc2,eF,-,-,h3⟩:=(HL.o.ex aE.o).open3;have eH:la=la2:=by injection eF
      obtain⟨eb,eo,bK,bD⟩:=h3 ac;rw[bK]at eH;subst eH;obtain⟨ou,orr,-,k1,-,k3,-⟩:=bD i l hl;obtain⟨oa,oc,rfl,-,-,-⟩:=k3.open;have PO:=Aa k1;have gS:=Aa k3;obtain⟨PJ,bE⟩:∃x,(g.j:Int)*((q:Int)-1)=x:=⟨_,rfl⟩;have m1:(0:Int)<=PJ:=by rw[<-bE];exact Int.mul_nonneg ac (by have:=HQ.o;omega)
      have m2:PJ<=64*256:=by rw[<-bE];exact Int.mul_le_mul (by have:=cD.o.j;have:=HQ.o;omega) (by have:=HQ.o;omega) (by have:=HQ.o;omega) ac
      have m3:wrap64 ((g.j:Int)*((q:Int)-1))=PJ:=by rw[bE];unfold wrap64;omega
      have m4:(1:Int)<=(g.a:Int):=by have:=cD.o.a1;omega
      have m5:(g.a:Int)<=256:=by have:=cD.o.a;have:=HQ.o;omega
      have m6:(1:Int)<=(q:Int):=by have:=HQ.o;omega
      have m7:(q:Int)<=256:=by have:=HQ.o;omega
      have i1:(0:Int)<=(i:Int):=ac;have i2:(i:Int)<(L.length:Int):=ac;obtain⟨W1,W2,W3,W4⟩:=Of (show IntKind.i64.wrap ((q:Int)-1)=(q:Int)-1 from ρ _ ac) (show IntKind.i64.wrap ((g.j:Int)*((q:Int)-1))=PJ from by rw[bE];exact ρ _ ac) (show IntKind.i64.wrap (PJ+(g.a:Int))=PJ+(g.a:Int) from ρ _ ac) (show IntKind.i64.wrap (PJ+(g.a:Int)-1)=PJ+(g.a:Int)-1 from ρ _ ac);obtain⟨CT,dA⟩:∃x,l.orb.contains (PJ+(g.a:Int)-1)=x:=⟨_,rfl⟩;have gZ:=Aa (fun (w7:World) (h7:Ex w6 w7)=>(show Calls Tryz.prog 132 #[(oa,l.orb.length,oc),.int .i64 (PJ+(g.a:Int)-1)] w7 fun r w'=>r= .returned (.bool CT)/\w7=w' from by rw[<-dA];exact DL w7 l.orb _ _ (gS.o.ex h7)));have eT:Hia (Sb q L g=CT):=Aa (by unfold Sb;rw[hfi];show l.orb.contains ((g.j:Int)*((q:Int)-1)+(g.a:Int)-1)=CT;rw[bE,dA]);clear hl hfi eF h3 bD k1 k3 dA bE fI bK;refine BR (fun k=>([.int .i64 (i:Int),.bool true,.bool true,.pointer (some (B+1,0)),.pointer (some (B+1,1)),.slice (some (eb,eo)) L.length lc,.int .i64 (i:Int),.pointer (some (eb,eo+i*3)),.pointer (some (eb,eo+i*3+1)),.slice oa l.orb.length oc,.pointer (some (XB,1)),.int .i64 (g.j:Int),.int .i64 (q:Int),.int .i64 ((q:Int)-1),.int .i64 PJ,.pointer (some (XB,2)),.int .i64 (g.a:Int),.int .i64 (PJ+(g.a:Int)),.int .i64 (PJ+(g.a:Int)-1),.bool CT,.bool CT]:List Value).getD k undef) ah ah ah ?_ ?_
      .simp only[AH];refine⟨?_,?_,?_,?_,?_,?_,?_,?_,?_,?_,?_,?_,?_,?_,?_,?_,?_,?_,?_,?_,?_,trivial⟩
       all_goals refine BB.go rfl fun a w T hx K hK=>?_
       .exact za4
       .have gP:=T 40 _ rfl;exact zdp
       .have gO:=T 41 _ rfl;exact zdp
       .have e5:=T 5 _ rfl;exact zdp
       .have e43:=T 43 _ rfl;exact zdp
       .have e44:=T 44 _ rfl;have c1:=hx.cell gQ.o;exact zdp
       .exact za4
       .have e45:=T 45 _ rfl;have e46:=T 46 _ rfl;exact zdp
       .have e47:=T 47 _ rfl;exact zdp
       .have e48:=T 48 _ rfl;have c1:=hx.cell PO.o;exact zdp
       .exact za3
       .have e50:=T 50 _ rfl;have c1:=hx.cell dV.o;exact zdp
       .have e7:=T 7 _ rfl;have c1:=hx.cell PQ.o;exact zdp
       .have e52:=T 52 _ rfl;clear T;go_simp;rw[W1.o];exact hK _ (Ex.refl _)
       .have e51:=T 51 _ rfl;have e53:=T 53 _ rfl;clear T;go_simp;rw[W2.o];exact hK _ (Ex.refl _)
       .exact za3
       .have e55:=T 55 _ rfl;have c1:=hx.cell dU.o;exact zdp
       .have e54:=T 54 _ rfl;have e56:=T 56 _ rfl;clear T;go_simp;rw[W3.o];exact hK _ (Ex.refl _)
       .have e57:=T 57 _ rfl;clear T;go_simp;rw[W4.o];exact hK _ (Ex.refl _)
       .have e49:=T 49 _ rfl;have e58:=T 58 _ rfl;clear T;go_simp;refine(gZ.o _ hx).mono ?_;exact zde
       .exact zaW
      .intro w9 aI;simp only[Cg,Act.put,γa,δb,δc];obtain⟨aA,cL,aN,HKL9⟩:=Of aI (eY.o.ex aI) (aO.o.trans aI) (show k<=1048576/\k+1<=LG from⟨cT,by have:=aH.o;omega⟩);clear aI m1 m2 m3 m4 m5 m6 m7 i1 i2
       cases CT with
       | true=>
        have HN:=bX.o true eT.o rfl;go_wp2_with fail
        go_roundw
        case rel=>exact⟨k+1,ys,by have:=aH.o;omega,by go_num,cL,aN,HN⟩
        case measure=>have:=aH.o;simp[intOf];omega
       | false=>
        have bC:=bY.o false eT.o rfl;exact zbf
     .have bC:=bY.o false (by unfold Sb;rw[hfi]) rfl;clear hfi;refine BR (fun k=>([.int .i64 (-1),.bool false,.bool false,undef,undef,undef,undef,undef,undef,undef,undef,undef,undef,undef,undef,undef,undef,undef,undef,undef,.bool false]:List Value).getD k undef) ah ah ah ?_ ?_
      .simp only[AH];refine⟨?_,?_,?_,?_,?_,?_,?_,?_,?_,?_,?_,?_,?_,?_,?_,?_,?_,?_,?_,?_,?_,trivial⟩
       all_goals try exact BB.off rfl rfl
       all_goals refine BB.go rfl fun a w T hx K hK=>?_
       .exact za4
       .have gP:=T 40 _ rfl;exact zdp
       .have gO:=T 41 _ rfl;exact zdp
       .exact zaW
      .intro w9 aI;simp only[Cg,Act.put,γa,δb,δc];have aA:=Aa aI;have cL:=Aa (eY.o.ex aI);have aN:=Aa (aO.o.trans aI);clear aI;exact zbf
  .obtain rfl:LG=k:=by omega
   have HN:Hia (EO C q L GS xs=some ys):=Aa (by rw[cJ.o,List.drop_of_length_le (by rw[bS.o];exact Nat.le_refl _)];rfl);obtain⟨LY,aC⟩:∃n,ys.length=n:=⟨_,rfl⟩;have HB:=Aa (show((LY:Int)==0)=RB from by
    rw[<-bR.o];unfold Lw;rw[HN.o]
    cases ys with
    | nil=>simp at aC;subst aC;rfl
    | cons a b=>simp at aC;simp;omega)
   rw[aC];have aM:=Aa (aT.o.trans (aU.o.trans (bG.o.trans aG.o)));clear aG cJ cI aC hkl;go_wp2_with fail
   exact bodyPost_ret (v:= .bool ((LY:Int)==0)) (by simp[results,Tryz.results74,go_sem]) rfl ⟨by rw[HB.o],aM.o⟩
end Go.Proofs.YtehieobniamagaaGreat
