/- Walk of automorphism.Positions. -/
import Derived.Test.YtehieobniamagaaGreatZp26
import Derived.Test.YtehieobniamagaaGreatZp32
import Derived.Test.YtehieobniamagaaGreatZp33
import Derived.Test.YtehieobniamagaaGreatZp34
import Derived.Test.YtehieobniamagaaGreatZp36
namespace Go.Proofs.YtehieobniamagaaGreat
set_option linter.unusedVariables false
set_option linter.unusedSimpArgs false
set_option maxRecDepth 100000
set_option maxHeartbeats 8000000
section
open Go.RowKit
def Nv(Ms:List CE):List (List Int):=Ms.map (·.perm)
def Yo(c:AZ)(r:Ending)(w':World):Prop:=∃e0:Int,Cm c.p c.m c.ml c.n c.rows e0/\
 ((JI c e0≠0/\r= .returned (.tuple #[.slice none 0 0,.int .i64 (JI c e0)]))∨(JI c e0=0/\Yp c.n (Nv (Dr c (AD c))) r w'))
theorem Ko(bK:PI)(w:World)(c:AZ)(m1 v1:Value)(hc:c.at w m1 v1)(aB:(Dr c (AD c)).length<=1000):
  Calls Tryz.prog 24 #[c.arg m1 v1] w fun r w'=>Yo c r w'/\Ex w w':=by
 obtain⟨c0,c1,c2,c3,c4⟩:=Dv w c m1 v1;have aL:=AI w (c.obj m1 v1);obtain⟨x1,y1,aO,-,z1,-⟩:=hc.g.open;obtain⟨x3,y3,aN,-,z3,-⟩:=hc.m.open;unfold maxLen at z1 z3;obtain⟨B,hB⟩:=nA w.heap.size;have aC:=Aa (G8 (w.alloc (c.obj m1 v1)) c m1 v1 (hc.ex aL));rw[hB]at c0 c1 c2 c3 c4;have aG:=Aa aL;obtain⟨C,hC⟩:∃C:AZ,C=c:=⟨_,rfl⟩;have cD:=Aa hC;have bF:=Aa (show ∀r w',Yo C r w'->Yo c r w' from fun r w' h=>by rw[<-hC];exact h);rw[<-hC]at aB;obtain⟨cp,cm,bO,cn,bN⟩:=c;unfold AZ.arg at aC ⊢;unfold AZ.obj at aG aC c0 c1 c2 c3 c4;dsimp only at aG aC c0 c1 c2 c3 c4 aO aN ⊢;rw[aO,aN]at aG aC c0 c1 c2 c3 c4 ⊢;rw[<-hC]at aC;have aU:=Aa aB;clear hc aL hC aO aN aB;go_enter Tryz.func24,Tryz.ntmps24
 go_upto_region 1 with fail
 try simp only[hB]
 clear hB;generalize w.alloc (.cells #[.int .i64 cp,.int .i64 cm,.slice x3 bO.length y3,.int .i64 cn,.slice x1 bN.length y1] 39)=w1 at *;go_wp2_with fail
 refine aC.o.mono ?_;rintro e w2⟨aE,aD⟩;have bE:=Aa aD;obtain⟨e0,bB,ho⟩:=OR aE;have bJ:=Aa bB;replace c3:=aD.cell c3;obtain⟨GE,aS⟩:∃x,JI C e0=x:=⟨_,rfl⟩;rw[aS]at ho;have aX:=Aa aS;clear aE aD bB aC aS c0 c1 c2 c4;rcases ho with⟨h0,rfl⟩|⟨h0,hbn,pn,mn,N,b,x0,mv,nv,hp,hm,hn,hN1,hN64,hD,rfl,hg,hx1,aD,hms,hns⟩
 .have hb:(GE !=0)=true:=by simpa using h0
  have H0:=Aa h0;clear h0;go_wp2_with fail
  exact bodyPost_ret (v:= .tuple #[.slice none 0 0,.int .i64 GE]) (by simp[results,Tryz.results24,go_sem]) rfl ⟨bF.o _ _ ⟨e0,bJ.o,.inl ⟨by rw[aX.o];exact H0.o,by rw[aX.o]⟩⟩,aG.o.trans bE.o⟩
 .subst h0;have bM:cn=(N:Int):=by have:=cD.o;rw[this]at hn;exact hn
  subst bM;have bV:=Aa (show C.n=(N:Int) from hn);have bX:=Aa hms;obtain⟨ma,mc,rfl,-,zm,m3⟩:=hms.open;obtain⟨na,nc,rfl,-,-,-⟩:=hns.open;unfold maxLen at zm;obtain⟨Ms,aR⟩:∃x,Dr C (AD C)=x:=⟨_,rfl⟩;have bW:=Aa aR;rw[aR]at bX m3 aU ⊢;obtain⟨LM,aF⟩:∃x,Ms.length=x:=⟨_,rfl⟩;have bZ:=Aa aF;have aV:=Aa (show LM<=1000 from by rw[<-aF];exact aU.o);rw[aF]at m3 ⊢;have M3:=Aa m3;obtain⟨GL,aJ⟩:∃g,Nv Ms=g:=⟨_,rfl⟩;have cC:=Aa (show ∀k (M:CE),Ms[k]?=some M->GL.take (k+1)=GL.take k ++ [M.perm] from fun k M h=>by
   rw[<-aJ];exact DO (by unfold Nv;rw[List.getElem?_map,h];rfl))
  have bI:=Aa (show GL.length=LM from by rw[<-aJ,<-aF];unfold Nv;rw[List.length_map]);have cB:=Aa aJ;have bG:=Aa (F8.nil w2);clear hbn hp hm hn hN1 hN64 hD hg hx1 aD hms hns aR aF m3 aJ aU;go_wp2_with fail
  go_loopw [8,23] (fun gv k' wr=>∃(k:Nat) (vals:List Value),k<=LM/\k'= .int .i64 k/\Hia (F8 w2 wr gv (GL.take k) vals)) (fun _ k' _=>LM-(intOf k').toNat)
  case atStart=>exact⟨0, [],ac,rfl,bG⟩
  case round=>
   clear bG;obtain⟨k,vals,hk,rfl,hr⟩:=hrel;obtain⟨ga,gc,rfl⟩:=Ac hr.o.own;by_cases hkl:k<LM
   .obtain⟨mb,mo,rfl,bA⟩:=M3.o ac;obtain⟨M,hM⟩:∃M,Ms[k]?=some M:=⟨_,List.getElem?_eq_getElem (by rw[bZ.o];exact hkl)⟩;obtain⟨u,r,d0,d1,d2,hu,aZ⟩:=bA k M hM;obtain⟨ua,uc,rfl,-,-,-⟩:=hu.open;obtain⟨ra,rc,rfl,-,-,-⟩:=aZ.open;replace d0:=hr.o.ex.cell d0;replace d1:=hr.o.ex.cell d1;replace d2:=hr.o.ex.cell d2;rw[show mo+3*k=mo+k*3 from ac]at d0;rw[show mo+(3*k+1)=mo+k*3+1 from ac]at d1;rw[show mo+(3*k+2)=mo+k*3+2 from ac]at d2;have HU:=Aa hu;obtain⟨LP,bD⟩:∃x,M.perm.length=x:=⟨_,rfl⟩;obtain⟨LS,bC⟩:∃x,M.scale.length=x:=⟨_,rfl⟩;rw[bD]at d0 HU;rw[bC]at d1;have HR:=Aa hr.o;have bY:=Aa hM;have i1:(0:Int)<=(k:Int):=by omega
    have i2:(k:Int)<(LM:Int):=ac;have aW:=Aa hkl;obtain⟨TB,aP⟩:∃x,wr.heap.size=x:=⟨_,rfl⟩;obtain⟨t0,t1,t2,et⟩:=Az wr (.slice ua LP uc) (.slice ra LS rc) M.frob;rw[aP]at t0 t1 t2;have aK:=Aa et;clear hr hM hu aZ bA hkl bD bC et;go_upto_region 8 with fail
    try simp only[aP]
    clear aP d0 d1 d2 i1 i2;generalize wr.alloc (.cells #[.slice ua LP uc,.slice ra LS rc,.int .i64 M.frob] 26)=w5 at *;obtain⟨LG,aA⟩:∃x,(GL.take k).length=x:=⟨_,rfl⟩;have cA:=Aa aA;have aH:=Aa (show LG<=1000 from by rw[<-aA,List.length_take];have:=aV.o;omega);rw[aA]at HR ⊢;have bU:=Aa (show w5.ownsRow w2.heap.size 22 1 (.slice ga LG gc) LG vals from by have:=(HR.o.later aK.o).own;rwa[aA]at this);have bS:=Aa (HR.o.later aK.o).ex.size;have hkb:k<=1000:=by have:=aV.o;omega
    clear aA;go_wp2_with (at_builtin;refine Al _ rfl _ _ 37 rfl w2.heap.size 22 (.slice none 0 0) 1 24 Tryz.underlying37 Bz rfl ae _ LG vals rfl bU.o [.slice ua LP uc] 22 _ rfl ag rfl ak (by have:=aH.o;unfold maxLen;omega) (by have:=aH.o;omega) bS.o ?_)
    intro v8 w8 aI;have HN:=Aa ((HR.o.later aK.o).app (R:= [M.perm]) (us:= [.slice ua LP uc]) (gv':=v8) (w':=w8) (fun i r u h1 h2=>by
     rcases i with _|i
     .simp at h1 h2;subst h1 h2;exact HU.o
     .simp at h1) (by rw[cA.o];exact aI.own) (aI.ex (HR.o.later aK.o).ex (Nat.le_refl _)))
    rw[<-cC.o k M bY.o]at HN;obtain⟨ga8,gc8,rfl⟩:=Ac aI.own;clear aI;go_wp2_with fail
    go_roundw
    case rel=>first|exact⟨k+1,_,by have:=aW.o;omega,by go_num,HN⟩|((repeat apply Exists.intro);exact⟨⟨k+1,_,by have:=aW.o;omega,by go_num,HN⟩,rfl⟩)
    case measure=>have:=aW.o;simp[intOf];omega
   .obtain rfl:LM=k:=by omega
    have bR:=Aa (show GL.take LM=GL from List.take_of_length_le (by rw[bI.o];exact Nat.le_refl _));rw[bR.o]at hr ⊢;have HX:=Aa hr.o.ex;have bH:=Aa (PM bK wr (N:Int) GL _ hr.o.msl (by rw[bI.o];exact aV.o));have c3':=hr.o.ex.cell c3;obtain⟨OS,aQ⟩:∃x,GG (N:Int) GL=x:=⟨_,rfl⟩;have bT:=Aa aQ;obtain⟨ol,oe⟩:=OS;obtain⟨LG,aA⟩:∃x,GL.length=x:=⟨_,rfl⟩;have aT:=Aa (show Calls Tryz.prog 65 #[.int .i64 (N:Int),.slice ga LG gc] wr fun r w'=>(∃v,r= .returned (.tuple #[v,.int .i64 oe])/\B6 w' v ol)/\Ex wr w' from by
     rw[<-aA];exact bH.o.mono (by
      rintro r w'⟨⟨v,h1,h2⟩,h3⟩;rw[aQ]at h1 h2;exact⟨⟨v,h1,h2⟩,h3⟩))
    rw[aA];clear hr bH aQ aA c3;go_wp2_with (go_at_call 65;refine aT.o.mono ?_;rintro e w6⟨⟨v6,rfl,aM⟩,aY⟩;obtain⟨la,lc,bL,_,_,_⟩:=aM.open;subst bL;have bQ:=Aa aM;have bP:=Aa aY;clear aM aY)
    exact bodyPost_ret (v:= .tuple #[.slice la ol.length lc,.int .i64 oe]) (by simp[results,Tryz.results24,go_sem]) rfl ⟨bF.o _ _ ⟨e0,bJ.o,.inr ⟨aX.o,by rw[bV.o,bW.o,cB.o];exact L8 bT.o bQ.o⟩⟩,aG.o.trans (bE.o.trans (HX.o.trans bP.o))⟩
end
section
open Go.RowKit
section
variable {n:Nat} {T gens:List (List Int)}
def Xd(T:List (List Int))(i:Nat):Nat->Nat:=C6 (T.getD i [])
theorem TW(hg:∀f,Gn (gens.map C6) f↔∃r∈T,C6 r=f)(hl:∀r∈T,AU r=0/\r.length=n)(hs:∀a,a<T.length->∀b,b<T.length->a<b->Fw (T.getD a []) (T.getD b [])=true):MW n T.length (gens.map C6) (Xd T):=by
 have hm:∀i,i<T.length->T.getD i []∈T:=fun i hi=>by
  rw[List.getD_eq_getElem?_getD,List.getElem?_eq_getElem hi];exact List.getElem_mem hi
 refine⟨fun f=>?_,fun a b aA hb=>?_⟩
 .rw[hg];constructor
  .rintro⟨r,hr,rfl⟩;obtain⟨i,hi,e⟩:=List.getElem_of_mem hr;exact⟨i,hi,by unfold Xd;rw[List.getD_eq_getElem?_getD,List.getElem?_eq_getElem hi];exact congrArg C6 e⟩
  .rintro⟨i,hi,rfl⟩;exact⟨T.getD i [],hm i hi,rfl⟩
 .have ha:a<T.length:=by omega
  have e1:=Mg (hl _ (hm a ha)).1;have e2:=Mg (hl _ (hm b hb)).1;rw[(hl _ (hm a ha)).2]at e1;rw[(hl _ (hm b hb)).2]at e2;refine Ts.1 ?_;show Fw (li n (C6 (T.getD a []))) (li n (C6 (T.getD b [])))=true
  rw[e1,e2];exact hs a ha b hb aA
theorem Qu(h:∀r∈gens,AU r=0/\r.length=n):∀s∈gens.map C6,Bj n s:=fun s hs=>by
 obtain⟨r,hr,rfl⟩:=List.mem_map.1 hs;have:=Mk (h r hr).1
 rwa[(h r hr).2]at this
theorem QY{C:List Lv}(hg:∀f,Gn (gens.map C6) f↔∃r∈T,C6 r=f)(hl:∀r∈T,AU r=0/\r.length=n)(hs:∀a,a<T.length->∀b,b<T.length->a<b->Fw (T.getD a []) (T.getD b [])=true)(h2:∀r∈gens,AU r=0/\r.length=n)(hk:DK n gens=0)(hc:X9 n T.length (Xd T) n=C):C7 n gens=(⟨n,C⟩,0):=by
 unfold C7;rw[hk,if_neg ag];show(Z6.mk n (Cl n (gens.map C6) n),(0:Int))=_
 rw[Wo (TW hg hl hs) (Qu h2),hc]
theorem QT{C:List Lv}(h2:∀r∈gens,AU r=0/\r.length=n)(h1:1<=n)(aA:n<=64)(hk:DK n gens=0)(h:C7 n gens=(⟨n,C⟩,0)):Be n C=0:=by
 have h3:=Wr (n:=n) h1 aA (Qu h2) (P6 n (gens.map C6));unfold C7 at h;rw[hk,if_neg ag]at h;injection h with h _;injection h with _ h;rw[<-h];show Be n (Cl n (gens.map C6) n)=0
 rw[JZ];exact h3
open Classical in
theorem Vy {O:List (List Int)} (hg:∀f,Gn (gens.map C6) f↔∃r∈T,C6 r=f) (hk:DK n gens=0) (hO:((List.range n).filter fun i=>T.all (fun r=>decide (i<=C6 r i))).map (fun i=>((List.range n).filter fun y=>T.any (fun r=>C6 r i==y)).map fun (y:Nat)=>(y:Int))=O):GG n gens=(O,0):=by
 have hr:∀ {i y:Nat},Dx (gens.map C6) i y↔T.any (fun r=>C6 r i==y)=true:=fun {i y}=>by
  rw[List.any_eq_true];constructor
  .rintro⟨f,hf,e⟩;obtain⟨r,hr,rfl⟩:=(hg f).1 hf;exact⟨r,hr,by simpa using e⟩
  .rintro⟨r,hr,e⟩;exact⟨C6 r,(hg _).2 ⟨r,hr,rfl⟩,by simpa using e⟩
 have hL:∀ {i:Nat},MU (gens.map C6) i↔T.all (fun r=>decide (i<=C6 r i))=true:=fun {i}=>by
  rw[List.all_eq_true];constructor
  .intro h r hr;exact decide_eq_true (h _ ⟨C6 r,(hg _).2 ⟨r,hr,rfl⟩,rfl⟩)
  .rintro h y⟨f,hf,rfl⟩;obtain⟨r,hr,rfl⟩:=(hg f).1 hf;exact of_decide_eq_true (h r hr)
 have h2:∀i,O9 n (gens.map C6) i=((List.range n).filter fun y=>T.any (fun r=>C6 r i==y)).map fun (y:Nat)=>(y:Int):=fun i=>by
  unfold O9 S9
  congr 1
  apply List.filter_congr;intro y _;rw[Bool.eq_iff_iff,decide_eq_true_eq];exact hr
 have h3:CW n (gens.map C6) n=O:=by
  rw[<-hO];unfold CW;rw[show O9 n (gens.map C6)=_ from funext h2]
  congr 1
  apply List.filter_congr;intro i _;rw[Bool.eq_iff_iff,decide_eq_true_eq];exact hL
 unfold GG;rw[hk,if_neg ag];show(CW n (gens.map C6) n,(0:Int))=_
 rw[h3]
end
def eT:AZ:=⟨3,1, [],2, [[1,2]]⟩
theorem Y8:F9 3 1 []:=⟨3,1,rfl,rfl,⟨ac,ac,ac,ae,rfl,by intro x hx;cases hx⟩,ae,(FU (p:=3) (m:=1) (ml:= []) ⟨ac,ac,ac,ae,rfl,by intro x hx;cases hx⟩ ae).2 (.inl rfl)⟩
theorem YZ:PV 3 1 1 2 (AX [[1,2]]) [0] 1:=SY ac ae rfl ae
theorem XV{e:Int}(h:Cm 3 1 [] 2 [[1,2]] e):e=0:=N9 (p:=3) (m:=1) (N:=2) Y8 aj aj aj rfl YZ ac h
theorem Zl:Cm 2 1 [] 3 [[1,1,0]] 0:=
 .inr (.inr ⟨aj,aj,.inr ⟨aj,2,1,3, [0],AX [[1,1,0]],rfl,rfl,rfl,Y9,aj,JQ Um ac rfl,aj⟩⟩)
def cG:List (List Int):= [[0,1,2], [1,0,2], [0,1,2], [0,1,2]]
def cT:List (List Int):= [[0,1,2], [1,0,2]]
def cL:List Lv:= [⟨0, [0,1], [[0,1,2], [1,0,2]]⟩]
def tG:List (List Int):= [[0,1,2,3], [1,0,3,2], [2,3,0,1], [3,2,1,0], [0,1,2,3]]
def tT:List (List Int):= [[0,1,2,3], [1,0,3,2], [2,3,0,1], [3,2,1,0]]
def tL:List Lv:= [⟨0, [0,1,2,3], [[0,1,2,3], [1,0,3,2], [2,3,0,1], [3,2,1,0]]⟩]
theorem WP:O4 3 1 [] [1,0] [2,1] 0=0/\Sg 3 1 [] [1,0] [2,1] 0= [3,2,0,1]:=aj
theorem YW:Mb 3 1 [] 2 [3,2,0,1]=0/\(Tk 3 1 [] 2 [3,2,0,1]).perm= [1,0]/\(Tk 3 1 [] 2 [3,2,0,1]).scale= [2,1]/\(Tk 3 1 [] 2 [3,2,0,1]).frob=0:=aj
theorem Uo:JI eC 0=0:=aj
theorem Y6:JI eT 0=0:=aj
theorem Up:Eo 2 1 [] (Dr eC (AD eC))=cG:=aj
theorem Ul:Eo 3 1 [] (Dr eT (AD eT))=tG:=aj
theorem XX:Nv (Dr eC (AD eC))=cG:=aj
theorem Qa{c:AZ}{G:List (List Int)}{p m:Nat}{ml:List Int}(h:Eo p m ml (Dr c (AD c))=G):(Dr c (AD c)).length=G.length:=by
 rw[<-h];unfold Eo;rw[List.length_map]
theorem Px:(Dr eC (AD eC)).length<=1000:=by rw[Qa Up];decide
theorem XU:(Dr eT (AD eT)).length<=1000:=by rw[Qa Ul];decide
def Z9(N:Nat)(M:CE):Bool:=decide (M.perm.length=N)&&(decide (M.scale.length=N)&&Bq M.perm N)
theorem Tg{N:Nat}{Ms:List CE}(h:Ms.all (Z9 N)=true):∀M∈Ms,R9 N M:=fun M hM=>by
 have:=List.all_eq_true.1 h M hM;unfold Z9 at this;simp only[Bool.and_eq_true,decide_eq_true_eq]at this;exact this
theorem WR:∀M∈Dr eC (AD eC),R9 eC.n.toNat M:=Tg aj
theorem Y4:∀M∈Dr eT (AD eT),R9 eT.n.toNat M:=Tg aj
theorem WV(f:Nat->Nat):Gn (cG.map C6) f↔∃r∈cT,C6 r=f:=K4 (n:=3) [[], [1]] ae ae ac ac ae ae ae ae f
theorem YD(f:Nat->Nat):Gn (tG.map C6) f↔∃r∈tT,C6 r=f:=K4 (n:=4) [[], [1], [2], [3]] ae ae ac ac ae ae ae ae f
theorem Ux:C7 3 cG=(⟨3,cL⟩,0):=QY (n:=3) WV ae ae ae ae ah
theorem Sx:C7 4 tG=(⟨4,tL⟩,0):=QY (n:=4) YD ae ae ae ae ah
theorem Yg:Be 3 cL=0:=QT (n:=3) (gens:=cG) ae ac ac ae Ux
theorem Xf:Be 4 tL=0:=QT (n:=4) (gens:=tG) ae ac ac ae Sx
theorem Xe:G6 tL=4:=ae
theorem Ye:G6 cL=2:=ae
theorem Yi:GG 3 cG=([[0,1], [2]],0):=Vy (n:=3) WV ae aj
def eX:List FW:=Hq eC (Ia eC (AD eC))
def ZV(x:FW):Int × Int:=(x.i,x.j)
theorem WQ:eX.map ZV= [(0,2),(1,2)]:=aj
theorem YX:∀g∈Ia eC (AD eC),Hd 0 (gF eC g)=0:=fun g hg=>by
 have h:(Ia eC (AD eC)).all (fun g=>Hd 0 (gF eC g)==0)=true:=aj;simpa using List.all_eq_true.1 h g hg
theorem Mv:eX.length=2:=by have:=congrArg List.length WQ;rw[List.length_map]at this;exact this
theorem XW:(Ia eC (AD eC)).length<=1000:=by
 have:=Mv;unfold eX Hq at this;rw[List.length_map]at this;omega
theorem XT:JP eC 2 cL (AD eC) eX=true:=aj
theorem Un{P:List Int}(h1:JK 2 1 [] 3 P=true)(h2:Ck 2 1 [] 3 (Gl 2 1 3 P) (Gk 2 1 3 P) 0=0)(h3:Hn 2 1 [] (Gl 2 1 3 P) (Gk 2 1 3 P) 0 3 [[1,1,0]] 1= [[1,1,0]]):Fg 2 1 [] 3 [[1,1,0]] P=true:=by
 refine ND.2 ⟨h1,h2, [0],AX [[1,1,0]],?_,aj⟩;rw[show([[1,1,0]]:List (List Int)).length=1 from rfl,h3];exact JQ Um ac rfl
theorem Yf:Tn eC cL=true:=by
 rw[NE];intro l hl r hr;simp only[cL,List.mem_singleton]at hl;subst hl;simp only[List.mem_cons,List.not_mem_nil,or_false]at hr;rcases hr with rfl|rfl
 .exact Un aj aj aj
 .exact Un aj aj aj
theorem Yh:UL eC 3 cL eX:=⟨Yg,aj,Yf,XT⟩
theorem XY:Ii eC 0=0:=aj
theorem Py:MK eC=(⟨3,cL⟩,0):=by
 have h:MK eC=C7 3 (Eo 2 1 [] (Dr eC (AD eC))):=rfl;rw[h,Up,Ux]
theorem Y7:UR eC 0=0:=by unfold UR;rw[Uo,if_neg ag,Py]
end
section
open Go.RowKit
def UK(P:Prop)(r:Ending):Prop:=∃b:Bool,r= .returned (.bool b)/\(b=true↔P)
theorem FD{P:Prop}(h:¬P):UK P (.returned (.bool false)):=⟨false,rfl,⟨fun h=>bf,fun k=>absurd k h⟩⟩
theorem R0{P:Prop}(h:P):UK P (.returned (.bool true)):=⟨true,rfl,⟨fun _=>h,fun _=>rfl⟩⟩
theorem VL{l k:Lv}(h1:l.pt=k.pt)(h2:l.orb=k.orb)(h3:l.reps=k.reps):l=k:=by
 cases l;cases k
 simp only at h1 h2 h3;rw[h1,h2,h3]
theorem bc{P:Prop}(h:P:=by first|exact HN.o|exact fun h=>HN.o h.2):P:=h
theorem OZ(w:World)(d1 d2:Int)(L K:List Lv)(lv kv:Value)(hL:Eh w lv L)(hK:Eh w kv K):
  Calls Tryz.prog 26 #[.agg #[.int .i64 d1,lv],.agg #[.int .i64 d2,kv]] w fun r w'=>UK (d1=d2/\L=K) r/\Ex w w':=by
 obtain⟨b0,b1,e0⟩:=Cp w d1 lv;obtain⟨f0,f1,e1⟩:=Cp (w.alloc (.cells #[.int .i64 d1,lv] 43)) d2 kv;have b0:=e1.cell b0;have b1:=e1.cell b1;have aS:(w.alloc (.cells #[.int .i64 d1,lv] 43)).heap.size=w.heap.size+1:=ag;rw[aS]at f0 f1;obtain⟨za,zc,rfl,z1,z2,z3⟩:=(hL.ex (e0.trans e1)).open3;obtain⟨ya,yc,rfl,y1,y2,y3⟩:=(hK.ex (e0.trans e1)).open3;unfold maxLen at z2 y2;have Z3:=Aa z3;have Y3:=Aa y3;have aG:=Aa (e0.trans e1);clear z3 y3 hL hK e0 e1 aS;by_cases hd:d1=d2
 .subst hd;have aZ:(d1 !=d1)=false:=by simp
  by_cases hlen:L.length=K.length
  .have aX:((L.length:Int) !=(K.length:Int))=false:=by simp;omega
   have aV:=Aa hlen;clear hlen;go_enter Tryz.func26,Tryz.ntmps26
   go_wp2_with fail
   obtain⟨q,hq⟩:=nA w.heap.size;rw[hq]at b0 b1 f0 f1
   try simp only[hq]
   clear hq;generalize (w.alloc (.cells #[.int .i64 d1,.slice za L.length zc] 43)).alloc (.cells #[.int .i64 d1,.slice ya K.length yc] 43)=w1 at *;have B1:=Aa b1;have F1:=Aa f1;clear b0 b1 f0 f1
   go_loopw [5] (fun j' wr=>∃(j:Nat),j<=L.length/\j'= .int .i64 j/\Hia (∀i,i<j->L[i]?=K[i]?)/\Hia (Ex w1 wr)) (fun j' _=>L.length-(intOf j').toNat)
   case atStart=>exact⟨0,ac,rfl,Aa (fun i h=>ac),Aa (Ex.refl _)⟩
   case round=>
    obtain⟨j,hj,rfl,aB,aA⟩:=hrel;have b1:=aA.o.cell B1.o;have f1:=aA.o.cell F1.o;by_cases hjl:j<L.length
    .obtain⟨l,hl⟩:∃l,L[j]?=some l:=⟨_,List.getElem?_eq_getElem hjl⟩;have aY:j<K.length:=by have:=aV.o;omega
     obtain⟨k,hk⟩:∃k,K[j]?=some k:=⟨_,List.getElem?_eq_getElem aY⟩;obtain⟨zb,zo,rfl,aQ⟩:=Z3.o ac;obtain⟨yb,yo,rfl,aR⟩:=Y3.o ac;obtain⟨u,r,c0,c1,c2,hu,hr⟩:=aQ j l hl;obtain⟨v,s,g0,g1,g2,hv,hs⟩:=aR j k hk;have c0:=aA.o.cell c0;have c1:=aA.o.cell c1;have c2:=aA.o.cell c2;have g0:=aA.o.cell g0;have g1:=aA.o.cell g1;have g2:=aA.o.cell g2;obtain⟨oa,oc,rfl,_,_,_⟩:=hu.open;obtain⟨ra,rc,rfl,_,_,_⟩:=hr.open;obtain⟨pa,pc,rfl,_,_,_⟩:=hv.open;obtain⟨sa,sc,rfl,_,_,_⟩:=hs.open;have i1:(0:Int)<=(j:Int):=c9;have i2:(j:Int)<(L.length:Int):=ac;have i3:(j:Int)<(K.length:Int):=ac;obtain⟨p,hp⟩:=nA l.pt;rw[hp]at c0;obtain⟨t,ht⟩:=nA k.pt;rw[ht]at g0;have HU:=Aa (hu.ex aA.o);have HR:=Aa (hr.ex aA.o);have HV:=Aa (hv.ex aA.o);have HS:=Aa (hs.ex aA.o);have aJ:=Aa hl;have aK:=Aa hk;have aT:=Aa hp;have aU:=Aa ht;clear hl hk hp ht hu hr hv hs aQ aR;have bP:=fun o=>((Ex.refl wr).alloc o).cell b1;have bO:=fun o o2=>(((Ex.refl wr).alloc o).alloc o2).cell b1;have bH:=fun o=>((Ex.refl wr).alloc o).cell f1;have bG:=fun o o2=>(((Ex.refl wr).alloc o).alloc o2).cell f1;have bN:=fun o=>((Ex.refl wr).alloc o).cell c0;have bM:=fun o o2=>(((Ex.refl wr).alloc o).alloc o2).cell c0;have bL:=fun o=>((Ex.refl wr).alloc o).cell c1;have bK:=fun o o2=>(((Ex.refl wr).alloc o).alloc o2).cell c1;have bJ:=fun o=>((Ex.refl wr).alloc o).cell c2;have bI:=fun o o2=>(((Ex.refl wr).alloc o).alloc o2).cell c2;have bF:=fun o=>((Ex.refl wr).alloc o).cell g0;have bE:=fun o o2=>(((Ex.refl wr).alloc o).alloc o2).cell g0;have bD:=fun o=>((Ex.refl wr).alloc o).cell g1;have bC:=fun o o2=>(((Ex.refl wr).alloc o).alloc o2).cell g1;have bB:=fun o=>((Ex.refl wr).alloc o).cell g2;have bA:=fun o o2=>(((Ex.refl wr).alloc o).alloc o2).cell g2;go_upto_region 6 with fail
     go_cut [6,7] from 29 to 59 (fun s6 s7 wx=>∃B1 B2:Nat,s6= .pointer (some ⟨B1,0,none⟩)/\s7= .pointer (some ⟨B2,0,none⟩)/\Hia (wx.cell? ⟨B1,0,none⟩=some (.int .i64 p)/\wx.cell? ⟨B1,1,none⟩=some (.slice oa l.orb.length oc)/\wx.cell? ⟨B1,2,none⟩=some (.slice ra l.reps.length rc))/\Hia (wx.cell? ⟨B2,0,none⟩=some (.int .i64 t)/\wx.cell? ⟨B2,1,none⟩=some (.slice pa k.orb.length pc)/\wx.cell? ⟨B2,2,none⟩=some (.slice sa k.reps.length sc))/\Hia (Ex wr wx))
     case first=>
      go_region
      all_goals go_wp2_with fail
      all_goals go_meet
      all_goals exact⟨_,_,rfl,rfl,Aa ⟨ag,ag,ag⟩,Aa ⟨ag,ag,ag⟩,Aa (((Ex.refl wr).alloc _).alloc _).drew⟩
     case rest=>
      obtain⟨B1,B2,rfl,rfl,hA,hB,aC⟩:=hcut;clear b1 f1 c0 c1 c2 g0 g1 g2 bP bO bH bG bN bM bL bK bJ bI bF bE bD bC bB bA;obtain⟨a0,a1,a2⟩:=hA.o;obtain⟨g0,g1,g2⟩:=hB.o;have aO:=Aa (show(L[j]?≠K[j]?)->¬(L=K) from fun h e=>h cj);by_cases hpt:p=t
      .subst hpt;have aW:(p !=p)=false:=by simp
       have A2:=Aa a2;have G2:=Aa g2;have aF:=C9 wc l.orb k.orb _ _ (HU.o.ex aC.o) (HV.o.ex aC.o);by_cases DJ:l.orb=k.orb
       .rw[decide_eq_true DJ]at aF;have aL:=Aa aF;clear aF;by_cases hre:l.reps=k.reps
        .have HE:=Aa (show L[j]?=K[j]? from by
          rw[aJ.o,aK.o,VL (aT.o.trans aU.o.symm) DJ hre])
         have aP:=Aa (show ∀i,i<j+1->L[i]?=K[i]? from fun i hi=>by
          by_cases e:i=j
          .subst e;exact HE.o
          .exact aB.o i ac)
         have aN:=Aa (decide_eq_true hre);clear DJ hre aB;go_wp2_with (first|(go_at_call 19;refine aL.o.mono ?_;rintro e w6⟨rfl,n6,aE⟩;have X6:=(show Ex wc w6 from by rw[aE];exact(Ex.refl _).drewN n6);have a2:=X6.cell A2.o;have g2:=X6.cell G2.o;have aD:=EZ w6 l.reps k.reps _ _ ((HR.o.ex aC.o).ex X6) ((HS.o.ex aC.o).ex X6);rw[aN.o]at aD;have aD:=Aa aD;have aI:=Aa X6;clear aE X6)|(go_at_call 27;refine aD.o.mono ?_;rintro e w7⟨rfl,n7,aH⟩;have aM:=Aa (aI.o.trans (show Ex w6 w7 from by rw[aH];exact(Ex.refl w6).drewN n7));clear aH))
         go_roundw
         case rel=>exact⟨j+1,ac,by go_num,aP,Aa (aA.o.trans (aC.o.trans aM.o))⟩
         case measure=>simp[intOf];omega
        .have HN:=Aa (aO.o (by
          rw[aJ.o,aK.o];intro e;injection e with e;exact hre cj))
         have aN:=Aa (decide_eq_false hre);clear DJ hre aB;go_wp2_with (first|(go_at_call 19;refine aL.o.mono ?_;rintro e w6⟨rfl,n6,aE⟩;have X6:=(show Ex wc w6 from by rw[aE];exact(Ex.refl _).drewN n6);have a2:=X6.cell A2.o;have g2:=X6.cell G2.o;have aD:=EZ w6 l.reps k.reps _ _ ((HR.o.ex aC.o).ex X6) ((HS.o.ex aC.o).ex X6);rw[aN.o]at aD;have aD:=Aa aD;have aI:=Aa X6;clear aE X6)|(go_at_call 27;refine aD.o.mono ?_;rintro e w7⟨rfl,n7,aH⟩;have aM:=Aa (aI.o.trans (show Ex w6 w7 from by rw[aH];exact(Ex.refl w6).drewN n7));clear aH))
         go_ret;exact⟨FD bc,aG.o.trans (aA.o.trans (aC.o.trans aM.o))⟩
       .have HN:=Aa (aO.o (by
         rw[aJ.o,aK.o];intro e;injection e with e;exact DJ cj))
        rw[decide_eq_false DJ]at aF;have aL:=Aa aF;clear aF DJ aB;go_wp2_with (go_at_call 19;refine aL.o.mono ?_;rintro e w6⟨rfl,n6,aE⟩;have aI:=Aa (show Ex wc w6 from by rw[aE];exact(Ex.refl _).drewN n6);clear aE)
        go_ret;exact⟨FD bc,aG.o.trans (aA.o.trans (aC.o.trans aI.o))⟩
      .have aW:(p !=t)=true:=by simpa using hpt
       have HN:=Aa (aO.o (by
        rw[aJ.o,aK.o];intro e;injection e with e;have e1:=aT.o;have e2:=aU.o;exact hpt (by rw[<-e1,<-e2,e])))
       clear hpt;go_wp2_with fail
       go_ret;exact⟨FD bc,aG.o.trans (aA.o.trans aC.o)⟩
    .obtain rfl:j=L.length:=by omega
     have HR:=Aa (show L=K from Qq aV.o aB.o);go_wp2_with fail
     go_ret;exact⟨R0 (by first|exact HR.o|exact⟨trivial,HR.o⟩|exact⟨rfl,HR.o⟩),aG.o.trans aA.o⟩
  .have aX:((L.length:Int) !=(K.length:Int))=true:=by simp;omega
   have HN:=Aa (show ¬L=K from fun e=>hlen cj);clear hlen;go_enter Tryz.func26,Tryz.ntmps26
   go_wp2_with fail
   go_ret;exact⟨FD bc,aG.o⟩
 .have aZ:(d1 !=d2)=true:=by simpa using hd
  have HN:=Aa (show ¬(d1=d2/\L=K) from fun ⟨e,_⟩=>hd e);clear hd;go_enter Tryz.func26,Tryz.ntmps26
  go_wp2_with fail
  go_ret;exact⟨FD HN.o,aG.o⟩
end
section
open Go.RowKit
theorem Ns(w:World)(p m:Int)(ml:List Int)(mv:Value)(aK:Ak w mv ml)(pl sl:List Int)(pv sv:Value)(hp:Ak w pv pl)(hs:Ak w sv sl)(fr:Int):
  Calls Tryz.prog 16 #[.agg #[.int .i64 p,.int .i64 m,mv],.agg #[pv,sv,.int .i64 fr]] w fun r w'=>Z2 (Sg p m ml pl sl fr) (O4 p m ml pl sl fr) r w'/\Ex w w':=by
 obtain⟨a0,a1,a2,ea⟩:=B3 w p m mv;obtain⟨b0,b1,b2,eb⟩:=Az (w.alloc (.cells #[.int .i64 p,.int .i64 m,mv] 24)) pv sv fr;replace a0:=eb.cell a0;replace a1:=eb.cell a1;replace a2:=eb.cell a2;have HE:=Aa (ea.trans eb);have aU:=Aa (aK.ex HE.o);have HP:=Aa (hp.ex HE.o);have HS:=Aa (hs.ex HE.o);obtain⟨ma,mc,rfl,_,_,_⟩:=aK.open;obtain⟨pa,pc,rfl,_,z2,_⟩:=hp.open;obtain⟨sa,sc,rfl,_,_,_⟩:=hs.open;unfold maxLen at z2;have aT:(w.alloc (.cells #[.int .i64 p,.int .i64 m,.slice ma ml.length mc] 24)).heap.size=w.heap.size+1:=ag;rw[aT]at b0 b1 b2;obtain⟨B,hB⟩:=nA w.heap.size;rw[hB]at a0 a1 a2 b0 b1 b2;obtain⟨E,hE⟩:=nA (Ck p m ml pl.length pl sl fr);have HED:=Aa hE;have aA:=Aa (show O4 p m ml pl sl fr=if E≠0 then E else if fr≠0 then 5 else if 64<pl.length*(p.toNat^m.toNat-1) then 8 else 0 from by unfold O4;rw[hE]);have aC:=Aa (show Sg p m ml pl sl fr=if O4 p m ml pl sl fr=0 then Fu p.toNat m.toNat ml pl sl else [] from rfl);have aV:=Aa (fun (h:E=0)=>Hj (hE.trans h));obtain⟨PE,aS⟩:∃x,O4 p m ml pl sl fr=x:=⟨_,rfl⟩;obtain⟨PL,aR⟩:∃x,Sg p m ml pl sl fr=x:=⟨_,rfl⟩;rw[aS]at aA aC ⊢;rw[aR]at aC ⊢;have aO:=Aa (fun w1 (h:Ex ((w.alloc (.cells #[.int .i64 p,.int .i64 m,.slice ma ml.length mc] 24)).alloc (.cells #[.slice pa pl.length pc,.slice sa sl.length sc,.int .i64 fr] 26)) w1)=>Ic w1 p m ml _ (aU.o.ex h) pl.length pl sl _ _ (HP.o.ex h) (HS.o.ex h) fr);rw[hE]at aO;clear hE aS aR aK hp hs aT ea eb;have PB0:=Aa b0;go_enter Tryz.func16,Tryz.ntmps16
 go_upto_region 1 with fail
 try simp only[hB]
 clear hB;generalize (w.alloc (.cells #[.int .i64 p,.int .i64 m,.slice ma ml.length mc] 24)).alloc (.cells #[.slice pa pl.length pc,.slice sa sl.length sc,.int .i64 fr] 26)=w1 at *;go_wp2_with fail
 refine(aO.o w1 (Ex.refl _)).mono ?_;rintro e w2⟨rfl,aB⟩;have aD:=Aa aB;replace a0:=aB.cell a0;replace a1:=aB.cell a1;replace a2:=aB.cell a2;replace b0:=aB.cell b0;replace b1:=aB.cell b1;replace b2:=aB.cell b2;clear aB;by_cases h0:E=0
 rotate_left
 .have hb:(E !=0)=true:=by simpa using h0
  have HR:=Aa (show PE=E from by rw[aA.o,if_pos h0]);have aE:=Aa (show PL= [] from by rw[aC.o,if_neg (by rw[HR.o];exact h0)]);clear h0;go_wp2_with fail
  go_ret2;exact⟨Fx aE.o.symm HR.o.symm (AW _),HE.o.trans aD.o⟩
 .obtain⟨n1,n2,n3,n4,n5,n6,n7,n8,n9,aW⟩:=aV.o h0;subst h0;by_cases hf:fr=0
  rotate_left
  .have hb:(fr !=0)=true:=by simpa using hf
   have HR:=Aa (show PE=5 from by rw[aA.o,if_neg ag,if_pos hf]);have aE:=Aa (show PL= [] from by rw[aC.o,if_neg el]);clear hf;go_wp2_with fail
   go_ret2;exact⟨Fx aE.o.symm HR.o.symm (AW _),HE.o.trans aD.o⟩
  .subst hf;obtain⟨pn,mn,rfl,rfl,hf,aZ,hF⟩:=(BH p m ml).1 n1;have bC:=Aa (show sl.length=pl.length from ac);have aL:=Aa (show pl.length<=64 from ac);have aG:=aL.o;have HF:=Aa hf;replace aA:=Aa (show PE=if ((0:Int)≠0) then(0:Int) else if ((0:Int)≠0) then 5 else if 64<pl.length*(pn^mn-1) then 8 else 0 from aA.o);replace aC:=Aa (show PL=if PE=0 then Fu pn mn ml pl sl else [] from aC.o);have aY:2<=pn^mn:=Nat.le_trans hf.p2 (Nat.le_self_pow (by have:=hf.m1;omega) pn);have aX:=hf.q;have aN:=Aa (fun (w5:World) (h5:Ex w2 w5) (hd:pl.length*(pn^mn-1)<=64)=>Jh w5 HF.o (aU.o.ex (aD.o.trans h5)) pl.length aG pl sl _ _ (HP.o.ex (aD.o.trans h5)) (HS.o.ex (aD.o.trans h5)) rfl bC.o n6 hd 0);have aJ:=Aa (CJ pn mn (.slice ma ml.length mc));rw[GF hf]at aJ;obtain⟨q,hq⟩:=nA (pn^mn);rw[hq]at aJ aA aN aY aX;obtain⟨D,hD⟩:=nA (pl.length*(q-1));have hDb:D<=20000:=by rw[<-hD];exact Nat.le_trans (Nat.mul_le_mul aG (show q-1<=255 by omega)) ac
   have k1:(pl.length:Int)*((q:Int)-1)=(D:Int):=by rw[<-hD,Int.natCast_mul,Int.natCast_sub ac];rfl
   rw[hD]at aA aN;have HQ:=Aa hq;have bE:=Aa hD;have k2:(pl.length:Int)<=64:=ac;have k3:(q:Int)<=256:=ac;have k4:(1:Int)<=(q:Int):=ac;clear hq hD hf aZ hF n1 n2 n3 n4 n5 n6 n7 n8 n9 aW aV aO;have aI:=Aa (fun (w5:World) (h5:Ex w2 w5)=>(⟨h5.cell a0,h5.cell a1,h5.cell a2,h5.cell b0,h5.cell b1,h5.cell b2⟩:w5.cell? ⟨B,0,none⟩=some (.int .i64 pn)/\w5.cell? ⟨B,1,none⟩=some (.int .i64 mn)/\w5.cell? ⟨B,2,none⟩=some (.slice ma ml.length mc)/\w5.cell? ⟨B+1,0,none⟩=some (.slice pa pl.length pc)/\w5.cell? ⟨B+1,1,none⟩=some (.slice sa sl.length sc)/\w5.cell? ⟨B+1,2,none⟩=some (.int .i64 0)));have W1:=Aa (show IntKind.i64.wrap ((q:Int)-1)=(q:Int)-1 from IntWalk.i64_in _ ac);have W2:=Aa (show IntKind.i64.wrap ((pl.length:Int)*((q:Int)-1))=(D:Int) from by rw[k1];exact IntWalk.i64_in _ ac);have G0:Ex w2 w2.drew:=(Ex.refl w2).drew;by_cases hd:64<D
   .have bA:(64:Int)<(D:Int):=by omega
    have HR:=Aa (show PE=8 from by rw[aA.o,if_neg ag,if_neg ag,if_pos hd]);have aE:=Aa (show PL= [] from by rw[aC.o,if_neg el]);have W3:=Aa (show decide ((64:Int)<(D:Int))=true from by simp;omega);clear hd a0 a1 a2 b0 b1;go_wp2_with fail
    clear b2
    go_region_held3 (fun w'=>w'.cell? ⟨B,0,none⟩=some (.int .i64 pn)/\w'.cell? ⟨B,1,none⟩=some (.int .i64 mn)/\w'.cell? ⟨B,2,none⟩=some (.slice ma ml.length mc)/\w'.cell? ⟨B+1,0,none⟩=some (.slice pa pl.length pc)/\w'.cell? ⟨B+1,1,none⟩=some (.slice sa sl.length sc)/\w'.cell? ⟨B+1,2,none⟩=some (.int .i64 0))
     (first|with_reducible exact aI.o _ X5|with_reducible exact aI.o _ G0)
     (first|(go_at_call 14;(with_reducible refine(aJ.o _).mono ?_);rintro e w5⟨rfl,aF⟩;have X5:=G0.trans aF;have aH:=Aa X5;clear aF))
    all_goals
     simp only[W1.o,W2.o,W3.o];go_wp2_with fail
     go_ret2;exact⟨Fx aE.o.symm HR.o.symm (AW _),HE.o.trans (aD.o.trans aH.o)⟩
   .have bA:¬(64:Int)<(D:Int):=by omega
    have HR:=Aa (show PE=0 from by rw[aA.o,if_neg ag,if_neg ag,if_neg hd]);have aE:=Aa (show PL=Fu pn mn ml pl sl from by rw[aC.o,if_pos HR.o]);have aM:=Aa (fun (w5:World) (h5:Ex w2 w5)=>aN.o w5 h5 ac);have W3:=Aa (show decide ((64:Int)<(D:Int))=false from by simp;omega);clear hd a0 a1 a2 b0 b1;go_wp2_with fail
    clear b2
    go_region_held3 (fun w'=>w'.cell? ⟨B,0,none⟩=some (.int .i64 pn)/\w'.cell? ⟨B,1,none⟩=some (.int .i64 mn)/\w'.cell? ⟨B,2,none⟩=some (.slice ma ml.length mc)/\w'.cell? ⟨B+1,0,none⟩=some (.slice pa pl.length pc)/\w'.cell? ⟨B+1,1,none⟩=some (.slice sa sl.length sc)/\w'.cell? ⟨B+1,2,none⟩=some (.int .i64 0))
     (first|with_reducible exact aI.o _ X5|with_reducible exact aI.o _ G0)
     (first|(go_at_call 14;(with_reducible refine(aJ.o _).mono ?_);rintro e w5⟨rfl,aF⟩;have X5:=G0.trans aF;have aH:=Aa X5;clear aF))
    all_goals
     simp only[W1.o,W2.o,W3.o];obtain⟨a0,a1,a2,b0,b1,b2⟩:=aI.o _ aH.o;go_wp2_with (go_at_call 56;refine(aM.o _ aH.o).mono ?_;rintro e w6⟨v6,rfl,aQ,aP⟩;have bD:=Aa aQ;have bB:=Aa (aD.o.trans (aH.o.trans aP));clear aP aQ)
     go_ret2;refine⟨Fx aE.o.symm HR.o.symm ?_,HE.o.trans bB.o⟩;have h9:=Sl.own bD.o;unfold Ak Fu;rw[HQ.o,bE.o,Aj,Ch];exact h9
end
end Go.Proofs.YtehieobniamagaaGreat
