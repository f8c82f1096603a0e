/- Walk of automorphism.Positions. -/
import Derived.Test.YtehieobniamagaaGreatZd30
namespace Go.Proofs.YtehieobniamagaaGreat
open Go.RowKit
set_option linter.all false
set_option maxRecDepth 100000
set_option maxHeartbeats 16000000
def Pc(Ms:List CL):List (List Int):=Ms.map (·.perm)
def PosO(c:AU)(r:Ending)(w':World):Prop:=∃e0:Int,BN c.p c.m c.ml c.n c.rows e0/\
 ((Jt c e0≠0/\r= .returned (.tuple #[.slice none 0 0,.int .i64 (Jt c e0)]))∨(Jt c e0=0/\OrbR c.n (Pc (Da c (AD c))) r w'))
theorem LO(bK:RL)(w:World)(c:AU)(m1 v1:Value)(hc:c.at w m1 v1)(aB:(Da c (AD c)).length<=1000):
  Calls Tryz.prog 24 #[c.arg m1 v1] w fun r w'=>PosO c r w'/\Ex w w':=by
 obtain⟨c0,c1,c2,c3,c4⟩:=C6 w c m1 v1;have aL:=AJ w (c.obj m1 v1);obtain⟨x1,y1,aO,-,z1,-⟩:=hc.g.open;obtain⟨x3,y3,aN,-,z3,-⟩:=hc.m.open;unfold maxLen at z1 z3;obtain⟨B,hB⟩:=nA w.heap.size;have aC:=Aa (Iy (w.alloc (c.obj m1 v1)) c m1 v1 (hc.ex aL));rw[hB]at c0 c1 c2 c3 c4;have aG:=Aa aL;obtain⟨C,hC⟩:∃C:AU,C=c:=⟨_,rfl⟩;have cD:=Aa hC;have bF:=Aa (show ∀r w',PosO C r w'->PosO c r w' from fun r w' h=>by rw[<-hC];exact h);rw[<-hC]at aB;obtain⟨cp,cm,bO,cn,bN⟩:=c;unfold AU.arg at aC ⊢;unfold AU.obj at aG aC c0 c1 c2 c3 c4;dsimp only at aG aC c0 c1 c2 c3 c4 aO aN ⊢;rw[aO,aN]at aG aC c0 c1 c2 c3 c4 ⊢;rw[<-hC]at aC;have aU:=Aa aB;clear hc aL hC aO aN aB;go_enter Tryz.func24,Tryz.ntmps24
 go_upto_region 1 with fail
 try simp only[hB]
 clear hB;generalize w.alloc (.cells #[.int .i64 cp,.int .i64 cm,.slice x3 bO.length y3,.int .i64 cn,.slice x1 bN.length y1] 39)=w1 at *;go_wp2_with fail
 refine aC.o.mono ?_;rintro e w2⟨aE,aD⟩;have bE:=Aa aD;obtain⟨e0,bB,ho⟩:=QO aE;have bJ:=Aa bB;replace c3:=aD.cell c3;obtain⟨GE,aS⟩:∃x,Jt C e0=x:=⟨_,rfl⟩;rw[aS]at ho;have aX:=Aa aS;clear aE aD bB aC aS c0 c1 c2 c4;rcases ho with⟨h0,rfl⟩|⟨h0,hbn,pn,mn,N,b,x0,mv,nv,hp,hm,hn,hN1,hN64,hD,rfl,hg,hx1,aD,hms,hns⟩
 .have hb:(GE !=0)=true:=by simpa using h0
  have H0:=Aa h0;clear h0;go_wp2_with fail
  exact bodyPost_ret (v:= .tuple #[.slice none 0 0,.int .i64 GE]) (by simp[results,Tryz.results24,go_sem]) rfl ⟨bF.o _ _ ⟨e0,bJ.o,.inl ⟨by rw[aX.o];exact H0.o,by rw[aX.o]⟩⟩,aG.o.trans bE.o⟩
 .subst h0;have bM:cn=(N:Int):=by have:=cD.o;rw[this]at hn;exact hn
  subst bM;have bV:=Aa (show C.n=(N:Int) from hn);have bX:=Aa hms;obtain⟨ma,mc,rfl,-,zm,m3⟩:=hms.open;obtain⟨na,nc,rfl,-,-,-⟩:=hns.open;unfold maxLen at zm;obtain⟨Ms,aR⟩:∃x,Da C (AD C)=x:=⟨_,rfl⟩;have bW:=Aa aR;rw[aR]at bX m3 aU ⊢;obtain⟨LM,aF⟩:∃x,Ms.length=x:=⟨_,rfl⟩;have bZ:=Aa aF;have aV:=Aa (show LM<=1000 from by rw[<-aF];exact aU.o);rw[aF]at m3 ⊢;have M3:=Aa m3;obtain⟨GL,aJ⟩:∃g,Pc Ms=g:=⟨_,rfl⟩;have cC:=Aa (show ∀k (M:CL),Ms[k]?=some M->GL.take (k+1)=GL.take k ++ [M.perm] from fun k M h=>by
   rw[<-aJ];exact El (by unfold Pc;rw[List.getElem?_map,h];rfl))
  have bI:=Aa (show GL.length=LM from by rw[<-aJ,<-aF];unfold Pc;rw[List.length_map]);have cB:=Aa aJ;have bG:=Aa (GM.nil w2);clear hbn hp hm hn hN1 hN64 hD hg hx1 aD hms hns aR aF m3 aJ aU;go_wp2_with fail
  go_loopw [8,23] (fun gv k' wr=>∃(k:Nat) (vals:List Value),k<=LM/\k'= .int .i64 k/\Hia (GM w2 wr gv (GL.take k) vals)) (fun _ k' _=>LM-(intOf k').toNat)
  case atStart=>exact⟨0, [],ac,rfl,bG⟩
  case round=>
   clear bG;obtain⟨k,vals,hk,rfl,hr⟩:=hrel;obtain⟨ga,gc,rfl⟩:=Ad hr.o.own;by_cases hkl:k<LM
   .obtain⟨mb,mo,rfl,bA⟩:=M3.o ac;obtain⟨M,hM⟩:∃M,Ms[k]?=some M:=⟨_,List.getElem?_eq_getElem (by rw[bZ.o];exact hkl)⟩;obtain⟨u,r,d0,d1,d2,hu,aZ⟩:=bA k M hM;obtain⟨ua,uc,rfl,-,-,-⟩:=hu.open;obtain⟨ra,rc,rfl,-,-,-⟩:=aZ.open;replace d0:=hr.o.ex.cell d0;replace d1:=hr.o.ex.cell d1;replace d2:=hr.o.ex.cell d2;rw[show mo+3*k=mo+k*3 from ac]at d0;rw[show mo+(3*k+1)=mo+k*3+1 from ac]at d1;rw[show mo+(3*k+2)=mo+k*3+2 from ac]at d2;have HU:=Aa hu;obtain⟨LP,bD⟩:∃x,M.perm.length=x:=⟨_,rfl⟩;obtain⟨LS,bC⟩:∃x,M.scale.length=x:=⟨_,rfl⟩;rw[bD]at d0 HU;rw[bC]at d1;have HR:=Aa hr.o;have bY:=Aa hM;have i1:(0:Int)<=(k:Int):=by omega
    have i2:(k:Int)<(LM:Int):=ac;have aW:=Aa hkl;obtain⟨TB,aP⟩:∃x,wr.heap.size=x:=⟨_,rfl⟩;obtain⟨t0,t1,t2,et⟩:=Bo wr (.slice ua LP uc) (.slice ra LS rc) M.frob;rw[aP]at t0 t1 t2;have aK:=Aa et;clear hr hM hu aZ bA hkl bD bC et;go_upto_region 8 with fail
    try simp only[aP]
    clear aP d0 d1 d2 i1 i2;generalize wr.alloc (.cells #[.slice ua LP uc,.slice ra LS rc,.int .i64 M.frob] 26)=w5 at *;obtain⟨LG,aA⟩:∃x,(GL.take k).length=x:=⟨_,rfl⟩;have cA:=Aa aA;have aH:=Aa (show LG<=1000 from by rw[<-aA,List.length_take];have:=aV.o;omega);rw[aA]at HR ⊢;have bU:=Aa (show w5.ownsRow w2.heap.size 22 1 (.slice ga LG gc) LG vals from by have:=(HR.o.later aK.o).own;rwa[aA]at this);have bS:=Aa (HR.o.later aK.o).ex.size;have hkb:k<=1000:=by have:=aV.o;omega
    clear aA;go_wp2_with (at_builtin;refine Al _ rfl _ _ 37 rfl w2.heap.size 22 (.slice none 0 0) 1 24 Tryz.underlying37 BH rfl ae _ LG vals rfl bU.o [.slice ua LP uc] 22 _ rfl ag rfl aj (by have:=aH.o;unfold maxLen;omega) (by have:=aH.o;omega) bS.o ?_)
    intro v8 w8 aI;have HN:=Aa ((HR.o.later aK.o).app (R:= [M.perm]) (us:= [.slice ua LP uc]) (gv':=v8) (w':=w8) (fun i r u h1 h2=>by
     rcases i with _|i
     .simp at h1 h2;subst h1 h2;exact HU.o
     .simp at h1) (by rw[cA.o];exact aI.own) (aI.ex (HR.o.later aK.o).ex (Nat.le_refl _)))
    rw[<-cC.o k M bY.o]at HN;obtain⟨ga8,gc8,rfl⟩:=Ad aI.own;clear aI;go_wp2_with fail
    go_roundw
    case rel=>first|exact⟨k+1,_,by have:=aW.o;omega,by go_num,HN⟩|((repeat apply Exists.intro);exact⟨⟨k+1,_,by have:=aW.o;omega,by go_num,HN⟩,rfl⟩)
    case measure=>have:=aW.o;simp[intOf];omega
   .obtain rfl:LM=k:=by omega
    have bR:=Aa (show GL.take LM=GL from List.take_of_length_le (by rw[bI.o];exact Nat.le_refl _));rw[bR.o]at hr ⊢;have HX:=Aa hr.o.ex;have bH:=Aa (RN bK wr (N:Int) GL _ hr.o.msl (by rw[bI.o];exact aV.o));have c3':=hr.o.ex.cell c3;obtain⟨OS,aQ⟩:∃x,Hr (N:Int) GL=x:=⟨_,rfl⟩;have bT:=Aa aQ;obtain⟨ol,oe⟩:=OS;obtain⟨LG,aA⟩:∃x,GL.length=x:=⟨_,rfl⟩;have aT:=Aa (show Calls Tryz.prog 65 #[.int .i64 (N:Int),.slice ga LG gc] wr fun r w'=>(∃v,r= .returned (.tuple #[v,.int .i64 oe])/\BO w' v ol)/\Ex wr w' from by
     rw[<-aA];exact bH.o.mono (by
      rintro r w'⟨⟨v,h1,h2⟩,h3⟩;rw[aQ]at h1 h2;exact⟨⟨v,h1,h2⟩,h3⟩))
    rw[aA];clear hr bH aQ aA c3;go_wp2_with (go_at_call 65;refine aT.o.mono ?_;rintro e w6⟨⟨v6,rfl,aM⟩,aY⟩;obtain⟨la,lc,bL,_,_,_⟩:=aM.open;subst bL;have bQ:=Aa aM;have bP:=Aa aY;clear aM aY)
    exact bodyPost_ret (v:= .tuple #[.slice la ol.length lc,.int .i64 oe]) (by simp[results,Tryz.results24,go_sem]) rfl ⟨bF.o _ _ ⟨e0,bJ.o,.inr ⟨aX.o,by rw[bV.o,bW.o,cB.o];exact Nu bT.o bQ.o⟩⟩,aG.o.trans (bE.o.trans (HX.o.trans bP.o))⟩
section
variable {n:Nat} {T gens:List (List Int)}
def ZR(T:List (List Int))(i:Nat):Nat->Nat:=Dg (T.getD i [])
theorem V9(hg:∀f,Gn (gens.map Dg) f↔∃r∈T,Dg r=f)(hl:∀r∈T,Cb r=0/\r.length=n)(hs:∀a,a<T.length->∀b,b<T.length->a<b->Gf (T.getD a []) (T.getD b [])=true):Ov n T.length (gens.map Dg) (ZR T):=by
 have hm:∀i,i<T.length->T.getD i []∈T:=fun i hi=>by
  rw[List.getD_eq_getElem?_getD,List.getElem?_eq_getElem hi];exact List.getElem_mem hi
 refine⟨fun f=>?_,fun a b aA hb=>?_⟩
 .rw[hg];constructor
  .rintro⟨r,hr,rfl⟩;obtain⟨i,hi,e⟩:=List.getElem_of_mem hr;exact⟨i,hi,by unfold ZR;rw[List.getD_eq_getElem?_getD,List.getElem?_eq_getElem hi];exact congrArg Dg e⟩
  .rintro⟨i,hi,rfl⟩;exact⟨T.getD i [],hm i hi,rfl⟩
 .have ha:a<T.length:=by omega
  have e1:=ND (hl _ (hm a ha)).1;have e2:=ND (hl _ (hm b hb)).1;rw[(hl _ (hm a ha)).2]at e1;rw[(hl _ (hm b hb)).2]at e2;refine VI.1 ?_;show Gf (li n (Dg (T.getD a []))) (li n (Dg (T.getD b [])))=true
  rw[e1,e2];exact hs a ha b hb aA
theorem SF(h:∀r∈gens,Cb r=0/\r.length=n):∀s∈gens.map Dg,Bw n s:=fun s hs=>by
 obtain⟨r,hr,rfl⟩:=List.mem_map.1 hs;have:=NK (h r hr).1
 rwa[(h r hr).2]at this
theorem Tg{C:List Lv}(hg:∀f,Gn (gens.map Dg) f↔∃r∈T,Dg r=f)(hl:∀r∈T,Cb r=0/\r.length=n)(hs:∀a,a<T.length->∀b,b<T.length->a<b->Gf (T.getD a []) (T.getD b [])=true)(h2:∀r∈gens,Cb r=0/\r.length=n)(hk:Ef n gens=0)(hc:chnA n T.length (ZR T) n=C):C7 n gens=(⟨n,C⟩,0):=by
 unfold C7;rw[hk,if_neg ag];show(Chn.mk n (Co n (gens.map Dg) n),(0:Int))=_
 rw[Y6 (V9 hg hl hs) (SF h2),hc]
theorem Tb{C:List Lv}(h2:∀r∈gens,Cb r=0/\r.length=n)(h1:1<=n)(aA:n<=64)(hk:Ef n gens=0)(h:C7 n gens=(⟨n,C⟩,0)):BA n C=0:=by
 have h3:=Y9 (n:=n) h1 aA (SF h2) (R7 n (gens.map Dg));unfold C7 at h;rw[hk,if_neg ag]at h;injection h with h _;injection h with _ h;rw[<-h];show BA n (Co n (gens.map Dg) n)=0
 rw[K8];exact h3
open Classical in
theorem X9 {O:List (List Int)} (hg:∀f,Gn (gens.map Dg) f↔∃r∈T,Dg r=f) (hk:Ef n gens=0) (hO:((List.range n).filter fun i=>T.all (fun r=>decide (i<=Dg r i))).map (fun i=>((List.range n).filter fun y=>T.any (fun r=>Dg r i==y)).map fun (y:Nat)=>(y:Int))=O):Hr n gens=(O,0):=by
 have hr:∀ {i y:Nat},D4 (gens.map Dg) i y↔T.any (fun r=>Dg r i==y)=true:=fun {i y}=>by
  rw[List.any_eq_true];constructor
  .rintro⟨f,hf,e⟩;obtain⟨r,hr,rfl⟩:=(hg f).1 hf;exact⟨r,hr,by simpa using e⟩
  .rintro⟨r,hr,e⟩;exact⟨Dg r,(hg _).2 ⟨r,hr,rfl⟩,by simpa using e⟩
 have hL:∀ {i:Nat},Oq (gens.map Dg) i↔T.all (fun r=>decide (i<=Dg r i))=true:=fun {i}=>by
  rw[List.all_eq_true];constructor
  .intro h r hr;exact decide_eq_true (h _ ⟨Dg r,(hg _).2 ⟨r,hr,rfl⟩,rfl⟩)
  .rintro h y⟨f,hf,rfl⟩;obtain⟨r,hr,rfl⟩:=(hg f).1 hf;exact of_decide_eq_true (h r hr)
 have h2:∀i,Q6 n (gens.map Dg) i=((List.range n).filter fun y=>T.any (fun r=>Dg r i==y)).map fun (y:Nat)=>(y:Int):=fun i=>by
  unfold Q6 Vp
  congr 1
  apply List.filter_congr;intro y _;rw[Bool.eq_iff_iff,decide_eq_true_eq];exact hr
 have h3:Dq n (gens.map Dg) n=O:=by
  rw[<-hO];unfold Dq;rw[show Q6 n (gens.map Dg)=_ from funext h2]
  congr 1
  apply List.filter_congr;intro i _;rw[Bool.eq_iff_iff,decide_eq_true_eq];exact hL
 unfold Hr;rw[hk,if_neg ag];show(Dq n (gens.map Dg) n,(0:Int))=_
 rw[h3]
end
def eT:AU:=⟨3,1, [],2, [[1,2]]⟩
theorem e31:EG 3 1 []:=⟨3,1,rfl,rfl,⟨ac,ac,ac,ae,rfl,by intro x hx;cases hx⟩,ae,(Gy (p:=3) (m:=1) (ml:= []) ⟨ac,ac,ac,ae,rfl,by intro x hx;cases hx⟩ ae).2 (.inl rfl)⟩
theorem eT_pv:PV 3 1 1 2 (Ak [[1,2]]) [0] 1:=Vh ac ae rfl ae
theorem eT_cod{e:Int}(h:BN 3 1 [] 2 [[1,2]] e):e=0:=P8 (p:=3) (m:=1) (N:=2) e31 ak ak ak rfl eT_pv ac h
theorem eC_cod0:BN 2 1 [] 3 [[1,1,0]] 0:=
 .inr (.inr ⟨ak,ak,.inr ⟨ak,2,1,3, [0],Ak [[1,1,0]],rfl,rfl,rfl,e21,ak,H7 Wu ac rfl,ak⟩⟩)
def cG:List (List Int):= [[0,1,2], [1,0,2], [0,1,2], [0,1,2]]
def cT:List (List Int):= [[0,1,2], [1,0,2]]
def cL:List Lv:= [⟨0, [0,1], [[0,1,2], [1,0,2]]⟩]
def tG:List (List Int):= [[0,1,2,3], [1,0,3,2], [2,3,0,1], [3,2,1,0], [0,1,2,3]]
def tT:List (List Int):= [[0,1,2,3], [1,0,3,2], [2,3,0,1], [3,2,1,0]]
def tL:List Lv:= [⟨0, [0,1,2,3], [[0,1,2,3], [1,0,3,2], [2,3,0,1], [3,2,1,0]]⟩]
theorem Zx:ptE 3 1 [] [1,0] [2,1] 0=0/\ptL 3 1 [] [1,0] [2,1] 0= [3,2,0,1]:=ak
theorem e_map:Zv 3 1 [] 2 [3,2,0,1]=0/\(mpM 3 1 [] 2 [3,2,0,1]).perm= [1,0]/\(mpM 3 1 [] 2 [3,2,0,1]).scale= [2,1]/\(mpM 3 1 [] 2 [3,2,0,1]).frob=0:=ak
theorem Ww:Jt eC 0=0:=ak
theorem eT_gr:Jt eT 0=0:=ak
theorem Wx:Ee 2 1 [] (Da eC (AD eC))=cG:=ak
theorem Wt:Ee 3 1 [] (Da eT (AD eT))=tG:=ak
theorem eC_prm:Pc (Da eC (AD eC))=cG:=ak
theorem Sg{c:AU}{G:List (List Int)}{p m:Nat}{ml:List Int}(h:Ee p m ml (Da c (AD c))=G):(Da c (AD c)).length=G.length:=by
 rw[<-h];unfold Ee;rw[List.length_map]
theorem Ru:(Da eC (AD eC)).length<=1000:=by rw[Sg Wx];decide
theorem eT_len:(Da eT (AD eT)).length<=1000:=by rw[Sg Wt];decide
def mvB(N:Nat)(M:CL):Bool:=decide (M.perm.length=N)&&(decide (M.scale.length=N)&&BU M.perm N)
theorem Vw{N:Nat}{Ms:List CL}(h:Ms.all (mvB N)=true):∀M∈Ms,Om N M:=fun M hM=>by
 have:=List.all_eq_true.1 h M hM;unfold mvB at this;simp only[Bool.and_eq_true,decide_eq_true_eq]at this;exact this
theorem Zz:∀M∈Da eC (AD eC),Om eC.n.toNat M:=Vw ak
theorem eT_mv:∀M∈Da eT (AD eT),Om eT.n.toNat M:=Vw ak
theorem ZE(f:Nat->Nat):Gn (cG.map Dg) f↔∃r∈cT,Dg r=f:=Mw (n:=3) [[], [1]] ae ae ac ac ae ae ae ae f
theorem tG_gn(f:Nat->Nat):Gn (tG.map Dg) f↔∃r∈tT,Dg r=f:=Mw (n:=4) [[], [1], [2], [3]] ae ae ac ac ae ae ae ae f
theorem WH:C7 3 cG=(⟨3,cL⟩,0):=Tg (n:=3) ZE ae ae ae ae ah
theorem UL:C7 4 tG=(⟨4,tL⟩,0):=Tg (n:=4) tG_gn ae ae ae ae ah
theorem cL_chk:BA 3 cL=0:=Tb (n:=3) (gens:=cG) ae ac ac ae WH
theorem ZT:BA 4 tL=0:=Tb (n:=4) (gens:=tG) ae ac ac ae UL
theorem ZS:Iv tL=4:=ae
theorem cL_siz:Iv cL=2:=ae
theorem cG_orb:Hr 3 cG=([[0,1], [2]],0):=X9 (n:=3) ZE ae ak
def eX:List GF:=IU eC (Jg eC (AD eC))
def exT(x:GF):Int × Int:=(x.i,x.j)
theorem Zy:eX.map exT= [(0,2),(1,2)]:=ak
theorem eX_rf:∀g∈Jg eC (AD eC),ID 0 (gF eC g)=0:=fun g hg=>by
 have h:(Jg eC (AD eC)).all (fun g=>ID 0 (gF eC g)==0)=true:=ak;simpa using List.all_eq_true.1 h g hg
theorem N4:eX.length=2:=by have:=congrArg List.length Zy;rw[List.length_map]at this;exact this
theorem eN_len:(Jg eC (AD eC)).length<=1000:=by
 have:=N4;unfold eX IU at this;rw[List.length_map]at this;omega
theorem eX_exk:KU eC 2 cL (AD eC) eX=true:=ak
theorem Wv{P:List Int}(h1:Uf 2 1 [] 3 P=true)(h2:Ey 2 1 [] 3 (G7 2 1 3 P) (G6 2 1 3 P) 0=0)(h3:IR 2 1 [] (G7 2 1 3 P) (G6 2 1 3 P) 0 3 [[1,1,0]] 1= [[1,1,0]]):FX 2 1 [] 3 [[1,1,0]] P=true:=by
 refine Pn.2 ⟨h1,h2, [0],Ak [[1,1,0]],?_,ak⟩;rw[show([[1,1,0]]:List (List Int)).length=1 from rfl,h3];exact H7 Wu ac rfl
theorem zaO{P:Prop}(h:P:=by
 exact Wv (by decide +kernel) (by decide +kernel) (by decide +kernel)):P:=h
theorem cL_meb:VD eC cL=true:=by
 rw[Po];intro l hl r hr;simp only[cL,List.mem_singleton]at hl;subst hl;simp only[List.mem_cons,List.not_mem_nil,or_false]at hr;rcases hr with rfl|rfl
 .exact zaO
 .exact zaO
theorem cL_acc:WX eC 3 cL eX:=⟨cL_chk,ak,cL_meb,eX_exk⟩
theorem eC_opE:Ip eC 0=0:=ak
theorem Rv:Lc eC=(⟨3,cL⟩,0):=by
 have h:Lc eC=C7 3 (Ee 2 1 [] (Da eC (AD eC))):=rfl;rw[h,Wx,WH]
theorem eC_cz:W7 eC 0=0:=by unfold W7;rw[Ww,if_neg ag,Rv]
def WW(P:Prop)(r:Ending):Prop:=∃b:Bool,r= .returned (.bool b)/\(b=true↔P)
theorem Gl{P:Prop}(h:¬P):WW P (.returned (.bool false)):=⟨false,rfl,⟨fun h=>bi,fun k=>absurd k h⟩⟩
theorem Up{P:Prop}(h:P):WW P (.returned (.bool true)):=⟨true,rfl,⟨fun _=>h,fun _=>rfl⟩⟩
theorem Yl{l k:Lv}(h1:l.pt=k.pt)(h2:l.orb=k.orb)(h3:l.reps=k.reps):l=k:=by
 cases l;cases k
 simp only at h1 h2 h3;rw[h1,h2,h3]
theorem bh{P:Prop}(h:P:=by first|exact HN.o|exact fun h=>HN.o h.2):P:=h
theorem Kc(w:World)(d1 d2:Int)(L K:List Lv)(lv kv:Value)(hL:EF w lv L)(hK:EF w kv K):
  Calls Tryz.prog 26 #[.agg #[.int .i64 d1,lv],.agg #[.int .i64 d2,kv]] w fun r w'=>WW (d1=d2/\L=K) r/\Ex w w':=by
 obtain⟨b0,b1,e0⟩:=Cd w d1 lv;obtain⟨f0,f1,e1⟩:=Cd (w.alloc (.cells #[.int .i64 d1,lv] 43)) d2 kv;have b0:=e1.cell b0;have b1:=e1.cell b1;have aS:(w.alloc (.cells #[.int .i64 d1,lv] 43)).heap.size=w.heap.size+1:=ag;rw[aS]at f0 f1;obtain⟨za,zc,rfl,z1,z2,z3⟩:=(hL.ex (e0.trans e1)).open3;obtain⟨ya,yc,rfl,y1,y2,y3⟩:=(hK.ex (e0.trans e1)).open3;unfold maxLen at z2 y2;have Z3:=Aa z3;have Y3:=Aa y3;have aG:=Aa (e0.trans e1);clear z3 y3 hL hK e0 e1 aS;by_cases hd:d1=d2
 .subst hd;have aZ:(d1 !=d1)=false:=by simp
  by_cases hlen:L.length=K.length
  .have aX:((L.length:Int) !=(K.length:Int))=false:=by simp;omega
   have aV:=Aa hlen;clear hlen;go_enter Tryz.func26,Tryz.ntmps26
   go_wp2_with fail
   obtain⟨q,hq⟩:=nA w.heap.size;rw[hq]at b0 b1 f0 f1
   try simp only[hq]
   clear hq;generalize (w.alloc (.cells #[.int .i64 d1,.slice za L.length zc] 43)).alloc (.cells #[.int .i64 d1,.slice ya K.length yc] 43)=w1 at *;have B1:=Aa b1;have F1:=Aa f1;clear b0 b1 f0 f1
   go_loopw [5] (fun j' wr=>∃(j:Nat),j<=L.length/\j'= .int .i64 j/\Hia (∀i,i<j->L[i]?=K[i]?)/\Hia (Ex w1 wr)) (fun j' _=>L.length-(intOf j').toNat)
   case atStart=>exact⟨0,ac,rfl,Aa (fun i h=>ac),Aa (Ex.refl _)⟩
   case round=>
    obtain⟨j,hj,rfl,aB,aA⟩:=hrel;have b1:=aA.o.cell B1.o;have f1:=aA.o.cell F1.o;by_cases hjl:j<L.length
    .obtain⟨l,hl⟩:∃l,L[j]?=some l:=⟨_,List.getElem?_eq_getElem hjl⟩;have aY:j<K.length:=by have:=aV.o;omega
     obtain⟨k,hk⟩:∃k,K[j]?=some k:=⟨_,List.getElem?_eq_getElem aY⟩;obtain⟨zb,zo,rfl,aQ⟩:=Z3.o ac;obtain⟨yb,yo,rfl,aR⟩:=Y3.o ac;obtain⟨u,r,c0,c1,c2,hu,hr⟩:=aQ j l hl;obtain⟨v,s,g0,g1,g2,hv,hs⟩:=aR j k hk;have c0:=aA.o.cell c0;have c1:=aA.o.cell c1;have c2:=aA.o.cell c2;have g0:=aA.o.cell g0;have g1:=aA.o.cell g1;have g2:=aA.o.cell g2;obtain⟨oa,oc,rfl,_,_,_⟩:=hu.open;obtain⟨ra,rc,rfl,_,_,_⟩:=hr.open;obtain⟨pa,pc,rfl,_,_,_⟩:=hv.open;obtain⟨sa,sc,rfl,_,_,_⟩:=hs.open;have i1:(0:Int)<=(j:Int):=br;have i2:(j:Int)<(L.length:Int):=ac;have i3:(j:Int)<(K.length:Int):=ac;obtain⟨p,hp⟩:=nA l.pt;rw[hp]at c0;obtain⟨t,ht⟩:=nA k.pt;rw[ht]at g0;obtain⟨HU,HR,HV,HS,aJ,aK,aT,aU⟩:=On (hu.ex aA.o) (hr.ex aA.o) (hv.ex aA.o) (hs.ex aA.o) hl hk hp ht;clear hl hk hp ht hu hr hv hs aQ aR;have bP:=fun o=>((Ex.refl wr).alloc o).cell b1;have bO:=fun o o2=>(((Ex.refl wr).alloc o).alloc o2).cell b1;have bH:=fun o=>((Ex.refl wr).alloc o).cell f1;have bG:=fun o o2=>(((Ex.refl wr).alloc o).alloc o2).cell f1;have bN:=fun o=>((Ex.refl wr).alloc o).cell c0;have bM:=fun o o2=>(((Ex.refl wr).alloc o).alloc o2).cell c0;have bL:=fun o=>((Ex.refl wr).alloc o).cell c1;have bK:=fun o o2=>(((Ex.refl wr).alloc o).alloc o2).cell c1;have bJ:=fun o=>((Ex.refl wr).alloc o).cell c2;have bI:=fun o o2=>(((Ex.refl wr).alloc o).alloc o2).cell c2;have bF:=fun o=>((Ex.refl wr).alloc o).cell g0;have bE:=fun o o2=>(((Ex.refl wr).alloc o).alloc o2).cell g0;have bD:=fun o=>((Ex.refl wr).alloc o).cell g1;have bC:=fun o o2=>(((Ex.refl wr).alloc o).alloc o2).cell g1;have bB:=fun o=>((Ex.refl wr).alloc o).cell g2;have bA:=fun o o2=>(((Ex.refl wr).alloc o).alloc o2).cell g2;go_upto_region 6 with fail
     go_cut [6,7] from 29 to 59 (fun s6 s7 wx=>∃B1 B2:Nat,s6= .pointer (some ⟨B1,0,none⟩)/\s7= .pointer (some ⟨B2,0,none⟩)/\Hia (wx.cell? ⟨B1,0,none⟩=some (.int .i64 p)/\wx.cell? ⟨B1,1,none⟩=some (.slice oa l.orb.length oc)/\wx.cell? ⟨B1,2,none⟩=some (.slice ra l.reps.length rc))/\Hia (wx.cell? ⟨B2,0,none⟩=some (.int .i64 t)/\wx.cell? ⟨B2,1,none⟩=some (.slice pa k.orb.length pc)/\wx.cell? ⟨B2,2,none⟩=some (.slice sa k.reps.length sc))/\Hia (Ex wr wx))
     case first=>
      go_region
      all_goals go_wp2_with fail
      all_goals go_meet
      all_goals exact⟨_,_,rfl,rfl,Aa ⟨ag,ag,ag⟩,Aa ⟨ag,ag,ag⟩,Aa (((Ex.refl wr).alloc _).alloc _).drew⟩
     case rest=>
      obtain⟨B1,B2,rfl,rfl,hA,hB,aC⟩:=hcut;clear b1 f1 c0 c1 c2 g0 g1 g2 bP bO bH bG bN bM bL bK bJ bI bF bE bD bC bB bA;obtain⟨a0,a1,a2⟩:=hA.o;obtain⟨g0,g1,g2⟩:=hB.o;have aO:=Aa (show(L[j]?≠K[j]?)->¬(L=K) from fun h e=>h cj);by_cases hpt:p=t
      .subst hpt;have aW:(p !=p)=false:=by simp
       have A2:=Aa a2;have G2:=Aa g2;have aF:=Dv wc l.orb k.orb _ _ (HU.o.ex aC.o) (HV.o.ex aC.o);by_cases Dw:l.orb=k.orb
       .rw[decide_eq_true Dw]at aF;have aL:=Aa aF;clear aF;by_cases hre:l.reps=k.reps
        .have HE:=Aa (show L[j]?=K[j]? from by
          rw[aJ.o,aK.o,Yl (aT.o.trans aU.o.symm) Dw hre])
         have aP:=Aa (show ∀i,i<j+1->L[i]?=K[i]? from fun i hi=>by
          by_cases e:i=j
          .subst e;exact HE.o
          .exact aB.o i ac)
         have aN:=Aa (decide_eq_true hre);clear Dw hre aB;go_wp2_with (first|(go_at_call 19;refine aL.o.mono ?_;rintro e w6⟨rfl,n6,aE⟩;have X6:=(show Ex wc w6 from by rw[aE];exact(Ex.refl _).drewN n6);have a2:=X6.cell A2.o;have g2:=X6.cell G2.o;have aD:=Ei w6 l.reps k.reps _ _ ((HR.o.ex aC.o).ex X6) ((HS.o.ex aC.o).ex X6);rw[aN.o]at aD;have aD:=Aa aD;have aI:=Aa X6;clear aE X6)|(go_at_call 27;refine aD.o.mono ?_;rintro e w7⟨rfl,n7,aH⟩;have aM:=Aa (aI.o.trans (show Ex w6 w7 from by rw[aH];exact(Ex.refl w6).drewN n7));clear aH))
         go_roundw
         case rel=>exact⟨j+1,ac,by go_num,aP,Aa (aA.o.trans (aC.o.trans aM.o))⟩
         case measure=>simp[intOf];omega
        .have HN:=Aa (aO.o (by
          rw[aJ.o,aK.o];intro e;injection e with e;exact hre cj))
         have aN:=Aa (decide_eq_false hre);clear Dw hre aB;go_wp2_with (first|(go_at_call 19;refine aL.o.mono ?_;rintro e w6⟨rfl,n6,aE⟩;have X6:=(show Ex wc w6 from by rw[aE];exact(Ex.refl _).drewN n6);have a2:=X6.cell A2.o;have g2:=X6.cell G2.o;have aD:=Ei w6 l.reps k.reps _ _ ((HR.o.ex aC.o).ex X6) ((HS.o.ex aC.o).ex X6);rw[aN.o]at aD;have aD:=Aa aD;have aI:=Aa X6;clear aE X6)|(go_at_call 27;refine aD.o.mono ?_;rintro e w7⟨rfl,n7,aH⟩;have aM:=Aa (aI.o.trans (show Ex w6 w7 from by rw[aH];exact(Ex.refl w6).drewN n7));clear aH))
         go_ret;exact⟨Gl bh,aG.o.trans (aA.o.trans (aC.o.trans aM.o))⟩
       .have HN:=Aa (aO.o (by
         rw[aJ.o,aK.o];intro e;injection e with e;exact Dw cj))
        rw[decide_eq_false Dw]at aF;have aL:=Aa aF;clear aF Dw aB;go_wp2_with (go_at_call 19;refine aL.o.mono ?_;rintro e w6⟨rfl,n6,aE⟩;have aI:=Aa (show Ex wc w6 from by rw[aE];exact(Ex.refl _).drewN n6);clear aE)
        go_ret;exact⟨Gl bh,aG.o.trans (aA.o.trans (aC.o.trans aI.o))⟩
      .have aW:(p !=t)=true:=by simpa using hpt
       have HN:=Aa (aO.o (by
        rw[aJ.o,aK.o];intro e;injection e with e;have e1:=aT.o;have e2:=aU.o;exact hpt (by rw[<-e1,<-e2,e])))
       clear hpt;go_wp2_with fail
       go_ret;exact⟨Gl bh,aG.o.trans (aA.o.trans aC.o)⟩
    .obtain rfl:j=L.length:=by omega
     have HR:=Aa (show L=K from SA aV.o aB.o);go_wp2_with fail
     go_ret;exact⟨Up (by first|exact HR.o|exact⟨trivial,HR.o⟩|exact⟨rfl,HR.o⟩),aG.o.trans aA.o⟩
  .have aX:((L.length:Int) !=(K.length:Int))=true:=by simp;omega
   have HN:=Aa (show ¬L=K from fun e=>hlen cj);clear hlen;go_enter Tryz.func26,Tryz.ntmps26
   go_wp2_with fail
   go_ret;exact⟨Gl bh,aG.o⟩
 .have aZ:(d1 !=d2)=true:=by simpa using hd
  have HN:=Aa (show ¬(d1=d2/\L=K) from fun ⟨e,_⟩=>hd e);clear hd;go_enter Tryz.func26,Tryz.ntmps26
  go_wp2_with fail
  go_ret;exact⟨Gl HN.o,aG.o⟩
theorem JJ(w:World)(l:List Int)(cs:Array Value)(t:TypeId)(h:(Ao l).toArray=cs){B n:Nat}(hB:w.heap.size=B)(hn:l.length=n)(hl:l.length<=1000):Am (w.alloc (.cells cs t)) (.slice (some ⟨B,0,none⟩) n n) l:=by
 subst hB hn;subst h;exact VS w l t hl
theorem Yk(w:World)(rows:List (List Int))(us:List Value)(cs:Array Value)(t:TypeId)(hc:us.toArray=cs)(hl:us.length=rows.length)(h:∀(i:Nat) (r:List Int) (u:Value),rows[i]?=some r->us[i]?=some u->Am w u r){B n:Nat}(hB:w.heap.size=B)(hn:rows.length=n)(hl2:rows.length<=1000):
  BO (w.alloc (.cells cs t)) (.slice (some ⟨B,0,none⟩) n n) rows:=by
 subst hB hn hc;refine⟨us,⟨by rw[hl,Nat.mul_one],some ⟨w.heap.size,0,none⟩,rows.length,rfl,Nat.le_refl _,by unfold maxLen;omega,fun _=>⟨_,0,rfl,fun j u hu=>?_⟩⟩,fun i r u a b=>(h i r u a b).ex (AJ _ _)⟩;rw[Nat.zero_add];simpa using hu
theorem Zs{w:World}{l1:List Int}{u1:Value}(h1:Am w u1 l1):∀(i:Nat) (r:List Int) (u:Value), [l1][i]?=some r-> [u1][i]?=some u->Am w u r:=fun i r u a b=>by
 match i,a,b with
 | 0,a,b=>simp at a b;subst a b;exact h1
 | i+1,a,b=>simp at a
theorem Zr{w:World}{l1 l2:List Int}{u1 u2:Value}(h1:Am w u1 l1)(h2:Am w u2 l2):∀(i:Nat) (r:List Int) (u:Value), [l1,l2][i]?=some r-> [u1,u2][i]?=some u->Am w u r:=fun i r u a b=>by
 match i,a,b with
 | 0,a,b=>simp at a b;subst a b;exact h1
 | 1,a,b=>simp at a b;subst a b;exact h2
 | i+2,a,b=>simp at a
def Gs(w:World)(b:Nat)(vs:List Value):Prop:=∀i v,vs[i]?=some v->w.cell? ⟨b,i,none⟩=some v
theorem Gs.ex{w w':World}{b:Nat}{vs:List Value}(h:Gs w b vs)(hx:Ex w w'):Gs w' b vs:=fun i v a=>hx.cell (h i v a)
theorem k_pts(w:World)(pv sv:Value)(hp:Am w pv [1,0])(hs:Am w sv [2,1]):
  Calls Tryz.prog 15 #[.agg #[.int .i64 3,.int .i64 1,.slice none 0 0],.agg #[pv,sv,.int .i64 0]] w fun r w'=>∃a c,r= .returned (.tuple #[.slice a 4 c,.int .i64 0])/\Am w' (.slice a 4 c) [3,2,0,1]/\Ex w w':=
 (RM w 3 1 [] _ (Bj w) _ _ pv sv hp hs 0).mono fun r w' ⟨⟨v,h1,h2⟩,hx⟩=>by
  rw[Zx.1]at h1;rw[Zx.2]at h2;obtain⟨a,c,rfl,_⟩:=h2.open;exact⟨a,c,h1,h2,hx⟩
theorem Yv(w:World)(pv:Value)(hp:Am w pv [3,2,0,1]):
  Calls Tryz.prog 17 #[.agg #[.int .i64 3,.int .i64 1,.slice none 0 0],.int .i64 2,pv] w fun r w'=>∃a c b d,r= .returned (.tuple #[.agg #[.slice a 2 c,.slice b 2 d,.int .i64 0],.int .i64 0])/\Am w' (.slice a 2 c) [1,0]/\Am w' (.slice b 2 d) [2,1]/\Ex w w':=
 (Zl w 3 1 [] _ (Bj w) 2 ac _ pv hp).mono fun r w' ⟨⟨u,v,h1,hu,hv⟩,hx⟩=>by
  obtain⟨q1,q2,q3,q4⟩:=e_map;rw[q1,q4]at h1;rw[q2]at hu;rw[q3]at hv;obtain⟨a,c,rfl,_⟩:=hu.open;obtain⟨b,d,rfl,_⟩:=hv.open;exact⟨a,c,b,d,h1,hu,hv,hx⟩
theorem zcJ{P:Prop}(h:P:=by
 rw[hb]at h3 h4;obtain⟨a,c,rfl,_⟩:=h4.open;exact⟨a,c,h3,h4,hx⟩):P:=h
theorem k_grp(w:World)(v1:Value)(h1:BO w v1 [[1,1,0]]):
  Calls Tryz.prog 22 #[.agg #[.int .i64 2,.int .i64 1,.slice none 0 0,.int .i64 3,v1]] w fun r w'=>∃a c,r= .returned (.tuple #[.agg #[.int .i64 3,.slice a 1 c],.int .i64 0])/\EF w' (.slice a 1 c) cL/\Ex w w':=
 (EU w eC _ v1 ⟨Bj w,h1⟩ Ru Zz).mono fun r w' ⟨⟨e0,ho,h⟩,hx⟩=>by
  obtain rfl:=N5 ho;rcases h with⟨h,_⟩|⟨_,v,h3,h4⟩
  .exact absurd Ww h
  .have hb:C7 (Fa eC:Int) (Ee eC.p.toNat eC.m.toNat eC.ml (Da eC (AD eC)))=(⟨3,cL⟩,0):=Rv;exact zcJ
theorem k_grpT(w:World)(v1:Value)(h1:BO w v1 [[1,2]]):
  Calls Tryz.prog 22 #[.agg #[.int .i64 3,.int .i64 1,.slice none 0 0,.int .i64 2,v1]] w fun r w'=>∃a c,r= .returned (.tuple #[.agg #[.int .i64 4,.slice a 1 c],.int .i64 0])/\EF w' (.slice a 1 c) tL/\Ex w w':=
 (EU w eT _ v1 ⟨Bj w,h1⟩ eT_len eT_mv).mono fun r w' ⟨⟨e0,ho,h⟩,hx⟩=>by
  obtain rfl:=eT_cod ho;rcases h with⟨h,_⟩|⟨_,v,h3,h4⟩
  .exact absurd eT_gr h
  .have hb:C7 (Fa eT:Int) (Ee eT.p.toNat eT.m.toNat eT.ml (Da eT (AD eT)))=(⟨4,tL⟩,0):=by
    have h:C7 (Fa eT:Int) (Ee eT.p.toNat eT.m.toNat eT.ml (Da eT (AD eT)))=C7 4 (Ee 3 1 [] (Da eT (AD eT))):=rfl;rw[h,Wt,UL]
   exact zcJ
theorem k_pos(w:World)(v1:Value)(h1:BO w v1 [[1,1,0]]):
  Calls Tryz.prog 24 #[.agg #[.int .i64 2,.int .i64 1,.slice none 0 0,.int .i64 3,v1]] w fun r w'=>∃a c,r= .returned (.tuple #[.slice a 2 c,.int .i64 0])/\BO w' (.slice a 2 c) [[0,1], [2]]/\Ex w w':=
 (LO ZV w eC _ v1 ⟨Bj w,h1⟩ Ru).mono fun r w' ⟨⟨e0,ho,h⟩,hx⟩=>by
  obtain rfl:=N5 ho;rcases h with⟨h,_⟩|⟨_,v,h3,h4⟩
  .exact absurd Ww h
  .have hb:Hr eC.n (Pc (Da eC (AD eC)))=([[0,1], [2]],0):=by
    have h:Hr eC.n (Pc (Da eC (AD eC)))=Hr 3 (Pc (Da eC (AD eC))):=rfl;rw[h,eC_prm,cG_orb]
   exact zcJ
theorem k_cer(w:World)(v1:Value)(h1:BO w v1 [[1,1,0]]):
  Calls Tryz.prog 32 #[.agg #[.int .i64 2,.int .i64 1,.slice none 0 0,.int .i64 3,v1]] w fun r w'=>∃a c b d,r= .returned (.tuple #[.agg #[.int .i64 3,.slice a 1 c,.slice b 2 d],.int .i64 0])/\EF w' (.slice a 1 c) cL/\Lo w' (.slice b 2 d) eX/\Ex w w':=
 (Ma w eC _ v1 ⟨Bj w,h1⟩ Ru eN_len Zz eX_rf).mono fun r w' ⟨⟨e0,ho,h⟩,hx⟩=>by
  obtain rfl:=N5 ho;rcases h with⟨h,_⟩|⟨_,v,v',h3,h4,h5⟩
  .exact absurd eC_cz h
  .rw[Rv]at h3 h4;have h6:Lo w' v' eX:=h5;obtain⟨a,c,rfl,_⟩:=h4.open;obtain⟨b,d,rfl,_⟩:=h6.open;rw[N4]at h3 h6;exact⟨a,c,b,d,h3,h4,h6,hx⟩
theorem Yw(w:World)(v1 lv rv:Value)(h1:BO w v1 [[1,1,0]])(hl:EF w lv cL)(hr:Lo w rv eX):
  Calls Tryz.prog 29 #[.agg #[.int .i64 2,.int .i64 1,.slice none 0 0,.int .i64 3,v1],.agg #[.int .i64 3,lv,rv]] w fun r w'=>∃a n c,r= .returned (.tuple #[.slice a n c,.int .i64 0])/\Il w' (.slice a n c) 2/\Ex w w':=
 (Qx w eC _ v1 ⟨Bj w,h1⟩ 3 cL lv hl ae eX rv hr).mono fun r w' ⟨⟨e0,ho,h⟩,hx⟩=>by
  obtain rfl:=N5 ho;rcases h with⟨h,_⟩|⟨_,h,_⟩|⟨_,_,v,h3,h4⟩
  .exact absurd eC_opE h
  .exact absurd cL_acc h
  .rw[cL_siz]at h4;have h5:=h4;obtain⟨n,f,g1,g2,g3⟩:=h4;obtain⟨a,c,rfl,_⟩:=NL.open g3;exact⟨a,_,c,h3,h5,hx⟩
theorem k_sizT(w:World)(v:Value)(hv:EF w v tL):Calls Tryz.prog 35 #[.agg #[.int .i64 4,v]] w fun r w'=>∃a n c,r= .returned (.tuple #[.slice a n c,.int .i64 0])/\Il w' (.slice a n c) 4/\Ex w w':=
 (Qn w 4 tL v hv ae).mono fun r w' ⟨h1,h3⟩=>by
  rcases h1 with h1|⟨_,u,h1,h2⟩
  .exact absurd ZT h1.1
  .rw[ZS]at h2;have h5:=h2;obtain⟨n,f,g1,g2,g3⟩:=h2;obtain⟨a,c,rfl,_⟩:=NL.open g3;exact⟨a,_,c,h1,h5,h3⟩
theorem PA(w:World)(v u:Value)(hv:EF w v cL)(hu:EF w u cL):Calls Tryz.prog 26 #[.agg #[.int .i64 3,v],.agg #[.int .i64 3,u]] w fun r w'=>r= .returned (.bool true)/\Ex w w':=
 (Kc w 3 3 cL cL v u hv hu).mono fun r w' ⟨⟨b,h1,h2⟩,h3⟩=>by
  rw[h2.2 ⟨rfl,rfl⟩]at h1;exact⟨h1,h3⟩
theorem VQ(w:World)(x:Nat)(hx:x<=64)(v u:Value)(hv:Il w v x)(hu:Il w u x):Calls Tryz.prog 50 #[v,u] w fun r w'=>r= .returned (.int .i64 0)/\Ex w w':=
 (Vf w x x v u hv hu (Gu ac) (Gu ac)).mono fun r w' ⟨⟨z,h1,h2⟩,h3⟩=>by
  rw[h2.2 rfl]at h1;exact⟨h1,by rw[h3];exact Ex.refl _⟩
theorem zcl{P:Prop}(h:P:=by
 rw[decide_eq_true rfl]at h1;exact⟨h1,by rw[h3];exact(Ex.refl w).drewN n⟩):P:=h
theorem k_ints(w:World)(v u:Value)(l:List Int)(hv:Am w v l)(hu:Am w u l):Calls Tryz.prog 19 #[v,u] w fun r w'=>r= .returned (.bool true)/\Ex w w':=
 (Dv w l l v u hv hu).mono fun r w' ⟨h1,n,h3⟩=>by
  exact zcl
theorem k_rows(w:World)(v u:Value)(l:List (List Int))(hv:BO w v l)(hu:BO w u l):Calls Tryz.prog 27 #[v,u] w fun r w'=>r= .returned (.bool true)/\Ex w w':=
 (Ei w l l v u hv hu).mono fun r w' ⟨h1,n,h3⟩=>by
  exact zcl
theorem k_map(w:World)(pl sl:List Int)(pv sv qv tv:Value)(hp:Am w pv pl)(hs:Am w sv sl)(hq:Am w qv pl)(ht:Am w tv sl):
  Calls Tryz.prog 20 #[.agg #[pv,sv,.int .i64 0],.agg #[qv,tv,.int .i64 0]] w fun r w'=>r= .returned (.bool true)/\Ex w w':=
 (Qo w pl sl pl sl pv sv qv tv hp hs hq ht 0 0).mono fun r w' ⟨h,hx⟩=>by
  rw[decide_eq_true ⟨rfl,rfl,rfl⟩]at h;exact⟨h,hx⟩
theorem So(w:World)(x:Nat)(hx1:1<=x)(hx2:x<=64):Il (w.alloc (.cells #[.int .u32 x] 91)) (.slice (some ⟨w.heap.size,0,none⟩) 1 1) x:=
 ⟨1,fun _=>x,⟨fun _ _=>by show x<4294967296;omega,fun _ _=>by show x≠0;omega⟩,by show 0+x*1=x;omega,NL.mk (Nat.le_refl _) ai fun _=>⟨_,0,rfl,fun j hj=>by
  obtain rfl:j=0:=ac;simp⟩⟩
theorem eX_at:(∃x,eX[0]?=some x/\x.i=0/\x.j=2)/\∃x,eX[1]?=some x/\x.i=1/\x.j=2:=by
 have h:=Zy;have hl:=N4;constructor
 .refine⟨eX[0]'ac,List.getElem?_eq_getElem _,?_⟩;have:=congrArg (fun l=>l[0]?) h;simp only[List.getElem?_map,List.getElem?_eq_getElem (show 0<eX.length by omega)]at this;simpa[exT]using this
 .refine⟨eX[1]'ac,List.getElem?_eq_getElem _,?_⟩;have:=congrArg (fun l=>l[1]?) h;simp only[List.getElem?_map,List.getElem?_eq_getElem (show 1<eX.length by omega)]at this;simpa[exT]using this
theorem esl_eX{w:World}{a:Option Addr}{c:Nat}(h:Lo w (.slice a 2 c) eX):∃X o,a=some ⟨X,o,none⟩/\w.cell? ⟨X,o,none⟩=some (.int .i64 0)/\w.cell? ⟨X,o+1,none⟩=some (.int .i64 2)/\w.cell? ⟨X,o+4,none⟩=some (.int .i64 1)/\w.cell? ⟨X,o+4+1,none⟩=some (.int .i64 2):=by
 obtain⟨a',c',e,_,_,h3⟩:=h.open;injection e with e1 _ _;subst e1;obtain⟨X,o,rfl,h4⟩:=h3 (by rw[N4];omega);obtain⟨⟨x,x1,x2,x3⟩,⟨y,y1,y2,y3⟩⟩:=eX_at
 obtain⟨_,f1,f2,_⟩:=h4 0 x x1;obtain⟨_,g1,g2,_⟩:=h4 1 y y1;rw[x2]at f1;rw[x3]at f2;rw[y2]at g1;rw[y3]at g2;exact⟨X,o,rfl,f1,f2,g1,g2⟩
def wL:World->List Obj->World
 | w, []=>w
 | w,o :: l=>wL (w.alloc o) l
theorem M5:∀(l:List Obj) {w W:World} {B:Nat},wL w l=W->w.heap.size=B->Ex w W/\∀(j:Nat) (o:Obj),l[j]?=some o->W.heap[B+j]?=some o
 | [],w,W,B,h,hB=>⟨h ▸ Ex.refl w,fun j o hj=>by simp at hj⟩
 | o :: l,w,W,B,h,hB=>by
  obtain⟨h1,h2⟩:=M5 l (w:=w.alloc o) h (B:=B+1) (by simp[hB]);refine⟨(AJ w o).trans h1,fun j o' hj=>?_⟩
  cases j with
  | zero=>simp at hj;subst hj;exact JL h1 (DS hB)
  | succ j=>have:=h2 j o' (by simpa using hj);rwa[show B+(j+1)=B+1+j from ac]
theorem Te{W:World}{b:Nat}{t:TypeId}{xs:List Value}(h:W.heap[b]?=some (.cells xs.toArray t)){j:Nat}{u:Value}(hu:xs[j]?=some u):W.cell? ⟨b,j,none⟩=some u:=by
 unfold World.cell?;simp[h];simpa using hu
theorem IX{W:World}{b:Nat}{t:TypeId}{xs:List Value}(h:W.heap[b]?=some (.cells xs.toArray t)):Gs W b xs:=fun i v a=>Te h a
theorem Og{w:World}{B:Nat}(cs:Array Value)(t:TypeId)(hB:w.heap.size=B):Gs (w.alloc (.cells cs t)) B cs.toList:=IX (t:=t) (DS hB)
theorem UQ{W:World}{b:Nat}{t:TypeId}(xs:List Value){n size:Nat}(h:W.heap[b]?=some (.cells xs.toArray t))(hx:xs.length=n*size)(hn:n<=1000):Sl W (.slice (some ⟨b,0,none⟩) n n) n size xs:=
 ⟨hx,some ⟨b,0,none⟩,n,rfl,Nat.le_refl _,by unfold maxLen;omega,fun _=>⟨b,0,rfl,fun j u hu=>by rw[Nat.zero_add];exact Te h hu⟩⟩
theorem G9{W:World}{b:Nat}{t:TypeId}(l:List Int)(h:W.heap[b]?=some (.cells (Ao l).toArray t))(hl:l.length<=1000:=by decide):Am W (.slice (some ⟨b,0,none⟩) l.length l.length) l:=UQ _ h (by simp[Ao]) hl
theorem Ra{W:World}{b:Nat}{t:TypeId}(rows:List (List Int)){us:List Value}(h:W.heap[b]?=some (.cells us.toArray t))(hr:∀(i:Nat) (r:List Int) (u:Value),rows[i]?=some r->us[i]?=some u->Am W u r)(hu:us.length=rows.length:=by rfl)(hl:rows.length<=1000:=by decide):BO W (.slice (some ⟨b,0,none⟩) rows.length rows.length) rows:=
 ⟨us,UQ _ h ac hl,hr⟩
theorem lsl_of{W:World}{b:Nat}{t:TypeId}(l1:Lv){u1 r1:Value}(h:W.heap[b]?=some (.cells #[.int .i64 l1.pt,u1,r1] t))(h1:Am W u1 l1.orb)(h2:BO W r1 l1.reps):EF W (.slice (some ⟨b,0,none⟩) 1 1) [l1]:=
 ⟨[(u1,r1)],rfl,UQ _ h rfl ae,fun i l o a b=>by
  match i,a,b with
  | 0,a,b=>simp at a b;subst a b;exact⟨h1,h2⟩
  | i+1,a,b=>simp at a⟩
theorem Gs.o2{w:World}{b:Nat}{x y:Value}(h:Gs w b [x,y]):w.cell? ⟨b,0,none⟩=some x/\w.cell? ⟨b,1,none⟩=some y:=⟨h 0 _ rfl,h 1 _ rfl⟩
theorem Gs.o3{w:World}{b:Nat}{x y z:Value}(h:Gs w b [x,y,z]):w.cell? ⟨b,0,none⟩=some x/\w.cell? ⟨b,1,none⟩=some y/\w.cell? ⟨b,2,none⟩=some z:=⟨h 0 _ rfl,h 1 _ rfl,h 2 _ rfl⟩
theorem Gs.o5{w:World}{b:Nat}{x y z u v:Value}(h:Gs w b [x,y,z,u,v]):w.cell? ⟨b,0,none⟩=some x/\w.cell? ⟨b,1,none⟩=some y/\w.cell? ⟨b,2,none⟩=some z/\w.cell? ⟨b,3,none⟩=some u/\w.cell? ⟨b,4,none⟩=some v:=⟨h 0 _ rfl,h 1 _ rfl,h 2 _ rfl,h 3 _ rfl,h 4 _ rfl⟩
def ZI(w:World)(P:World->Prop):Prop:=∀w',Ex w w'->P w'
theorem LD{w w':World}{P:World->Prop}(h:Hia (ZI w P))(hx:Ex w w'):Hia (ZI w' P):=fun v hv=>h v (hx.trans hv)
theorem TT{w:World}{P Q:World->Prop}(h:Hia (ZI w P))(hq:∀v,Ex w v->Q v):Hia (ZI w fun v=>Q v/\P v):=fun v hv=>⟨hq v hv,h v hv⟩
theorem Uz{w w':World}{P Q:World->Prop}(h:Hia (ZI w P))(hx:Ex w w')(hq:∀v,Ex w' v->Q v):Hia (ZI w' fun v=>Q v/\P v):=TT (LD h hx) hq
theorem at_{w:World}{P:World->Prop}(h:Hia (ZI w P)):P w:=h w (Ex.refl w)
theorem Uq(w:World):Calls Tryz.prog 13 #[] w fun r w'=>r= .returned (.bool true)/\Ex w w':=by
 have A:Hia (ZI w fun v=>Ex w v):=fun v h=>h;go_enter Tryz.func13,Tryz.ntmps13
 go_upto_region 5 with fail
 generalize hW:World.alloc _ _=W;obtain⟨B,hB⟩:=nA w.heap.size;simp only[hB,Nat.add_assoc,Nat.reduceAdd]at hW ⊢;obtain⟨ew,H⟩:=M5 [_,_,_,_,_,_,_,_,_,_] hW hB;clear hW hB;have i1:=G9 [1,1,0] (H 1 _ rfl);have i2:=Ra [[1,1,0]] (H 2 _ rfl) (Zs i1);have i4:=G9 [1,2] (H 4 _ rfl);have i5:=Ra [[1,2]] (H 5 _ rfl) (Zs i4);have i7:=G9 [1,0] (H 7 _ rfl);have i8:=G9 [2,1] (H 8 _ rfl);replace A:=LD A ew;replace A:=TT A fun _ h=>i2.ex h;replace A:=TT A fun _ h=>i5.ex h;replace A:=TT A fun _ h=>i7.ex h;replace A:=TT A fun _ h=>i8.ex h;replace A:=TT A fun _ h=>(IX (b:=B) (H 0 _ rfl)).ex h;replace A:=TT A fun _ h=>(IX (H 3 _ rfl)).ex h;replace A:=TT A fun _ h=>(IX (H 6 _ rfl)).ex h;replace A:=TT A fun _ h=>(IX (H 9 _ rfl)).ex h;clear ew H i1 i2 i4 i5 i7 i8;obtain⟨aS,aR,aQ⟩:=(at_ A).2.2.2.1.o3;obtain⟨aN,aM,aL⟩:=(at_ A).1.o3;go_wp2_with fail
 refine(k_pts _ _ _ (at_ A).2.2.2.2.2.1 (at_ A).2.2.2.2.1).mono ?_;rintro e w1⟨pa,pc,rfl,hp,bV⟩;clear aS aR aQ aN aM aL;replace A:=Uz A bV fun _ h=>hp.ex h;clear bV hp;obtain⟨aS,aR,aQ⟩:=(at_ A).2.2.2.2.1.o3;go_wp2_with fail
 refine(Yv _ _ (JJ _ [3,2,0,1] _ _ rfl rfl rfl ae)).mono ?_;rintro e w2⟨ma,mc,sa,sc,rfl,hm,hs,aX⟩;replace aX:=(AJ _ _).trans aX;clear aS aR aQ;replace A:=Uz A aX fun _ h=>hm.ex h;replace A:=TT A fun _ h=>hs.ex h;clear aX hm hs;obtain⟨C1,bB⟩:∃B,w2.heap.size=B:=⟨_,rfl⟩;replace A:=Uz A (AJ _ _) fun _ h=>(Og #[.slice ma 2 mc,.slice sa 2 sc,.int .i64 0] 26 bB).ex h;go_upto_region 7 with fail
 try simp only[bB]
 clear bB;generalize World.alloc _ _=v2 at *;obtain⟨aE,aD,aC,aB,aA⟩:=(at_ A).2.2.2.2.2.2.1.o5;go_wp2_with fail
 refine(k_grp _ _ (at_ A).2.2.2.2.2.2.2.2.2.2.2.1).mono ?_;rintro e w3⟨ga,gc,rfl,hg,bU⟩;clear aE aD aC aB aA;replace A:=Uz A bU fun _ h=>hg.ex h;clear bU hg;obtain⟨C2,bA⟩:∃B,w3.heap.size=B:=⟨_,rfl⟩;replace A:=Uz A (AJ _ _) fun _ h=>(Og #[.int .i64 3,.slice ga 1 gc] 43 bA).ex h;go_upto_region 8 with fail
 try simp only[bA]
 clear bA;generalize World.alloc _ _=v3 at *;obtain⟨aE,aD,aC,aB,aA⟩:=(at_ A).2.2.2.2.2.2.2.2.1.o5;go_wp2_with fail
 refine(k_pos _ _ (at_ A).2.2.2.2.2.2.2.2.2.2.2.2.2.1).mono ?_;rintro e w4⟨oa,oc,rfl,ho,bT⟩;clear aE aD aC aB aA;replace A:=Uz A bT fun _ h=>ho.ex h;clear bT ho;obtain⟨aE,aD,aC,aB,aA⟩:=(at_ A).2.2.2.2.2.2.2.2.2.1.o5;go_wp2_with fail
 refine(k_cer _ _ (at_ A).2.2.2.2.2.2.2.2.2.2.2.2.2.2.1).mono ?_;rintro e w5⟨ya,yc,yb,yd,rfl,hy,hz,bS⟩;clear aE aD aC aB aA;replace A:=Uz A bS fun _ h=>hy.ex h;replace A:=TT A fun _ h=>hz.ex h;clear bS hy hz;obtain⟨C3,aZ⟩:∃B,w5.heap.size=B:=⟨_,rfl⟩;replace A:=Uz A (AJ _ _) fun _ h=>(Og #[.int .i64 3,.slice ya 1 yc,.slice yb 2 yd] 53 aZ).ex h;go_upto_region 10 with fail
 try simp only[aZ]
 clear aZ;generalize World.alloc _ _=v5 at *;obtain⟨aE,aD,aC,aB,aA⟩:=(at_ A).2.2.2.2.2.2.2.2.2.2.2.2.1.o5;obtain⟨aK,aJ,aI⟩:=(at_ A).1.o3;go_wp2_with fail
 refine(Yw _ _ _ _ (at_ A).2.2.2.2.2.2.2.2.2.2.2.2.2.2.2.2.2.1 (at_ A).2.2.1 (at_ A).2.1).mono ?_;rintro e w6⟨na,nn,nc,rfl,hn,bR⟩;clear aE aD aC aB aA aK aJ aI;replace A:=Uz A bR fun _ h=>hn.ex h;clear bR hn;obtain⟨bN,bM,bL,bK,bJ⟩:=(at_ A).2.2.2.2.2.2.2.2.2.2.2.2.1.o5;go_wp2_with fail
 refine(k_grpT _ _ (at_ A).2.2.2.2.2.2.2.2.2.2.2.2.2.2.2.2.2.1).mono ?_;rintro e w7⟨ta,tc,rfl,ht,bQ⟩;clear bN bM bL bK bJ;replace A:=Uz A bQ fun _ h=>ht.ex h;clear bQ ht;obtain⟨C4,aY⟩:∃B,w7.heap.size=B:=⟨_,rfl⟩;replace A:=Uz A (AJ _ _) fun _ h=>(Og #[.int .i64 4,.slice ta 1 tc] 43 aY).ex h;go_upto_region 12 with fail
 try simp only[aY]
 clear aY;generalize World.alloc _ _=v7 at *;obtain⟨bD,bC⟩:=(at_ A).1.o2;go_wp2_with fail
 refine(k_sizT _ _ (at_ A).2.1).mono ?_;rintro e w8⟨ua,un,uc,rfl,hu,bP⟩;clear bD bC;replace A:=Uz A bP fun _ h=>hu.ex h;clear bP hu;go_upto_region 16 with fail
 generalize hV:World.alloc _ _=V;obtain⟨D,hD⟩:∃B,w8.heap.size=B:=⟨_,rfl⟩;simp only[hD,Nat.add_assoc,Nat.reduceAdd]at hV ⊢;obtain⟨ew,H⟩:=M5 [_,_,_,_,_,_] hV hD;clear hV hD;have i0:=G9 (b:=D) [0,1] (H 0 _ rfl);have i1:=G9 [0,1,2] (H 1 _ rfl);have i2:=G9 [1,0,2] (H 2 _ rfl);have i3:=Ra [[0,1,2], [1,0,2]] (H 3 _ rfl) (Zr i1 i2);have i4:EF V _ cL:=lsl_of ⟨0, [0,1], [[0,1,2], [1,0,2]]⟩ (H 4 _ rfl) i0 i3;replace A:=LD A ew;replace A:=TT A fun _ h=>i4.ex h;replace A:=TT A fun _ h=>(IX (H 5 _ rfl)).ex h;clear ew H i0 i1 i2 i3 i4;go_wp2_with fail
 refine(k_ints _ _ _ [3,2,0,1] ((at_ A).2.2.2.2.2.2.2.2.2.2.2.2.2.2.2.1.ex (AJ _ _)) (JJ _ [3,2,0,1] _ _ rfl rfl rfl ae)).mono ?_;rintro e w9⟨rfl,aW⟩;replace aW:=(AJ _ _).trans aW;replace A:=LD A aW;clear aW;obtain⟨bG,bF,bE⟩:=(at_ A).2.2.2.2.2.2.2.2.2.2.2.2.1.o3;obtain⟨aN,aM,aL⟩:=(at_ A).2.2.2.2.2.2.2.2.2.2.2.2.2.2.2.2.1.o3;go_wp2_with fail
 refine(k_map _ [1,0] [2,1] _ _ _ _ (at_ A).2.2.2.2.2.2.2.2.2.2.2.2.2.2.1 (at_ A).2.2.2.2.2.2.2.2.2.2.2.2.2.1 (at_ A).2.2.2.2.2.2.2.2.2.2.2.2.2.2.2.2.2.2.2.2.2.1 (at_ A).2.2.2.2.2.2.2.2.2.2.2.2.2.2.2.2.2.2.2.2.1).mono ?_;rintro e w10⟨rfl,aV⟩;clear bG bF bE aN aM aL;replace A:=LD A aV;clear aV;obtain⟨bI,bH⟩:=(at_ A).2.2.2.2.2.2.2.2.2.2.1.o2;obtain⟨aP,aO⟩:=(at_ A).1.o2;go_wp2_with fail
 refine(PA _ _ _ (at_ A).2.2.2.2.2.2.2.2.2.2.2.1 (at_ A).2.1).mono ?_;rintro e w11⟨rfl,aU⟩;clear bI bH aP aO;replace A:=LD A aU;clear aU;go_wp2_with fail
 have hz:=(JJ w11 [0,1] #[.int .i64 0,.int .i64 1] 3 rfl rfl rfl ae).ex (AJ _ (.cells #[.int .i64 2] 3));have bO:=JJ (w11.alloc (.cells #[.int .i64 0,.int .i64 1] 3)) [2] #[.int .i64 2] 3 rfl (B:=w11.heap.size+1) ag rfl ae;have bW:((w11.alloc (.cells #[.int .i64 0,.int .i64 1] 3)).alloc (.cells #[.int .i64 2] 3)).heap.size=w11.heap.size+1+1:=by simp
 refine(k_rows _ _ _ [[0,1], [2]] ((at_ A).2.2.2.2.2.2.2.2.2.1.ex (((AJ _ _).trans (AJ _ _)).trans (AJ _ _))) (Yk _ [[0,1], [2]] [.slice (some ⟨w11.heap.size,0,none⟩) 2 2,.slice (some ⟨w11.heap.size+1,0,none⟩) 1 1] _ _ rfl rfl (Zr hz bO) bW rfl ae)).mono ?_;rintro e w12⟨rfl,aH⟩;replace aH:=(((AJ _ _).trans (AJ _ _)).trans (AJ _ _)).trans aH;replace A:=LD A aH;clear aH;clear hz bO bW;go_wp2_with fail
 refine(VQ _ 2 ac _ _ ((at_ A).2.2.2.2.2.1.ex (AJ _ _)) (So _ 2 ac ac)).mono ?_;rintro e w13⟨rfl,aG⟩;replace aG:=(AJ _ _).trans aG;replace A:=LD A aG;clear aG;go_wp2_with fail
 refine(VQ _ 4 ac _ _ ((at_ A).2.2.1.ex (AJ _ _)) (So _ 4 ac ac)).mono ?_;rintro e w14⟨rfl,aF⟩;replace aF:=(AJ _ _).trans aF;replace A:=LD A aF;clear aF;obtain⟨aK,aJ,aI⟩:=(at_ A).2.2.2.2.2.2.1.o3;obtain⟨aP,aO⟩:=(at_ A).1.o2;go_wp2_with fail
 refine(PA _ _ _ (at_ A).2.2.2.2.2.2.2.2.1 (at_ A).2.1).mono ?_;rintro e w15⟨rfl,aT⟩;clear aK aJ aI aP aO;replace A:=LD A aT;clear aT;obtain⟨RX,ro,rfl,r0,r1,r2,r3⟩:=esl_eX (at_ A).2.2.2.2.2.2.2.1;obtain⟨aK,aJ,aI⟩:=(at_ A).2.2.2.2.2.2.1.o3;go_wp2_with fail
 go_ret;exact⟨rfl,(at_ A).2.2.2.2.2.2.2.2.2.2.2.2.2.2.2.2.2.2.2.2.2.2.2.2⟩
section
variable {p m:Nat} {ml pl sl sl':List Int} {fr N:Nat}
def Zu(p m:Nat)(x:Nat->Int)(j:Nat):Int:=((Au (p^m) (x j):Nat):Int)
theorem Yq{q:Nat}(hq:1<=q)(x:Int):Au q ((Au q x:Nat):Int)=Au q x:=Ax (BB hq x)
theorem KX(hp:2<=p)(f x:Nat->Int):dt p m ml N f (Zu p m x)=dt p m ml N f x:=by
 rw[EP,EP];exact Ep N fun j _=>by unfold Zu;rw[Yq (Nat.pow_pos ac)]
theorem P4(hp:2<=p)(f x:Nat->Int):dt p m ml N (Zu p m f) x=dt p m ml N f x:=by
 rw[DT,KX hp,DT]
theorem XA(hp:2<=p){R:Nat}{a:Nat->Nat->Int}{x:Nat->Int}:Bz p m ml N R a (Zu p m x)↔Bz p m ml N R a x:=
 ⟨fun h i hi=>by rw[<-KX hp];exact h i hi,fun h i hi=>by rw[KX hp];exact h i hi⟩
theorem cl_nrm(hp:2<=p){R:Nat}{a:Nat->Nat->Int}{f:Nat->Int}:Cl p m ml N R a (Zu p m f)↔Cl p m ml N R a f:=
 ⟨fun h x hx=>by rw[<-P4 hp];exact h x hx,fun h x hx=>by rw[P4 hp];exact h x hx⟩
theorem Yd(hp:2<=p)(x:Nat->Int)(j:Nat):0<=Zu p m x j/\Zu p m x j<((p^m:Nat):Int):=by
 have:=BB (q:=p^m) (Nat.pow_pos ac) (x j);unfold Zu;omega
theorem Yu(hp:2<=p){R:Nat}{b:Nat->Nat->Int}{rows:List (List Int)}(h:∀f,(∀j,j<N->0<=f j/\f j<((p^m:Nat):Int))->(Bz p m ml N R b f↔Cl p m ml N rows.length (Ak rows) f))(f:Nat->Int):Bz p m ml N R b f↔Cl p m ml N rows.length (Ak rows) f:=by
 rw[<-XA hp,<-cl_nrm hp];exact h _ fun j _=>Yd hp f j
end
section
variable {p m N k:Nat} {ml pl sl:List Int} {l l1 l2:List (List Int)}
theorem ZX(ho:BN p m ml N l 0)(hs:Smp ⟨p,m,ml,N,l⟩ k)(hk:k<=12)(hd:N*(p^m-1)<=64):Ew p m ml N l:=by
 have aA:Fa ⟨p,m,ml,N,l⟩=N*(p^m-1):=by unfold Fa;simp only[Int.toNat_natCast]
 obtain⟨h1,h2⟩:=hs ho (by rw[aA];exact hd);rw[aA]at h1;simp only[Int.toNat_natCast]at h2;obtain⟨_,_,N1,_,_,g3,_,_,n1,_⟩:=Gk ho;obtain rfl:N=N1:=by omega
 refine⟨ho,hd,h2,?_⟩;have:=Nat.mul_le_mul_right (p^m-1) n1;omega
theorem Ew.grO(h:Ew p m ml N l){r:Ending}{w':World}(hg:GrO ⟨p,m,ml,N,l⟩ r w'):∃lv,r= .returned (.tuple #[.agg #[.int .i64 ((N*(p^m-1):Nat):Int),lv],.int .i64 0])/\EF w' lv (Qh p m ml N l):=by
 obtain⟨e0,ho,hr⟩:=hg;obtain rfl:=BZ ho h.co;rcases hr with⟨h1,_⟩|⟨_,v,h3,h4⟩
 .exact absurd h.grE h1
 .have hb:C7 (Fa ⟨p,m,ml,N,l⟩:Int) (Go.Proofs.YtehieobniamagaaGreat.Ee (⟨p,m,ml,N,l⟩:AU).p.toNat (⟨p,m,ml,N,l⟩:AU).m.toNat (⟨p,m,ml,N,l⟩:AU).ml (Da ⟨p,m,ml,N,l⟩ (AD ⟨p,m,ml,N,l⟩)))=(⟨((N*(p^m-1):Nat):Int),Qh p m ml N l⟩,0):=h.bld;rw[hb]at h3 h4;exact⟨v,h3,h4⟩
theorem Ew.bnd(h:Ew p m ml N l):(Da ⟨p,m,ml,N,l⟩ (AD ⟨p,m,ml,N,l⟩)).length<=1000/\∀M∈Da ⟨p,m,ml,N,l⟩ (AD ⟨p,m,ml,N,l⟩),Om (⟨p,m,ml,N,l⟩:AU).n.toNat M:=⟨by have:=h.len;omega,h.mv⟩
end
section
variable {n:Nat} {S:List (Nat->Nat)}
end
section
variable {p m N k:Nat} {ml pl sl:List Int} {l l1 l2 ks:List (List Int)}
theorem UN(hW:FL p m ml N)(hq:p^m<=3){z:Nat}(h1:1<=z)(h2:z<p^m):Ai p m (lw ml) z z=1:=by
 have aA:=Bb hW.hp hW.hm;by_cases e:p^m=2
 .obtain rfl:z=1:=by omega
  exact Bh hW.hp hW.hm aA
 .have e3:p^m=3:=by omega
  have hk:=kpw_q hW.hp hW.hm hW.hF h2;rw[e3]at hk;have aB:Ai p m (lw ml) (Ai p m (lw ml) z z) z=z:=by
   have:BF p m (lw ml) z 3=Ai p m (lw ml) (Ai p m (lw ml) (Ai p m (lw ml) 1 z) z) z:=rfl;rw[this,Bt hW.hp hW.hm h2]at hk;exact hk
  have hz:=AR (p:=p) (m:=m) (low:=lw ml) (by have:=hW.hp;omega) z z;refine hW.hF.cancel hW.hp hW.hm h1 h2 hz aA ?_;rw[aB,Bt hW.hp hW.hm h2]
theorem R6(hW:FL p m ml N)(hq:p^m<=3)(hM:BD p m ml pl sl 0 N)(x y:Nat->Int):dt p m ml N (tF p m ml pl sl x) (tF p m ml pl sl y)=dt p m ml N x y:=by
 have aA:1<=p:=by have:=hW.hp;omega
 have hk:∀a b,Ai p m (lw ml) a b<p^m:=fun a b=>AR aA a b;rw[EP,EP,<-hM.inj.sum aA (g:=fun j=>Ai p m (lw ml) (Au (p^m) (x j)) (Au (p^m) (y j))) fun j=>hk _ _];refine Ep N fun j hj=>?_;obtain⟨z,hz,z1,z2⟩:=hM.sc j hj;unfold tF;rw[Ax (hk _ _),Ax (hk _ _),hz,Ax z2];generalize Au (p^m) (x (BV pl j))=a;have hb:Au (p^m) (y (BV pl j))<p^m:=BB (Nat.pow_pos ac) _;generalize Au (p^m) (y (BV pl j))=b at hb ⊢;rw[AS z a,AY aA,<-AY aA z z b,UN hW hq z1 z2,Bt hW.hp hW.hm hb]
theorem Xu(hW:FL p m ml N)(hq:p^m<=3)(hM:BD p m ml pl sl 0 N)(z:Nat->Int):∃y,∀j,j<N->Au (p^m) (tF p m ml pl sl y j)=Au (p^m) (z j):=by
 have aA:1<=p:=by have:=hW.hp;omega
 have hk:∀a b,Ai p m (lw ml) a b<p^m:=fun a b=>AR aA a b;refine⟨plc (BV pl) (fun j=>((Ai p m (lw ml) (Au (p^m) (sl.getD j 0)) (Au (p^m) (z j)):Nat):Int)) N,fun j hj=>?_⟩;obtain⟨s,hs,s1,s2⟩:=hM.sc j hj;unfold tF;rw[IG hM.inj _ N (Nat.le_refl _) j hj,hs,Ax s2,Ax (hk _ _),Ax (hk _ _),<-AY aA,UN hW hq s1 s2,Bt hW.hp hW.hm (BB (Nat.pow_pos ac) _)]
theorem ZC(hW:FL p m ml N)(hq:p^m<=3)(hM:BD p m ml pl sl 0 N){R:Nat}{a:Nat->Nat->Int}(h:∀x,Bz p m ml N R a x↔Bz p m ml N R a (tF p m ml pl sl x))(x:Nat->Int):Cl p m ml N R a x↔Cl p m ml N R a (tF p m ml pl sl x):=by
 constructor
 .intro hc z hz;obtain⟨y,hy⟩:=Xu hW hq hM z;have h1:=(h y).2 ((Jy a hy).2 hz);rw[<-Rx (ml:=ml) _ hy,R6 hW hq hM];exact hc y h1
 .intro hc y hy;rw[<-R6 hW hq hM];exact hc _ ((h y).1 hy)
theorem NI(hp:2<=p)(h:Ot p m ml N l ks)(x:Nat->Int):Bz p m ml N ks.length (Ak ks) x↔Cl p m ml N l.length (Ak l) x:=by
 obtain⟨R,b,b',piv,hR,hE,rfl,aA⟩:=h;exact(YY hp hE x).trans (Yu hp aA x)
theorem XD(x:Nat->Int):Bz p m ml N l.length (Ak l) x↔∀f,Cl p m ml N l.length (Ak l) f->dt p m ml N f x=0:=
 ⟨fun h f hf=>hf x h,fun h i hi=>h _ (Cl.row hi)⟩
theorem KW(hW:FL p m ml N)(hq:p^m<=3)(hk:Ot p m ml N l ks):Bd p m ml N l l pl sl↔Bd p m ml N ks ks pl sl:=by
 constructor
 .intro h;have hM:=h.mon hW;refine(Ej hW.hp h.pll h.sll h.nn h.inj h.sc).2 fun x=>?_;rw[NI hW.hp hk,NI hW.hp hk];exact ZC hW hq hM (fun y=>h.solT hW.hp y) x
 .intro h;have hM:=h.mon hW;refine(Ej hW.hp h.pll h.sll h.nn h.inj h.sc).2 fun x=>?_;have aA:=ZC hW hq hM (fun y=>h.solT hW.hp y) x;have e:∀y,Bz p m ml N l.length (Ak l) y↔Cl p m ml N ks.length (Ak ks) y:=fun y=>by
   rw[XD];constructor
   .intro hs f hf;rw[DT];exact hs f ((NI hW.hp hk f).1 hf)
   .intro hc f hf;rw[DT];exact hc f ((NI hW.hp hk f).2 hf)
  rw[e,e];exact aA
theorem Rw(h1:Ew p m ml N l)(h2:Ew p m ml N ks)(hq:p^m<=3)(hk:Ot p m ml N l ks):Qh p m ml N l=Qh p m ml N ks:=
 RE h1 h2 fun f=>by
  constructor
  .rintro⟨pl,sl,h,e⟩;exact⟨pl,sl,(KW h1.two.1 hq hk).1 h,e⟩
  .rintro⟨pl,sl,h,e⟩;exact⟨pl,sl,(KW h1.two.1 hq hk).2 h,e⟩
end
structure Oz(w:World)(b:Nat):Prop where
 c0:w.cell? ⟨b,0,none⟩=some (.int .i64 0)
 c1:w.cell? ⟨b,1,none⟩=some (.slice none 0 0)
 f0:w.frozen? ⟨b,0,none⟩=false
 f1:w.frozen? ⟨b,1,none⟩=false
theorem Oz.new(w:World):Oz (w.alloc (.cells #[.int .i64 0,.slice none 0 0] 137)) w.heap.size:=⟨ag,ag,ag,ag⟩
theorem Oz.ex{w w':World}{b:Nat}(h:Oz w b)(hx:Ex w w'):Oz w' b:=⟨hx.cell h.c0,hx.cell h.c1,hx.frz h.c0 h.f0,hx.frz h.c1 h.f1⟩
theorem Oz.set{w:World}{b:Nat}(h:Oz w b)(x y:Value):((w.setCell ⟨b,0,none⟩ x).setCell ⟨b,1,none⟩ y).cell? ⟨b,0,none⟩=some x/\((w.setCell ⟨b,0,none⟩ x).setCell ⟨b,1,none⟩ y).cell? ⟨b,1,none⟩=some y:=
 ⟨by rw[Af ae];exact World.cell?_setCell_same _ _ _ h.c0,World.cell?_setCell_same _ _ _ (by rw[Af ae];exact h.c1)⟩
def DulR(p m:Int)(ml:List Int)(n:Int)(rows:List (List Int))(r:Ending)(w':World):Prop:=
 ∃e1:Int,BN p m ml n rows e1/\
  ((e1≠0/\r= .returned (.tuple #[.agg #[.int .i64 0,.int .i64 0,.slice none 0 0,.int .i64 0,.slice none 0 0],.int .i64 e1]))∨
  (e1=0/\∃(pn mn N:Nat) (ks:List (List Int)) (kv v':Value),p=pn/\m=mn/\n=N/\r= .returned (.tuple #[.agg #[.int .i64 pn,.int .i64 mn,v',.int .i64 N,kv],.int .i64 0])/\Ot pn mn ml N rows ks/\Am w' v' ml/\BO w' kv ks))
theorem Od(w:World)(p m:Int)(ml:List Int)(mv:Value)(aP:Am w mv ml)(n:Int)(rows:List (List Int))(v:Value)(hv:BO w v rows):
  Calls Tryz.prog 45 #[.agg #[.int .i64 p,.int .i64 m,mv,.int .i64 n,v]] w fun r w'=>DulR p m ml n rows r w'/\Ex w w':=by
 obtain⟨c0,c1,c2,c3,c4,ea⟩:=DP w p m mv n v;have aJ:(w.alloc (.cells #[.int .i64 p,.int .i64 m,mv,.int .i64 n,v] 39)).heap.size=w.heap.size+1:=ag;have HX:=Aa ea;have HM:=Aa aP;have HV:=Aa hv;obtain⟨va,vc,rfl,-,q1,-⟩:=hv.open;obtain⟨ma,mc,rfl,-,q2,-⟩:=aP.open;unfold maxLen at q1 q2;obtain⟨B,hB⟩:=nA w.heap.size;rw[hB]at c0 c1 c2 c3 c4 aJ;clear aP hv ea;go_enter Tryz.func45,Tryz.ntmps45
 go_upto_region 1 with fail
 try simp only[hB]
 have HB:=Aa hB;clear hB;generalize w.alloc (.cells #[.int .i64 p,.int .i64 m,.slice ma ml.length mc,.int .i64 n,.slice va rows.length vc] 39)=wB at *;have bq:=Xc.new wB;rw[aJ]at bq;have ec:Ex wB _:=AJ wB (.cells #[.int .i64 0,.int .i64 0,.slice none 0 0,.int .i64 0,.slice none 0 0] 39);have aW:(wB.alloc (.cells #[.int .i64 0,.int .i64 0,.slice none 0 0,.int .i64 0,.slice none 0 0] 39)).heap.size=B+1+1:=by simp[aJ]
 try simp only[aJ]
 generalize wB.alloc (.cells #[.int .i64 0,.int .i64 0,.slice none 0 0,.int .i64 0,.slice none 0 0] 39)=wC at *;obtain⟨aE,BQ,aC,CSZ⟩:=Eq (fun w' (h:Ex wC w')=>(⟨h.cell (ec.cell c0),h.cell (ec.cell c1),h.cell (ec.cell c2),h.cell (ec.cell c3),h.cell (ec.cell c4)⟩:_/\_/\_/\_/\_)) bq (HX.o.trans ec) aW;have bB:=Aa (CZ wC p m ml _ (HM.o.ex aC.o) n rows _ (HV.o.ex aC.o));clear c0 c1 c2 c3 c4 bq ec aW aJ HX;obtain⟨c0,c1,c2,c3,c4⟩:=aE.o wC (Ex.refl _);go_wp2_with fail
 refine bB.o.mono ?_;rintro e w2⟨⟨e1,rfl,aT⟩,aN⟩;clear c0 c1 c2 c3 c4 bB;obtain⟨c0,c1,c2,c3,c4⟩:=aE.o w2 aN;have aA:=Aa aN;have aM:=Aa aT;clear aN aT;by_cases h1:e1=0
 .subst h1;obtain⟨pn,mn,N,rfl,rfl,rfl,aO,hI,n1,bH,aG,aS⟩:=Gk aM.o;have bN:=Aa (Du aM.o).1;have bA:=Aa (fun (w':World) (h:Ex w2 w')=>SL w' pn mn (.slice ma ml.length mc) N rows _ (HV.o.ex ((aC.o.trans aA.o).trans h)));have aY:=Aa (fun (w':World) (h:Ex w2 w')=>Qu pn mn N ml _ w' (HM.o.ex ((aC.o.trans aA.o).trans h)) rows _ (HV.o.ex ((aC.o.trans aA.o).trans h)) bN.o (Ny ac aG aS) n1);have aU:ml.length<=1000:=by have h:=aO.len;have h8:=aO.m8;rw[h];split <;> omega
  have bL:=Aa (fun (w':World) (h:Ex w2 w') (ks:List (List Int)) (kv:Value) (hk:BO w' kv ks)=>Hd w' pn mn ml _ (HM.o.ex ((aC.o.trans aA.o).trans h)) aU N ks kv hk 0);have bO:=Aa (show B+1<w2.heap.size from World.block_lt_of_cell? _ _ (BQ.o.ex aA.o).c0);clear aO hI n1 bH aG aS aU;go_upto_region 4 with fail
  go_cut [5,6] from 13 to 20 (fun s5 s6 wx=>∃(G:Nat) (ks:List (List Int)) (ka:Option Addr) (kc:Nat),s5= .pointer (some ⟨G,0,none⟩)/\s6= .int .i64 0/\Hia (Ot pn mn ml N rows ks)/\Hia (wx.cell? ⟨G,0,none⟩=some (.int .i64 N)/\wx.cell? ⟨G,1,none⟩=some (.slice ka ks.length kc))/\Hia (D6 w2.heap.size wx (.slice ka ks.length kc) ks)/\Hia (Ex w2 wx))
  case first=>
   have c0x:=fun o=>((Ex.refl w2).alloc o).cell c0;have c1x:=fun o=>((Ex.refl w2).alloc o).cell c1;have c2x:=fun o=>((Ex.refl w2).alloc o).cell c2;have c3x:=fun o=>((Ex.refl w2).alloc o).cell c3;have c4x:=fun o=>((Ex.refl w2).alloc o).cell c4;have C0:=Aa c0;have C1:=Aa c1;have C2:=Aa c2
   go_region_law ((first
        | (go_simp;go_at_call 104;(first|(with_reducible refine(bA.o _ (Ex.refl w2).drew).mono ?_;rintro e w3⟨rfl,aI⟩;have G1:=Aa ((Ex.refl w2).drew.trans aI))|(with_reducible refine(bA.o _ ((Ex.refl w2).alloc _).drew).mono ?_;rintro e w3⟨rfl,aI⟩;have G1:=Aa (((Ex.refl w2).alloc _).drew.trans aI);have BX:=Aa (((Oz.new w2).ex (Ex.refl _).drew).ex aI);have aX:=Aa (show w2.heap.size<=w2.heap.size/\w2.heap.size<w3.heap.size from⟨Nat.le_refl _,World.block_lt_of_cell? _ _ BX.o.c0⟩)));have d0:=G1.o.cell C0.o;have d1:=G1.o.cell C1.o;have d2:=G1.o.cell C2.o;have d0x:=fun o=>(G1.o.alloc o).cell C0.o;have d1x:=fun o=>(G1.o.alloc o).cell C1.o;have d2x:=fun o=>(G1.o.alloc o).cell C2.o;clear aI)
        | ((first|(go_simp;go_at_call 103)|go_at_call 103|skip);(first
            | (refine(aY.o _ G1.o).mono ?_;rintro e w4⟨ks,kv,rfl,aD,aB,aF⟩;have G2:=Aa (G1.o.trans aF);have aQ:=Aa aB;have aR:=Aa (show w2.heap.size<=w3.heap.size from G1.o.size);(try (have BX:=Aa (BX.o.ex aF))))
            | (refine(aY.o _ (G1.o.alloc _)).mono ?_;rintro e w4⟨ks,kv,rfl,aD,aB,aF⟩;have G2:=Aa ((G1.o.alloc _).trans aF);have aQ:=Aa aB;have aX:=Aa (show w2.heap.size<=w3.heap.size/\w3.heap.size<(w3.alloc (.cells #[.int .i64 0,.slice none 0 0] 137)).heap.size from⟨G1.o.size,ag⟩);have aR:=Aa (show w2.heap.size<=(w3.alloc (.cells #[.int .i64 0,.slice none 0 0] 137)).heap.size from by have:=G1.o.size;simp;omega);have BX:=Aa ((Oz.new w3).ex aF))
            );obtain⟨ka,kc,rfl,-,-,-⟩:=aB.msl.open;have aZ:=Aa aD;(try (have b0:=BX.o.c0;have b1:=BX.o.c1;have f0:=BX.o.f0;have f1:=BX.o.f1));clear aD aB aF;go_simp)))
   all_goals go_wp2_with fail
   all_goals go_meet
   all_goals first
        | (obtain⟨k0,k1⟩:=BX.o.set (.int .i64 N) (.slice ka ks.length kc)
           have aL:=aX.o;exact⟨_,ks,ka,kc,rfl,rfl,aZ.o,Aa ⟨k0,k1⟩,Aa (((aQ.o.low (by first|exact aL.2|(show _<_;omega)) _).low (by first|exact aL.2|(show _<_;omega)) _).mono (by first|exact aR.o|omega)),Aa ((G2.o.setCell (by first|exact aL.1|(show _<=_;omega)) _).setCell (by first|exact aL.1|(show _<=_;omega)) _)⟩)
        | exact⟨_,ks,ka,kc,rfl,rfl,aZ.o,Aa ⟨ag,ag⟩,Aa ((aQ.o.mono (by first|exact aR.o|omega)).ex ((Ex.refl _).alloc _)),Aa (G2.o.alloc _)⟩
  case rest=>
   obtain⟨G,ks,ka,kc,rfl,rfl,bJ,aV,aB,aH⟩:=hcut;clear c0 c1 c2 c3 c4;obtain⟨c0,c1,c2,c3,c4⟩:=aE.o wc (aA.o.trans aH.o);obtain⟨g0,g1⟩:=aV.o;have HF:=Aa (bL.o wc aH.o ks _ aB.o.msl);have bP:=Aa (BQ.o.ex (aA.o.trans aH.o));have XC:=Aa ((aC.o.trans aA.o).trans aH.o);clear aV;go_wp2_with fail
   refine HF.o.mono ?_;rintro e w5⟨ho,aK⟩;rcases ho with⟨h,_⟩|⟨_,v',rfl,hv',hb'⟩
   .exact absurd rfl h
   .obtain⟨q0,q1,q2,q3,q4,bG,bF,bE,bD,bC⟩:=bP.o.ex aK;obtain⟨xa,xc,rfl,-,-,-⟩:=hv'.open;have hw:=HB.o;have bI:=bO.o;have hsz:=aH.o.size;have bK:=Aa (Hm (q:=B+1) hv' (fun C h=>by have:=hb' C h;omega) (.int .i64 pn) (.int .i64 mn) (.slice xa ml.length xc) (.int .i64 N) (.slice ka ks.length kc));have bM:=Aa ((aB.o.ex aK).set5 (q:=B+1) bI (.int .i64 pn) (.int .i64 mn) (.slice xa ml.length xc) (.int .i64 N) (.slice ka ks.length kc)).msl;have X5:=Aa (XC.o.trans aK);clear hv' hb' aK c0 c1 c2 c3 c4 g0 g1;go_wp2_with fail
    exact bodyPost_ret (v:= .tuple #[.agg #[.int .i64 pn,.int .i64 mn,.slice xa ml.length xc,.int .i64 N,.slice ka ks.length kc],.int .i64 0]) (by simp[results,Tryz.results45,go_sem,q0,q1,q2,q3,q4]) rfl ⟨⟨0,aM.o,.inr ⟨rfl,pn,mn,N,ks,_,_,rfl,rfl,rfl,rfl,bJ.o,bK.o,bM.o⟩⟩,C9 X5.o ac _ _ _ _ _⟩
 .have k1:(e1 !=0)=true:=by simpa using h1
  obtain⟨q0,q1,q2,q3,q4,bG,bF,bE,bD,bC⟩:=BQ.o.ex aA.o;have H1:=Aa h1;have hw:=HB.o;clear h1;go_wp2_with fail
  exact bodyPost_ret (v:= .tuple #[.agg #[.int .i64 0,.int .i64 0,.slice none 0 0,.int .i64 0,.slice none 0 0],.int .i64 e1]) (by simp[results,Tryz.results45,go_sem,q0,q1,q2,q3,q4]) rfl ⟨⟨e1,aM.o,.inl ⟨H1.o,rfl⟩⟩,C9 (aC.o.trans aA.o) ac _ _ _ _ _⟩
theorem dul_ok{p m N:Nat}{ml:List Int}{rows:List (List Int)}{r:Ending}{w':World}(h:DulR p m ml N rows r w')(ho:BN p m ml N rows 0):
  ∃(ks:List (List Int)) (kv v':Value),r= .returned (.tuple #[.agg #[.int .i64 p,.int .i64 m,v',.int .i64 N,kv],.int .i64 0])/\Ot p m ml N rows ks/\Am w' v' ml/\BO w' kv ks:=by
 obtain⟨e1,aA,h⟩:=h;obtain rfl:=BZ aA ho;rcases h with⟨h,_⟩|⟨_,pn,mn,N',ks,kv,v',e1,e2,e3,hr,hk,hv,hkv⟩
 .exact absurd rfl h
 .obtain rfl:p=pn:=by omega
  obtain rfl:m=mn:=ac;obtain rfl:N=N':=ac;exact⟨ks,kv,v',hr,hk,hv,hkv⟩
theorem Yt{p m N:Nat}{ml:List Int}{rows ks:List (List Int)}(hF:EG p m ml)(aB:1<=N)(aA:N<=64)(h:Ot p m ml N rows ks):BN p m ml N ks 0:=by
 obtain⟨R,b,b',piv,hR,hE,rfl,_⟩:=h;exact WB hF aB aA hR hE
theorem zbP{P:Prop}(h:P:=by
 rintro e w99⟨rfl,aA⟩;have aB:=Aa aA;clear aA;go_wp2_with fail
 go_ret;exact⟨rfl,HX.o.trans aB.o⟩):P:=h
theorem zbt{P:Prop}(h:P:=by
 clear q1;go_wp2_with fail
 refine(aQ.o _ aL.o).mono ?_;exact zbP):P:=h
theorem Gt(w:World)(c:AU)(m1 v1:Value)(hc:c.at w m1 v1):
  Calls Tryz.prog 10 #[c.arg m1 v1] w fun r w'=>r= .returned (.bool true)/\Ex w w':=by
 obtain⟨c0,c1,c2,c3,c4⟩:=C6 w c m1 v1;have HX:=Aa (AJ w (c.obj m1 v1));have bW:=Aa (fun w'=>Uq w');have bS:=Aa (fun (w':World) (h:Ex w w')=>Nn w' c m1 v1 (hc.ex h) 12 ac);obtain⟨E1,bO,bQ⟩:=Y4 hc;obtain⟨aP,cM,bU,cH,cL⟩:=Of bO bQ (fun w'=>DF c.p c.m m1 w') (fun (w':World) (h:Ex w w')=>EU w' c m1 v1 (hc.ex h)) (fun (w':World) (h:Ex w w')=>Od w' c.p c.m c.ml m1 (hc.ex h).m c.n c.rows v1 (hc.ex h).g);obtain⟨x1,y1,rfl,-,z1,-⟩:=hc.g.open;obtain⟨x3,y3,rfl,-,z3,-⟩:=hc.m.open;unfold maxLen at z1 z3;obtain⟨p,m,ml,n,rows⟩:=c;obtain⟨B,hB⟩:=nA w.heap.size;rw[hB]at c0 c1 c2 c3 c4;dsimp only[AU.arg,AU.obj]at *;obtain⟨SB,aT⟩:∃b,smB ⟨p,m,ml,n,rows⟩ 12=b:=⟨_,rfl⟩;rw[aT]at bS;have bT:=Aa (show SB=true->Smp ⟨p,m,ml,n,rows⟩ 12 from fun h=>(R9.1 (aT.trans h)).2);obtain⟨Q,hQ⟩:=nA (CF p m);rw[hQ]at bU;have HQ:=Aa hQ;clear hc aT hQ bO bQ;go_enter Tryz.func10,Tryz.ntmps10
 go_upto_region 1 with fail
 try simp only[hB]
 clear hB;generalize w.alloc (.cells #[.int .i64 p,.int .i64 m,.slice x3 ml.length y3,.int .i64 n,.slice x1 rows.length y1] 39)=w1 at *;have aE:=Aa (fun w' (h:Ex w1 w')=>(⟨h.cell c0,h.cell c1,h.cell c2,h.cell c3,h.cell c4⟩:_/\_/\_/\_/\_));have bR:∀w',Ex w1 w'->Calls Tryz.prog 13 #[] w' fun r w''=>r= .returned (.bool true)/\Ex w1 w'':=fun w' h=>(bW.o w').mono fun r w'' ⟨h1,h2⟩=>⟨h1,h.trans h2⟩;have aQ:=Aa bR;have cB:=Aa (Ex.refl w1);clear bR;go_wp2_with fail
 refine(bW.o w1).mono ?_;rintro e w2⟨rfl,bL⟩;have bF:=Aa (cB.o.trans bL);clear bL c0 c1 c2 c3 c4;obtain⟨c0,c1,c2,c3,c4⟩:=aE.o w2 bF.o;go_wp2_with fail
 refine(bS.o w2 (HX.o.trans bF.o)).mono ?_;rintro e w3⟨rfl,bK⟩;have aN:=Aa (bF.o.trans bK);clear bK c0 c1 c2 c3 c4;obtain⟨c0,c1,c2,c3,c4⟩:=aE.o w3 aN.o
 cases SB with
 | false=>
  go_wp2_with fail
  refine(aQ.o _ aN.o).mono ?_;exact zbP
 | true=>
  have cC:=Aa (bT.o rfl);clear bT;go_wp2_with fail
  refine(cM.o w3 (HX.o.trans aN.o)).mono ?_;rintro e w4⟨rfl,bJ⟩;have bB:=Aa (aN.o.trans bJ);clear bJ c0 c1 c2 c3 c4;obtain⟨c0,c1,c2,c3,c4⟩:=aE.o w4 bB.o;by_cases q1:E1=0
  rotate_left
  .have yf1:(E1 !=0)=true:=by simpa using q1
   clear q1;go_wp2_with fail
   refine(aQ.o _ bB.o).mono ?_;exact zbP
  .subst q1;go_wp2_with fail
   refine(bU.o w4).mono ?_;rintro e w5⟨rfl,bI⟩;have aL:=Aa (bB.o.trans bI);clear bI c0 c1 c2 c3 c4;obtain⟨c0,c1,c2,c3,c4⟩:=aE.o w5 aL.o;by_cases q1:3<Q
   .have kQ:decide (3<Q)=true:=by simpa using q1
    exact zbt
   .have kQ:decide (3<Q)=false:=by simpa using q1
    have jQ:Q<=3:=ac;clear q1;by_cases q1:6<n
    .have kn:decide (6<n)=true:=by simpa using q1
     exact zbt
    .have kn:decide (6<n)=false:=by simpa using q1
     have jn:n<=6:=ac;clear q1;obtain⟨pn,mn,N,rfl,rfl,rfl,hf,hI,cA,bZ,hr,bX⟩:=Gk aP.o;have Dw:=Pf hf;have bM:=HQ.o;rw[Dw]at bM;have bY:2<=pn^mn:=Nat.le_trans hf.p2 (Nat.le_self_pow (by have:=hf.m1;omega) pn);have bN:pn^mn<=3:=by omega
     have aS:N*(pn^mn-1)<=12:=Nat.le_trans (Nat.mul_le_mul (show N<=6 by omega) (show pn^mn-1<=2 by omega)) ac;have aI:=Aa (ZX aP.o cC.o ac ac);have cD:=Aa bN;obtain⟨D,hD⟩:=nA (N*(pn^mn-1));have HD:=Aa hD;clear hf hI Dw bM hr bX hD aS bN bY;have cJ:=Aa (fun w' h=>cH.o w' h aI.o.bnd.1 aI.o.bnd.2);go_wp2_with fail
     refine(cL.o w5 (HX.o.trans aL.o)).mono ?_;rintro e w20⟨bP,aK⟩;obtain⟨ks,kv,v',rfl,aG,aR,aM⟩:=dul_ok bP aP.o;have cG:=Aa aG;have aO:=Aa (show Ew pn mn ml N ks from⟨Yt (Du aP.o).1 cA bZ aG,aI.o.hd,aI.o.sm,aI.o.hq⟩);obtain⟨va,vc,rfl,-⟩:=aR.open;obtain⟨ka,kc,rfl,-⟩:=aM.open;obtain⟨KL,aX⟩:∃k,ks.length=k:=⟨_,rfl⟩;rw[aX]at aM
     try simp only[aX]
     obtain⟨d0,d1,d2,d3,d4⟩:=C6 w20 ⟨pn,mn,ml,N,ks⟩ (.slice va ml.length vc) (.slice ka KL kc);have ed:=AJ w20 ((⟨pn,mn,ml,N,ks⟩:AU).obj (.slice va ml.length vc) (.slice ka KL kc));dsimp only[AU.arg,AU.obj]at d0 d1 d2 d3 d4 ed;have aH:=Aa (aL.o.trans (aK.trans ed));have HV:=Aa (aR.ex ed);have HK:=Aa (aM.ex ed);clear bP aK aG aR aM ed aX c0 c1 c2 c3 c4;go_upto_region 4 with fail
     obtain⟨DB,bA⟩:∃B,w20.heap.size=B:=⟨_,rfl⟩;rw[bA]at d0 d1 d2 d3 d4
     try simp only[bA]
     clear bA;generalize w20.alloc (.cells #[.int .i64 (pn:Int),.int .i64 (mn:Int),.slice va ml.length vc,.int .i64 (N:Int),.slice ka KL kc] 39)=w21 at *;have bV:=Aa (fun w' (h:Ex w21 w')=>(⟨h.cell d0,h.cell d1,h.cell d2,h.cell d3,h.cell d4⟩:_/\_/\_/\_/\_));clear d0 d1 d2 d3 d4;obtain⟨c0,c1,c2,c3,c4⟩:=aE.o w21 aH.o;go_wp2_with fail
     refine(cJ.o w21 (HX.o.trans aH.o)).mono ?_;rintro e w22⟨hg,aC⟩;obtain⟨lv,rfl,aD⟩:=aI.o.grO hg;rw[HD.o];obtain⟨LA,aW⟩:∃L,Qh pn mn ml N rows=L:=⟨_,rfl⟩;have cF:=Aa aW;rw[aW]at aD;obtain⟨la,lc,rfl,-⟩:=aD.open;obtain⟨LN,aU⟩:∃k,LA.length=k:=⟨_,rfl⟩;rw[aU]at aD
     try simp only[aU]
     have eg:=AJ w22 (.cells #[.int .i64 (D:Int),.slice la LN lc] 43);obtain⟨g0,g1,-⟩:=Cd w22 (D:Int) (.slice la LN lc);obtain⟨bG,bE,cK,HV,HK⟩:=Of (aD.ex eg) (aH.o.trans (aC.trans eg)) (fun w' (h:Ex _ w')=>bV.o w' ((aC.trans eg).trans h)) (HV.o.ex (aC.trans eg)) (HK.o.ex (aC.trans eg));clear hg aC aD eg c0 c1 c2 c3 c4 aW aU bV;go_upto_region 5 with fail
     obtain⟨GB,aY⟩:∃B,w22.heap.size=B:=⟨_,rfl⟩;rw[aY]at g0 g1
     try simp only[aY]
     clear aY;generalize w22.alloc (.cells #[.int .i64 (D:Int),.slice la LN lc] 43)=w23 at *;have cI:=Aa (fun w' (h:Ex w23 w')=>(⟨h.cell g0,h.cell g1⟩:_/\_));clear g0 g1;obtain⟨d0,d1,d2,d3,d4⟩:=cK.o w23 (Ex.refl _);have bH:=Aa (EU w23 ⟨pn,mn,ml,N,ks⟩ _ _ ⟨HV.o,HK.o⟩ aO.o.bnd.1 aO.o.bnd.2);dsimp only[AU.arg]at bH;go_wp2_with fail
     refine bH.o.mono ?_;rintro e w24⟨hg,aF⟩;obtain⟨lv,rfl,aD⟩:=aO.o.grO hg;rw[HD.o];rw[<-Rw aI.o aO.o cD.o cG.o,cF.o]at aD;obtain⟨ma,mc,rfl,-⟩:=aD.open;obtain⟨LM,aV⟩:∃k,LA.length=k:=⟨_,rfl⟩;rw[aV]at aD
     try simp only[aV]
     have eg:=AJ w24 (.cells #[.int .i64 (D:Int),.slice ma LM mc] 43);obtain⟨f0,f1,-⟩:=Cd w24 (D:Int) (.slice ma LM mc);have cE:=Aa (aD.ex eg);have bG:=Aa (bG.o.ex (aF.trans eg));have bD:=Aa (bE.o.trans (aF.trans eg));obtain⟨g0,g1⟩:=cI.o _ (aF.trans eg);clear hg aF aD eg d0 d1 d2 d3 d4 aV bH;go_upto_region 6 with fail
     obtain⟨FB,aZ⟩:∃B,w24.heap.size=B:=⟨_,rfl⟩;rw[aZ]at f0 f1
     try simp only[aZ]
     clear aZ;generalize w24.alloc (.cells #[.int .i64 (D:Int),.slice ma LM mc] 43)=w25 at *;go_wp2_with fail
     refine(Kc w25 (D:Int) (D:Int) LA LA _ _ bG.o cE.o).mono ?_;rintro e w26⟨⟨b,rfl,hb⟩,aJ⟩;obtain rfl:b=true:=hb.2 ⟨rfl,rfl⟩;have bC:=Aa (bD.o.trans aJ);clear aJ hb f0 f1 g0 g1;go_wp2_with fail
     go_ret;exact⟨rfl,HX.o.trans bC.o⟩
end Go.Proofs.YtehieobniamagaaGreat
