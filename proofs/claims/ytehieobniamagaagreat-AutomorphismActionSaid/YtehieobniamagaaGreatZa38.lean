/- Plain: the examples of chapter 32, computed. -/
import Derived.Test.YtehieobniamagaaGreatZa37
namespace Go.Proofs.YtehieobniamagaaGreat
open Go.RowKit
set_option linter.all false
set_option maxRecDepth 100000
set_option maxHeartbeats 8000000
section
variable {n:Nat} {T gens:List (List Int)}
def W5(T:List (List Int))(i:Nat):Nat->Nat:=CE (T.getD i [])
theorem TQ(hg:∀f,Gn (gens.map CE) f↔∃r∈T,CE r=f)(hl:∀r∈T,Bv r=0/\r.length=n)(hs:∀a,a<T.length->∀b,b<T.length->a<b->Fo (T.getD a []) (T.getD b [])=true):MS n T.length (gens.map CE) (W5 T):=by
 have hm:∀i,i<T.length->T.getD i []∈T:=fun i hi=>by
  rw[List.getD_eq_getElem?_getD,List.getElem?_eq_getElem hi];exact List.getElem_mem hi
 refine⟨fun f=>?_,fun a b aA hb=>?_⟩
 .rw[hg];constructor
  .rintro⟨r,hr,rfl⟩;obtain⟨i,hi,e⟩:=List.getElem_of_mem hr;exact⟨i,hi,by unfold W5;rw[List.getD_eq_getElem?_getD,List.getElem?_eq_getElem hi];exact congrArg CE e⟩
  .rintro⟨i,hi,rfl⟩;exact⟨T.getD i [],hm i hi,rfl⟩
 .have ha:a<T.length:=by omega
  have e1:=Mb (hl _ (hm a ha)).1;have e2:=Mb (hl _ (hm b hb)).1;rw[(hl _ (hm a ha)).2]at e1;rw[(hl _ (hm b hb)).2]at e2;refine Tl.1 ?_;show Fo (li n (CE (T.getD a []))) (li n (CE (T.getD b [])))=true
  rw[e1,e2];exact hs a ha b hb aA
theorem Qr(h:∀r∈gens,Bv r=0/\r.length=n):∀s∈gens.map CE,A7 n s:=fun s hs=>by
 obtain⟨r,hr,rfl⟩:=List.mem_map.1 hs;have:=Mg (h r hr).1
 rwa[(h r hr).2]at this
theorem QX{C:List Lv}(hg:∀f,Gn (gens.map CE) f↔∃r∈T,CE r=f)(hl:∀r∈T,Bv r=0/\r.length=n)(hs:∀a,a<T.length->∀b,b<T.length->a<b->Fo (T.getD a []) (T.getD b [])=true)(h2:∀r∈gens,Bv r=0/\r.length=n)(hk:DA n gens=0)(hc:XV n T.length (W5 T) n=C):CU n gens=(⟨n,C⟩,0):=by
 unfold CU;rw[hk,if_neg ag];show(Z1.mk n (Cd n (gens.map CE) n),(0:Int))=_
 rw[Wj (TQ hg hl hs) (Qr h2),hc]
theorem QT{C:List Lv}(h2:∀r∈gens,Bv r=0/\r.length=n)(h1:1<=n)(aA:n<=64)(hk:DA n gens=0)(h:CU n gens=(⟨n,C⟩,0)):A9 n C=0:=by
 have h3:=Wm (n:=n) h1 aA (Qr h2) (P7 n (gens.map CE));unfold CU at h;rw[hk,if_neg ag]at h;injection h with h _;injection h with _ h;rw[<-h];show A9 n (Cd n (gens.map CE) n)=0
 rw[JW];exact h3
open Classical in
theorem Vu {O:List (List Int)} (hg:∀f,Gn (gens.map CE) f↔∃r∈T,CE r=f) (hk:DA n gens=0) (hO:((List.range n).filter fun i=>T.all (fun r=>decide (i<=CE r i))).map (fun i=>((List.range n).filter fun y=>T.any (fun r=>CE r i==y)).map fun (y:Nat)=>(y:Int))=O):GG n gens=(O,0):=by
 have hr:∀ {i y:Nat},Dq (gens.map CE) i y↔T.any (fun r=>CE r i==y)=true:=fun {i y}=>by
  rw[List.any_eq_true];constructor
  .rintro⟨f,hf,e⟩;obtain⟨r,hr,rfl⟩:=(hg f).1 hf;exact⟨r,hr,by simpa using e⟩
  .rintro⟨r,hr,e⟩;exact⟨CE r,(hg _).2 ⟨r,hr,rfl⟩,by simpa using e⟩
 have hL:∀ {i:Nat},MQ (gens.map CE) i↔T.all (fun r=>decide (i<=CE r i))=true:=fun {i}=>by
  rw[List.all_eq_true];constructor
  .intro h r hr;exact decide_eq_true (h _ ⟨CE r,(hg _).2 ⟨r,hr,rfl⟩,rfl⟩)
  .rintro h y⟨f,hf,rfl⟩;obtain⟨r,hr,rfl⟩:=(hg f).1 hf;exact of_decide_eq_true (h r hr)
 have h2:∀i,Pb n (gens.map CE) i=((List.range n).filter fun y=>T.any (fun r=>CE r i==y)).map fun (y:Nat)=>(y:Int):=fun i=>by
  unfold Pb S6
  congr 1
  apply List.filter_congr;intro y _;rw[Bool.eq_iff_iff,decide_eq_true_eq];exact hr
 have h3:CL n (gens.map CE) n=O:=by
  rw[<-hO];unfold CL;rw[show Pb n (gens.map CE)=_ from funext h2]
  congr 1
  apply List.filter_congr;intro i _;rw[Bool.eq_iff_iff,decide_eq_true_eq];exact hL
 unfold GG;rw[hk,if_neg ag];show(CL n (gens.map CE) n,(0:Int))=_
 rw[h3]
end
def eT:AU:=⟨3,1, [],2, [[1,2]]⟩
theorem Zh:F5 3 1 []:=⟨3,1,rfl,rfl,⟨ac,ac,ac,ae,rfl,by intro x hx;cases hx⟩,ae,(FM (p:=3) (m:=1) (ml:= []) ⟨ac,ac,ac,ae,rfl,by intro x hx;cases hx⟩ ae).2 (.inl rfl)⟩
theorem YV:PV 3 1 1 2 (AQ [[1,2]]) [0] 1:=SV ac ae rfl ae
theorem XO{e:Int}(h:Ce 3 1 [] 2 [[1,2]] e):e=0:=N6 (p:=3) (m:=1) (N:=2) Zh ak ak ak rfl YV ac h
theorem Zg:Ce 2 1 [] 3 [[1,1,0]] 0:=
 .inr (.inr ⟨ak,ak,.inr ⟨ak,2,1,3, [0],AQ [[1,1,0]],rfl,rfl,rfl,ZQ,ak,JM Uf ac rfl,ak⟩⟩)
def cG:List (List Int):= [[0,1,2], [1,0,2], [0,1,2], [0,1,2]]
def cT:List (List Int):= [[0,1,2], [1,0,2]]
def cL:List Lv:= [⟨0, [0,1], [[0,1,2], [1,0,2]]⟩]
def tG:List (List Int):= [[0,1,2,3], [1,0,3,2], [2,3,0,1], [3,2,1,0], [0,1,2,3]]
def tT:List (List Int):= [[0,1,2,3], [1,0,3,2], [2,3,0,1], [3,2,1,0]]
def tL:List Lv:= [⟨0, [0,1,2,3], [[0,1,2,3], [1,0,3,2], [2,3,0,1], [3,2,1,0]]⟩]
theorem WL:OC 3 1 [] [1,0] [2,1] 0=0/\OA 3 1 [] [1,0] [2,1] 0= [3,2,0,1]:=ak
theorem YS:WJ 3 1 [] 2 [3,2,0,1]=0/\(YF 3 1 [] 2 [3,2,0,1]).perm= [1,0]/\(YF 3 1 [] 2 [3,2,0,1]).scale= [2,1]/\(YF 3 1 [] 2 [3,2,0,1]).frob=0:=ak
theorem Uh:JF eC 0=0:=ak
theorem YX:JF eT 0=0:=ak
theorem Ui:Ed 2 1 [] (Dj eC (AA eC))=cG:=ak
theorem Ue:Ed 3 1 [] (Dj eT (AA eT))=tG:=ak
theorem XQ:Nr (Dj eC (AA eC))=cG:=ak
theorem Qb{c:AU}{G:List (List Int)}{p m:Nat}{ml:List Int}(h:Ed p m ml (Dj c (AA c))=G):(Dj c (AA c)).length=G.length:=by
 rw[<-h];unfold Ed;rw[List.length_map]
theorem Px:(Dj eC (AA eC)).length<=1000:=by rw[Qb Ui];decide
theorem XN:(Dj eT (AA eT)).length<=1000:=by rw[Qb Ue];decide
def Z5(N:Nat)(M:Cw):Bool:=decide (M.perm.length=N)&&(decide (M.scale.length=N)&&Bz M.perm N)
theorem Tb{N:Nat}{Ms:List Cw}(h:Ms.all (Z5 N)=true):∀M∈Ms,R5 N M:=fun M hM=>by
 have:=List.all_eq_true.1 h M hM;unfold Z5 at this;simp only[Bool.and_eq_true,decide_eq_true_eq]at this;exact this
theorem WN:∀M∈Dj eC (AA eC),R5 eC.n.toNat M:=Tb ak
theorem YW:∀M∈Dj eT (AA eT),R5 eT.n.toNat M:=Tb ak
theorem WQ(f:Nat->Nat):Gn (cG.map CE) f↔∃r∈cT,CE r=f:=KX (n:=3) [[], [1]] ae ae ac ac ae ae ae ae f
theorem Yw(f:Nat->Nat):Gn (tG.map CE) f↔∃r∈tT,CE r=f:=KX (n:=4) [[], [1], [2], [3]] ae ae ac ac ae ae ae ae f
theorem Us:CU 3 cG=(⟨3,cL⟩,0):=QX (n:=3) WQ ae ae ae ae ah
theorem Su:CU 4 tG=(⟨4,tL⟩,0):=QX (n:=4) Yw ae ae ae ae ah
theorem Ya:A9 3 cL=0:=QT (n:=3) (gens:=cG) ae ac ac ae Us
theorem W7:A9 4 tL=0:=QT (n:=4) (gens:=tG) ae ac ac ae Su
theorem W6:G7 tL=4:=ae
theorem X8:G7 cL=2:=ae
theorem Yc:GG 3 cG=([[0,1], [2]],0):=Vu (n:=3) WQ ae ak
def eX:List FS:=Hq eC (Ic eC (AA eC))
def ZP(x:FS):Int × Int:=(x.i,x.j)
theorem WM:eX.map ZP= [(0,2),(1,2)]:=ak
theorem YT:∀g∈Ic eC (AA eC),He 0 (gF eC g)=0:=fun g hg=>by
 have h:(Ic eC (AA eC)).all (fun g=>He 0 (gF eC g)==0)=true:=ak;simpa using List.all_eq_true.1 h g hg
theorem Mp:eX.length=2:=by have:=congrArg List.length WM;rw[List.length_map]at this;exact this
theorem XP:(Ic eC (AA eC)).length<=1000:=by
 have:=Mp;unfold eX Hq at this;rw[List.length_map]at this;omega
theorem XM:JL eC 2 cL (AA eC) eX=true:=ak
theorem Ug{P:List Int}(h1:RO 2 1 [] 3 P=true)(h2:BF 2 1 [] 3 (Gk 2 1 3 P) (Gj 2 1 3 P) 0=0)(h3:Hn 2 1 [] (Gk 2 1 3 P) (Gj 2 1 3 P) 0 3 [[1,1,0]] 1= [[1,1,0]]):E7 2 1 [] 3 [[1,1,0]] P=true:=by
 refine Nz.2 ⟨h1,h2, [0],AQ [[1,1,0]],?_,ak⟩;rw[show([[1,1,0]]:List (List Int)).length=1 from rfl,h3];exact JM Uf ac rfl
theorem zaM{P:Prop}(h:P:=by
 exact Ug (by decide +kernel) (by decide +kernel) (by decide +kernel)):P:=h
theorem X9:Th eC cL=true:=by
 rw[NA];intro l hl r hr;simp only[cL,List.mem_singleton]at hl;subst hl;simp only[List.mem_cons,List.not_mem_nil,or_false]at hr;rcases hr with rfl|rfl
 .exact zaM
 .exact zaM
theorem Yb:UG eC 3 cL eX:=⟨Ya,ak,X9,XM⟩
theorem XR:Ii eC 0=0:=ak
theorem Py:MG eC=(⟨3,cL⟩,0):=by
 have h:MG eC=CU 3 (Ed 2 1 [] (Dj eC (AA eC))):=rfl;rw[h,Ui,Us]
theorem YY:UM eC 0=0:=by unfold UM;rw[Uh,if_neg ag,Py]
def UF(P:Prop)(r:Ending):Prop:=∃b:Bool,r= .returned (.bool b)/\(b=true↔P)
theorem Ft{P:Prop}(h:¬P):UF P (.returned (.bool false)):=⟨false,rfl,⟨fun h=>di,fun k=>absurd k h⟩⟩
theorem RW{P:Prop}(h:P):UF P (.returned (.bool true)):=⟨true,rfl,⟨fun _=>h,fun _=>rfl⟩⟩
theorem VG{l k:Lv}(h1:l.pt=k.pt)(h2:l.orb=k.orb)(h3:l.reps=k.reps):l=k:=by
 cases l;cases k
 simp only at h1 h2 h3;rw[h1,h2,h3]
theorem bh{P:Prop}(h:P:=by first|exact HN.o|exact fun h=>HN.o h.2):P:=h
theorem O0(w:World)(d1 d2:Int)(L K:List Lv)(lv kv:Value)(hL:D6 w lv L)(hK:D6 w kv K):
  Calls Tryz.prog 26 #[.agg #[.int .i64 d1,lv],.agg #[.int .i64 d2,kv]] w fun r w'=>UF (d1=d2/\L=K) r/\Ex w w':=by
 obtain⟨b0,b1,e0⟩:=Ch w d1 lv;obtain⟨f0,f1,e1⟩:=Ch (w.alloc (.cells #[.int .i64 d1,lv] 43)) d2 kv;have b0:=e1.cell b0;have b1:=e1.cell b1;have aS:(w.alloc (.cells #[.int .i64 d1,lv] 43)).heap.size=w.heap.size+1:=ag;rw[aS]at f0 f1;obtain⟨za,zc,rfl,z1,z2,z3⟩:=(hL.ex (e0.trans e1)).open3;obtain⟨ya,yc,rfl,y1,y2,y3⟩:=(hK.ex (e0.trans e1)).open3;unfold maxLen at z2 y2;have Z3:=Aa z3;have Y3:=Aa y3;have aG:=Aa (e0.trans e1);clear z3 y3 hL hK e0 e1 aS;by_cases hd:d1=d2
 .subst hd;have aZ:(d1 !=d1)=false:=by simp
  by_cases hlen:L.length=K.length
  .have aX:((L.length:Int) !=(K.length:Int))=false:=by simp;omega
   have aV:=Aa hlen;clear hlen;go_enter Tryz.func26,Tryz.ntmps26
   go_wp2_with fail
   obtain⟨q,hq⟩:=nA w.heap.size;rw[hq]at b0 b1 f0 f1
   try simp only[hq]
   clear hq;generalize (w.alloc (.cells #[.int .i64 d1,.slice za L.length zc] 43)).alloc (.cells #[.int .i64 d1,.slice ya K.length yc] 43)=w1 at *;have B1:=Aa b1;have F1:=Aa f1;clear b0 b1 f0 f1
   go_loopw [5] (fun j' wr=>∃(j:Nat),j<=L.length/\j'= .int .i64 j/\Hia (∀i,i<j->L[i]?=K[i]?)/\Hia (Ex w1 wr)) (fun j' _=>L.length-(intOf j').toNat)
   case atStart=>exact⟨0,ac,rfl,Aa (fun i h=>ac),Aa (Ex.refl _)⟩
   case round=>
    obtain⟨j,hj,rfl,aB,aA⟩:=hrel;have b1:=aA.o.cell B1.o;have f1:=aA.o.cell F1.o;by_cases hjl:j<L.length
    .obtain⟨l,hl⟩:∃l,L[j]?=some l:=⟨_,List.getElem?_eq_getElem hjl⟩;have aY:j<K.length:=by have:=aV.o;omega
     obtain⟨k,hk⟩:∃k,K[j]?=some k:=⟨_,List.getElem?_eq_getElem aY⟩;obtain⟨zb,zo,rfl,aQ⟩:=Z3.o ac;obtain⟨yb,yo,rfl,aR⟩:=Y3.o ac;obtain⟨u,r,c0,c1,c2,hu,hr⟩:=aQ j l hl;obtain⟨v,s,g0,g1,g2,hv,hs⟩:=aR j k hk;have c0:=aA.o.cell c0;have c1:=aA.o.cell c1;have c2:=aA.o.cell c2;have g0:=aA.o.cell g0;have g1:=aA.o.cell g1;have g2:=aA.o.cell g2;obtain⟨oa,oc,rfl,_,_,_⟩:=hu.open;obtain⟨ra,rc,rfl,_,_,_⟩:=hr.open;obtain⟨pa,pc,rfl,_,_,_⟩:=hv.open;obtain⟨sa,sc,rfl,_,_,_⟩:=hs.open;have i1:(0:Int)<=(j:Int):=db;have i2:(j:Int)<(L.length:Int):=ac;have i3:(j:Int)<(K.length:Int):=ac;obtain⟨p,hp⟩:=nA l.pt;rw[hp]at c0;obtain⟨t,ht⟩:=nA k.pt;rw[ht]at g0;obtain⟨HU,HR,HV,HS,aJ,aK,aT,aU⟩:=On (hu.ex aA.o) (hr.ex aA.o) (hv.ex aA.o) (hs.ex aA.o) hl hk hp ht;clear hl hk hp ht hu hr hv hs aQ aR;have bP:=fun o=>((Ex.refl wr).alloc o).cell b1;have bO:=fun o o2=>(((Ex.refl wr).alloc o).alloc o2).cell b1;have bH:=fun o=>((Ex.refl wr).alloc o).cell f1;have bG:=fun o o2=>(((Ex.refl wr).alloc o).alloc o2).cell f1;have bN:=fun o=>((Ex.refl wr).alloc o).cell c0;have bM:=fun o o2=>(((Ex.refl wr).alloc o).alloc o2).cell c0;have bL:=fun o=>((Ex.refl wr).alloc o).cell c1;have bK:=fun o o2=>(((Ex.refl wr).alloc o).alloc o2).cell c1;have bJ:=fun o=>((Ex.refl wr).alloc o).cell c2;have bI:=fun o o2=>(((Ex.refl wr).alloc o).alloc o2).cell c2;have bF:=fun o=>((Ex.refl wr).alloc o).cell g0;have bE:=fun o o2=>(((Ex.refl wr).alloc o).alloc o2).cell g0;have bD:=fun o=>((Ex.refl wr).alloc o).cell g1;have bC:=fun o o2=>(((Ex.refl wr).alloc o).alloc o2).cell g1;have bB:=fun o=>((Ex.refl wr).alloc o).cell g2;have bA:=fun o o2=>(((Ex.refl wr).alloc o).alloc o2).cell g2;go_upto_region 6 with fail
     go_cut [6,7] from 29 to 59 (fun s6 s7 wx=>∃B1 B2:Nat,s6= .pointer (some ⟨B1,0,none⟩)/\s7= .pointer (some ⟨B2,0,none⟩)/\Hia (wx.cell? ⟨B1,0,none⟩=some (.int .i64 p)/\wx.cell? ⟨B1,1,none⟩=some (.slice oa l.orb.length oc)/\wx.cell? ⟨B1,2,none⟩=some (.slice ra l.reps.length rc))/\Hia (wx.cell? ⟨B2,0,none⟩=some (.int .i64 t)/\wx.cell? ⟨B2,1,none⟩=some (.slice pa k.orb.length pc)/\wx.cell? ⟨B2,2,none⟩=some (.slice sa k.reps.length sc))/\Hia (Ex wr wx))
     case first=>
      go_region
      all_goals go_wp2_with fail
      all_goals go_meet
      all_goals exact⟨_,_,rfl,rfl,Aa ⟨ag,ag,ag⟩,Aa ⟨ag,ag,ag⟩,Aa (((Ex.refl wr).alloc _).alloc _).drew⟩
     case rest=>
      obtain⟨B1,B2,rfl,rfl,hA,hB,aC⟩:=hcut;clear b1 f1 c0 c1 c2 g0 g1 g2 bP bO bH bG bN bM bL bK bJ bI bF bE bD bC bB bA;obtain⟨a0,a1,a2⟩:=hA.o;obtain⟨g0,g1,g2⟩:=hB.o;have aO:=Aa (show(L[j]?≠K[j]?)->¬(L=K) from fun h e=>h cj);by_cases hpt:p=t
      .subst hpt;have aW:(p !=p)=false:=by simp
       have A2:=Aa a2;have G2:=Aa g2;have aF:=CW wc l.orb k.orb _ _ (HU.o.ex aC.o) (HV.o.ex aC.o);by_cases Dz:l.orb=k.orb
       .rw[decide_eq_true Dz]at aF;have aL:=Aa aF;clear aF;by_cases hre:l.reps=k.reps
        .have HE:=Aa (show L[j]?=K[j]? from by
          rw[aJ.o,aK.o,VG (aT.o.trans aU.o.symm) Dz hre])
         have aP:=Aa (show ∀i,i<j+1->L[i]?=K[i]? from fun i hi=>by
          by_cases e:i=j
          .subst e;exact HE.o
          .exact aB.o i ac)
         have aN:=Aa (decide_eq_true hre);clear Dz hre aB;go_wp2_with (first|(go_at_call 19;refine aL.o.mono ?_;rintro e w6⟨rfl,n6,aE⟩;have X6:=(show Ex wc w6 from by rw[aE];exact(Ex.refl _).drewN n6);have a2:=X6.cell A2.o;have g2:=X6.cell G2.o;have aD:=EO w6 l.reps k.reps _ _ ((HR.o.ex aC.o).ex X6) ((HS.o.ex aC.o).ex X6);rw[aN.o]at aD;have aD:=Aa aD;have aI:=Aa X6;clear aE X6)|(go_at_call 27;refine aD.o.mono ?_;rintro e w7⟨rfl,n7,aH⟩;have aM:=Aa (aI.o.trans (show Ex w6 w7 from by rw[aH];exact(Ex.refl w6).drewN n7));clear aH))
         go_roundw
         case rel=>exact⟨j+1,ac,by go_num,aP,Aa (aA.o.trans (aC.o.trans aM.o))⟩
         case measure=>simp[intOf];omega
        .have HN:=Aa (aO.o (by
          rw[aJ.o,aK.o];intro e;injection e with e;exact hre cj))
         have aN:=Aa (decide_eq_false hre);clear Dz hre aB;go_wp2_with (first|(go_at_call 19;refine aL.o.mono ?_;rintro e w6⟨rfl,n6,aE⟩;have X6:=(show Ex wc w6 from by rw[aE];exact(Ex.refl _).drewN n6);have a2:=X6.cell A2.o;have g2:=X6.cell G2.o;have aD:=EO w6 l.reps k.reps _ _ ((HR.o.ex aC.o).ex X6) ((HS.o.ex aC.o).ex X6);rw[aN.o]at aD;have aD:=Aa aD;have aI:=Aa X6;clear aE X6)|(go_at_call 27;refine aD.o.mono ?_;rintro e w7⟨rfl,n7,aH⟩;have aM:=Aa (aI.o.trans (show Ex w6 w7 from by rw[aH];exact(Ex.refl w6).drewN n7));clear aH))
         go_ret;exact⟨Ft bh,aG.o.trans (aA.o.trans (aC.o.trans aM.o))⟩
       .have HN:=Aa (aO.o (by
         rw[aJ.o,aK.o];intro e;injection e with e;exact Dz cj))
        rw[decide_eq_false Dz]at aF;have aL:=Aa aF;clear aF Dz aB;go_wp2_with (go_at_call 19;refine aL.o.mono ?_;rintro e w6⟨rfl,n6,aE⟩;have aI:=Aa (show Ex wc w6 from by rw[aE];exact(Ex.refl _).drewN n6);clear aE)
        go_ret;exact⟨Ft bh,aG.o.trans (aA.o.trans (aC.o.trans aI.o))⟩
      .have aW:(p !=t)=true:=by simpa using hpt
       have HN:=Aa (aO.o (by
        rw[aJ.o,aK.o];intro e;injection e with e;have e1:=aT.o;have e2:=aU.o;exact hpt (by rw[<-e1,<-e2,e])))
       clear hpt;go_wp2_with fail
       go_ret;exact⟨Ft bh,aG.o.trans (aA.o.trans aC.o)⟩
    .obtain rfl:j=L.length:=by omega
     have HR:=Aa (show L=K from Qn aV.o aB.o);go_wp2_with fail
     go_ret;exact⟨RW (by first|exact HR.o|exact⟨trivial,HR.o⟩|exact⟨rfl,HR.o⟩),aG.o.trans aA.o⟩
  .have aX:((L.length:Int) !=(K.length:Int))=true:=by simp;omega
   have HN:=Aa (show ¬L=K from fun e=>hlen cj);clear hlen;go_enter Tryz.func26,Tryz.ntmps26
   go_wp2_with fail
   go_ret;exact⟨Ft bh,aG.o⟩
 .have aZ:(d1 !=d2)=true:=by simpa using hd
  have HN:=Aa (show ¬(d1=d2/\L=K) from fun ⟨e,_⟩=>hd e);clear hd;go_enter Tryz.func26,Tryz.ntmps26
  go_wp2_with fail
  go_ret;exact⟨Ft HN.o,aG.o⟩
theorem IL(w:World)(l:List Int)(cs:Array Value)(t:TypeId)(h:(Al l).toArray=cs){B n:Nat}(hB:w.heap.size=B)(hn:l.length=n)(hl:l.length<=1000):Aj (w.alloc (.cells cs t)) (.slice (some ⟨B,0,none⟩) n n) l:=by
 subst hB hn;subst h;exact TD w l t hl
theorem Qi(w:World)(rows:List (List Int))(us:List Value)(cs:Array Value)(t:TypeId)(hc:us.toArray=cs)(hl:us.length=rows.length)(h:∀(i:Nat) (r:List Int) (u:Value),rows[i]?=some r->us[i]?=some u->Aj w u r){B n:Nat}(hB:w.heap.size=B)(hn:rows.length=n)(hl2:rows.length<=1000):
  BT (w.alloc (.cells cs t)) (.slice (some ⟨B,0,none⟩) n n) rows:=by
 subst hB hn hc;refine⟨us,⟨by rw[hl,Nat.mul_one],some ⟨w.heap.size,0,none⟩,rows.length,rfl,Nat.le_refl _,by unfold maxLen;omega,fun _=>⟨_,0,rfl,fun j u hu=>?_⟩⟩,fun i r u a b=>(h i r u a b).ex (AE _ _)⟩;rw[Nat.zero_add];simpa using hu
theorem WG{w:World}{l1:List Int}{u1:Value}(h1:Aj w u1 l1):∀(i:Nat) (r:List Int) (u:Value), [l1][i]?=some r-> [u1][i]?=some u->Aj w u r:=fun i r u a b=>by
 match i,a,b with
 | 0,a,b=>simp at a b;subst a b;exact h1
 | i+1,a,b=>simp at a
theorem SH{w:World}{l1 l2:List Int}{u1 u2:Value}(h1:Aj w u1 l1)(h2:Aj w u2 l2):∀(i:Nat) (r:List Int) (u:Value), [l1,l2][i]?=some r-> [u1,u2][i]?=some u->Aj w u r:=fun i r u a b=>by
 match i,a,b with
 | 0,a,b=>simp at a b;subst a b;exact h1
 | 1,a,b=>simp at a b;subst a b;exact h2
 | i+2,a,b=>simp at a
def Fy(w:World)(b:Nat)(vs:List Value):Prop:=∀i v,vs[i]?=some v->w.cell? ⟨b,i,none⟩=some v
theorem Fy.ex{w w':World}{b:Nat}{vs:List Value}(h:Fy w b vs)(hx:Ex w w'):Fy w' b vs:=fun i v a=>hx.cell (h i v a)
theorem YI(w:World)(pv sv:Value)(hp:Aj w pv [1,0])(hs:Aj w sv [2,1]):
  Calls Tryz.prog 15 #[.agg #[.int .i64 3,.int .i64 1,.slice none 0 0],.agg #[pv,sv,.int .i64 0]] w fun r w'=>∃a c,r= .returned (.tuple #[.slice a 4 c,.int .i64 0])/\Aj w' (.slice a 4 c) [3,2,0,1]/\Ex w w':=
 (ER w 3 1 [] _ (AF w) _ _ pv sv hp hs 0).mono fun r w' ⟨⟨v,h1,h2⟩,hx⟩=>by
  rw[WL.1]at h1;rw[WL.2]at h2;obtain⟨a,c,rfl,_⟩:=h2.open;exact⟨a,c,h1,h2,hx⟩
theorem VL(w:World)(pv:Value)(hp:Aj w pv [3,2,0,1]):
  Calls Tryz.prog 17 #[.agg #[.int .i64 3,.int .i64 1,.slice none 0 0],.int .i64 2,pv] w fun r w'=>∃a c b d,r= .returned (.tuple #[.agg #[.slice a 2 c,.slice b 2 d,.int .i64 0],.int .i64 0])/\Aj w' (.slice a 2 c) [1,0]/\Aj w' (.slice b 2 d) [2,1]/\Ex w w':=
 (Wy w 3 1 [] _ (AF w) 2 ac _ pv hp).mono fun r w' ⟨⟨u,v,h1,hu,hv⟩,hx⟩=>by
  obtain⟨q1,q2,q3,q4⟩:=YS;rw[q1,q4]at h1;rw[q2]at hu;rw[q3]at hv;obtain⟨a,c,rfl,_⟩:=hu.open;obtain⟨b,d,rfl,_⟩:=hv.open;exact⟨a,c,b,d,h1,hu,hv,hx⟩
theorem zcu{P:Prop}(h:P:=by
 rw[hb]at h3 h4;obtain⟨a,c,rfl,_⟩:=h4.open;exact⟨a,c,h3,h4,hx⟩):P:=h
theorem YL(w:World)(v1:Value)(h1:BT w v1 [[1,1,0]]):
  Calls Tryz.prog 22 #[.agg #[.int .i64 2,.int .i64 1,.slice none 0 0,.int .i64 3,v1]] w fun r w'=>∃a c,r= .returned (.tuple #[.agg #[.int .i64 3,.slice a 1 c],.int .i64 0])/\D6 w' (.slice a 1 c) cL/\Ex w w':=
 (Ir w eC _ v1 ⟨AF w,h1⟩ Px WN).mono fun r w' ⟨⟨e0,ho,h⟩,hx⟩=>by
  obtain rfl:=Mq ho;rcases h with⟨h,_⟩|⟨_,v,h3,h4⟩
  .exact absurd Uh h
  .have hb:CU (JS eC:Int) (Ed eC.p.toNat eC.m.toNat eC.ml (Dj eC (AA eC)))=(⟨3,cL⟩,0):=Py;exact zcu
theorem Xx(w:World)(v1:Value)(h1:BT w v1 [[1,2]]):
  Calls Tryz.prog 22 #[.agg #[.int .i64 3,.int .i64 1,.slice none 0 0,.int .i64 2,v1]] w fun r w'=>∃a c,r= .returned (.tuple #[.agg #[.int .i64 4,.slice a 1 c],.int .i64 0])/\D6 w' (.slice a 1 c) tL/\Ex w w':=
 (Ir w eT _ v1 ⟨AF w,h1⟩ XN YW).mono fun r w' ⟨⟨e0,ho,h⟩,hx⟩=>by
  obtain rfl:=XO ho;rcases h with⟨h,_⟩|⟨_,v,h3,h4⟩
  .exact absurd YX h
  .have hb:CU (JS eT:Int) (Ed eT.p.toNat eT.m.toNat eT.ml (Dj eT (AA eT)))=(⟨4,tL⟩,0):=by
    have h:CU (JS eT:Int) (Ed eT.p.toNat eT.m.toNat eT.ml (Dj eT (AA eT)))=CU 4 (Ed 3 1 [] (Dj eT (AA eT))):=rfl;rw[h,Ue,Su]
   exact zcu
theorem YJ(w:World)(v1:Value)(h1:BT w v1 [[1,1,0]]):
  Calls Tryz.prog 24 #[.agg #[.int .i64 2,.int .i64 1,.slice none 0 0,.int .i64 3,v1]] w fun r w'=>∃a c,r= .returned (.tuple #[.slice a 2 c,.int .i64 0])/\BT w' (.slice a 2 c) [[0,1], [2]]/\Ex w w':=
 (Ki W9 w eC _ v1 ⟨AF w,h1⟩ Px).mono fun r w' ⟨⟨e0,ho,h⟩,hx⟩=>by
  obtain rfl:=Mq ho;rcases h with⟨h,_⟩|⟨_,v,h3,h4⟩
  .exact absurd Uh h
  .have hb:GG eC.n (Nr (Dj eC (AA eC)))=([[0,1], [2]],0):=by
    have h:GG eC.n (Nr (Dj eC (AA eC)))=GG 3 (Nr (Dj eC (AA eC))):=rfl;rw[h,XQ,Yc]
   exact zcu
theorem YM(w:World)(v1:Value)(h1:BT w v1 [[1,1,0]]):
  Calls Tryz.prog 32 #[.agg #[.int .i64 2,.int .i64 1,.slice none 0 0,.int .i64 3,v1]] w fun r w'=>∃a c b d,r= .returned (.tuple #[.agg #[.int .i64 3,.slice a 1 c,.slice b 2 d],.int .i64 0])/\D6 w' (.slice a 1 c) cL/\J7 w' (.slice b 2 d) eX/\Ex w w':=
 (Kt w eC _ v1 ⟨AF w,h1⟩ Px XP WN YT).mono fun r w' ⟨⟨e0,ho,h⟩,hx⟩=>by
  obtain rfl:=Mq ho;rcases h with⟨h,_⟩|⟨_,v,v',h3,h4,h5⟩
  .exact absurd YY h
  .rw[Py]at h3 h4;have h6:J7 w' v' eX:=h5;obtain⟨a,c,rfl,_⟩:=h4.open;obtain⟨b,d,rfl,_⟩:=h6.open;rw[Mp]at h3 h6;exact⟨a,c,b,d,h3,h4,h6,hx⟩
theorem VM(w:World)(v1 lv rv:Value)(h1:BT w v1 [[1,1,0]])(hl:D6 w lv cL)(hr:J7 w rv eX):
  Calls Tryz.prog 29 #[.agg #[.int .i64 2,.int .i64 1,.slice none 0 0,.int .i64 3,v1],.agg #[.int .i64 3,lv,rv]] w fun r w'=>∃a n c,r= .returned (.tuple #[.slice a n c,.int .i64 0])/\GU w' (.slice a n c) 2/\Ex w w':=
 (Oy w eC _ v1 ⟨AF w,h1⟩ 3 cL lv hl ae eX rv hr).mono fun r w' ⟨⟨e0,ho,h⟩,hx⟩=>by
  obtain rfl:=Mq ho;rcases h with⟨h,_⟩|⟨_,h,_⟩|⟨_,_,v,h3,h4⟩
  .exact absurd XR h
  .exact absurd Yb h
  .rw[X8]at h4;have h5:=h4;obtain⟨n,f,g1,g2,g3⟩:=h4;obtain⟨a,c,rfl,_⟩:=NL.open g3;exact⟨a,_,c,h3,h5,hx⟩
theorem Xv(w:World)(v:Value)(hv:D6 w v tL):Calls Tryz.prog 35 #[.agg #[.int .i64 4,v]] w fun r w'=>∃a n c,r= .returned (.tuple #[.slice a n c,.int .i64 0])/\GU w' (.slice a n c) 4/\Ex w w':=
 (Om w 4 tL v hv ae).mono fun r w' ⟨h1,h3⟩=>by
  rcases h1 with h1|⟨_,u,h1,h2⟩
  .exact absurd W7 h1.1
  .rw[W6]at h2;have h5:=h2;obtain⟨n,f,g1,g2,g3⟩:=h2;obtain⟨a,c,rfl,_⟩:=NL.open g3;exact⟨a,_,c,h1,h5,h3⟩
theorem NI(w:World)(v u:Value)(hv:D6 w v cL)(hu:D6 w u cL):Calls Tryz.prog 26 #[.agg #[.int .i64 3,v],.agg #[.int .i64 3,u]] w fun r w'=>r= .returned (.bool true)/\Ex w w':=
 (O0 w 3 3 cL cL v u hv hu).mono fun r w' ⟨⟨b,h1,h2⟩,h3⟩=>by
  rw[h2.2 ⟨rfl,rfl⟩]at h1;exact⟨h1,h3⟩
theorem TA(w:World)(x:Nat)(hx:x<=64)(v u:Value)(hv:GU w v x)(hu:GU w u x):Calls Tryz.prog 50 #[v,u] w fun r w'=>r= .returned (.int .i64 0)/\Ex w w':=
 (SU w x x v u hv hu (FA ac) (FA ac)).mono fun r w' ⟨⟨z,h1,h2⟩,h3⟩=>by
  rw[h2.2 rfl]at h1;exact⟨h1,by rw[h3];exact Ex.refl _⟩
theorem zcc{P:Prop}(h:P:=by
 rw[decide_eq_true rfl]at h1;exact⟨h1,by rw[h3];exact(Ex.refl w).drewN n⟩):P:=h
theorem Tz(w:World)(v u:Value)(l:List Int)(hv:Aj w v l)(hu:Aj w u l):Calls Tryz.prog 19 #[v,u] w fun r w'=>r= .returned (.bool true)/\Ex w w':=
 (CW w l l v u hv hu).mono fun r w' ⟨h1,n,h3⟩=>by
  exact zcc
theorem Xw(w:World)(v u:Value)(l:List (List Int))(hv:BT w v l)(hu:BT w u l):Calls Tryz.prog 27 #[v,u] w fun r w'=>r= .returned (.bool true)/\Ex w w':=
 (EO w l l v u hv hu).mono fun r w' ⟨h1,n,h3⟩=>by
  exact zcc
theorem YK(w:World)(pl sl:List Int)(pv sv qv tv:Value)(hp:Aj w pv pl)(hs:Aj w sv sl)(hq:Aj w qv pl)(ht:Aj w tv sl):
  Calls Tryz.prog 20 #[.agg #[pv,sv,.int .i64 0],.agg #[qv,tv,.int .i64 0]] w fun r w'=>r= .returned (.bool true)/\Ex w w':=
 (Oo w pl sl pl sl pv sv qv tv hp hs hq ht 0 0).mono fun r w' ⟨h,hx⟩=>by
  rw[decide_eq_true ⟨rfl,rfl,rfl⟩]at h;exact⟨h,hx⟩
theorem Qe(w:World)(x:Nat)(hx1:1<=x)(hx2:x<=64):GU (w.alloc (.cells #[.int .u32 x] 91)) (.slice (some ⟨w.heap.size,0,none⟩) 1 1) x:=
 ⟨1,fun _=>x,⟨fun _ _=>by show x<4294967296;omega,fun _ _=>by show x≠0;omega⟩,by show 0+x*1=x;omega,NL.mk (Nat.le_refl _) ai fun _=>⟨_,0,rfl,fun j hj=>by
  obtain rfl:j=0:=ac;simp⟩⟩
theorem YU:(∃x,eX[0]?=some x/\x.i=0/\x.j=2)/\∃x,eX[1]?=some x/\x.i=1/\x.j=2:=by
 have h:=WM;have hl:=Mp;constructor
 .refine⟨eX[0]'ac,List.getElem?_eq_getElem _,?_⟩;have:=congrArg (fun l=>l[0]?) h;simp only[List.getElem?_map,List.getElem?_eq_getElem (show 0<eX.length by omega)]at this;simpa[ZP]using this
 .refine⟨eX[1]'ac,List.getElem?_eq_getElem _,?_⟩;have:=congrArg (fun l=>l[1]?) h;simp only[List.getElem?_map,List.getElem?_eq_getElem (show 1<eX.length by omega)]at this;simpa[ZP]using this
theorem XL{w:World}{a:Option Addr}{c:Nat}(h:J7 w (.slice a 2 c) eX):∃X o,a=some ⟨X,o,none⟩/\w.cell? ⟨X,o,none⟩=some (.int .i64 0)/\w.cell? ⟨X,o+1,none⟩=some (.int .i64 2)/\w.cell? ⟨X,o+4,none⟩=some (.int .i64 1)/\w.cell? ⟨X,o+4+1,none⟩=some (.int .i64 2):=by
 obtain⟨a',c',e,_,_,h3⟩:=h.open;injection e with e1 _ _;subst e1;obtain⟨X,o,rfl,h4⟩:=h3 (by rw[Mp];omega);obtain⟨⟨x,x1,x2,x3⟩,⟨y,y1,y2,y3⟩⟩:=YU;obtain⟨_,f1,f2,_⟩:=h4 0 x x1;obtain⟨_,g1,g2,_⟩:=h4 1 y y1;rw[x2]at f1;rw[x3]at f2;rw[y2]at g1;rw[y3]at g2;exact⟨X,o,rfl,f1,f2,g1,g2⟩
def wL:World->List Obj->World
 | w, []=>w
 | w,o :: l=>wL (w.alloc o) l
theorem Lo:∀(l:List Obj) {w W:World} {B:Nat},wL w l=W->w.heap.size=B->Ex w W/\∀(j:Nat) (o:Obj),l[j]?=some o->W.heap[B+j]?=some o
 | [],w,W,B,h,hB=>⟨h ▸ Ex.refl w,fun j o hj=>by simp at hj⟩
 | o :: l,w,W,B,h,hB=>by
  obtain⟨h1,h2⟩:=Lo l (w:=w.alloc o) h (B:=B+1) (by simp[hB]);refine⟨(AE w o).trans h1,fun j o' hj=>?_⟩
  cases j with
  | zero=>simp at hj;subst hj;exact IR h1 (De hB)
  | succ j=>have:=h2 j o' (by simpa using hj);rwa[show B+(j+1)=B+1+j from ac]
theorem QW{W:World}{b:Nat}{t:TypeId}{xs:List Value}(h:W.heap[b]?=some (.cells xs.toArray t)){j:Nat}{u:Value}(hu:xs[j]?=some u):W.cell? ⟨b,j,none⟩=some u:=by
 unfold World.cell?;simp[h];simpa using hu
theorem Ht{W:World}{b:Nat}{t:TypeId}{xs:List Value}(h:W.heap[b]?=some (.cells xs.toArray t)):Fy W b xs:=fun i v a=>QW h a
theorem MF{w:World}{B:Nat}(cs:Array Value)(t:TypeId)(hB:w.heap.size=B):Fy (w.alloc (.cells cs t)) B cs.toList:=Ht (t:=t) (De hB)
theorem Sx{W:World}{b:Nat}{t:TypeId}(xs:List Value){n size:Nat}(h:W.heap[b]?=some (.cells xs.toArray t))(hx:xs.length=n*size)(hn:n<=1000):Sl W (.slice (some ⟨b,0,none⟩) n n) n size xs:=
 ⟨hx,some ⟨b,0,none⟩,n,rfl,Nat.le_refl _,by unfold maxLen;omega,fun _=>⟨b,0,rfl,fun j u hu=>by rw[Nat.zero_add];exact QW h hu⟩⟩
theorem Gp{W:World}{b:Nat}{t:TypeId}(l:List Int)(h:W.heap[b]?=some (.cells (Al l).toArray t))(hl:l.length<=1000:=by decide):Aj W (.slice (some ⟨b,0,none⟩) l.length l.length) l:=Sx _ h (by simp[Al]) hl
theorem Pg{W:World}{b:Nat}{t:TypeId}(rows:List (List Int)){us:List Value}(h:W.heap[b]?=some (.cells us.toArray t))(hr:∀(i:Nat) (r:List Int) (u:Value),rows[i]?=some r->us[i]?=some u->Aj W u r)(hu:us.length=rows.length:=by rfl)(hl:rows.length<=1000:=by decide):BT W (.slice (some ⟨b,0,none⟩) rows.length rows.length) rows:=
 ⟨us,Sx _ h ac hl,hr⟩
theorem Xu{W:World}{b:Nat}{t:TypeId}(l1:Lv){u1 r1:Value}(h:W.heap[b]?=some (.cells #[.int .i64 l1.pt,u1,r1] t))(h1:Aj W u1 l1.orb)(h2:BT W r1 l1.reps):D6 W (.slice (some ⟨b,0,none⟩) 1 1) [l1]:=
 ⟨[(u1,r1)],rfl,Sx _ h rfl ae,fun i l o a b=>by
  match i,a,b with
  | 0,a,b=>simp at a b;subst a b;exact⟨h1,h2⟩
  | i+1,a,b=>simp at a⟩
theorem Fy.o2{w:World}{b:Nat}{x y:Value}(h:Fy w b [x,y]):w.cell? ⟨b,0,none⟩=some x/\w.cell? ⟨b,1,none⟩=some y:=⟨h 0 _ rfl,h 1 _ rfl⟩
theorem Fy.o3{w:World}{b:Nat}{x y z:Value}(h:Fy w b [x,y,z]):w.cell? ⟨b,0,none⟩=some x/\w.cell? ⟨b,1,none⟩=some y/\w.cell? ⟨b,2,none⟩=some z:=⟨h 0 _ rfl,h 1 _ rfl,h 2 _ rfl⟩
theorem Fy.o5{w:World}{b:Nat}{x y z u v:Value}(h:Fy w b [x,y,z,u,v]):w.cell? ⟨b,0,none⟩=some x/\w.cell? ⟨b,1,none⟩=some y/\w.cell? ⟨b,2,none⟩=some z/\w.cell? ⟨b,3,none⟩=some u/\w.cell? ⟨b,4,none⟩=some v:=⟨h 0 _ rfl,h 1 _ rfl,h 2 _ rfl,h 3 _ rfl,h 4 _ rfl⟩
def WU(w:World)(P:World->Prop):Prop:=∀w',Ex w w'->P w'
theorem Kf{w w':World}{P:World->Prop}(h:Hia (WU w P))(hx:Ex w w'):Hia (WU w' P):=fun v hv=>h v (hx.trans hv)
theorem Rv{w:World}{P Q:World->Prop}(h:Hia (WU w P))(hq:∀v,Ex w v->Q v):Hia (WU w fun v=>Q v/\P v):=fun v hv=>⟨hq v hv,h v hv⟩
theorem Sd{w w':World}{P Q:World->Prop}(h:Hia (WU w P))(hx:Ex w w')(hq:∀v,Ex w' v->Q v):Hia (WU w' fun v=>Q v/\P v):=Rv (Kf h hx) hq
theorem at_{w:World}{P:World->Prop}(h:Hia (WU w P)):P w:=h w (Ex.refl w)
theorem RY(w:World):Calls Tryz.prog 13 #[] w fun r w'=>r= .returned (.bool true)/\Ex w w':=by
 have A:Hia (WU w fun v=>Ex w v):=fun v h=>h;go_enter Tryz.func13,Tryz.ntmps13
 go_upto_region 5 with fail
 generalize hW:World.alloc _ _=W;obtain⟨B,hB⟩:=nA w.heap.size;simp only[hB,Nat.add_assoc,Nat.reduceAdd]at hW ⊢;obtain⟨ew,H⟩:=Lo [_,_,_,_,_,_,_,_,_,_] hW hB;clear hW hB;have i1:=Gp [1,1,0] (H 1 _ rfl);have i2:=Pg [[1,1,0]] (H 2 _ rfl) (WG i1);have i4:=Gp [1,2] (H 4 _ rfl);have i5:=Pg [[1,2]] (H 5 _ rfl) (WG i4);have i7:=Gp [1,0] (H 7 _ rfl);have i8:=Gp [2,1] (H 8 _ rfl);replace A:=Kf A ew;replace A:=Rv A fun _ h=>i2.ex h;replace A:=Rv A fun _ h=>i5.ex h;replace A:=Rv A fun _ h=>i7.ex h;replace A:=Rv A fun _ h=>i8.ex h;replace A:=Rv A fun _ h=>(Ht (b:=B) (H 0 _ rfl)).ex h;replace A:=Rv A fun _ h=>(Ht (H 3 _ rfl)).ex h;replace A:=Rv A fun _ h=>(Ht (H 6 _ rfl)).ex h;replace A:=Rv A fun _ h=>(Ht (H 9 _ rfl)).ex h;clear ew H i1 i2 i4 i5 i7 i8;obtain⟨aS,aR,aQ⟩:=(at_ A).2.2.2.1.o3;obtain⟨aN,aM,aL⟩:=(at_ A).1.o3;go_wp2_with fail
 refine(YI _ _ _ (at_ A).2.2.2.2.2.1 (at_ A).2.2.2.2.1).mono ?_;rintro e w1⟨pa,pc,rfl,hp,bV⟩;clear aS aR aQ aN aM aL;replace A:=Sd A bV fun _ h=>hp.ex h;clear bV hp;obtain⟨aS,aR,aQ⟩:=(at_ A).2.2.2.2.1.o3;go_wp2_with fail
 refine(VL _ _ (IL _ [3,2,0,1] _ _ rfl rfl rfl ae)).mono ?_;rintro e w2⟨ma,mc,sa,sc,rfl,hm,hs,aX⟩;replace aX:=(AE _ _).trans aX;clear aS aR aQ;replace A:=Sd A aX fun _ h=>hm.ex h;replace A:=Rv A fun _ h=>hs.ex h;clear aX hm hs;obtain⟨C1,bB⟩:∃B,w2.heap.size=B:=⟨_,rfl⟩;replace A:=Sd A (AE _ _) fun _ h=>(MF #[.slice ma 2 mc,.slice sa 2 sc,.int .i64 0] 26 bB).ex h;go_upto_region 7 with fail
 try simp only[bB]
 clear bB;generalize World.alloc _ _=v2 at *;obtain⟨aE,aD,aC,aB,aA⟩:=(at_ A).2.2.2.2.2.2.1.o5;go_wp2_with fail
 refine(YL _ _ (at_ A).2.2.2.2.2.2.2.2.2.2.2.1).mono ?_;rintro e w3⟨ga,gc,rfl,hg,bU⟩;clear aE aD aC aB aA;replace A:=Sd A bU fun _ h=>hg.ex h;clear bU hg;obtain⟨C2,bA⟩:∃B,w3.heap.size=B:=⟨_,rfl⟩;replace A:=Sd A (AE _ _) fun _ h=>(MF #[.int .i64 3,.slice ga 1 gc] 43 bA).ex h;go_upto_region 8 with fail
 try simp only[bA]
 clear bA;generalize World.alloc _ _=v3 at *;obtain⟨aE,aD,aC,aB,aA⟩:=(at_ A).2.2.2.2.2.2.2.2.1.o5;go_wp2_with fail
 refine(YJ _ _ (at_ A).2.2.2.2.2.2.2.2.2.2.2.2.2.1).mono ?_;rintro e w4⟨oa,oc,rfl,ho,bT⟩;clear aE aD aC aB aA;replace A:=Sd A bT fun _ h=>ho.ex h;clear bT ho;obtain⟨aE,aD,aC,aB,aA⟩:=(at_ A).2.2.2.2.2.2.2.2.2.1.o5;go_wp2_with fail
 refine(YM _ _ (at_ A).2.2.2.2.2.2.2.2.2.2.2.2.2.2.1).mono ?_;rintro e w5⟨ya,yc,yb,yd,rfl,hy,hz,bS⟩;clear aE aD aC aB aA;replace A:=Sd A bS fun _ h=>hy.ex h;replace A:=Rv A fun _ h=>hz.ex h;clear bS hy hz;obtain⟨C3,aZ⟩:∃B,w5.heap.size=B:=⟨_,rfl⟩;replace A:=Sd A (AE _ _) fun _ h=>(MF #[.int .i64 3,.slice ya 1 yc,.slice yb 2 yd] 53 aZ).ex h;go_upto_region 10 with fail
 try simp only[aZ]
 clear aZ;generalize World.alloc _ _=v5 at *;obtain⟨aE,aD,aC,aB,aA⟩:=(at_ A).2.2.2.2.2.2.2.2.2.2.2.2.1.o5;obtain⟨aK,aJ,aI⟩:=(at_ A).1.o3;go_wp2_with fail
 refine(VM _ _ _ _ (at_ A).2.2.2.2.2.2.2.2.2.2.2.2.2.2.2.2.2.1 (at_ A).2.2.1 (at_ A).2.1).mono ?_;rintro e w6⟨na,nn,nc,rfl,hn,bR⟩;clear aE aD aC aB aA aK aJ aI;replace A:=Sd A bR fun _ h=>hn.ex h;clear bR hn;obtain⟨bN,bM,bL,bK,bJ⟩:=(at_ A).2.2.2.2.2.2.2.2.2.2.2.2.1.o5;go_wp2_with fail
 refine(Xx _ _ (at_ A).2.2.2.2.2.2.2.2.2.2.2.2.2.2.2.2.2.1).mono ?_;rintro e w7⟨ta,tc,rfl,ht,bQ⟩;clear bN bM bL bK bJ;replace A:=Sd A bQ fun _ h=>ht.ex h;clear bQ ht;obtain⟨C4,aY⟩:∃B,w7.heap.size=B:=⟨_,rfl⟩;replace A:=Sd A (AE _ _) fun _ h=>(MF #[.int .i64 4,.slice ta 1 tc] 43 aY).ex h;go_upto_region 12 with fail
 try simp only[aY]
 clear aY;generalize World.alloc _ _=v7 at *;obtain⟨bD,bC⟩:=(at_ A).1.o2;go_wp2_with fail
 refine(Xv _ _ (at_ A).2.1).mono ?_;rintro e w8⟨ua,un,uc,rfl,hu,bP⟩;clear bD bC;replace A:=Sd A bP fun _ h=>hu.ex h;clear bP hu;go_upto_region 16 with fail
 generalize hV:World.alloc _ _=V;obtain⟨D,hD⟩:∃B,w8.heap.size=B:=⟨_,rfl⟩;simp only[hD,Nat.add_assoc,Nat.reduceAdd]at hV ⊢;obtain⟨ew,H⟩:=Lo [_,_,_,_,_,_] hV hD;clear hV hD;have i0:=Gp (b:=D) [0,1] (H 0 _ rfl);have i1:=Gp [0,1,2] (H 1 _ rfl);have i2:=Gp [1,0,2] (H 2 _ rfl);have i3:=Pg [[0,1,2], [1,0,2]] (H 3 _ rfl) (SH i1 i2);have i4:D6 V _ cL:=Xu ⟨0, [0,1], [[0,1,2], [1,0,2]]⟩ (H 4 _ rfl) i0 i3;replace A:=Kf A ew;replace A:=Rv A fun _ h=>i4.ex h;replace A:=Rv A fun _ h=>(Ht (H 5 _ rfl)).ex h;clear ew H i0 i1 i2 i3 i4;go_wp2_with fail
 refine(Tz _ _ _ [3,2,0,1] ((at_ A).2.2.2.2.2.2.2.2.2.2.2.2.2.2.2.1.ex (AE _ _)) (IL _ [3,2,0,1] _ _ rfl rfl rfl ae)).mono ?_;rintro e w9⟨rfl,aW⟩;replace aW:=(AE _ _).trans aW;replace A:=Kf A aW;clear aW;obtain⟨bG,bF,bE⟩:=(at_ A).2.2.2.2.2.2.2.2.2.2.2.2.1.o3;obtain⟨aN,aM,aL⟩:=(at_ A).2.2.2.2.2.2.2.2.2.2.2.2.2.2.2.2.1.o3;go_wp2_with fail
 refine(YK _ [1,0] [2,1] _ _ _ _ (at_ A).2.2.2.2.2.2.2.2.2.2.2.2.2.2.1 (at_ A).2.2.2.2.2.2.2.2.2.2.2.2.2.1 (at_ A).2.2.2.2.2.2.2.2.2.2.2.2.2.2.2.2.2.2.2.2.2.1 (at_ A).2.2.2.2.2.2.2.2.2.2.2.2.2.2.2.2.2.2.2.2.1).mono ?_;rintro e w10⟨rfl,aV⟩;clear bG bF bE aN aM aL;replace A:=Kf A aV;clear aV;obtain⟨bI,bH⟩:=(at_ A).2.2.2.2.2.2.2.2.2.2.1.o2;obtain⟨aP,aO⟩:=(at_ A).1.o2;go_wp2_with fail
 refine(NI _ _ _ (at_ A).2.2.2.2.2.2.2.2.2.2.2.1 (at_ A).2.1).mono ?_;rintro e w11⟨rfl,aU⟩;clear bI bH aP aO;replace A:=Kf A aU;clear aU;go_wp2_with fail
 have hz:=(IL w11 [0,1] #[.int .i64 0,.int .i64 1] 3 rfl rfl rfl ae).ex (AE _ (.cells #[.int .i64 2] 3));have bO:=IL (w11.alloc (.cells #[.int .i64 0,.int .i64 1] 3)) [2] #[.int .i64 2] 3 rfl (B:=w11.heap.size+1) ag rfl ae;have bW:((w11.alloc (.cells #[.int .i64 0,.int .i64 1] 3)).alloc (.cells #[.int .i64 2] 3)).heap.size=w11.heap.size+1+1:=by simp
 refine(Xw _ _ _ [[0,1], [2]] ((at_ A).2.2.2.2.2.2.2.2.2.1.ex (((AE _ _).trans (AE _ _)).trans (AE _ _))) (Qi _ [[0,1], [2]] [.slice (some ⟨w11.heap.size,0,none⟩) 2 2,.slice (some ⟨w11.heap.size+1,0,none⟩) 1 1] _ _ rfl rfl (SH hz bO) bW rfl ae)).mono ?_;rintro e w12⟨rfl,aH⟩;replace aH:=(((AE _ _).trans (AE _ _)).trans (AE _ _)).trans aH;replace A:=Kf A aH;clear aH;clear hz bO bW;go_wp2_with fail
 refine(TA _ 2 ac _ _ ((at_ A).2.2.2.2.2.1.ex (AE _ _)) (Qe _ 2 ac ac)).mono ?_;rintro e w13⟨rfl,aG⟩;replace aG:=(AE _ _).trans aG;replace A:=Kf A aG;clear aG;go_wp2_with fail
 refine(TA _ 4 ac _ _ ((at_ A).2.2.1.ex (AE _ _)) (Qe _ 4 ac ac)).mono ?_;rintro e w14⟨rfl,aF⟩;replace aF:=(AE _ _).trans aF;replace A:=Kf A aF;clear aF;obtain⟨aK,aJ,aI⟩:=(at_ A).2.2.2.2.2.2.1.o3;obtain⟨aP,aO⟩:=(at_ A).1.o2;go_wp2_with fail
 refine(NI _ _ _ (at_ A).2.2.2.2.2.2.2.2.1 (at_ A).2.1).mono ?_;rintro e w15⟨rfl,aT⟩;clear aK aJ aI aP aO;replace A:=Kf A aT;clear aT;obtain⟨RX,ro,rfl,r0,r1,r2,r3⟩:=XL (at_ A).2.2.2.2.2.2.2.1;obtain⟨aK,aJ,aI⟩:=(at_ A).2.2.2.2.2.2.1.o3;go_wp2_with fail
 go_ret;exact⟨rfl,(at_ A).2.2.2.2.2.2.2.2.2.2.2.2.2.2.2.2.2.2.2.2.2.2.2.2⟩
end Go.Proofs.YtehieobniamagaaGreat
