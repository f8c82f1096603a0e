/- Walk of automorphism.Points (printed by gen_pts.py). -/
import Derived.Deep.RegionHeld3
import Derived.Deep.CutRange
import Derived.Test.YtehieobniamagaaGreatZp04
import Derived.Test.YtehieobniamagaaGreatZp06
import Derived.Test.YtehieobniamagaaGreatZp10
import Derived.Test.YtehieobniamagaaGreatZp11
import Derived.Test.YtehieobniamagaaGreatZp12
import Derived.Test.YtehieobniamagaaGreatZp14
import Derived.Test.YtehieobniamagaaGreatZp20
import Derived.Test.YtehieobniamagaaGreatZp23
import Derived.Test.YtehieobniamagaaGreatZp24
import Derived.Test.YtehieobniamagaaGreatZp25
namespace Go.Proofs.YtehieobniamagaaGreat
set_option linter.unusedVariables false
set_option linter.unusedSimpArgs false
set_option maxRecDepth 100000
set_option maxHeartbeats 8000000
section
open Go.RowKit
def O4(p m:Int)(ml pl sl:List Int)(fr:Int):Int:=
 if Ck p m ml pl.length pl sl fr≠0 then Ck p m ml pl.length pl sl fr else if fr≠0 then 5 else if 64<pl.length*(p.toNat^m.toNat-1) then 8 else 0
def Sg(p m:Int)(ml pl sl:List Int)(fr:Int):List Int:=if O4 p m ml pl sl fr=0 then Fu p.toNat m.toNat ml pl sl else []
def Z2(L:List Int)(e:Int)(r:Ending)(w':World):Prop:=∃v,r= .returned (.tuple #[v,.int .i64 e])/\Ak w' v L
theorem Fx{L L':List Int}{e e':Int}{v:Value}{w':World}(h1:L=L')(h2:e=e')(h:Ak w' v L):Z2 L' e' (.returned (.tuple #[v,.int .i64 e])) w':=by subst h1 h2;exact⟨v,rfl,h⟩
theorem zau{P:Prop}(h:P:=by
 refine Bl.on rfl fun L a w aB aA hd hx K hK=>?_;have Y8:=aB 6 31 _ (hd ⟨6,.data⟩ (by simp) rfl) rfl rfl;clear aB aA hd;go_simp;exact hK _ (Ex.refl w)):P:=h
theorem el{P:Prop}(h:P:=by rw[HR.o];decide):P:=h
theorem J8(w:World)(p m:Int)(ml:List Int)(mv:Value)(aM:Ak w mv ml)(pl sl:List Int)(pv sv:Value)(hp:Ak w pv pl)(hs:Ak w sv sl)(fr:Int):
  Calls Tryz.prog 15 #[.agg #[.int .i64 p,.int .i64 m,mv],.agg #[pv,sv,.int .i64 fr]] w fun r w'=>Z2 (Sg p m ml pl sl fr) (O4 p m ml pl sl fr) r w'/\Ex w w':=by
 obtain⟨a0,a1,a2,ea⟩:=B3 w p m mv;obtain⟨b0,b1,b2,eb⟩:=Az (w.alloc (.cells #[.int .i64 p,.int .i64 m,mv] 24)) pv sv fr;replace a0:=eb.cell a0;replace a1:=eb.cell a1;replace a2:=eb.cell a2;have HE:=Aa (ea.trans eb);have bD:=Aa (aM.ex HE.o);have HP:=Aa (hp.ex HE.o);have HS:=Aa (hs.ex HE.o);obtain⟨ma,mc,rfl,_,_,_⟩:=aM.open;obtain⟨pa,pc,rfl,_,z2,_⟩:=hp.open;obtain⟨sa,sc,rfl,_,_,_⟩:=hs.open;unfold maxLen at z2;have aY:(w.alloc (.cells #[.int .i64 p,.int .i64 m,.slice ma ml.length mc] 24)).heap.size=w.heap.size+1:=ag;rw[aY]at b0 b1 b2;obtain⟨B,hB⟩:=nA w.heap.size;rw[hB]at a0 a1 a2 b0 b1 b2;obtain⟨E,hE⟩:=nA (Ck p m ml pl.length pl sl fr);have bL:=Aa hE;have aC:=Aa (show O4 p m ml pl sl fr=if E≠0 then E else if fr≠0 then 5 else if 64<pl.length*(p.toNat^m.toNat-1) then 8 else 0 from by unfold O4;rw[hE]);have aE:=Aa (show Sg p m ml pl sl fr=if O4 p m ml pl sl fr=0 then Fu p.toNat m.toNat ml pl sl else [] from rfl);have bE:=Aa (fun (h:E=0)=>Hj (hE.trans h));obtain⟨PE,aX⟩:∃x,O4 p m ml pl sl fr=x:=⟨_,rfl⟩;obtain⟨PL,aW⟩:∃x,Sg p m ml pl sl fr=x:=⟨_,rfl⟩;rw[aX]at aC aE ⊢;rw[aW]at aE ⊢;have aS:=Aa (fun w1 (h:Ex ((w.alloc (.cells #[.int .i64 p,.int .i64 m,.slice ma ml.length mc] 24)).alloc (.cells #[.slice pa pl.length pc,.slice sa sl.length sc,.int .i64 fr] 26)) w1)=>Pw w1 p m ml _ (bD.o.ex h) pl.length pl sl _ _ (HP.o.ex h) (HS.o.ex h) fr);rw[hE]at aS;clear hE aX aW aM hp hs aY ea eb;have aZ:=Aa b0;go_enter Tryz.func15,Tryz.ntmps15
 go_upto_region 1 with fail
 try simp only[hB]
 clear hB;generalize (w.alloc (.cells #[.int .i64 p,.int .i64 m,.slice ma ml.length mc] 24)).alloc (.cells #[.slice pa pl.length pc,.slice sa sl.length sc,.int .i64 fr] 26)=w1 at *;go_wp2_with fail
 refine(aS.o w1 (Ex.refl _)).mono ?_;rintro e w2⟨rfl,aD⟩;have aK:=Aa aD;replace a0:=aD.cell a0;replace a1:=aD.cell a1;replace a2:=aD.cell a2;replace b0:=aD.cell b0;replace b1:=aD.cell b1;replace b2:=aD.cell b2;clear aD;by_cases h0:E=0
 rotate_left
 .have hb:(E !=0)=true:=by simpa using h0
  have HR:=Aa (show PE=E from by rw[aC.o,if_pos h0]);have aF:=Aa (show PL= [] from by rw[aE.o,if_neg (by rw[HR.o];exact h0)]);clear h0;go_wp2_with fail
  go_ret2;exact⟨Fx aF.o.symm HR.o.symm (AW _),HE.o.trans aK.o⟩
 .obtain⟨n1,n2,n3,n4,n5,n6,n7,n8,n9,bF⟩:=bE.o h0;subst h0;by_cases hf:fr=0
  rotate_left
  .have hb:(fr !=0)=true:=by simpa using hf
   have HR:=Aa (show PE=5 from by rw[aC.o,if_neg ag,if_pos hf]);have aF:=Aa (show PL= [] from by rw[aE.o,if_neg el]);clear hf;go_wp2_with fail
   go_ret2;exact⟨Fx aF.o.symm HR.o.symm (AW _),HE.o.trans aK.o⟩
  .subst hf;have bC:=Aa (E4 p m ml _ w2 (bD.o.ex aK.o));have bJ:=Aa (show sl.length=pl.length from ac);have aR:=Aa (show pl.length<=64 from ac);go_wp2_with fail
   refine bC.o.mono ?_;rintro e w3⟨bH,aH⟩;rcases bH with⟨pn,mn,x0,gb,rfl,rfl,rfl,hg,x1,x2⟩|⟨hbad,-⟩
   rotate_left
   .exact absurd ((BH p m ml).1 n1) hbad
   have aJ:=Aa (aK.o.trans aH);replace b0:=aH.cell b0;replace b1:=aH.cell b1;replace b2:=aH.cell b2;have aZ:=Aa b0;have HG:=Aa hg;replace aC:=Aa (show PE=if ((0:Int)≠0) then(0:Int) else if ((0:Int)≠0) then 5 else if 64<pl.length*(pn^mn-1) then 8 else 0 from aC.o);replace aE:=Aa (show PL=if PE=0 then Fu pn mn ml pl sl else [] from aE.o);have bG:2<=pn^mn:=Nat.le_trans hg.sh.p2 (Nat.le_self_pow (by have:=hg.sh.m1;omega) pn);have aU:=hg.sh.q;have aI:=aR.o;have aQ:=Aa (fun (w5:World) (h5:Ex w3 w5) (hd:pl.length*(pn^mn-1)<=64)=>Pb w5 (HG.o.ex h5) pl.length aI pl sl _ _ (HP.o.ex (aJ.o.trans h5)) (HS.o.ex (aJ.o.trans h5)) rfl bJ.o n6 hd 0);have bB:=Aa (fun (w5:World) (h5:Ex w3 w5)=>BR w5 (HG.o.ex h5));have aL:=Aa (fun (w5:World)=>Gj w5 pl.length (pn^mn) aI ac aU);obtain⟨q,hq⟩:=nA (pn^mn);have aP:=Aa (show Fu pn mn ml pl sl=il (pl.length*(pn^mn-1)) (Jt pn mn ml pl sl) from rfl);rw[hq]at aC aQ bB aL aP bG aU;obtain⟨D,hD⟩:=nA (pl.length*(q-1));rw[hD]at aC aQ aL aP;obtain⟨T0,aV⟩:∃z,((if 64<D then 0 else D:Nat):Int)=z:=⟨_,rfl⟩;obtain⟨T1,aN⟩:∃z,(if 64<D then(8:Int) else 0)=z:=⟨_,rfl⟩;rw[aV,aN]at aL;have bA:=Aa aN;clear aV aN hD hq aH hg x1 x2 n1 n2 n3 n4 n5 n6 n7 n8 n9 bF bC bE bL aS;go_wp2_with fail
   go_upto_region 9 with fail
   refine BA (fun k=>([.pointer (some ⟨B+1,0,none⟩),.slice pa pl.length pc,.int .i64 (pl.length:Int),.pointer (some ⟨gb,0,none⟩),.int .i64 (q:Int),.tuple #[.int .i64 T0,.int .i64 T1],.tuple #[.int .i64 T0,.int .i64 T1],.int .i64 T0,.int .i64 T1,.int .i64 T0,.int .i64 T1]:List Value).getD k undef) ah ah ah ?_ ?_
   .simp only[AC];refine⟨?_,?_,?_,?_,?_,?_,?_,?_,?_,?_,?_,trivial⟩
    .refine Bl.on rfl fun L a w aB aA hd hx K hK=>?_;have e3:a.tmps[3]?=some (.pointer (some ⟨B+1,0,none⟩)):=aA 3 ah;clear aB aA hd;go_simp;exact hK _ (Ex.refl w)
    .refine Bl.on rfl fun L a w aB aA hd hx K hK=>?_;have e32:=aB 0 32 _ (hd ⟨0,.data⟩ ag rfl) rfl rfl;have c1:=hx.cell aZ.o;clear aB aA hd;go_simp;exact hK _ (Ex.refl w)
    .refine Bl.on rfl fun L a w aB aA hd hx K hK=>?_;have e33:=aB 1 33 _ (hd ⟨1,.data⟩ ag rfl) rfl rfl;clear aB aA hd;go_simp;exact hK _ (Ex.refl w)
    .refine Bl.on rfl fun L a w aB aA hd hx K hK=>?_;have e7:a.tmps[7]?=some (.pointer (some ⟨gb,0,none⟩)):=aA 7 ah;clear aB aA hd;go_simp;exact hK _ (Ex.refl w)
    .refine Bl.on rfl fun L a w aB aA hd hx K hK=>?_;have e35:=aB 3 35 _ (hd ⟨3,.data⟩ ag rfl) rfl rfl;clear aB aA hd;go_simp;refine(bB.o _ hx).mono ?_;rintro e w5⟨rfl,rfl⟩;exact hK _ (Ex.refl _)
    .refine Bl.on rfl fun L a w aB aA hd hx K hK=>?_;have e34:=aB 2 34 _ (hd ⟨2,.data⟩ ag rfl) rfl rfl;have e36:=aB 4 36 _ (hd ⟨4,.data⟩ ag rfl) rfl rfl;clear aB aA hd;go_simp;refine(aL.o _).mono ?_;rintro e w5⟨rfl,rfl⟩;exact hK _ (Ex.refl _)
    .refine Bl.on rfl fun L a w aB aA hd hx K hK=>?_;have e37:=aB 5 37 _ (hd ⟨5,.data⟩ ag rfl) rfl rfl;clear aB aA hd;go_simp;exact hK _ (Ex.refl w)
    .exact zau
    .exact zau
    .refine Bl.on rfl fun L a w aB aA hd hx K hK=>?_;have e38:=aB 7 38 _ (hd ⟨7,.data⟩ ag rfl) rfl rfl;clear aB aA hd;go_simp;exact hK _ (Ex.refl w)
    .refine Bl.on rfl fun L a w aB aA hd hx K hK=>?_;have e39:=aB 8 39 _ (hd ⟨8,.data⟩ ag rfl) rfl rfl;clear aB aA hd;go_simp;exact hK _ (Ex.refl w)
   .intro w5 aG;simp only[BU,Act.put,List.setIfInBounds_toArray,List.set_cons_zero,List.set_cons_succ];have aO:=Aa aG;replace b0:=aG.cell b0;replace b1:=aG.cell b1;replace b2:=aG.cell b2;clear aG;by_cases hD:64<D
    .have hT:T1=8:=by rw[<-bA.o,if_pos hD]
     subst hT;have HR:=Aa (show PE=8 from by rw[aC.o,if_neg ag,if_neg ag,if_pos hD]);have aF:=Aa (show PL= [] from by rw[aE.o,if_neg el]);clear hD;go_wp2_with fail
     go_ret2;exact⟨Fx aF.o.symm HR.o.symm (AW _),HE.o.trans (aJ.o.trans aO.o)⟩
    .have hT:T1=0:=by rw[<-bA.o,if_neg hD]
     subst hT;have HR:=Aa (show PE=0 from by rw[aC.o,if_neg ag,if_neg ag,if_neg hD]);have aF:=Aa (show PL=Fu pn mn ml pl sl from by rw[aE.o,if_pos HR.o]);have bK:=Aa (aQ.o w5 aO.o ac);clear hD;go_wp2_with fail
     refine bK.o.mono ?_;rintro e w6⟨v,rfl,hv,aT⟩;have HV:=Aa (show Ak w6 v PL from by rw[aF.o,aP.o];unfold Ak;rw[Aj,Ch];exact Sl.own hv);have bI:=Aa (aO.o.trans aT);obtain⟨va,vc,rfl⟩:=Ac hv;clear hv aT;go_wp2_with fail
     go_ret2;exact⟨Fx rfl HR.o.symm HV.o,HE.o.trans (aJ.o.trans bI.o)⟩
end
section
open Go.RowKit
end
section
open Go.RowKit
def Kk(n:Int):Int:=if n<1∨64<n then 4 else 0
def AU(l:List Int):Int:=if (l.length:Int)<1∨64<(l.length:Int) then 4 else if (∃x∈l,x<0∨(l.length:Int)<=x) then 6 else if l.Nodup then 0 else 18
def PD(n:Int)(rows:List (List Int)):Int:=match rows.find? (fun r=>AU r !=0) with
 | some r=>AU r
 | none=>if (∃r∈rows,(r.length:Int)≠n) then 10 else 0
def DK(n:Int)(rows:List (List Int)):Int:=if n<1∨64<n then 4 else PD n rows
theorem UA{n:Int}{rows:List (List Int)}{i:Nat}{r:List Int}(hr:rows[i]?=some r)(h:AU r≠0)(ha:∀(j:Nat) (s:List Int),j<i->rows[j]?=some s->AU s=0):PD n rows=AU r:=by
 have:rows.find? (fun r=>AU r !=0)=some r:=by
  rw[List.find?_eq_some_iff_getElem];obtain⟨hi,e⟩:=List.getElem?_eq_some_iff.1 hr;refine⟨by simpa using h,i,hi,e,fun j hj=>?_⟩;have:=ha j _ hj (List.getElem?_eq_getElem ac);simp[this]
 unfold PD;rw[this]
theorem Lk{n:Int}{rows:List (List Int)}(ha:∀(j:Nat) (s:List Int),rows[j]?=some s->AU s=0):PD n rows=if (∃r∈rows,(r.length:Int)≠n) then 10 else 0:=by
 have:rows.find? (fun r=>AU r !=0)=none:=by
  rw[List.find?_eq_none];intro r hr;obtain⟨j,hj,e⟩:=List.getElem_of_mem hr;have:=ha j r au;simp[this]
 unfold PD;rw[this]
theorem Cd{l:List Int}:l.Nodup↔∀i j,j<i->i<l.length->l[i]?≠l[j]?:=by
 rw[List.nodup_iff_pairwise_ne,List.pairwise_iff_getElem];constructor
 .intro h i j hj hi e;rw[List.getElem?_eq_getElem hi,List.getElem?_eq_getElem ac]at e;injection e with e;exact h j i ac hi hj e.symm
 .intro h i j hi hj aA e;exact h j i aA hj (by rw[List.getElem?_eq_getElem hi,List.getElem?_eq_getElem hj,e])
theorem dz{P:Prop}(h:P:=by rw[List.getElem?_eq_getElem hi,List.getElem?_eq_getElem hj,e2]):P:=h
theorem IF{l:List Int}(h:AU l=0):∃n f,1<=n/\n<=64/\l.length=n/\Bj n f/\l=li n f:=by
 unfold AU at h;split at h
 .cases h
 .split at h
  .cases h
  .split at h
   .rename_i h1 h2 h3;have hr:∀i,i<l.length->0<=l.getD i 0/\l.getD i 0<l.length:=fun i hi=>by
     rw[List.getD_eq_getElem?_getD,List.getElem?_eq_getElem hi];show 0<=l[i]/\l[i]<(l.length:Int)
     have hm:=List.getElem_mem hi;apply Classical.byContradiction;intro hn;exact h2 ⟨_,hm,ac⟩
    refine⟨l.length,fun i=>if i<l.length then(l.getD i 0).toNat else i,ac,ac,rfl,?_,?_⟩
    .refine Bj.of_inj (fun i hi=>?_) (fun i hi=>if_neg ac) (fun i j hi hj e=>?_)
     .rw[if_pos hi];have:=hr i hi;omega
     .rw[if_pos hi,if_pos hj]at e;have h4:=hr i hi;have h5:=hr j hj;have e2:l.getD i 0=l.getD j 0:=by omega
      rw[List.getD_eq_getElem?_getD,List.getD_eq_getElem?_getD,List.getElem?_eq_getElem hi,List.getElem?_eq_getElem hj]at e2;have e2:l[i]=l[j]:=e2;apply Classical.byContradiction;intro aA;rcases Nat.lt_or_gt_of_ne aA with hij|hij
      .exact Cd.1 h3 j i hij hj dz
      .exact Cd.1 h3 i j hij hi dz
    .apply List.ext_getElem?;intro i;by_cases hi:i<l.length
     .rw[CY hi,if_pos hi];have:=hr i hi;rw[List.getD_eq_getElem?_getD,List.getElem?_eq_getElem hi]at *;have this:0<=l[i]/\l[i]<(l.length:Int):=this;show some l[i]=some ((l[i].toNat:Nat):Int)
      congr 1;omega
     .rw[List.getElem?_eq_none ac,List.getElem?_eq_none (by rw[Em];omega)]
   .cases h
theorem Vv{n:Nat}{f:Nat->Nat}(h1:1<=n)(h2:n<=64)(hf:Bj n f):AU (li n f)=0:=by
 unfold AU;rw[Em,if_neg ac,if_neg,if_pos]
 .rw[Cd];intro i j hj hi e;rw[Em]at hi;rw[CY hi,CY ac]at e;injection e with e;have:=hf.inj i j ac;omega
 .rintro⟨x,hx,h⟩;unfold li at hx;obtain⟨j,hj,rfl⟩:=S6 hx;have:=hf.lt j hj;omega
theorem IW{n:Int}{rows:List (List Int)}(h:DK n rows=0):∃N:Nat,n=N/\1<=N/\N<=64/\∃S:List (Nat->Nat),rows=S.map (li N)/\∀s∈S,Bj N s:=by
 unfold DK at h;split at h
 .cases h
 .rename_i hn;obtain⟨N,rfl⟩:∃N:Nat,n=N:=⟨n.toNat,ac⟩;refine⟨N,rfl,ac,ac,?_⟩;unfold PD at h;split at h
  .rename_i r hr;have:=List.find?_some hr;simp[h]at this
  .rename_i hr;split at h
   .cases h
   .rename_i hl;have aA:∀r∈rows,∃f,Bj N f/\r=li N f:=fun r hm=>by
     have h1:=List.find?_eq_none.1 hr r hm;obtain⟨m,f,_,_,h3,h4,h5⟩:=IF cz;have hm:m=N:=by
      have:¬(r.length:Int)≠N:=fun h6=>hl ⟨r,hm,h6⟩;omega
     subst hm;exact⟨f,h4,h5⟩
    clear hr hl h hn
    induction rows with
    | nil=>exact⟨[],rfl,fun s hs=>by cases hs⟩
    | cons r rs ih=>
     obtain⟨f,hf,rfl⟩:=aA r (List.mem_cons_self ..);obtain⟨S,e,hS⟩:=ih fun r hr=>aA r (List.mem_cons_of_mem _ hr);exact⟨f :: S,by rw[e];rfl,fun s hs=>by
      rcases List.mem_cons.1 hs with h|h
      .rw[h];exact hf
      .exact hS s h⟩
theorem Wc{N:Nat}{S:List (Nat->Nat)}(h1:1<=N)(h2:N<=64)(hS:∀s∈S,Bj N s):DK N (S.map (li N))=0:=by
 unfold DK;rw[if_neg ac,Lk,if_neg]
 .rintro⟨r,hr,h⟩;obtain⟨s,hs,rfl⟩:=List.mem_map.1 hr;rw[Em]at h;exact h rfl
 .intro j s hs;obtain⟨s',h3,rfl⟩:=List.mem_map.1 (List.mem_of_getElem? hs);exact Vv h1 h2 (hS s' h3)
theorem zbG{P:Prop}(h:P:=by
 go_enter Tryz.func115,Tryz.ntmps115
 go_wp2_with fail
 go_ret;exact⟨rfl,rfl⟩):P:=h
theorem Gt(w:World)(n:Int):
  Calls Tryz.prog 115 #[.int .i64 n] w fun r w'=>r= .returned (.int .i64 (Kk n))/\w=w':=by
 unfold Kk;by_cases h1:n<1
 .rw[if_pos (.inl h1)];exact zbG
 .by_cases h2:64<n
  .rw[if_pos (.inr h2)];exact zbG
  .rw[if_neg ac];exact zbG
theorem zbF{P:Prop}(h:P:=by
 go_enter Tryz.func117,Tryz.ntmps117
 go_wp2_with fail
 go_ret;exact⟨rfl,0,rfl⟩):P:=h
theorem PZ(w:World)(B:Nat)(x:Int)(a:Option Addr)(n cap:Nat)(c0:w.cell? ⟨B,0,none⟩=some (.slice a n cap)):
  Calls Tryz.prog 117 #[.int .i64 x,.pointer (some ⟨B,0,none⟩)] w fun r w'=>r= .returned (.bool (decide (x<0∨(n:Int)<=x)))/\∃q,w'=w.drewN q:=by
 by_cases h1:x<0
 .rw[decide_eq_true (.inl h1)];exact zbF
 .by_cases h2:(n:Int)<=x
  .rw[decide_eq_true (.inr h2)];exact zbF
  .rw[decide_eq_false ac];exact zbF
theorem zaE{P:Prop}(h:P:=by
 rintro⟨i,hi,h⟩;rw[List.getD_eq_getElem?_getD,List.getElem?_eq_getElem hi]at h;exact⟨_,List.getElem_mem hi,h⟩):P:=h
theorem Lr(w:World)(l:List Int)(v:Value)(hl:Ak w v l):
  Calls Tryz.prog 57 #[v] w fun r w'=>r= .returned (.int .i64 (AU l))/\Ex w w':=by
 have HL:=Aa hl;obtain⟨a,cap,rfl,s1,s2,s3⟩:=hl.open;unfold maxLen at s2;have e0:Ex w (w.alloc (.cells #[.slice a l.length cap] 22)):=(Ex.refl _).alloc _;have c0:(w.alloc (.cells #[.slice a l.length cap] 22)).cell? ⟨w.heap.size,0,none⟩=some (.slice a l.length cap):=ag;have S3:=Aa (hl.ex e0).open;clear s3 hl;go_enter Tryz.func57,Tryz.ntmps57
 go_wp2_with fail
 generalize w.alloc (.cells #[.slice a l.length cap] 22)=w1 at *;refine(Gt w1 l.length).mono ?_;rintro e w2⟨rfl,rfl⟩;by_cases hd:(l.length:Int)<1∨64<(l.length:Int)
 .have hz:Kk l.length=4:=if_pos hd;have HP:=Aa (show AU l=4 from if_pos hd);rw[hz];clear hd hz;go_wp2_with fail
  go_ret;exact⟨Af HP.o.symm,e0⟩
 .have hz:Kk l.length=0:=if_neg hd;rw[hz];have aH:=Aa (show 1<=l.length/\l.length<=64 from ac);have aC:=Aa (Hw w1 (.pointer (some ⟨w.heap.size,0,none⟩)) (.slice a l.length cap) l.length (Am l) (HL.o.ex e0) (fun i=>decide (l.getD i 0<0∨(l.length:Int)<=l.getD i 0)) fun q i u hu=>by
   obtain⟨x,hx,rfl⟩:∃x,l[i]?=some x/\u= .int .i64 x:=by
    simp only[Am,List.getElem?_map]at hu;obtain⟨x,h1,h2⟩:=Option.map_eq_some_iff.1 hu;exact⟨x,h1,h2.symm⟩
   have hd:l.getD i 0=x:=by rw[List.getD_eq_getElem?_getD,hx];rfl
   rw[hd];exact PZ _ w.heap.size x a l.length cap (((Ex.refl w1).drewN q).cell c0))
  have aN:=Aa (show((List.range l.length).any fun i=>decide (l.getD i 0<0∨(l.length:Int)<=l.getD i 0))=decide (∃x∈l,x<0∨(l.length:Int)<=x) from by
   rw[Bool.eq_iff_iff];simp only[List.any_eq_true,List.mem_range,decide_eq_true_eq];constructor
   .exact zaE
   .rintro⟨x,hx,h⟩;obtain⟨i,hi,rfl⟩:=List.getElem_of_mem hx;exact⟨i,hi,by rw[List.getD_eq_getElem?_getD,List.getElem?_eq_getElem hi];exact h⟩)
  rw[aN.o]at aC;clear aN hd hz;by_cases ho:∃x∈l,x<0∨(l.length:Int)<=x
  .have HP:=Aa (show AU l=6 from by unfold AU;rw[if_neg (by have:=aH.o;omega),if_pos ho]);rw[decide_eq_true ho]at aC;clear ho;go_wp2_with (go_at_call 116;refine aC.o.mono ?_;rintro e w'⟨rfl,q,rfl⟩)
   go_ret;exact⟨Af HP.o.symm,e0.drewN _⟩
  .rw[decide_eq_false ho]at aC;have aQ:=Aa (show ∀(i:Nat) (x:Int),l[i]?=some x->0<=x/\x<l.length from fun i x h=>by
    apply Classical.byContradiction;intro hn;exact ho ⟨x,List.mem_of_getElem? h,ac⟩)
   have aK:=Aa (show AU l=if l.Nodup then 0 else 18 from by unfold AU;rw[if_neg (by have:=aH.o;omega),if_neg ho]);have HE:=Aa e0;have hl64:=aH.o.2;clear ho e0;go_wp2_with (first|(go_at_call 116;refine aC.o.mono ?_;rintro e w'⟨rfl,q,rfl⟩;have c0:=((Ex.refl w1).drewN q).cell c0)|(at_make;refine Ap _ rfl _ _ 168 rfl 4 (.bool false) 1 Tryz.underlying168 JF rfl _ l.length rfl rfl rfl ac ai ?_))
   intro w3 aA aF;have aJ:=Aa (((Ex.refl w1).drewN q).trans aF);have c0:=aF.cell c0;obtain⟨g,aG⟩:=nA w1.heap.size;rw[aG]at aA ⊢;have aP:=Aa (show w1.heap.size<=g from by rw[<-aG];exact Nat.le_refl _);have aL:=Aa (show AG w3 g 4 g l.length (bv fun x=>decide ((x:Int)∈l.take 0)) from aA.bcongr fun j _=>ag);have aM:=Aa (show(l.take 0).Nodup from ag);clear aA aF aG aC;go_wp2_with fail
   go_loopw [21] (fun k' wr=>∃(k:Nat),k<=l.length/\k'= .int .i64 k/\Hia (AG wr g 4 g l.length (bv fun x=>decide ((x:Int)∈l.take k)))/\Hia ((l.take k).Nodup)/\Hia (Ex w1 wr)) (fun k' _=>l.length-(intOf k').toNat)
   case atStart=>exact⟨0,ac,rfl,aL,aM,aJ⟩
   case round=>
    clear aL aM aJ c0;obtain⟨k,hk,rfl,aA,aD,hx⟩:=hrel;by_cases hkn:k<l.length
    .obtain⟨b,o,rfl,hc⟩:∃b o,a=some ⟨b,o,none⟩/\∀(j:Nat) (x:Int),l[j]?=some x->w1.cell? ⟨b,o+j,none⟩=some (.int .i64 x):=by
      obtain⟨a',cap',e,_,_,h⟩:=S3.o;injection e with e1 e2 e3;subst e1;exact h ac
     obtain⟨x,aE⟩:∃x,l[k]?=some x:=⟨_,List.getElem?_eq_getElem hkn⟩;obtain⟨y1,y2⟩:=aQ.o k x aE;obtain⟨X,rfl⟩:∃X:Nat,x=X:=⟨x.toNat,ac⟩;have aO:X<l.length:=c9;have c1:=hx.o.cell (hc k X aE);have c3:=aA.o.cell aO;have c4:=aA.o.frz X;have i1:(0:Int)<=(k:Int):=ac;have i2:(k:Int)<(l.length:Int):=ac;have aB:l.take (k+1)=l.take k ++ [(X:Int)]:=by rw[List.take_add_one,aE];rfl
     by_cases hin:(X:Int)∈l.take k
     .have c5:wr.cell? ⟨g,X,none⟩=some (.bool true):=by rw[c3];show some (Value.bool (decide ((X:Int)∈l.take k)))=_;rw[decide_eq_true hin]
      have aR:=Aa (show AU l=18 from by
       rw[aK.o,if_neg];intro h;have h2:(l.take (k+1)).Nodup:=h.sublist (List.take_sublist _ _);rw[aB,List.nodup_append]at h2;exact h2.2.2 _ hin _ (List.mem_singleton.2 rfl) rfl)
      have aI:=Aa (HE.o.trans hx.o);clear hc c3 aA aD hx aB hin;go_wp2_with fail
      go_ret;exact⟨Af aR.o.symm,aI.o⟩
     .have c5:wr.cell? ⟨g,X,none⟩=some (.bool false):=by rw[c3];show some (Value.bool (decide ((X:Int)∈l.take k)))=_;rw[decide_eq_false hin]
      have HO:=Aa (show AG (wr.setCell ⟨g,X,none⟩ (.bool true)) g 4 g l.length (bv fun x=>decide ((x:Int)∈l.take (k+1))) from by
       refine(aA.o.set X _).congr fun i hi=>?_;by_cases e:i=X
       .subst e;rw[Ab];show _=Value.bool (decide ((i:Int)∈l.take (k+1)));rw[aB,decide_eq_true ag]
       .rw[Ae _ _ e];show Value.bool (decide ((i:Int)∈l.take k))=Value.bool (decide ((i:Int)∈l.take (k+1)))
        rw[aB]
        congr 1
        have:¬(i:Int)=X:=ac;simp[this])
      have aS:=Aa (show(l.take (k+1)).Nodup from by
       rw[aB,List.nodup_append];exact⟨aD.o,ag,fun y hy z hz e=>by rw[List.mem_singleton.1 hz]at e;subst e;exact hin hy⟩)
      have HX:=Aa (aA.o.exSet (a:=w1) aP.o hx.o X (.bool true));clear hc c3 aA aD hx aB hin;go_wp2_with fail
      go_roundw
      case rel=>exact⟨k+1,ac,by go_num,HO,aS,HX⟩
      case measure=>simp[intOf];omega
    .obtain rfl:k=l.length:=by omega
     have HP:=Aa (show AU l=0 from by
      rw[aK.o,if_pos];have:=aD.o
      rwa[List.take_length]at this)
     have aI:=Aa (HE.o.trans hx.o);clear aA aD hx;go_wp2_with fail
     go_ret;exact⟨Af HP.o.symm,aI.o⟩
end
section
open Go.RowKit
section
variable {p m:Nat} {ml:List Int} {mv:Value}
end
end
section
open Go.RowKit
section
variable {p m:Int} {mv:Value}
end
end
section
open Go.RowKit
section
variable {p m:Nat} {low:Vc}
end
structure DZ(p m:Nat)(ml pl sl:List Int)(fr N:Nat):Prop where
 hp:2<=p
 hm:1<=m
 hF:Kd p m (lw ml)
 n1:1<=N
 n2:N<=64
 pll:pl.length=N
 sll:sl.length=N
 inj:Ow N (Et pl)
 sc:∀i,i<N->∃z:Nat,sl.getD i 0=z/\1<=z/\z<p^m
 frm:fr<m
theorem VW{pl:List Int}{N:Nat}(hl:pl.length=N)(hr:Bq pl N=true)(hd:DC pl=false):Ow N (Et pl):=by
 refine⟨fun i hi=>?_,fun i j hi hj e=>Classical.byContradiction fun aA=>?_⟩
 .have:=Dk hr (i:=i) ac;unfold Et;omega
 .have h1:=Dk hr (i:=i) ac;have h2:=Dk hr (i:=j) ac;have:DC pl=true:=FC.2 (by
   unfold Et at e;rcases Nat.lt_or_gt_of_ne aA with h|h
   .exact⟨j,i,h,ac,ac⟩
   .exact⟨i,j,h,ac,ac⟩)
  rw[hd]at this;cases this
theorem Jw{p m:Int}{ml:List Int}{n:Int}{pl sl:List Int}{fr:Int}(h:Ck p m ml n pl sl fr=0):
  ∃(pn mn N fn:Nat),p=pn/\m=mn/\n=N/\fr=fn/\Iz pn mn ml/\BN p m ml=0/\DZ pn mn ml pl sl fn N:=by
 obtain⟨n0,n1,n2,n3,n4,n5,n6,n7,n8,n9⟩:=Hj h;obtain⟨pn,mn,rfl,rfl,hf,hpr,hF⟩:=(BH _ _ _).1 n0;obtain⟨fn,rfl⟩:∃fn:Nat,fr=fn:=⟨fr.toNat,ac⟩;obtain⟨N,rfl⟩:∃N:Nat,n=N:=⟨n.toNat,ac⟩;exact⟨pn,mn,N,fn,rfl,rfl,rfl,rfl,hf,n0,hf.p2,hf.m1,hF,ac,ac,ac,ac,VW ac n5 n8,fun i hi=>XQ (by simpa only[Int.toNat_natCast]using n9) ac,ac⟩
theorem QE{q:Nat}{l:List Int}(h:∀i,i<l.length->∃z:Nat,l.getD i 0=z/\1<=z/\z<q):D4 q l=0:=by
 unfold D4;have aA:∀x∈l,∃z:Nat,x=z/\1<=z/\z<q:=fun x hx=>by
  obtain⟨i,hi,rfl⟩:=List.getElem_of_mem hx;have:=h i hi;rw[List.getD_eq_getElem?_getD,List.getElem?_eq_getElem hi]at this;exact this
 rw[if_neg,if_neg]
 .intro hc;rw[List.contains_iff_mem]at hc;obtain⟨z,h1,h2,_⟩:=aA 0 hc;omega
 .intro hc;obtain⟨x,hx,h1⟩:=List.any_eq_true.1 hc;obtain⟨z,rfl,h2,h3⟩:=aA x hx;unfold Fi at h1;simp at h1;omega
theorem Wm{pl:List Int}{N:Nat}(hl:pl.length=N)(h0:∀i,i<N->0<=pl.getD i 0)(h:Ow N (Et pl)):DC pl=false:=by
 cases hd:DC pl with
 | false=>rfl
 | true=>
  obtain⟨i,j,h1,h2,h3⟩:=FC.1 hd;have:=h.inj i j ac ac (by unfold Et;rw[h3]);omega
theorem XA{p m:Nat}{ml pl sl:List Int}{fr N:Nat}(hc:BN p m ml=0)(h:DZ p m ml pl sl fr N)(h0:∀i,i<N->0<=pl.getD i 0):Ck p m ml N pl sl fr=0:=by
 have h1:=h.n1;have h2:=h.n2;have h3:=h.pll;have h4:=h.sll;have h5:=h.frm;have hr:Bq pl N=true:=P9 fun j hj=>by
  have:=h.inj.1 j ac;have:=h0 j ac;unfold Et at *;omega
 unfold Ck;rw[if_neg (by rw[hc];simp),if_neg ac,if_neg ac,if_neg,if_neg]
 .exact QE fun i hi=>by simpa only[Int.toNat_natCast]using h.sc i ac
 .rw[Wm h3 h0 h.inj];decide
 .rw[hr];rintro (h|h|h)
  .cases h
  .omega
  .omega
section
variable {p m:Nat} {ml pl sl:List Int} {fr N:Nat} {x:List Int}
theorem DZ.img(h:DZ p m ml pl sl fr N){i:Nat}(hi:i<N):Ki p m ml pl sl fr x N (Et pl i)=vF p m ml sl fr x i:=S0 h.inj _ N (Nat.le_refl _) i hi
theorem RQ{N j:Nat}(h:j<N)(f:Nat->Int):(il N f).getD j 0=f j:=by
 rw[List.getD_eq_getElem?_getD,AH h];rfl
theorem DZ.imgE(h:DZ p m ml pl sl fr N){j:Nat}(hj:j<N):∃z:Nat,Ki p m ml pl sl fr x N j=z/\z<p^m:=by
 obtain⟨i,hi,rfl⟩:=h.inj.surj hj;rw[h.img hi];exact⟨_,rfl,Cg (by have:=h.hp;omega) _ _⟩
end
section
variable {p m:Nat} {ml pl sl ql tl:List Int} {fr fs N:Nat} {x:List Int}
theorem VP(hp:2<=p)(hm:1<=m)(hF:Kd p m (lw ml)){s:Nat}(h1:1<=s)(hq:s<p^m):1<=F5 p m ml s/\F5 p m ml s<p^m/\Ar p m (lw ml) s (F5 p m ml s)=1:=by
 obtain⟨z,a,b,c⟩:=hF.inv hp hm h1 hq;rw[Mh hp hm hF hq h1 b c];exact⟨a,b,c⟩
theorem VY(h:DZ p m ml pl sl fr N):∀i,i<N->∃z:Nat,(il N (Ki p m ml pl sl fr x N)).getD i 0=z/\z<p^m:=fun i hi=>by
 rw[RQ hi];exact h.imgE hi
end
end
section
open Go.RowKit
end
section
open Go.RowKit
end
section
open Go.RowKit
end
section
open Go.RowKit
end
section
open Go.RowKit
theorem N4{p m:Nat}{ml:List Int}{N R R2:Nat}{a b a1 a2:Nat->Nat->Int}{aA piv2:List Nat}(hp:2<=p)(hm:1<=m)(aB:∀x,EP p m ml N R a x↔EP p m ml N R2 b x)(h1:OF p m ml N R a a1 aA)(h2:OF p m ml N R2 b a2 piv2):AM N aA.length a1=AM N piv2.length a2/\aA=piv2:=by
 obtain⟨c1,x1,y1,z1,s1⟩:=h1;obtain⟨c2,x2,y2,z2,s2⟩:=h2;obtain⟨e1,e2⟩:=Vi (ml:=ml) hp hm ⟨c1,x1,y1,z1⟩ ⟨c2,x2,y2,z2⟩ fun x=>((s1 x).trans (aB x)).trans (s2 x).symm;subst e1;refine⟨List.map_congr_left fun i hi=>List.map_congr_left fun j hj=>e2 i (List.mem_range.1 hi) j (List.mem_range.1 hj),rfl⟩
theorem JQ{p m:Nat}{ml:List Int}{N R:Nat}{a:Nat->Nat->Int}{piv:List Nat}{c:Nat}(h:PV p m R N a piv c)(hc:c<=N)(hr:piv.length=R):OF p m ml N R a a piv:=⟨c,hc,h,.inl hr,fun x=>Iff.rfl⟩
theorem Cs{p m n:Int}{ml:List Int}{rows:List (List Int)}{e e':Int}(h:Cm p m ml n rows e)(h':Cm p m ml n rows e'):e=e':=by
 rcases h with⟨a,rfl⟩|⟨a,b,rfl⟩|⟨a,b,h⟩ <;> rcases h' with⟨a',rfl⟩|⟨a',b',rfl⟩|⟨a',b',h'⟩ <;> first|rfl|contradiction|skip
 rcases h with⟨c,rfl⟩|⟨c,pn,mn,N,piv,a1,rfl,rfl,rfl,hF,_,hE,rfl⟩ <;> rcases h' with⟨c',rfl⟩|⟨c',pn',mn',N',piv',a1',e1,e2,e3,hF',_,aB,rfl⟩ <;> first|rfl|contradiction|skip
 obtain rfl:pn'=pn:=ac;obtain rfl:mn'=mn:=ac;obtain rfl:N'=N:=ac;obtain⟨p1,m1,e1,e2,aA,_⟩:=hF;obtain rfl:p1=pn':=ac;obtain rfl:m1=mn':=ac;rw[(N4 aA.p2 aA.m1 (fun _=>Iff.rfl) hE aB).1]
theorem SY{p m N q:Nat}{r:List Int}(hq:q<N)(h0:∀j,j<N->0<=r.getD j 0/\r.getD j 0<((p^m:Nat):Int))(h1:r.getD q 0=1)(h2:∀k,k<q->r.getD k 0=0):PV p m 1 N (AX [r]) [q] (q+1) where
 le:=ag
 rng:=fun i hi j hj=>by
  obtain rfl:i=0:=ac;exact h0 j hj
 lt:=fun j q' h=>by
  rcases j with _|j
  .simp at h;omega
  .simp at h
 one:=fun j q' h=>by
  rcases j with _|j
  .simp at h;subst h;exact h1
  .simp at h
 zer:=fun j q' i h hi hne=>by
  rcases j with _|j
  .omega
  .simp at h
 tail:=fun i j h hi _=>by simp at h;omega
 lead:=fun j q' k h hk=>by
  rcases j with _|j
  .simp at h;subst h;exact h2 k hk
  .simp at h
 asc:=fun i j q' r' hij h h'=>by
  rcases j with _|j
  .omega
  .simp at h'
theorem XI{N:Nat}{r:List Int}(h:r.length=N):il N (AX [r] 0)=r:=by
 subst h;refine List.ext_getElem? fun j=>?_;by_cases hj:j<r.length
 .rw[AH hj,List.getElem?_eq_getElem hj];show some (r.getD j 0)=_
  rw[List.getD_eq_getElem?_getD,List.getElem?_eq_getElem hj];rfl
 .rw[List.getElem?_eq_none (by rw[AY];omega),List.getElem?_eq_none ac]
theorem N9{p m N q:Nat}{ml:List Int}{r:List Int}{e:Int}(hF:F9 p m ml)(hc:Du p m ml N [r]=0)(hl:GK N=0)(hk:BV (p^m) N [r]=0)(hr:r.length=N)(hv:PV p m 1 N (AX [r]) [q] (q+1))(hq:q<N)(h:Cm p m ml N [r] e):e=0:=by
 have aA:BN p m ml=0:=by
  apply Classical.byContradiction;intro h;unfold Du at hc;rw[if_pos h]at hc;cases hc
 refine Cs h (.inr (.inr ⟨aA,hl,.inr ⟨hc,p,m,N, [q],AX [r],rfl,rfl,rfl,hF,hk,JQ hv ac rfl,?_⟩⟩));rw[if_pos];show [il N (AX [r] 0)]= [r]
 rw[XI hr]
def eC:AZ:=⟨2,1, [],3, [[1,1,0]]⟩
theorem Y9:F9 2 1 []:=⟨2,1,rfl,rfl,⟨ac,ac,ac,ae,rfl,by intro x hx;cases hx⟩,ae,(FU (p:=2) (m:=1) (ml:= []) ⟨ac,ac,ac,ae,rfl,by intro x hx;cases hx⟩ ae).2 (.inl rfl)⟩
theorem Um:PV 2 1 1 3 (AX [[1,1,0]]) [0] 1:=SY ac ae rfl ae
theorem Mw{e:Int}(h:Cm 2 1 [] 3 [[1,1,0]] e):e=0:=N9 (p:=2) (m:=1) (N:=3) Y9 aj aj aj rfl Um ac h
end
section
open Go.RowKit
theorem zbP{P:Prop}(h:P:=by
 go_wp2_with fail
 go_ret;exact⟨Af HP.o.symm,0,rfl⟩):P:=h
theorem LZ(w:World)(l:List Int)(v:Value)(hl:Ak w v l):
  Calls Tryz.prog 60 #[v] w fun r w'=>r= .returned (.int .i64 (AU l))/\∃q,w'=w.drewN q:=by
 obtain⟨a,cap,rfl,s1,s2,s3⟩:=hl.open;unfold maxLen at s2;have S3:=Aa s3;clear s3 hl;by_cases hd1:(l.length:Int)<1
 .have HP:=Aa (show AU l=4 from if_pos (.inl hd1));go_enter Tryz.func60,Tryz.ntmps60
  exact zbP
 by_cases hd2:64<(l.length:Int)
 .have HP:=Aa (show AU l=4 from if_pos (.inr hd2));go_enter Tryz.func60,Tryz.ntmps60
  exact zbP
 have aD:=Aa (show 1<=l.length/\l.length<=64 from ac);have hl64:=aD.o.2;have d1:decide ((l.length:Int)<1)=false:=al;have d2:decide (64<(l.length:Int))=false:=al;clear hd1 hd2;go_enter Tryz.func60,Tryz.ntmps60
 go_wp2_with fail
 go_loopw [4] (fun k' wr=>∃(k:Nat),k<=l.length/\k'= .int .i64 k/\Hia (∀(i:Nat) (x:Int),i<k->l[i]?=some x->0<=x/\x<l.length)/\wr=w) (fun k' _=>l.length-(intOf k').toNat)
 case atStart=>exact⟨0,ac,rfl,Aa (fun i x h=>ac),rfl⟩
 case round=>
  obtain⟨k,hk,rfl,aA,rfl⟩:=hrel;by_cases hkn:k<l.length
  .obtain⟨b,o,rfl,hc⟩:=S3.o ac;obtain⟨x,aB⟩:∃x,l[k]?=some x:=⟨_,List.getElem?_eq_getElem hkn⟩;have c1:=hc k x aB;have i1:(0:Int)<=(k:Int):=by omega
   have i2:(k:Int)<(l.length:Int):=ac;by_cases h1:x<0
   .have HP:=Aa (show AU l=6 from by unfold AU;rw[if_neg (by have:=aD.o;omega),if_pos ⟨x,List.mem_of_getElem? aB,.inl h1⟩]);clear hc aB aA;exact zbP
   .by_cases h2:(l.length:Int)<=x
    .have HP:=Aa (show AU l=6 from by unfold AU;rw[if_neg (by have:=aD.o;omega),if_pos ⟨x,List.mem_of_getElem? aB,.inr h2⟩]);clear hc aB aA;exact zbP
    .have HA:=Aa (show ∀(i:Nat) (y:Int),i<k+1->l[i]?=some y->0<=y/\y<l.length from fun i y hi hy=>by
      by_cases e:i=k
      .subst e;rw[aB]at hy;injection hy with hy;omega
      .exact aA.o i y ac hy)
     clear hc aB aA;go_wp2_with fail
     go_roundw
     case rel=>exact⟨k+1,ac,by go_num,HA,by first|trivial|rfl⟩
     case measure=>simp[intOf];omega
  .obtain rfl:k=l.length:=by omega
   have aI:=Aa (show ∀(i:Nat) (x:Int),l[i]?=some x->0<=x/\x<l.length from fun i x h=>aA.o i x (List.getElem?_eq_some_iff.1 h).1 h);have aG:=Aa (show AU l=if l.Nodup then 0 else 18 from by
    unfold AU;rw[if_neg (by have:=aD.o;omega),if_neg];rintro⟨x,hx,h⟩;obtain⟨i,hi,rfl⟩:=List.getElem_of_mem hx;have:=aI.o i _ (List.getElem?_eq_getElem hi);omega)
   clear aA;go_wp2_with fail
   go_loopw [5] (fun k' w2=>∃(k q:Nat),k<=l.length/\k'= .int .i64 k/\Hia (∀i j,j<i->i<k->l[i]?≠l[j]?)/\w2=wr.drewN q) (fun k' _=>l.length-(intOf k').toNat)
   case atStart=>exact⟨0,0,ac,rfl,Aa (fun i j h1 h2=>ac),rfl⟩
   case round=>
    obtain⟨k,q,hk,rfl,aA,rfl⟩:=hrel;by_cases hkn:k<l.length
    .obtain⟨b,o,rfl,hc⟩:=S3.o ac;have HC:=Aa hc;obtain⟨x,aB⟩:∃x,l[k]?=some x:=⟨_,List.getElem?_eq_getElem hkn⟩;have aE:=Aa aB;have D1:=Aa (((Ex.refl wr).drewN q).cell (hc k x aB));have i1:(0:Int)<=(k:Int):=by omega
     have i2:(k:Int)<(l.length:Int):=ac;clear hc aB;go_wp2_with fail
     go_loopw [6] (fun j' w3=>∃(j n:Nat),j<=k/\j'= .int .i64 j/\Hia (∀i,i<j->l[i]?≠l[k]?)/\w3=wr.drewN n) (fun j' _=>k-(intOf j').toNat)
     case atStart=>exact⟨0,q,ac,rfl,Aa (fun i h1=>ac),rfl⟩
     case round=>
      clear D1;obtain⟨j,n,hj,rfl,aC,rfl⟩:=hrel;by_cases hjk:j<k
      .obtain⟨y,hy⟩:∃y,l[j]?=some y:=⟨_,List.getElem?_eq_getElem ac⟩;have c1:=((Ex.refl wr).drewN n).cell (HC.o k x aE.o);have c2:=((Ex.refl wr).drewN n).cell (HC.o j y hy);have i3:(0:Int)<=(j:Int):=by omega
       have i4:(j:Int)<(l.length:Int):=ac;obtain⟨W,hW⟩:=nA (wr.drewN n);rw[hW]at c1 c2 ⊢;have aF:=Aa hW;have i5:(j:Int)<(k:Int):=ac;have ib:decide ((j:Int)<(k:Int))=true:=al;have ib2:decide (j<k)=true:=al;clear hW;by_cases hxy:x=y
       .have HP:=Aa (show AU l=18 from by
         rw[aG.o,if_neg];intro h;exact Cd.1 h k j hjk hkn (by rw[aE.o,hy,hxy]))
        have aH:(x==y)=true:=by simpa using hxy
        clear hy hxy aC aA;go_wp2_with fail
        go_quiet (fail)
        go_wp2_with fail
        go_ret;exact⟨Af HP.o.symm,_,by rw[<-aF.o,World.drewN_drewN]⟩
       .have aJ:=Aa (show ∀i,i<j+1->l[i]?≠l[k]? from fun i hi e=>by
         by_cases e2:i=j
         .subst e2;rw[hy,aE.o]at e;injection e with e;exact hxy e.symm
         .exact aC.o i ac e)
        have aH:(x==y)=false:=by simpa using hxy
        clear hy hxy aC;go_wp2_with fail
        go_quiet (fail)
        go_wp2_with fail
        go_roundw
        case rel=>exact⟨j+1,_,ac,by go_num,aJ,by rw[<-aF.o,World.drewN_drewN]⟩
        case measure=>simp[intOf];omega
      .obtain rfl:j=k:=by omega
       have HA:=Aa (show ∀i t,t<i->i<j+1->l[i]?≠l[t]? from fun i t h1 h2 e=>by
        by_cases e2:i=j
        .subst e2;exact aC.o t h1 e.symm
        .exact aA.o i t h1 ac e)
       clear aC aA;go_wp2_with fail
       go_roundw
       case rel=>first|exact⟨j+1,n,ac,by go_num,HA,rfl⟩|((repeat apply Exists.intro);exact⟨⟨j+1,n,ac,by go_num,HA,rfl⟩,rfl⟩)
       case measure=>simp[intOf];omega
    .obtain rfl:k=l.length:=by omega
     have HP:=Aa (show AU l=0 from by
      rw[aG.o,if_pos];exact Cd.2 fun i j h1 h2=>aA.o i j h1 h2)
     clear aA;go_wp2_with fail
     go_ret;exact⟨Af HP.o.symm,q,rfl⟩
end
section
open Go.RowKit
theorem B6.vals{w:World}{v:Value}{rows:List (List Int)}(h:B6 w v rows):∃us:List Value,Sl w v rows.length 1 us/\us.length=rows.length/\∀(i:Nat) (r:List Int) (u:Value),rows[i]?=some r->us[i]?=some u->Ak w u r:=by
 obtain⟨vals,h1,h2⟩:=h;exact⟨vals,h1,by have:=h1.1;omega,h2⟩
theorem RO(w:World)(B:Nat)(n:Int)(a:Option Addr)(l cap:Nat)(c0:w.cell? ⟨B,0,none⟩=some (.int .i64 n)):
  Calls Tryz.prog 176 #[.slice a l cap,.pointer (some ⟨B,0,none⟩)] w fun r w'=>r= .returned (.bool ((l:Int) !=n))/\∃q,w'=w.drewN q:=by
 go_enter Tryz.func176,Tryz.ntmps176
 go_wp2_with fail
 go_ret;exact⟨rfl,0,rfl⟩
theorem zbo{P:Prop}(h:P:=by
 clear ho;go_wp2_with (go_at_call 71;refine aD.o.mono ?_;rintro e w'⟨rfl,q,rfl⟩)
 go_ret;exact⟨Af HP.o.symm,EX.o.drewN q⟩):P:=h
theorem FA(w:World)(n:Int)(rows:List (List Int))(v:Value)(hv:B6 w v rows):
  Calls Tryz.prog 124 #[.int .i64 n,v] w fun r w'=>r= .returned (.int .i64 (DK n rows))/\Ex w w':=by
 have HV:=Aa hv;obtain⟨a,cap,rfl,s1,s2,s3⟩:=hv.open;unfold maxLen at s2;have e0:Ex w (w.alloc (.cells #[.int .i64 n] 3)):=(Ex.refl _).alloc _;have c0:(w.alloc (.cells #[.int .i64 n] 3)).cell? ⟨w.heap.size,0,none⟩=some (.int .i64 n):=ag;have S3:=Aa (hv.ex e0).open;clear s3 hv;go_enter Tryz.func124,Tryz.ntmps124
 go_wp2_with fail
 generalize w.alloc (.cells #[.int .i64 n] 3)=w1 at *;refine(Gt w1 n).mono ?_;rintro e w2⟨rfl,rfl⟩;by_cases hd:n<1∨64<n
 .have hz:Kk n=4:=if_pos hd;have HP:=Aa (show DK n rows=4 from if_pos hd);rw[hz];clear hd hz;go_wp2_with fail
  go_ret;exact⟨Af HP.o.symm,e0⟩
 .have hz:Kk n=0:=if_neg hd;have HG:=Aa (show DK n rows=PD n rows from if_neg hd);rw[hz];have E0:=Aa e0;have C0:=Aa c0;clear hd hz e0 c0;go_wp2_with fail
  go_loopw [16] (fun k' wr=>∃(k:Nat),k<=rows.length/\k'= .int .i64 k/\Hia (∀(i:Nat) (r:List Int),i<k->rows[i]?=some r->AU r=0)/\Hia (Ex w1 wr)) (fun k' _=>rows.length-(intOf k').toNat)
  case atStart=>exact⟨0,ac,rfl,Aa (fun i x h=>ac),Aa (Ex.refl _)⟩
  case round=>
   obtain⟨k,hk,rfl,aA,hx⟩:=hrel;by_cases hkn:k<rows.length
   .obtain⟨b,o,rfl,hc⟩:∃b o,a=some ⟨b,o,none⟩/\∀(i:Nat) (r:List Int),rows[i]?=some r->∃u,w1.cell? ⟨b,o+i,none⟩=some u/\Ak w1 u r:=by
     obtain⟨a',cap',e,_,_,h⟩:=S3.o;injection e with e1 e2 e3;subst e1;exact h ac
    obtain⟨r,aC⟩:∃r,rows[k]?=some r:=⟨_,List.getElem?_eq_getElem hkn⟩;obtain⟨u,c1,hu⟩:=hc k r aC;have c1:=hx.o.cell c1;have i1:(0:Int)<=(k:Int):=ac;have i2:(k:Int)<(rows.length:Int):=ac;have aF:=Aa (Lr wr r u (hu.ex hx.o));obtain⟨e,he⟩:=nA (AU r);rw[he]at aF;by_cases h0:e=0
    .have HA:=Aa (show ∀(i:Nat) (s:List Int),i<k+1->rows[i]?=some s->AU s=0 from fun i s hi hs=>by
      by_cases e2:i=k
      .subst e2;rw[aC]at hs;injection hs with hs;subst hs;rw[he,h0]
      .exact aA.o i s ac hs)
     subst h0;clear hc aC hu he aA;go_wp2_with (go_at_call 57;refine aF.o.mono ?_;rintro e w'⟨rfl,aB⟩;have aE:=Aa (hx.o.trans aB);clear aB)
     go_roundw
     case rel=>exact⟨k+1,ac,by go_num,HA,aE⟩
     case measure=>simp[intOf];omega
    .have hb:(e !=0)=true:=by simpa using h0
     have HP:=Aa (show DK n rows=e from by rw[HG.o,UA aC (by rw[he];exact h0) (fun j s hj hs=>aA.o j s hj hs)];exact he);clear hc aC hu he aA h0;go_wp2_with (go_at_call 57;refine aF.o.mono ?_;rintro e w'⟨rfl,aB⟩;have aE:=Aa (hx.o.trans aB);clear aB)
     go_ret;exact⟨Af HP.o.symm,E0.o.trans aE.o⟩
   .obtain rfl:k=rows.length:=by omega
    have aK:=Aa (Lk (n:=n) fun j s hs=>aA.o j s (List.getElem?_eq_some_iff.1 hs).1 hs);have EX:=Aa (E0.o.trans hx.o);have c0:=hx.o.cell C0.o;obtain⟨us,aH,aL,aG⟩:=(HV.o.ex EX.o).vals;have aD:=Aa (Hx wr (.pointer (some ⟨w.heap.size,0,none⟩)) (.slice a rows.length cap) rows.length us aH (fun i=>((rows.getD i []).length:Int) !=n) fun q i u hu=>by
     have hi:i<rows.length:=by have:=(List.getElem?_eq_some_iff.1 hu).1;omega
     have aI:rows[i]?=some (rows[i]):=List.getElem?_eq_getElem hi;have hd:rows.getD i []=rows[i]:=by rw[List.getD_eq_getElem?_getD,aI];rfl
     rw[hd];obtain⟨ua,uc,rfl,_⟩:=(aG i _ u aI hu).open;exact RO _ w.heap.size n ua _ uc (((Ex.refl wr).drewN q).cell c0))
    have aJ:=Aa (show((List.range rows.length).any fun i=>((rows.getD i []).length:Int) !=n)=decide (∃r∈rows,(r.length:Int)≠n) from by
     rw[Bool.eq_iff_iff];simp only[List.any_eq_true,List.mem_range,decide_eq_true_eq,bne_iff_ne];constructor
     .exact zaE
     .rintro⟨x,hx,h⟩;obtain⟨i,hi,rfl⟩:=List.getElem_of_mem hx;exact⟨i,hi,by rw[List.getD_eq_getElem?_getD,List.getElem?_eq_getElem hi];exact h⟩)
    rw[aJ.o]at aD;clear aA aJ aH aL aG c0 hx;by_cases ho:∃r∈rows,(r.length:Int)≠n
    .have HP:=Aa (show DK n rows=10 from by rw[HG.o,aK.o,if_pos ho]);rw[decide_eq_true ho]at aD;exact zbo
    .have HP:=Aa (show DK n rows=0 from by rw[HG.o,aK.o,if_neg ho]);rw[decide_eq_false ho]at aD;exact zbo
def WG(p q:List Int):List Int:=p.map fun x=>q.getD x.toNat 0
def Zi(n:Nat):List Int:=li n ED
theorem Xb{n:Nat}{f g:Nat->Nat}(hf:∀i,i<n->f i<n):WG (li n f) (li n g)=li n (An f g):=by
 apply List.ext_getElem?;intro i;unfold WG;by_cases hi:i<n
 .rw[List.getElem?_map,CY hi,CY hi];show some ((li n g).getD (f i:Int).toNat 0)=_
  rw[Int.toNat_natCast,List.getD_eq_getElem?_getD,CY (hf i hi)];rfl
 .rw[List.getElem?_eq_none (by rw[List.length_map,Em];omega),List.getElem?_eq_none (by rw[Em];omega)]
theorem Xo{v:Value}{e e':Int}(h:e=e'):Ending.returned (.tuple #[v,.int .i64 e])= .returned (.tuple #[v,.int .i64 e']):=by rw[h]
end
section
end
section
open Go.RowKit
def C6(l:List Int):Nat->Nat:=fun i=>if i<l.length then(l.getD i 0).toNat else i
theorem JM{n:Nat}{f:Nat->Nat}(hf:Bj n f):C6 (li n f)=f:=funext fun i=>by
 unfold C6;rw[Em];by_cases hi:i<n
 .rw[if_pos hi,List.getD_eq_getElem?_getD,CY hi];rfl
 .rw[if_neg hi,hf.off i ac]
theorem VH(w:World):B6 w (.slice none 0 0) []:=⟨[],Sl.nil w 1,fun i r u h=>by simp at h⟩
theorem Ey{w:World}{a:Option Addr}{n cap:Nat}{f:Nat->Nat}(h:Ak w (.slice a n cap) (li n f))(hn:0<n):∃b o,a=some ⟨b,o,none⟩/\b<w.heap.size/\∀j,j<n->w.cell? ⟨b,o+j,none⟩=some (.int .i64 (f j:Int)):=by
 obtain⟨a',cap',e,_,_,h2⟩:=En h;injection e with e1 e2 e3;subst e1;obtain⟨b,o,h3,h4⟩:=h2 hn;exact⟨b,o,h3,World.block_lt_of_cell? _ _ (h4 0 hn),h4⟩
structure BO(w0 wr:World)(base g n:Nat)(sf:Nat->Bool)(cyv:Value)(cyc:List Int)(cv:Value)(M:List (List Int))(vals:List Value):Prop where
 sn:AG wr w0.heap.size 4 g n (bv sf)
 cy:wr.ownsRow base 3 1 cyv cyc.length (Am cyc)
 m:Bv wr base cv M vals
 ap1:AJ cyv cv
 ap2:∀u∈vals,AJ u cyv
 gb:g<base
 ex:Ex w0 wr
 wb:base<=wr.heap.size
section
variable {w0 wr:World} {base g n:Nat} {sf:Nat->Bool} {cyv:Value} {cyc:List Int} {cv:Value} {M:List (List Int)} {vals:List Value}
theorem BO.later(h:BO w0 wr base g n sf cyv cyc cv M vals){w':World}(hx:Ex wr w'):BO w0 w' base g n sf cyv cyc cv M vals:=
 ⟨h.sn.ex hx,Ai h.cy hx,h.m.ex hx,h.ap1,h.ap2,h.gb,h.ex.trans hx,Nat.le_trans h.wb hx.size⟩
theorem BO.congr(h:BO w0 wr base g n sf cyv cyc cv M vals){sf':Nat->Bool}(hc:∀x,x<n->sf x=sf' x):BO w0 wr base g n sf' cyv cyc cv M vals:=
 ⟨h.sn.bcongr hc,h.cy,h.m,h.ap1,h.ap2,h.gb,h.ex,h.wb⟩
theorem BO.mark(h:BO w0 wr base g n sf cyv cyc cv M vals)(x:Nat):BO w0 (wr.setCell ⟨g,x,none⟩ (.bool true)) base g n (Ax sf x true) cyv cyc cv M vals:=
 ⟨by rw[<-PB];exact h.sn.set x _,Ad h.cy (fun e=>by have:=(h.cy.lt _ e).1;have:=h.gb;dsimp only at *;omega) _,h.m.setNe h.gb _,h.ap1,h.ap2,h.gb,h.sn.exSet (Nat.le_refl _) h.ex x _,by have:=h.wb;simpa[World.setCell]using this⟩
theorem BO.app(h:BO w0 wr base g n sf cyv cyc cv M vals){x:Int}{w':World}{v':Value}(ha:A8 wr w' base 3 1 cyv v' cyc.length (Am cyc) [.int .i64 x]):BO w0 w' base g n sf v' (cyc ++ [x]) cv M vals:=by
 have aC:cyv.ownBlock≠some g:=fun e=>by have:=(h.cy.lt _ e).1;have:=h.gb;omega
 have aA:=ha.row h.m.cvo h.ap1.symm;have hn:=h.m.len;have aB:∀u∈vals,∃L:List Int,wr.ownsRow base 3 1 u L.length (Am L):=fun u hu=>by
  obtain⟨i,hi,e⟩:=List.getElem_of_mem hu;exact⟨_,h.m.row i (M[i]'ac) u (List.getElem?_eq_getElem _) ar⟩
 refine⟨(ha.arr h.sn aC).1,?_,⟨aA.1,fun i r u h1 h2=>(ha.row (h.m.row i r u h1 h2) (h.ap2 u (List.mem_of_getElem? h2))).1,h.m.apart⟩,aA.2.symm,fun u hu=>?_,h.gb,ha.ex h.ex (by have:=h.gb;have:=h.sn.lt.1;omega),by have:=ha.grow;have:=h.wb;omega⟩
 .have:=ha.own;rw[List.length_append];simpa[Am]using this
 .obtain⟨L,hL⟩:=aB u hu;exact(ha.row hL (h.ap2 u hu)).2
theorem BO.push(h:BO w0 wr base g n sf cyv cyc cv M vals){w':World}{v':Value}(ha:A8 wr w' base 22 1 cv v' M.length vals [cyv]):BO w0 w' base g n sf (.slice none 0 0) [] v' (M ++ [cyc]) (vals ++ [cyv]):=by
 have aA:cv.ownBlock≠some g:=fun e=>by have:=(h.m.cvo.lt _ e).1;have:=h.gb;omega
 refine⟨(ha.arr h.sn aA).1,World.ownsRow_nil _ _ _ _,h.m.app h.cy h.ap1 ha,AJ.nil _,fun u _=>?_,h.gb,ha.ex h.ex (by have:=h.gb;have:=h.sn.lt.1;omega),by have:=ha.grow;have:=h.wb;omega⟩;exact(AJ.nil u).symm
theorem BO.start{w1:World}{n:Nat}(h:AG w1 w0.heap.size 4 w0.heap.size n (fun _=> .bool false))(hx:Ex w0 w1){sf:Nat->Bool}(hs:∀x,x<n->sf x=false):BO w0 w1 (w0.heap.size+1) w0.heap.size n sf (.slice none 0 0) [] (.slice none 0 0) [] []:=
 ⟨h.congr fun j hj=>by show _=Value.bool (sf j);rw[hs j hj],World.ownsRow_nil _ _ _ _,Bv.nil _ _,AJ.nil _,fun u h'=>absurd h' (List.not_mem_nil),ac,hx,by have:=h.lt.2;omega⟩
end
end
section
open Go.RowKit Go.ChangeShapes Go.WideShapes Go.ChangeAt
theorem Vo:∀(es:List Rf) (aA:List Value),aA.length=es.length->∀i,i<es.length->∀j,j<4->(KP es aA)[i*4+j]?=(((es.getD i MY).cells (aA.getD i undef)))[j]?:=fun es=>by
 exact zaP
section
variable {H:Type} {enc:TypeId × Value->H} {W:World} {held:Bool}
theorem SK{aC:Nat}{v:Value}{y:DataW H × List MemPlace}(h:DataW.trod enc Tryz.prog W 0 (fun _=>true) held aC 92 [v]=some y):∃es,OD W v es:=by
 rcases Go.Deep.open_slice Tryz.underlying92 h with⟨hcs,_⟩|⟨x,len,cap,m,n,D,Pl,hcs,_,hl,hm,hmm,_,hr⟩
 .simp at hcs;subst hcs;exact⟨[],OD.nil W⟩
 .simp at hcs;subst hcs;simp only[if_true]at hmm;subst hmm;rw[show Tryz.prog.cellsOf 176=4 by kernel_rfl]at hr;have aH:∀i,i<len->∃q:Rf × Value,W.cell? (x.add (i*4))=some (.int .i64 q.1.tp)/\W.cell? (x.add (i*4+1))=some (.int .i64 q.1.sc)/\W.cell? (x.add (i*4+2))=some (.int .i64 q.1.side)/\W.cell? (x.add (i*4+3))=some q.2/\Ak W q.2 q.1.msg:=fun i hi=>by
   obtain⟨aM,h1,h2⟩:=hr i ac;obtain⟨_,aB,aA⟩:=World.cells?_some h1;obtain⟨xs,k,_,_,_,aI,hf⟩:=DataW.trod_struct Tryz.underlying176 h2
   match xs,aI,aM,aB with
   | [y0,y1,y2,y3],_, [v0,v1,v2,v3],_=>
    have g0:=hf 0 _ rfl;have g1:=hf 1 _ rfl;have g2:=hf 2 _ rfl;have g3:=hf 3 _ rfl;simp[show Tryz.prog.cellsOf 3=1 by kernel_rfl,show Tryz.prog.cellsOf 22=1 by kernel_rfl]at g0 g1 g2 g3;have e0:=aA 0 ac;have e1:=aA 1 ac;have e2:=aA 2 ac;have e3:=aA 3 ac;rw[Go.Deep.add_add]at e0 e1 e2 e3;obtain⟨p0,aG,_,_⟩:=DataW.trod_int Tryz.underlying3 g0;obtain⟨p1,aF,_,_⟩:=DataW.trod_int Tryz.underlying3 g1;obtain⟨p2,aE,_,_⟩:=DataW.trod_int Tryz.underlying3 g2;simp at aG aF aE;subst aG aF aE;obtain⟨l,hl⟩:=DV g3;exact⟨(⟨p0,p1,p2,l⟩,v3),by simpa using e0,by simpa using e1,by simpa using e2,by simpa using e3,hl⟩
  haveI:Inhabited (Rf × Value):=⟨(MY,.bool false)⟩
  obtain⟨q,hq⟩:=Go.Deep.choose_lt aH;have hL:((List.range len).map fun i=>(q i).1).length=len:=ag;have hO:((List.range len).map fun i=>(q i).2).length=len:=ag;have aL:∀i,i<len->((List.range len).map fun i=>(q i).1).getD i MY=(q i).1:=fun i hi=>by
   rw[List.getD_eq_getElem?_getD];simp[hi]
  have aK:∀i,i<len->((List.range len).map fun i=>(q i).2).getD i undef=(q i).2:=fun i hi=>by
   rw[List.getD_eq_getElem?_getD];simp[hi]
  have aB:(KP ((List.range len).map fun i=>(q i).1) ((List.range len).map fun i=>(q i).2)).length=len*4:=by
   rw[LR _ _ (by rw[hL,hO]),hL]
  refine⟨(List.range len).map fun i=>(q i).1,(List.range len).map fun i=>(q i).2,by rw[hL,hO],⟨by rw[aB,hL],some x,m,by rw[hL],by rw[hL];exact hl,hm,fun hn=>?_⟩,fun i e mv h1 h2=>?_⟩
  .rw[hL]at hn;have h0:=(hq 0 hn).1;have hx:=GZ h0 (.inl ⟨_,_,rfl⟩);have aJ:(x.add (0*4))=x:=by simp[Addr.add]
   rw[aJ]at hx;refine⟨x.block,x.off,congrArg some hx,fun j u hu=>?_⟩;have hj:j<len*4:=by
    have:=(List.getElem?_eq_some_iff.1 hu).1;rw[aB]at this;exact this
   obtain⟨i,r,aD,rfl⟩:∃i r,r<4/\j=i*4+r:=⟨j/4,j%4,Nat.mod_lt _ ac,ac⟩;have hi:i<len:=c9;obtain⟨k0,k1,k2,k3,_⟩:=hq i hi;rw[hx,MP]at k0 k1 k2 k3;rw[Vo _ _ (by rw[hL,hO]) i (by rw[hL];exact hi) r aD,aL i hi,aK i hi]at hu
   match r,aD with
   | 0,_=>simp[Rf.cells]at hu;rw[Nat.add_zero,<-hu];exact k0
   | 1,_=>simp[Rf.cells]at hu;rw[<-hu];exact k1
   | 2,_=>simp[Rf.cells]at hu;rw[<-hu];exact k2
   | 3,_=>simp[Rf.cells]at hu;rw[<-hu];exact k3
  .have hi:i<len:=by have:=(List.getElem?_eq_some_iff.1 h1).1;simpa using this
   simp[hi]at h1 h2;subst h1 h2;exact(hq i hi).2.2.2.2
theorem Yd:Tryz.prog.cellsOf 39=5:=ah
theorem Yb:Tryz.prog.cellsOf 71=2:=ah
theorem ZZ:Tryz.prog.cellsOf 94=1:=ah
theorem Yc:Tryz.prog.cellsOf 92=1:=ah
theorem Yu{r:Reach}{b0:Nat}{v:Value}{d:DataW H}{p:List MemPlace}(hv:Value.okWide Tryz.prog W r b0 39 v)(h:DataW.Trod enc Tryz.prog W 0 (fun _=>true) held 39 v d p):
  ∃(c:AZ) (mv gv:Value),v=c.arg mv gv/\c.at W mv gv:=by
 obtain⟨cs,rfl,aC⟩:=ET Tryz.underlying39 hv;obtain⟨c0,c1,c2,c3,c4,rfl⟩:=Yk (aC.trans Yd);obtain⟨fuel,hf⟩:=h;obtain⟨xs,k,_,_,_,aB,aA⟩:=DataW.trod_struct Tryz.underlying39 hf;have g0:=aA 0 _ rfl;have g1:=aA 1 _ rfl;have g2:=aA 2 _ rfl
 match xs,aB with
 | [y0,y1,y2],_=>
  simp[Uw,WU,Ya,Value.cells]at g0 g1 g2;obtain⟨P,M,ml,rfl,rfl,hm⟩:=K8 g0;obtain⟨N,e0,_,_⟩:=DataW.trod_int Tryz.underlying3 g1;obtain⟨rows,hr⟩:=Tj g2;simp at e0;subst e0;exact⟨⟨P,M,ml,N,rows⟩,_,_,rfl,hm,hr⟩
theorem O8{aA:Nat}{c0 c1:Value}{y:DataW H × List MemPlace}(h:DataW.trod enc Tryz.prog W 0 (fun _=>true) held aA 71 [c0,c1]=some y):
  ∃(tl sl:List Int),Ak W c0 tl/\Ak W c1 sl:=by
 obtain⟨xs,k,_,_,_,aB,hf⟩:=DataW.trod_struct Tryz.underlying71 h;have g0:=hf 0 _ rfl;have g1:=hf 1 _ rfl
 match xs,aB with
 | [y0,y1],_=>
  simp[PA]at g0 g1;obtain⟨l,hl⟩:=DV g0;obtain⟨l',aC⟩:=DV g1;exact⟨l,l',hl,aC⟩
theorem Wu{α:Type}{cs:Array α}(h:cs.size=2):∃c0 c1,cs= #[c0,c1]:=by
 obtain⟨l⟩:=cs
 match l,h with
 | [c0,c1],_=>exact⟨c0,c1,rfl⟩
theorem Yt{r:Reach}{b0:Nat}{v:Value}{d:DataW H}{p:List MemPlace}(hv:Value.okWide Tryz.prog W r b0 71 v)(h:DataW.Trod enc Tryz.prog W 0 (fun _=>true) held 71 v d p):
  ∃(tv sv:Value) (tl sl:List Int),v= .agg #[tv,sv]/\Ak W tv tl/\Ak W sv sl:=by
 obtain⟨cs,rfl,aA⟩:=ET Tryz.underlying71 hv;obtain⟨c0,c1,rfl⟩:=Wu (aA.trans Yb);obtain⟨fuel,hf⟩:=h;obtain⟨tl,sl,h1,h2⟩:=O8 dk;exact⟨_,_,tl,sl,rfl,h1,h2⟩
theorem Xp{aA:Nat}{c0:Value}{y:DataW H × List MemPlace}(h:DataW.trod enc Tryz.prog W 0 (fun _=>true) held aA 94 [c0]=some y):∃es,OD W c0 es:=by
 obtain⟨xs,k,_,_,_,aB,hf⟩:=DataW.trod_struct Tryz.underlying94 h;have g0:=hf 0 _ rfl
 match xs,aB with
 | [y0],_=>
  simp[Yc]at g0;exact SK g0
end
end
end Go.Proofs.YtehieobniamagaaGreat
