/- Walk of automorphism.Map. -/
import Derived.Test.YtehieobniamagaaGreatZp24
import Derived.Test.YtehieobniamagaaGreatZp25
import Derived.Test.YtehieobniamagaaGreatZp26
namespace Go.Proofs.YtehieobniamagaaGreat
set_option linter.unusedVariables false
set_option linter.unusedSimpArgs false
set_option maxRecDepth 100000
set_option maxHeartbeats 8000000
section
open Go.RowKit
def Mb(p m:Int)(ml:List Int)(n:Int)(P:List Int):Int:=
 if BN p m ml≠0 then 1 else if n<1∨64<n then 4 else if 64<n.toNat*(p.toNat^m.toNat-1) then 8 else if AU P≠0 then AU P else if P.length≠n.toNat*(p.toNat^m.toNat-1) then 10 else if JK p.toNat m.toNat ml n.toNat P=false then 5 else 0
def Tk(p m:Int)(ml:List Int)(n:Int)(P:List Int):CE:=if Mb p m ml n P=0 then⟨il n.toNat (BW (p.toNat^m.toNat-1) P),il n.toNat (Cj (p.toNat^m.toNat-1) P),0⟩ else⟨[], [],0⟩
theorem Jn{P:List Int}(h:AU P=0):∀x∈P,0<=x/\x<(P.length:Int):=by
 intro x hx;unfold AU at h;split at h
 .cases h
 .split at h
  .cases h
  .rename_i h1;have h3:¬(x<0∨(P.length:Int)<=x):=fun h2=>h1 ⟨x,hx,h2⟩;omega
theorem DS{M:CE}{e e':Int}{w':World}(h1:M=⟨[], [],0⟩)(h2:e=e'):Zr M e (.returned (.tuple #[.agg #[.slice none 0 0,.slice none 0 0,.int .i64 0],.int .i64 e'])) w':=by subst h1 h2;exact⟨_,_,rfl,AW _,AW _⟩
theorem zaW{P:Prop}(h:P:=by
 clear HG;go_wp2_with fail
 exact bodyPost_ret (v:= .tuple #[.agg #[.slice none 0 0,.slice none 0 0,.int .i64 0],.int .i64 4]) (by simp[results,Tryz.results17,go_sem,q0,q1,q2]) rfl ⟨DS (aC.o 4 (by decide) HR.o) HR.o,AT (HE.o.trans aB.o) aA.o _ _ _⟩):P:=h
theorem aw{P:Prop}(h:P:=by simp[results,Tryz.results17,go_sem,q0,q1,q2]):P:=h
theorem Q7(w:World)(p m:Int)(ml:List Int)(mv:Value)(aR:Ak w mv ml)(n:Int)(hn:-9223372036854775808<=n/\n<=9223372036854775807)(P:List Int)(pv:Value)(hp:Ak w pv P):
  Calls Tryz.prog 17 #[.agg #[.int .i64 p,.int .i64 m,mv],.int .i64 n,pv] w fun r w'=>Zr (Tk p m ml n P) (Mb p m ml n P) r w'/\Ex w w':=by
 obtain⟨a0,a1,a2,ea⟩:=B3 w p m mv;obtain⟨BX,aG⟩:∃B,w.heap.size=B:=⟨_,rfl⟩;have bI:(w.alloc (.cells #[.int .i64 p,.int .i64 m,mv] 24)).heap.size=BX+1:=by simp[aG]
 have bq:=WD.new (w.alloc (.cells #[.int .i64 p,.int .i64 m,mv] 24));rw[bI]at bq;have eb:=(Ex.refl (w.alloc (.cells #[.int .i64 p,.int .i64 m,mv] 24))).alloc (.cells #[.slice none 0 0,.slice none 0 0,.int .i64 0] 26);replace a0:=eb.cell a0;replace a1:=eb.cell a1;replace a2:=eb.cell a2;have HE:=Aa (ea.trans eb);have bY:=Aa (aR.ex HE.o);have HP:=Aa (hp.ex HE.o);obtain⟨ma,mc,rfl,_,_,_⟩:=aR.open;obtain⟨pa,pc,rfl,_,z2,_⟩:=hp.open;unfold maxLen at z2;rw[aG]at a0 a1 a2;have aA:=Aa (show w.heap.size<=BX+1 from ac);have bU:=Aa (show((w.alloc (.cells #[.int .i64 p,.int .i64 m,.slice ma ml.length mc] 24)).alloc (.cells #[.slice none 0 0,.slice none 0 0,.int .i64 0] 26)).heap.size=BX+1+1 from by simp[aG]);have BQ:=Aa bq;obtain⟨ME,aM⟩:∃x,Mb p m ml n P=x:=⟨_,rfl⟩;obtain⟨MM,aS⟩:∃x,Tk p m ml n P=x:=⟨_,rfl⟩;have aK:=Aa aM;have aY:=Aa (show MM=if ME=0 then⟨il n.toNat (BW (p.toNat^m.toNat-1) P),il n.toNat (Cj (p.toNat^m.toNat-1) P),0⟩ else⟨[], [],0⟩ from by rw[<-aS,<-aM];rfl);have aC:=Aa (show ∀e,e≠0->ME=e->MM=⟨[], [],0⟩ from fun e h1 h2=>by rw[aY.o,if_neg (by rw[h2];exact h1)]);rw[aM,aS];clear aM aS aR hp ea eb bq bI;go_enter Tryz.func17,Tryz.ntmps17
 go_upto_region 1 with fail
 try simp only[aG]
 clear aG;generalize (w.alloc (.cells #[.int .i64 p,.int .i64 m,.slice ma ml.length mc] 24)).alloc (.cells #[.slice none 0 0,.slice none 0 0,.int .i64 0] 26)=w1 at *;have bM:=Aa (E4 p m ml _ w1 bY.o);go_wp2_with fail
 refine bM.o.mono ?_;rintro e w2⟨bR,aL⟩;obtain⟨q0,q1,q2,aQ,aP,aO⟩:=BQ.o.ex aL;have aB:=Aa aL;rcases bR with⟨pn,mn,x0,gb,rfl,rfl,rfl,hg,x1,x2⟩|⟨hbad,rfl⟩
 rotate_left
 .have HR:=Aa (show ME=1 from by rw[<-aK.o];unfold Mb;rw[if_pos (fun h=>hbad ((BH p m ml).1 h))]);clear aL hbad;go_wp2_with fail
  exact bodyPost_ret (v:= .tuple #[.agg #[.slice none 0 0,.slice none 0 0,.int .i64 0],.int .i64 1]) aw rfl ⟨DS (aC.o 1 ae HR.o) HR.o,AT (HE.o.trans aB.o) aA.o _ _ _⟩
 .have aZ:=Aa (show BN (pn:Int) mn ml=0 from(BH _ _ _).2 ⟨pn,mn,rfl,rfl,hg.sh,hg.pr,hg.isF x1 x2⟩);have HG:=Aa hg;have bC:2<=pn^mn:=Nat.le_trans hg.sh.p2 (Nat.le_self_pow (by have:=hg.sh.m1;omega) pn);have bB:=hg.sh.q;have aV:=Aa (show 2<=pn^mn/\pn^mn<=256 from⟨bC,bB⟩);clear hg x1 x2 aL bM bC bB;by_cases hn1:n<1
  .have HR:=Aa (show ME=4 from by rw[<-aK.o];unfold Mb;rw[if_neg (by rw[aZ.o];decide),if_pos (.inl hn1)]);exact zaW
  by_cases hn64:64<n
  .have HR:=Aa (show ME=4 from by rw[<-aK.o];unfold Mb;rw[if_neg (by rw[aZ.o];decide),if_pos (.inr hn64)]);exact zaW
  obtain⟨N,rfl⟩:∃N:Nat,n=N:=⟨n.toNat,ac⟩;have HN:=Aa (show 1<=N/\N<=64 from ac);have aJ:=Aa (show ME=if 64<N*(pn^mn-1) then 8 else if AU P≠0 then AU P else if P.length≠N*(pn^mn-1) then 10 else if JK pn mn ml N P=false then 5 else 0 from by
   rw[<-aK.o];unfold Mb;rw[if_neg (by rw[aZ.o];decide),if_neg ac];rfl)
  have bN:=Aa (show MM=if ME=0 then⟨il N (BW (pn^mn-1) P),il N (Cj (pn^mn-1) P),0⟩ else⟨[], [],0⟩ from aY.o);clear aY aK;obtain⟨q,hq⟩:=nA (pn^mn);have aW:=Aa (BR w2 HG.o);have aD:=Aa (Gj w2 N (pn^mn) HN.o.2 (by have:=aV.o;omega) aV.o.2);have aN:=Aa (fun (w5:World) (h5:Ex w2 w5) (h1:N*(pn^mn-1)<=64) (h2:P.length=N*(pn^mn-1)) (h3:AU P=0)=>NU w5 (HG.o.ex h5) N HN.o.1 HN.o.2 P _ (HP.o.ex (aB.o.trans h5)) h1 h2 (Jn h3));rw[hq]at aJ bN aW aD aN aV;obtain⟨D,hD⟩:=nA (N*(q-1));rw[hD]at aJ aD aN;clear hq hD;by_cases h8:64<D
  .rw[if_pos h8,if_pos h8]at aD;have HR:=Aa (show ME=8 from by rw[aJ.o,if_pos h8]);clear h8;go_wp2_with (first|(go_at_call 54;refine aW.o.mono ?_;rintro e w5⟨rfl,rfl⟩)|(go_at_call 53;refine aD.o.mono ?_;rintro e w5⟨rfl,rfl⟩))
   exact bodyPost_ret (v:= .tuple #[.agg #[.slice none 0 0,.slice none 0 0,.int .i64 0],.int .i64 8]) aw rfl ⟨DS (aC.o 8 ae HR.o) HR.o,AT (HE.o.trans aB.o) aA.o _ _ _⟩
  rw[if_neg h8,if_neg h8]at aD;have bX:=Aa h8;have aI:=Aa (show ME=if AU P≠0 then AU P else if P.length≠D then 10 else if JK pn mn ml N P=false then 5 else 0 from by rw[aJ.o,if_neg h8]);have bP:=Aa (Lr w2 P _ (HP.o.ex aB.o));obtain⟨K,hK⟩:=nA (AU P);have HK:=Aa hK;rw[hK]at bP aI;clear h8 aJ hK;go_wp2_with (first|(go_at_call 54;refine aW.o.mono ?_;rintro e w5⟨rfl,rfl⟩)|(go_at_call 53;refine aD.o.mono ?_;rintro e w5⟨rfl,rfl⟩))
  refine bP.o.mono ?_;rintro e w3⟨rfl,aE⟩;have aH:=Aa (aB.o.trans aE);obtain⟨q0,q1,q2,aQ,aP,aO⟩:=BQ.o.ex aH.o;by_cases h0:K=0
  rotate_left
  .have hb:(K==0)=false:=by simpa using h0
   have hb2:(K !=0)=true:=by simpa using h0
   have HR:=Aa (show ME=K from by rw[aI.o,if_pos h0]);have bV:=Aa (aC.o K h0 HR.o);clear h0 aE;go_wp2_with fail
   exact bodyPost_ret (v:= .tuple #[.agg #[.slice none 0 0,.slice none 0 0,.int .i64 0],.int .i64 K]) aw rfl ⟨DS bV.o HR.o,AT (HE.o.trans aH.o) aA.o _ _ _⟩
  subst h0;by_cases hl:P.length=D
  rotate_left
  .have hb:((P.length:Int) !=(D:Int))=true:=by simp;omega
   have HR:=Aa (show ME=10 from by rw[aI.o,if_neg ag,if_pos hl]);clear hl aE;go_wp2_with fail
   exact bodyPost_ret (v:= .tuple #[.agg #[.slice none 0 0,.slice none 0 0,.int .i64 0],.int .i64 10]) aw rfl ⟨DS (aC.o 10 ae HR.o) HR.o,AT (HE.o.trans aH.o) aA.o _ _ _⟩
  have hb:((P.length:Int) !=(D:Int))=false:=al;have bO:=Aa (aN.o w3 aE (by have:=bX.o;omega) hl HK.o);have aU:=Aa (show ME=if JK pn mn ml N P=false then 5 else 0 from by rw[aI.o,if_neg ag,if_neg (by rw[hl];simp)]);obtain⟨BE,bH⟩:∃b,JK pn mn ml N P=b:=⟨_,rfl⟩;rw[bH]at bO aU;clear hl aE aI bH aN;go_wp2_with fail
  refine bO.o.mono ?_;rintro e w4⟨u,v,rfl,hu,hv,⟨bE,bD⟩,bA⟩;have bQ:=Aa (show BX+1<w3.heap.size from by have:=aH.o.size;have:=bU.o;omega);have bJ:=Aa (aH.o.trans bA);have bL:=Aa bE;have bK:=Aa bD;clear bE bD;obtain⟨q0,q1,q2,aQ,aP,aO⟩:=BQ.o.ex bJ.o;have HU:=Aa hu;have HV:=Aa hv;obtain⟨ua,uc,rfl,_,_,_⟩:=hu.open;obtain⟨va,vc,rfl,_,_,_⟩:=hv.open;obtain⟨TB,aF⟩:∃x,w4.heap.size=x:=⟨_,rfl⟩;obtain⟨LU,bG⟩:∃x,(il N (BW (q-1) P)).length=x:=⟨_,rfl⟩;obtain⟨LV,bF⟩:∃x,(il N (Cj (q-1) P)).length=x:=⟨_,rfl⟩;rw[bG]at HU bL ⊢;rw[bF]at HV bK ⊢;obtain⟨t0,t1,t2,et⟩:=Az w4 (.slice ua LU uc) (.slice va LV vc) 0;rw[aF]at t0 t1 t2;have aT:=Aa (bJ.o.trans et);obtain⟨q0,q1,q2,aQ,aP,aO⟩:=BQ.o.ex aT.o;have bT:=Aa (HU.o.ex et);have bS:=Aa (HV.o.ex et);have HTB:=Aa aF;clear hu hv bA bG bF et
  cases BE with
  | false=>
   have HR:=Aa (show ME=5 from by rw[aU.o];rfl);go_wp2_with fail
   try simp only[aF]
   exact bodyPost_ret (v:= .tuple #[.agg #[.slice none 0 0,.slice none 0 0,.int .i64 0],.int .i64 5]) aw rfl ⟨DS (aC.o 5 ae HR.o) HR.o,AT (HE.o.trans aT.o) aA.o _ _ _⟩
  | true=>
   have HR:=Aa (show ME=0 from by rw[aU.o];rfl);have HM:=Aa (show MM=⟨il N (BW (q-1) P),il N (Cj (q-1) P),0⟩ from by rw[bN.o,if_pos HR.o]);go_upto_region 14 with fail
   try simp only[aF]
   clear aF;generalize w4.alloc (.cells #[.slice ua LU uc,.slice va LV vc,.int .i64 0] 26)=w5 at *;go_wp2_with fail
   have bW:=HR.o;have aX:=HM.o;subst bW;subst aX;exact bodyPost_ret (v:= .tuple #[.agg #[.slice ua LU uc,.slice va LV vc,.int .i64 0],.int .i64 0]) aw rfl ⟨⟨_,_,rfl,Dq bT.o (fun X e=>by have:=bL.o X e;have:=bQ.o;omega) _ _ _,Dq bS.o (fun X e=>by have:=bK.o X e;have:=bQ.o;omega) _ _ _⟩,AT (HE.o.trans aT.o) aA.o _ _ _⟩
end
section
open Go.RowKit
theorem K5(w:World)(n q:Nat)(hn:n<=64)(bB:1<=q)(hq:q<=256):
  Calls Tryz.prog 121 #[.int .i64 n,.int .i64 q] w fun r w'=>∃v cs,r= .returned v/\MZ w w' v (DA n q) cs:=by
 have bG:=Aa (MZ.nil (Ex.refl w));have bP:=Aa (Mq n q hn hq);have bO:=Aa (fun i=>Ps q i hq);have HQ:=Aa (show 1<=q/\q<=256 from⟨bB,hq⟩);have HN:=Aa hn;clear bB hq;go_enter Tryz.func121,Tryz.ntmps121
 go_wp2_with fail
 go_loopw [5,12] (fun v' i' wr=>∃(i:Nat) (cs:List (Value × Value)),i<=n/\i'= .int .i64 i/\Hia (MZ w wr v' (gI n q i) cs)) (fun _ i' _=>n-(intOf i').toNat)
 case atStart=>exact⟨0, [],ac,rfl,bG⟩
 case round=>
  clear bG;obtain⟨i,cs,hi,rfl,hg⟩:=hrel;obtain⟨pa,pc,aM⟩:=Ac hg.o.own;subst aM;by_cases hin:i<n
  .obtain⟨GI,aT⟩:∃g,gI n q i=g:=⟨_,rfl⟩;have bM:=Aa (show gI n q (i+1)=GI++gJ q i (n-i) from by rw[QA,aT]);have bD:=Aa (show GI.length<=1048576 from by rw[<-aT];have:=bP.o i;omega);rw[aT]at hg ⊢;obtain⟨LI,aQ⟩:∃l,GI.length=l:=⟨_,rfl⟩;rw[aQ]at bD ⊢;have bJ:=Aa aQ;have HG:=Aa (show MZ w wr (.slice pa LI pc) (GI++gJ q i (i-i)) cs from by rw[Nat.sub_self];unfold gJ;rw[List.range_zero,List.flatMap_nil,List.append_nil,<-aQ];exact hg.o);obtain⟨w8,h8⟩:∃w8,w8=wr:=⟨_,rfl⟩;rw[<-h8]at HG ⊢;have aW:=Aa hin;clear h8 hg aT aQ;go_wp2_with fail
   clear hin
   go_loopw [5,7] (fun v' j' wr=>∃(j:Nat) (cs:List (Value × Value)),i<=j/\j<=n/\j'= .int .i64 j/\Hia (MZ w wr v' (GI++gJ q i (j-i)) cs)) (fun _ j' _=>n-(intOf j').toNat)
   case atStart=>exact⟨i,cs,ac,ac,rfl,HG⟩
   case round=>
    clear HG;obtain⟨j,cs,hj1,hj2,rfl,hg⟩:=hrel;obtain⟨pa,pc,aM⟩:=Ac hg.o.own;subst aM;by_cases hjn:j<n
    .obtain⟨GJ,aS⟩:∃g,GI++gJ q i (j-i)=g:=⟨_,rfl⟩;have bL:=Aa (show GI++gJ q i (j+1-i)=GJ++gA i j (q-1) from by rw[<-aS,show j+1-i=j-i+1 from ac,Qz,show i+(j-i)=j from ac,List.append_assoc]);have bC:=Aa (show GJ.length<=1100000 from by rw[<-aS,List.length_append];have:=bO.o i (j-i);have:=bD.o;have:=bJ.o;have:=HN.o;omega);rw[aS]at hg ⊢;obtain⟨LJ,aP⟩:∃l,GJ.length=l:=⟨_,rfl⟩;rw[aP]at bC ⊢;have bK:=Aa aP;have HG:=Aa (show MZ w wr (.slice pa LJ pc) (GJ++gA i j (1-1)) cs from by unfold gA;rw[Nat.sub_self,List.range_zero,List.map_nil,List.append_nil,<-aP];exact hg.o);obtain⟨w7,h7⟩:∃w7,w7=wr:=⟨_,rfl⟩;rw[<-h7]at HG ⊢;have bA:=Aa hjn;clear h7 hg aS aP;go_wp2_with fail
     clear hjn
     go_loopw [5,8] (fun v' a' wr=>∃(a:Nat) (cs:List (Value × Value)),1<=a/\a<=q/\a'= .int .i64 a/\Hia (MZ w wr v' (GJ++gA i j (a-1)) cs)) (fun _ a' _=>q-(intOf a').toNat)
     case atStart=>exact⟨1,cs,ac,HQ.o.1,rfl,HG⟩
     case round=>
      clear HG;obtain⟨a,cs,ha1,ha2,rfl,hg⟩:=hrel;obtain⟨pa,pc,aM⟩:=Ac hg.o.own;subst aM;by_cases han:a<q
      .obtain⟨GA,aU⟩:∃g,GJ++gA i j (a-1)=g:=⟨_,rfl⟩;have bN:=Aa (show GJ++gA i j (a+1-1)=GA ++ [⟨i,j,a⟩] from by
        rw[<-aU,show a+1-1=a-1+1 from ac,Wd,show a-1+1=a from ac,List.append_assoc])
       have aZ:=Aa (show GA.length<=1200000 from by rw[<-aU,List.length_append,TZ];have:=bC.o;have:=bK.o;have:=HQ.o;omega);rw[aU]at hg ⊢;obtain⟨LA,aR⟩:∃l,GA.length=l:=⟨_,rfl⟩;have bE:=Aa aR;rw[aR]at aZ ⊢;have HG:=Aa (show MZ w wr (.slice pa LA pc) GA cs from by rw[<-aR];exact hg.o);have aV:=Aa (Lo.new wr i j a);have aD:=Aa (show i<=64 from by have:=aW.o;have:=HN.o;omega);have aX:=Aa han;obtain⟨w5,h5⟩:∃w5,w5=wr:=⟨_,rfl⟩;rw[<-h5]at HG aV ⊢;clear h5 hg aU aR;go_upto_region 12 with fail
       clear han;obtain⟨XB,aO⟩:∃x,w5.heap.size=x:=⟨_,rfl⟩;rw[aO]at aV
       try simp only[aO]
       have HXB:=Aa aO;clear aO;generalize w5.alloc (.cells #[.int .i64 i,.int .i64 j,.int .i64 a,.slice none 0 0,.slice none 0 0] 129)=w6 at *;go_wp2_with fail
       go_loopw [31] (fun k' wr=>∃(k:Nat) (pv sv:Value),k<=i/\k'= .int .i64 k/\Hia (Lo w5 wr XB i j a pv sv (OC k) (OA k))) (fun k' _=>i-(intOf k').toNat)
       case atStart=>exact⟨0,_,_,ac,rfl,aV⟩
       case round=>
        clear aV;obtain⟨k,pv,sv,hk,rfl,HC⟩:=hrel;obtain⟨va,vc,rfl⟩:=Ac HC.o.o0;obtain⟨ua,uc,rfl⟩:=Ac HC.o.o1;rw[FT,FM]at *;have c3:=HC.o.b0;by_cases hki:k<i
        .have aY:=Aa (show wr.ownsRow w5.heap.size 3 1 (.slice va k vc) k (Am (OC k)) from by have:=HC.o.o0;rwa[FT]at this);have bF:=Aa hki;go_wp2_with (at_builtin;refine Al _ rfl _ _ 22 rfl w5.heap.size 3 (.int .i64 0) 1 8 Tryz.underlying22 Aw rfl ae _ k (Am (OC k)) rfl aY.o [.int .i64 (k:Int)] 3 _ rfl ag rfl ak (by have:=aD.o;unfold maxLen;omega) (by have:=aD.o;omega) HC.o.ex.size ?_)
         intro v7 w7 aC;have aA:A8 wr w7 w5.heap.size 3 1 (.slice va k vc) v7 (OC k).length (Am (OC k)) [.int .i64 (k:Int)]:=by rw[FT];exact aC
         obtain⟨g1,g2⟩:=HC.o.at0 aA;have aB:=HC.o.app0 aA;rw[<-TR]at aB;obtain⟨aI,aH,rfl⟩:=Ac aC.own;have aF:=Aa aB;have aL:=Aa (show(w7.setCell ⟨XB,3,none⟩ (.slice aI (k+1) aH)).ownsRow w5.heap.size 3 1 (.slice ua k uc) k (Am (OA k)) from by have:=aF.o.o1;rwa[FM]at this);have c4:=aF.o.b1;clear aC aA aB c3;go_wp2_with (at_builtin;refine Al _ rfl _ _ 22 rfl w5.heap.size 3 (.int .i64 0) 1 8 Tryz.underlying22 Aw rfl ae _ k (Am (OA k)) rfl aL.o [.int .i64 1] 3 _ rfl ag rfl ak (by have:=aD.o;unfold maxLen;omega) (by have:=aD.o;omega) aF.o.ex.size ?_)
         intro v8 w8 aC;have aA:A8 (w7.setCell ⟨XB,3,none⟩ (.slice aI (k+1) aH)) w8 w5.heap.size 3 1 (.slice ua k uc) v8 (OA k).length (Am (OA k)) [.int .i64 1]:=by rw[FM];exact aC
         obtain⟨h1,h2⟩:=aF.o.at1 aA;have aB:=aF.o.app1 aA;rw[<-Tc]at aB;obtain⟨aK,aJ,rfl⟩:=Ac aC.own;have aE:=Aa aB;clear aC aA aB c4 g1 g2;go_wp2_with fail
         go_roundw
         case rel=>first|exact⟨k+1,_,_,ac,by go_num,aE⟩|((repeat apply Exists.intro);exact⟨⟨k+1,_,_,by have:=bF.o;omega,by go_num,aE⟩,rfl⟩)
         case measure=>have:=bF.o;simp[intOf];omega
        .obtain rfl:i=k:=by omega
         have aY:=Aa (show wr.ownsRow w5.heap.size 3 1 (.slice va i vc) i (Am (OC i)) from by have:=HC.o.o0;rwa[FT]at this);go_wp2_with (at_builtin;refine Al _ rfl _ _ 22 rfl w5.heap.size 3 (.int .i64 0) 1 8 Tryz.underlying22 Aw rfl ae _ i (Am (OC i)) rfl aY.o [.int .i64 (j:Int)] 3 _ rfl ag rfl ak (by have:=aD.o;unfold maxLen;omega) (by have:=aD.o;omega) HC.o.ex.size ?_)
         intro v7 w7 aC;have aA:A8 wr w7 w5.heap.size 3 1 (.slice va i vc) v7 (OC i).length (Am (OC i)) [.int .i64 (j:Int)]:=by rw[FT];exact aC
         obtain⟨g1,g2⟩:=HC.o.at0 aA;have aB:=HC.o.app0 aA;obtain⟨aI,aH,rfl⟩:=Ac aC.own;have aF:=Aa aB;have aL:=Aa (show(w7.setCell ⟨XB,3,none⟩ (.slice aI (i+1) aH)).ownsRow w5.heap.size 3 1 (.slice ua i uc) i (Am (OA i)) from by have:=aF.o.o1;rwa[FM]at this);have c4:=aF.o.b1;clear aC aA aB c3;go_wp2_with (at_builtin;refine Al _ rfl _ _ 22 rfl w5.heap.size 3 (.int .i64 0) 1 8 Tryz.underlying22 Aw rfl ae _ i (Am (OA i)) rfl aL.o [.int .i64 (a:Int)] 3 _ rfl ag rfl ak (by have:=aD.o;unfold maxLen;omega) (by have:=aD.o;omega) aF.o.ex.size ?_)
         intro v8 w8 aC;have aA:A8 (w7.setCell ⟨XB,3,none⟩ (.slice aI (i+1) aH)) w8 w5.heap.size 3 1 (.slice ua i uc) v8 (OA i).length (Am (OA i)) [.int .i64 (a:Int)]:=by rw[FM];exact aC
         obtain⟨h1,h2⟩:=aF.o.at1 aA;have aB:=aF.o.app1 aA;obtain⟨aK,aJ,rfl⟩:=Ac aC.own;have aE:=Aa (show Lo w5 (w8.setCell ⟨XB,4,none⟩ (.slice aK (i+1) aJ)) XB i j a (.slice aI (i+1) aH) (.slice aK (i+1) aJ) (B9.tl ⟨i,j,a⟩) (B9.sl ⟨i,j,a⟩) from aB);clear aC aA aB c4 g1 g2;have bI:=Aa (show(w8.setCell ⟨XB,4,none⟩ (.slice aK (i+1) aJ)).ownsRow w.heap.size 129 5 (.slice pa LA pc) LA (EF GA cs) from by have:=Ai HG.o.own aE.o.ex;rwa[bE.o]at this);have bH:=Aa (HG.o.later aE.o.ex).ex.size;have d0:=aE.o.c0;have d1:=aE.o.c1;have d2:=aE.o.c2;have d3:=aE.o.b0;have d4:=aE.o.b1;go_wp2_with (at_builtin;refine Al _ rfl _ _ 109 rfl w.heap.size 129 (.agg #[.int .i64 0,.int .i64 0,.int .i64 0,.slice none 0 0,.slice none 0 0]) 5 72 Tryz.underlying109 NP rfl ae _ LA (EF GA cs) rfl bI.o [.int .i64 (i:Int),.int .i64 (j:Int),.int .i64 (a:Int),.slice aI (i+1) aH,.slice aK (i+1) aJ] 129 _ rfl ag rfl ak (by have:=aZ.o;unfold maxLen;omega) (by have:=aZ.o;omega) bH.o ?_)
         intro v9 w9 aC;have aA:A8 (w8.setCell ⟨XB,4,none⟩ (.slice aK (i+1) aJ)) w9 w.heap.size 129 5 (.slice pa LA pc) v9 GA.length (EF GA cs) [.int .i64 (i:Int),.int .i64 (j:Int),.int .i64 (a:Int),.slice aI (i+1) aH,.slice aK (i+1) aJ]:=by rw[bE.o];exact aC
         have aG:=Aa ((HG.o.later aE.o.ex).app (g:=⟨i,j,a⟩) aE.o (fun X e=>(HG.o.own.lt X e).2) HG.o.ex.size aA);rw[<-bN.o]at aG;obtain⟨pa9,pc9,rfl⟩:=Ac aC.own;have hab:a<=256:=by have:=aX.o;have:=HQ.o;omega
         clear aC aA d0 d1 d2 d3 d4 h1 h2;go_wp2_with fail
         go_roundw
         case rel=>first|exact⟨a+1,_,ac,by have:=aX.o;omega,by go_num,aG⟩|((repeat apply Exists.intro);exact⟨⟨a+1,_,ac,by have:=aX.o;omega,by go_num,aG⟩,rfl⟩)
         case measure=>have:=aX.o;simp[intOf];omega
      .obtain rfl:q=a:=by omega
       obtain⟨LX,aN⟩:∃x,(GJ++gA i j (q-1)).length=x:=⟨_,rfl⟩;rw[aN]at hg ⊢;rw[<-bL.o]at hg;clear aN;have aG:=Aa hg.o;clear hg;go_wp2_with fail
       go_roundw
       case rel=>first|exact⟨j+1,cs,ac,by have:=bA.o;omega,by go_num,aG⟩|((repeat apply Exists.intro);exact⟨⟨j+1,cs,ac,by have:=bA.o;omega,by go_num,aG⟩,rfl⟩)
       case measure=>have:=bA.o;simp[intOf];omega
    .obtain rfl:n=j:=by omega
     obtain⟨LX,aN⟩:∃x,(GI++gJ q i (n-i)).length=x:=⟨_,rfl⟩;rw[aN]at hg ⊢;rw[<-bM.o]at hg;clear aN;have aG:=Aa hg.o;clear hg;go_wp2_with fail
     go_roundw
     case rel=>first|exact⟨i+1,cs,by have:=aW.o;omega,by go_num,aG⟩|((repeat apply Exists.intro);exact⟨⟨i+1,cs,by have:=aW.o;omega,by go_num,aG⟩,rfl⟩)
     case measure=>have:=aW.o;simp[intOf];omega
  .obtain rfl:n=i:=by omega
   go_wp2_with fail
   go_ret;exact⟨_,cs,rfl,hg.o⟩
end
section
open Go.RowKit
def PI:Prop:=∀(w:World) (base:Nat) (v:Value) (l:List Int),w.ownsRow base 3 1 v l.length (Am l)->1<=l.length->l.length<=1000->
 Calls Tryz.prog 125 #[v] w fun r w'=>r= .returned (.tuple #[])/\w'.ownsRow base 3 1 v l.length (Am (l.mergeSort fun x y=>decide (x<=y)))/\w.grownBy w' v.ownBlock
theorem Jo{w:World}{base aA:Nat}{e:TypeId}{size:Nat}{v:Value}{n:Nat}{xs:List Value}(h:w.ownsRow base e size v n xs)(hb:aA<=base):w.ownsRow aA e size v n xs:=by
 exact zbl
section
variable {w0 wr:World} {base g n:Nat} {sf:Nat->Bool} {cyv:Value} {cyc:List Int} {cv:Value} {M:List (List Int)} {vals:List Value}
theorem BO.lit(h:BO w0 wr base g n sf cyv cyc cv M vals)(x:Int):BO w0 (wr.alloc (.cells #[.int .i64 x] 3)) base g n sf (.slice (some ⟨wr.heap.size,0,none⟩) 1 1) [x] cv M vals:=by
 have hx:Ex wr (wr.alloc (.cells #[.int .i64 x] 3)):=(Ex.refl _).alloc _;have h2:=h.later hx;refine⟨h2.sn,?_,h2.m,?_,fun u hu=>?_,h2.gb,h2.ex,h2.wb⟩
 .have:=DQ wr (.int .i64 x) 3;exact Jo this h.wb
 .right;intro e;have:=(h.m.cvo.lt wr.heap.size e.symm).2;omega
 .unfold AJ
  cases e:u.ownBlock with
  | none=>exact .inl rfl
  | some b=>
   right;intro e2;injection e2 with e2;have e2:b=wr.heap.size:=e2;have hn:=h.m.len;obtain⟨i,hi,ei⟩:=List.getElem_of_mem hu;have:=((h.m.row i (M[i]'ac) u (List.getElem?_eq_getElem _) (by rw[List.getElem?_eq_getElem hi,ei])).lt b e).2;omega
theorem BO.turn(h:BO w0 wr base g n sf cyv cyc cv M vals){w':World}{l:List Int}(hl:l.length=cyc.length)(ho:w'.ownsRow base 3 1 cyv cyc.length (Am l))(hg:wr.grownBy w' cyv.ownBlock):BO w0 w' base g n sf cyv l cv M vals:=by
 have aA:cyv.ownBlock≠some g:=fun e=>by have:=(h.cy.lt _ e).1;have:=h.gb;omega
 refine⟨h.sn.kept hg (.inr fun e=>aA e.symm),by rw[hl];exact ho,⟨h.m.cvo.kept hg h.ap1.symm,fun i r u h1 h2=>(h.m.row i r u h1 h2).kept hg (h.ap2 u (List.mem_of_getElem? h2)),h.m.apart⟩,h.ap1,h.ap2,h.gb,Ex.grown h.ex h.cy (by have:=h.gb;have:=h.sn.lt.1;omega) hg,Nat.le_trans h.wb hg.size⟩
end
def Db(q:List Nat):List Int:=q.map fun (x:Nat)=>(x:Int)
theorem Ci(q:List Nat):(Db q).length=q.length:=by unfold Db;simp
theorem VZ{q:List Nat}{k x:Nat}(h:q[k]?=some x):(Db q)[k]?=some (x:Int):=by unfold Db;rw[List.getElem?_map,h];rfl
theorem Qx(q:List Nat)(x:Nat):Db (q ++ [x])=Db q ++ [(x:Int)]:=by unfold Db;simp
theorem zbs{P:Prop}(h:P:=by
 unfold Db;rw[List.mem_map];exact⟨fun h=>⟨x,h,rfl⟩,fun ⟨y,hy,e⟩=>by
   have:y=x:=by omega
   subst this;exact hy⟩):P:=h
theorem Sz{n:Nat}{S:List (Nat->Nat)}(hS:∀s∈S,Bj n s){i:Nat}(hi:i<n){q:List Nat}(aB:q.Nodup)(hq:∀y,y∈q↔Dx S i y):(Db q).mergeSort (fun x y=>decide (x<=y))=O9 n S i:=by
 have hp:((Db q).mergeSort fun x y=>decide (x<=y)).Perm (Db q):=List.mergeSort_perm _ _;have hs:((Db q).mergeSort fun x y=>decide (x<=y)).Pairwise fun x y=>decide (x<=y)=true:=List.pairwise_mergeSort (fun a b c h1 h2=>by simp at *;omega) (fun a b=>by simp;omega) _;have aA:((Db q).mergeSort fun x y=>decide (x<=y)).Nodup:=hp.nodup_iff.2 (by
  unfold Db;rw[List.nodup_iff_pairwise_ne]at aB ⊢;exact List.pairwise_map.2 (aB.imp fun {a b} h e=>h ac))
 generalize (Db q).mergeSort (fun x y=>decide (x<=y))=m at *;obtain⟨r,hr⟩:∃r:List Nat,m=Db r:=by
  refine⟨m.map Int.toNat,?_⟩;unfold Db;rw[List.map_map];have:∀x∈m,((fun (x:Nat)=>(x:Int)) ∘ Int.toNat) x=x:=fun x hx=>by
   obtain⟨y,_,rfl⟩:=List.mem_map.1 (hp.mem_iff.1 hx);rfl
  rw[List.map_congr_left this,List.map_id']
 subst hr;unfold O9;show Db r=Db _
 congr 1
 refine Oj ?_ (S8 n S i) fun x=>?_
 .have h1:(Db r).Pairwise (fun x y=>decide (x<=y)=true/\x≠y):=hs.and (List.nodup_iff_pairwise_ne.1 aA);unfold Db at h1;rw[List.pairwise_map]at h1;exact h1.imp fun {a b} h=>by have:=of_decide_eq_true h.1;have:=h.2;omega
 .rw[Tm];have h2:x∈r↔(x:Int)∈Db r:=by
   exact zbs
  have h3:x∈q↔(x:Int)∈Db q:=by
   exact zbs
  rw[h2,hp.mem_iff,<-h3,hq];exact⟨fun h=>⟨h.lt hS hi,h⟩,fun h=>h.2⟩
open Classical in
noncomputable def Cf (S:List (Nat->Nat)) (i:Nat) (q:List Nat):Nat->Bool:=fun x=>decide (Fd S i x∨x∈q)
open Classical in
theorem G7 (S:List (Nat->Nat)) (i x:Nat):Cf S i [] x=decide (Fd S i x):=by unfold Cf;simp
open Classical in
theorem KM (S:List (Nat->Nat)) (i:Nat) (q:List Nat) (x:Nat):Ax (Cf S i q) x true=Cf S i (q ++ [x]):=by
 funext y;unfold Ax Cf;by_cases h:y=x
 .subst h;simp
 .simp[h]
open Classical in
theorem Rl {n:Nat} {S:List (Nat->Nat)} (hS:∀s∈S,Bj n s) {i:Nat} {q:List Nat} (hq:∀y,y∈q↔Dx S i y) (x:Nat):Cf S i q x=Cf S (i+1) [] x:=by
 unfold Cf;rw[Bool.eq_iff_iff];simp only[decide_eq_true_eq,List.not_mem_nil,or_false];rw[Jd hS,hq]
open Classical in
theorem SJ {n:Nat} {S:List (Nat->Nat)} (hS:∀s∈S,Bj n s) {i:Nat} (h:¬MU S i) (x:Nat):Cf S i [] x=Cf S (i+1) [] x:=by
 unfold Cf;rw[Bool.eq_iff_iff];simp only[decide_eq_true_eq,List.not_mem_nil,or_false];exact(SH hS h).symm
noncomputable def GG(n:Int)(rows:List (List Int)):List (List Int) × Int:=if DK n rows≠0 then([],DK n rows) else(CW n.toNat (rows.map C6) n.toNat,0)
def Yp(n:Int)(rows:List (List Int))(r:Ending)(w':World):Prop:=∃v,r= .returned (.tuple #[v,.int .i64 (GG n rows).2])/\B6 w' v (GG n rows).1
theorem L8{n:Int}{rows k:List (List Int)}{e:Int}{v:Value}{w':World}(h:GG n rows=(k,e))(hv:B6 w' v k):Yp n rows (.returned (.tuple #[v,.int .i64 e])) w':=⟨v,by rw[h],by rw[h];exact hv⟩
theorem IJ{N:Nat}{S:List (Nat->Nat)}(hS:∀s∈S,Bj N s):(S.map (li N)).map C6=S:=by
 rw[List.map_map];have:∀s∈S,(C6 ∘ li N) s=s:=fun s hs=>JM (hS s hs);rw[List.map_congr_left this,List.map_id']
theorem bu{P:Prop}(h:P:=by simp[World.setCell]):P:=h
theorem PM(bQ:PI)(w:World)(n:Int)(rows:List (List Int))(v:Value)(hv:B6 w v rows)(hrl:rows.length<=1000):
  Calls Tryz.prog 65 #[.int .i64 n,v] w fun r w'=>Yp n rows r w'/\Ex w w':=by
 have HV:=Aa hv;have HG:=Aa (FA w n rows v hv);obtain⟨a,cap,rfl,_,s2,_⟩:=hv.open;unfold maxLen at s2;obtain⟨e,he⟩:=nA (DK n rows);rw[he]at HG;clear hv;by_cases h0:e=0
 .subst h0;obtain⟨N,rfl,hN1,bS,S,aP,hS⟩:=IW he;have HP:=Aa (show GG N rows=(CW N S N,0) from by unfold GG;rw[he,if_neg ae,aP,IJ hS];rfl);have HS:=Aa hS;have bU:=Aa aP;have HN:=Aa bS;have bJ:S.length=rows.length:=by rw[aP];simp
  have bN:=Aa bJ;clear he hS aP bJ;go_enter Tryz.func65,Tryz.ntmps65
  go_wp2_with (first|(go_at_call 124;refine HG.o.mono ?_;rintro e w1⟨rfl,aJ⟩;have aQ:=Aa aJ;clear aJ)|(at_make;refine Ap _ rfl _ _ 168 rfl 4 (.bool false) 1 Tryz.underlying168 JF rfl _ N rfl rfl rfl ac ai ?_))
  intro w3 aC bE;have aE:=Aa (BO.start aC bE (sf:=Cf S 0 []) fun x _=>by
   rw[G7];simp[Fd])
  clear aC bE;obtain⟨g,hg⟩:=nA w1.heap.size
  try simp only[hg]at aE ⊢
  clear hg;go_wp2_with fail
  go_loopw [24,8,10] (fun i' bT aO wr=>∃(i:Nat) (vals:List Value),i<=N/\i'= .int .i64 i/\Hia (BO w1 wr (g+1) g N (Cf S i []) (.slice none 0 0) [] bT (CW N S i) vals)) (fun i' _ _ _=>N-(intOf i').toNat)
  case atStart=>exact⟨0,_,ac,rfl,aE⟩
  case round=>
   clear aE;obtain⟨i,vals,hi,rfl,Bf⟩:=hrel;obtain⟨bL,bK,bR⟩:=Ac Bf.o.m.cvo;subst bR;have cB:=Aa (Rs N S i);by_cases hin:i<N
   .have i1:(0:Int)<=(i:Int):=by omega
    have i2:(i:Int)<(N:Int):=ac;have c2:=Bf.o.sn.frz i;by_cases hl:MU S i
    .have c1:wr.cell? ⟨g,i,none⟩=some (.bool false):=by
      rw[Bf.o.sn.cell hin];show some (Value.bool (Cf S i [] i))=_
      rw[G7];have:¬Fd S i i:=fun h=>Gg.1 h hl;simp[this]
     have HL:=Aa hl;have bF:(wr.setCell ⟨g,i,none⟩ (.bool true)).heap.size=wr.heap.size:=bu;have bB:=Aa (((Bf.o.mark i).congr (sf':=Cf S i [i]) fun x _=>by rw[KM];rfl).lit (i:Int));rw[bF]at bB;have aN:=Aa (D7.start N S i);clear Bf hl bF;go_wp2_with fail
     generalize (wr.setCell ⟨g,i,none⟩ (.bool true)).alloc (.cells #[.int .i64 (i:Int)] 3)=wm at *
     go_loopg [10,11] N (fun gk aO k' wr=>∃(q:List Nat) (k:Nat),k<=(Db q).length/\N-k<=gk/\k'= .int .i64 k/\Hia (BO w1 wr (g+1) g N (Cf S i q) aO (Db q) (.slice bL (CW N S i).length bK) (CW N S i) vals)/\Hia (D7 N S i q k 0))
     case atStart=>exact⟨[i],0,ac,ac,rfl,bB,aN⟩
     case round=>
      clear bB aN c1 c2;obtain⟨q,k,hk,aV,rfl,Bf,aA⟩:=hrel;have aK:=aA.o.len HS.o hin;rw[<-Ci]at aK;obtain⟨aH,bH⟩:=aK;by_cases aF:k<(Db q).length
      .have bO:=Aa (show k<N from ac);have cA:=Aa aV;have b1:decide ((k:Int)<((Db q).length:Int))=true:=by simp;omega
       obtain⟨ob,oc,aL,aG,aB⟩:=Fs Bf.o.cy aH;subst aL;unfold maxLen at aB;clear aG aB;go_wp2_with fail
       go_loopw [10,44] (fun aO g' wr=>∃(q:List Nat) (t:Nat),t<=rows.length/\g'= .int .i64 t/\k<q.length/\Hia (BO w1 wr (g+1) g N (Cf S i q) aO (Db q) (.slice bL (CW N S i).length bK) (CW N S i) vals)/\Hia (D7 N S i q k t)) (fun _ g' _=>rows.length-(intOf g').toNat)
       case atStart=>exact⟨q,0,ac,rfl,by rw[<-Ci];exact aF,Bf,aA⟩
       case round=>
        clear Bf aA aF hk aV aH bH b1;obtain⟨q,t,ht,rfl,aF,Bf,aA⟩:=hrel;have aK:=aA.o.len HS.o hin;rw[<-Ci]at aK;obtain⟨aH,bH⟩:=aK;obtain⟨ob,oc,aL,aG,aB⟩:=Fs Bf.o.cy aH;subst aL;unfold maxLen at aB;by_cases htr:t<rows.length
        .obtain⟨s,hs⟩:∃s,S[t]?=some s:=⟨_,List.getElem?_eq_getElem (by rw[bN.o];exact htr)⟩;obtain⟨x,hx⟩:∃x,q[k]?=some x:=⟨_,List.getElem?_eq_getElem aF⟩;have aT:rows[t]?=some (li N s):=by rw[bU.o,List.getElem?_map,hs];rfl
         have aS:=HS.o s (List.mem_of_getElem? hs);have bD:=aA.o.lt HS.o hin x (List.mem_of_getElem? hx);have bG:=aS.lt x bD;obtain⟨_,_,e1,_,_,h3⟩:=(HV.o.ex (aQ.o.trans Bf.o.ex)).open;injection e1 with e1 e2 e3;subst e1 e3;obtain⟨zb,zo,rfl,aR⟩:=h3 ac;obtain⟨u,d1,hu⟩:=aR t _ aT;obtain⟨ua,uc,rfl,_,_,_⟩:=En hu;obtain⟨pb,po,rfl,_,aU⟩:=Ey hu ac;have d2:=aU x bD;have d3:wr.cell? ⟨ob,k,none⟩=some (.int .i64 (x:Int)):=by
          rw[World.ownsRow.cellAt Bf.o.cy k (by rw[Ci];omega)];exact NO (VZ hx)
         have d4:=Bf.o.sn.frz (s x);have i3:(0:Int)<=(t:Int):=ac;have i4:(t:Int)<(rows.length:Int):=ac;have i5:(0:Int)<=(k:Int):=ac;have i6:(k:Int)<((Db q).length:Int):=by rw[Ci];omega
         have i7:(0:Int)<=(x:Int):=ac;have i8:(x:Int)<(N:Int):=ac;have i9:(0:Int)<=(s x:Int):=ac;have i10:(s x:Int)<(N:Int):=ac;have aM:=aA;by_cases hm:Fd S i (s x)∨s x∈q
         .have d5:wr.cell? ⟨g,s x,none⟩=some (.bool true):=by
           rw[Bf.o.sn.cell bG];show some (Value.bool (Cf S i q (s x)))=_
           unfold Cf;simp[hm]
          have aI:=Aa (aA.o.hit hx hs (aA.o.seen HL.o hx hs hm));have aE:=Aa Bf.o;clear Bf aA aM hm aR h3 hu aU hs hx aT aS;go_wp2_with fail
          go_roundw
          case rel=>exact⟨q,t+1,ac,by go_num,aF,aE,aI⟩
          case measure=>simp[intOf];omega
         .have d5:wr.cell? ⟨g,s x,none⟩=some (.bool false):=by
           rw[Bf.o.sn.cell bG];show some (Value.bool (Cf S i q (s x)))=_
           unfold Cf;simp[hm]
          have aI:=Aa (aA.o.new hx hs (fun h=>hm (.inr h)));have bA:=Aa ((Bf.o.mark (s x)).congr (sf':=Cf S i (q ++ [s x])) fun y _=>by rw[KM]);have aW:=Aa bA.o.wb;have cC:=Aa (Qx q (s x));clear Bf aA aM hm aR h3 hu aU hs hx aT aS;generalize hWW:wr.setCell ⟨g,s x,none⟩ (.bool true)=wm at *;go_wp2_with (at_builtin;refine Al _ rfl _ _ 22 rfl (g+1) 3 (.int .i64 0) 1 8 Tryz.underlying22 Aw rfl ae _ (Db q).length _ rfl bA.o.cy [.int .i64 (s x:Int)] 3 _ rfl ag rfl ak ai ac aW.o ?_)
          intro oy2 w4 aD;have aZ:=Aa (bA.o.app aD);rw[<-cC.o]at aZ;clear aD;go_wp2_with fail
          go_roundw
          case rel=>first|exact⟨q ++ [s x],t+1,ac,by go_num,by rw[List.length_append];omega,aZ,aI⟩|((repeat apply Exists.intro);exact⟨⟨q ++ [s x],t+1,ac,by go_num,by rw[List.length_append];omega,aZ,aI⟩,rfl⟩)
          case measure=>simp[intOf];omega
        .obtain rfl:t=rows.length:=by omega
         have aI:=Aa (aA.o.next (by rw[bN.o];exact Nat.le_refl _));have aE:=Aa Bf.o;have bZ:=Aa aF;have hk64:k<=64:=by have:=bO.o;have:=HN.o;omega
         clear Bf aA aF;go_wp2_with fail
         go_roundg (N-(k+1))
         case rel=>exact⟨q,k+1,by rw[Ci];have:=bZ.o;omega,ac,by go_num,aE,aI⟩
         case measure=>have:=bO.o;have:=cA.o;omega
      .obtain rfl:k=(Db q).length:=by omega
       have bP:=Aa (fun y=>aA.o.fin (by rw[Ci];exact Nat.le_refl _) y);have bV:=Aa (Sz HS.o hin aA.o.nd bP.o);have bM:=Aa (Bf.o.congr (sf':=Cf S (i+1) []) fun x _=>Rl HS.o bP.o x);have aE:=Aa (bQ wr (g+1) _ (Db q) bM.o.cy aH ac);obtain⟨ob,oc,aL,aG,aB⟩:=Fs Bf.o.cy aH;subst aL;unfold maxLen at aB;have bC:=Aa ((Jq N S i).1 HL.o);have bY:=Aa (show((Db q).mergeSort fun x y=>decide (x<=y)).length=(Db q).length from List.length_mergeSort _);have hml:(CW N S i).length<=64:=by have:=cB.o;have:=HN.o;omega
       clear Bf aA aF hk aV;go_wp2_with (first|(go_at_call 125;refine aE.o.mono ?_;rintro e w5⟨rfl,aC,bI⟩;have aY:=Aa (bM.o.turn bY.o aC bI);have aW:=Aa aY.o.wb;clear aC bI)|(at_builtin;refine Al _ rfl _ _ 37 rfl (g+1) 22 (.slice none 0 0) 1 24 Tryz.underlying37 Bz rfl ae _ (CW N S i).length _ rfl aY.o.m.cvo [.slice (some ⟨ob,0,none⟩) (Db q).length oc] 22 _ rfl ag rfl ak ai ac aW.o ?_))
       intro cv2 w6 aD;have aX:=Aa (aY.o.push aD);rw[bV.o,<-bC.o]at aX;clear aD;go_wp2_with fail
       go_roundw
       case rel=>first|exact⟨i+1,_,ac,by go_num,aX⟩|((repeat apply Exists.intro);exact⟨⟨i+1,_,ac,by go_num,aX⟩,rfl⟩)
       case measure=>simp[intOf];omega
    .have c1:wr.cell? ⟨g,i,none⟩=some (.bool true):=by
      rw[Bf.o.sn.cell hin];show some (Value.bool (Cf S i [] i))=_
      rw[G7];have:Fd S i i:=Gg.2 hl;simp[this]
     have bW:=Aa (Bf.o.congr fun x hx=>SJ HS.o hl x);have bC:=Aa ((Jq N S i).2 hl);clear Bf hl;go_wp2_with fail
     go_roundw
     case rel=>exact⟨i+1,vals,ac,by go_num,by rw[bC.o];exact bW⟩
     case measure=>simp[intOf];omega
   .obtain rfl:i=N:=by omega
    have bX:=Aa (Bf.o.m.msl);have HX:=Aa (aQ.o.trans Bf.o.ex);clear Bf;go_wp2_with fail
    go_ret2;exact⟨L8 HP.o bX.o,HX.o⟩
 .have HP:=Aa (show GG n rows=([],e) from by unfold GG;rw[he,if_pos h0]);have hb:(e !=0)=true:=by simpa using h0
  clear h0 he;go_enter Tryz.func65,Tryz.ntmps65
  go_wp2_with (go_at_call 124;refine HG.o.mono ?_;rintro e w1⟨rfl,aJ⟩;have aQ:=Aa aJ;clear aJ)
  go_ret2;exact⟨L8 HP.o (VH _),aQ.o⟩
end
end Go.Proofs.YtehieobniamagaaGreat
