/- Plain: the points of a map tell the map. -/
import Derived.Sort.OwnSortedInts
import Derived.Test.YtehieobniamagaaGreatZc23
namespace Go.Proofs.YtehieobniamagaaGreat
open Go.RowKit
set_option linter.all false
set_option maxRecDepth 100000
set_option maxHeartbeats 8000000
section
variable {p m N:Nat} {ml pl sl:List Int}
theorem Wy(h:Bo p m ml pl sl 0 N){i:Nat}(hi:i<N):∃z:Nat,sl.getD i 0=z/\1<=z/\z<p^m/\(Hm p m ml pl sl).getD (i*(p^m-1)) 0=((BH pl i*(p^m-1)+z:Nat):Int)-1:=by
 obtain⟨z,hz,h1,h2⟩:=h.sc i hi;refine⟨z,hz,h1,h2,?_⟩;have hQ:0<p^m-1:=ac;have aA:i*(p^m-1)<N*(p^m-1):=(Nat.mul_lt_mul_right hQ).2 hi;unfold Hm;rw[h.pll,List.getD_eq_getElem?_getD,AQ aA];show Pi p m ml pl sl (i*(p^m-1))=_
 unfold Pi;rw[Nat.mul_div_cancel _ hQ,Nat.mul_mod_left,hz,AA h2,Nat.zero_add,Bz h.hp h.hm h2]
theorem Tb(h:Bo p m ml pl sl 0 N):il N (FS (p^m-1) (Hm p m ml pl sl))=il N (fun i=>(BH pl i:Int))/\il N (Gu (p^m-1) (Hm p m ml pl sl))=il N (fun i=>sl.getD i 0):=by
 constructor
 .refine FH fun i hi=>?_;obtain⟨z,hz,h1,h2,h3⟩:=Wy h hi;unfold FS;rw[h3];have:((BH pl i*(p^m-1)+z:Nat):Int)-1=((BH pl i*(p^m-1)+(z-1):Nat):Int):=by omega
  rw[this,<-Int.natCast_ediv,Nat.mul_comm,Nat.mul_add_div ac,Nat.div_eq_of_lt ac,Nat.add_zero]
 .refine FH fun i hi=>?_;obtain⟨z,hz,h1,h2,h3⟩:=Wy h hi;unfold Gu;rw[h3,hz];have:((BH pl i*(p^m-1)+z:Nat):Int)-1=((BH pl i*(p^m-1)+(z-1):Nat):Int):=by omega
  rw[this,<-Int.natCast_emod,Nat.mul_comm,Nat.mul_add_mod,Nat.mod_eq_of_lt ac];omega
theorem UT(h:Bo p m ml pl sl 0 N){k:Nat}(hk:k<N*(p^m-1)):∃z:Nat,1<=z/\z<p^m/\z=Al p m (lw ml) (Av (p^m) (sl.getD (k/(p^m-1)) 0)) (k%(p^m-1)+1)/\k/(p^m-1)<N/\BH pl (k/(p^m-1))<N/\Pi p m ml pl sl k=((BH pl (k/(p^m-1))*(p^m-1)+(z-1):Nat):Int):=by
 have hQ:0<p^m-1:=by
  apply Nat.pos_of_ne_zero;intro e;rw[e,Nat.mul_zero]at hk;omega
 have hi:k/(p^m-1)<N:=Nat.div_lt_of_lt_mul (by rw[Nat.mul_comm];exact hk);obtain⟨s,hs,h1,h2⟩:=h.sc _ hi;have hr:=Nat.mod_lt k hQ;have aB:=h.hF.ne_zero h.hp h.hm h1 h2 (show 1<=k%(p^m-1)+1 by omega) (show k%(p^m-1)+1<p^m by omega);have aA:=Bc (p:=p) (m:=m) (low:=lw ml) (by have:=h.hp;omega) s (k%(p^m-1)+1);refine⟨Al p m (lw ml) s (k%(p^m-1)+1),aB,aA,by rw[hs,AA h2],hi,h.inj.1 _ hi,?_⟩;unfold Pi;rw[hs,AA h2];omega
theorem R4{l:List Int}{N:Nat}(h:l.length=N){f:Nat->Int}(hf:∀i,i<N->f i=l.getD i 0):il N f=l:=by
 subst h;refine List.ext_getElem? fun i=>?_;by_cases hi:i<l.length
 .rw[AQ hi,hf i hi,List.getD_eq_getElem?_getD,List.getElem?_eq_getElem hi];rfl
 .rw[List.getElem?_eq_none (by rw[Ao];omega),List.getElem?_eq_none ac]
end
theorem Nx(w:World)(n q:Nat)(hn:n<=64)(bB:1<=q)(hq:q<=256):
  Calls Tryz.prog 121 #[n,q] w fun r w'=>∃v cs,r= .returned v/\Pk w w' v (Dw n q) cs:=by
 obtain⟨bG,bP,bO,HQ,HN⟩:=Of (Pk.nil (Ex.refl w)) (ON n q hn hq) (fun i=>R6 q i hq) (show 1<=q/\q<=256 from⟨bB,hq⟩) hn;clear bB hq;go_enter Tryz.func121,Tryz.ntmps121
 go_wp2_with fail
 go_loopw [5,12] (fun v' i' wr=>∃(i:Nat) (cs:List (Value × Value)),i<=n/\i'= .int .i64 i/\Hia (Pk w wr v' (gI n q i) cs)) (fun _ i' _=>n-(intOf i').toNat)
 case atStart=>exact⟨0, [],ac,rfl,bG⟩
 case round=>
  clear bG;obtain⟨i,cs,hi,rfl,hg⟩:=hrel;obtain⟨pa,pc,aM⟩:=Ad hg.o.own;subst aM;by_cases hin:i<n
  .obtain⟨GI,aT⟩:∃g,gI n q i=g:=⟨_,rfl⟩;have bM:=Aa (show gI n q (i+1)=GI++gJ q i (n-i) from by rw[OM,aT]);have bD:=Aa (show GI.length<=1048576 from by rw[<-aT];have:=bP.o i;omega);rw[aT]at hg ⊢;obtain⟨LI,aQ⟩:∃l,GI.length=l:=⟨_,rfl⟩;rw[aQ]at bD ⊢;have bJ:=Aa aQ;have HG:=Aa (show Pk w wr (.slice pa LI pc) (GI++gJ q i (i-i)) cs from by rw[Nat.sub_self];unfold gJ;rw[List.range_zero,List.flatMap_nil,List.append_nil,<-aQ];exact hg.o);obtain⟨w8,h8⟩:∃w8,w8=wr:=⟨_,rfl⟩;rw[<-h8]at HG ⊢;have aW:=Aa hin;clear h8 hg aT aQ;go_wp2_with fail
   clear hin
   go_loopw [5,7] (fun v' j' wr=>∃(j:Nat) (cs:List (Value × Value)),i<=j/\j<=n/\j'= .int .i64 j/\Hia (Pk w wr v' (GI++gJ q i (j-i)) cs)) (fun _ j' _=>n-(intOf j').toNat)
   case atStart=>exact⟨i,cs,ac,ac,rfl,HG⟩
   case round=>
    clear HG;obtain⟨j,cs,hj1,hj2,rfl,hg⟩:=hrel;obtain⟨pa,pc,aM⟩:=Ad hg.o.own;subst aM;by_cases hjn:j<n
    .obtain⟨GJ,aS⟩:∃g,GI++gJ q i (j-i)=g:=⟨_,rfl⟩;have bL:=Aa (show GI++gJ q i (j+1-i)=GJ++gA i j (q-1) from by rw[<-aS,show j+1-i=j-i+1 from ac,OL,show i+(j-i)=j from ac,List.append_assoc]);have bC:=Aa (show GJ.length<=1100000 from by rw[<-aS,List.length_append];have:=bO.o i (j-i);have:=bD.o;have:=bJ.o;have:=HN.o;omega);rw[aS]at hg ⊢;obtain⟨LJ,aP⟩:∃l,GJ.length=l:=⟨_,rfl⟩;rw[aP]at bC ⊢;have bK:=Aa aP;have HG:=Aa (show Pk w wr (.slice pa LJ pc) (GJ++gA i j (1-1)) cs from by unfold gA;rw[Nat.sub_self,List.range_zero,List.map_nil,List.append_nil,<-aP];exact hg.o);obtain⟨w7,h7⟩:∃w7,w7=wr:=⟨_,rfl⟩;rw[<-h7]at HG ⊢;have bA:=Aa hjn;clear h7 hg aS aP;go_wp2_with fail
     clear hjn
     go_loopw [5,8] (fun v' a' wr=>∃(a:Nat) (cs:List (Value × Value)),1<=a/\a<=q/\a'= .int .i64 a/\Hia (Pk w wr v' (GJ++gA i j (a-1)) cs)) (fun _ a' _=>q-(intOf a').toNat)
     case atStart=>exact⟨1,cs,ac,HQ.o.1,rfl,HG⟩
     case round=>
      clear HG;obtain⟨a,cs,ha1,ha2,rfl,hg⟩:=hrel;obtain⟨pa,pc,aM⟩:=Ad hg.o.own;subst aM;by_cases han:a<q
      .obtain⟨GA,aU⟩:∃g,GJ++gA i j (a-1)=g:=⟨_,rfl⟩;have bN:=Aa (show GJ++gA i j (a+1-1)=GA ++ [⟨i,j,a⟩] from by
        rw[<-aU,show a+1-1=a-1+1 from ac,Z7,show a-1+1=a from ac,List.append_assoc])
       have aZ:=Aa (show GA.length<=1200000 from by rw[<-aU,List.length_append,R7];have:=bC.o;have:=bK.o;have:=HQ.o;omega);rw[aU]at hg ⊢;obtain⟨LA,aR⟩:∃l,GA.length=l:=⟨_,rfl⟩;have bE:=Aa aR;rw[aR]at aZ ⊢;obtain⟨HG,aV,aD,aX⟩:=Eq (show Pk w wr (.slice pa LA pc) GA cs from by rw[<-aR];exact hg.o) (NQ.new wr i j a) (show i<=64 from by have:=aW.o;have:=HN.o;omega) han;obtain⟨w5,h5⟩:∃w5,w5=wr:=⟨_,rfl⟩;rw[<-h5]at HG aV ⊢;clear h5 hg aU aR;go_upto_region 12 with fail
       clear han;obtain⟨XB,aO⟩:∃x,w5.heap.size=x:=⟨_,rfl⟩;rw[aO]at aV
       try simp only[aO]
       have HXB:=Aa aO;clear aO;generalize w5.alloc (.cells #[i,j,a,.slice none 0 0,.slice none 0 0] 129)=w6 at *;go_wp2_with fail
       go_loopw [31] (fun k' wr=>∃(k:Nat) (pv sv:Value),k<=i/\k'= .int .i64 k/\Hia (NQ w5 wr XB i j a pv sv (LT k) (Mw k))) (fun k' _=>i-(intOf k').toNat)
       case atStart=>exact⟨0,_,_,ac,rfl,aV⟩
       case round=>
        clear aV;obtain⟨k,pv,sv,hk,rfl,HC⟩:=hrel;obtain⟨va,vc,rfl⟩:=Ad HC.o.o0;obtain⟨ua,uc,rfl⟩:=Ad HC.o.o1;rw[F6,FY]at *;have c3:=HC.o.b0;by_cases hki:k<i
        .have aY:=Aa (show wr.ownsRow w5.heap.size 3 1 (.slice va k vc) k (Ap (LT k)) from by have:=HC.o.o0;rwa[F6]at this);have bF:=Aa hki;go_wp2_with (at_builtin;refine Am _ rfl _ _ 22 rfl w5.heap.size 3 (.int .i64 0) 1 8 Tryz.underlying22 Az rfl ae _ k (Ap (LT k)) rfl aY.o [.int .i64 (k:Int)] 3 _ rfl ag rfl aj (by have:=aD.o;unfold maxLen;omega) (by have:=aD.o;omega) HC.o.ex.size ?_)
         intro v7 w7 aC;have aA:Bt wr w7 w5.heap.size 3 1 (.slice va k vc) v7 (LT k).length (Ap (LT k)) [.int .i64 (k:Int)]:=by rw[F6];exact aC
         obtain⟨g1,g2⟩:=HC.o.at0 aA;have aB:=HC.o.app0 aA;rw[<-Xg]at aB;obtain⟨aI,aH,rfl⟩:=Ad aC.own;have aF:=Aa aB;have aL:=Aa (show(w7.setCell (XB,3) (.slice aI (k+1) aH)).ownsRow w5.heap.size 3 1 (.slice ua k uc) k (Ap (Mw k)) from by have:=aF.o.o1;rwa[FY]at this);have c4:=aF.o.b1;clear aC aA aB c3;go_wp2_with (at_builtin;refine Am _ rfl _ _ 22 rfl w5.heap.size 3 (.int .i64 0) 1 8 Tryz.underlying22 Az rfl ae _ k (Ap (Mw k)) rfl aL.o [.int .i64 1] 3 _ rfl ag rfl aj (by have:=aD.o;unfold maxLen;omega) (by have:=aD.o;omega) aF.o.ex.size ?_)
         intro v8 w8 aC;have aA:Bt (w7.setCell (XB,3) (.slice aI (k+1) aH)) w8 w5.heap.size 3 1 (.slice ua k uc) v8 (Mw k).length (Ap (Mw k)) [.int .i64 1]:=by rw[FY];exact aC
         obtain⟨h1,h2⟩:=aF.o.at1 aA;have aB:=aF.o.app1 aA;rw[<-Ww]at aB;obtain⟨aK,aJ,rfl⟩:=Ad aC.own;have aE:=Aa aB;clear aC aA aB c4 g1 g2;go_wp2_with fail
         go_roundw
         case rel=>first|exact⟨k+1,_,_,ac,by go_num,aE⟩|((repeat apply Exists.intro);exact⟨⟨k+1,_,_,by have:=bF.o;omega,by go_num,aE⟩,rfl⟩)
         case measure=>have:=bF.o;simp[intOf];omega
        .obtain rfl:i=k:=by omega
         have aY:=Aa (show wr.ownsRow w5.heap.size 3 1 (.slice va i vc) i (Ap (LT i)) from by have:=HC.o.o0;rwa[F6]at this);go_wp2_with (at_builtin;refine Am _ rfl _ _ 22 rfl w5.heap.size 3 (.int .i64 0) 1 8 Tryz.underlying22 Az rfl ae _ i (Ap (LT i)) rfl aY.o [.int .i64 (j:Int)] 3 _ rfl ag rfl aj (by have:=aD.o;unfold maxLen;omega) (by have:=aD.o;omega) HC.o.ex.size ?_)
         intro v7 w7 aC;have aA:Bt wr w7 w5.heap.size 3 1 (.slice va i vc) v7 (LT i).length (Ap (LT i)) [.int .i64 (j:Int)]:=by rw[F6];exact aC
         obtain⟨g1,g2⟩:=HC.o.at0 aA;have aB:=HC.o.app0 aA;obtain⟨aI,aH,rfl⟩:=Ad aC.own;have aF:=Aa aB;have aL:=Aa (show(w7.setCell (XB,3) (.slice aI (i+1) aH)).ownsRow w5.heap.size 3 1 (.slice ua i uc) i (Ap (Mw i)) from by have:=aF.o.o1;rwa[FY]at this);have c4:=aF.o.b1;clear aC aA aB c3;go_wp2_with (at_builtin;refine Am _ rfl _ _ 22 rfl w5.heap.size 3 (.int .i64 0) 1 8 Tryz.underlying22 Az rfl ae _ i (Ap (Mw i)) rfl aL.o [.int .i64 (a:Int)] 3 _ rfl ag rfl aj (by have:=aD.o;unfold maxLen;omega) (by have:=aD.o;omega) aF.o.ex.size ?_)
         intro v8 w8 aC;have aA:Bt (w7.setCell (XB,3) (.slice aI (i+1) aH)) w8 w5.heap.size 3 1 (.slice ua i uc) v8 (Mw i).length (Ap (Mw i)) [.int .i64 (a:Int)]:=by rw[FY];exact aC
         obtain⟨h1,h2⟩:=aF.o.at1 aA;have aB:=aF.o.app1 aA;obtain⟨aK,aJ,rfl⟩:=Ad aC.own;have aE:=Aa (show NQ w5 (w8.setCell (XB,4) (.slice aK (i+1) aJ)) XB i j a (.slice aI (i+1) aH) (.slice aK (i+1) aJ) (Cf.tl ⟨i,j,a⟩) (Cf.sl ⟨i,j,a⟩) from aB);clear aC aA aB c4 g1 g2;have bI:=Aa (show(w8.setCell (XB,4) (.slice aK (i+1) aJ)).ownsRow w.heap.size 129 5 (.slice pa LA pc) LA (FJ GA cs) from by have:=Ai HG.o.own aE.o.ex;rwa[bE.o]at this);have bH:=Aa (HG.o.later aE.o.ex).ex.size;have d0:=aE.o.c0;have d1:=aE.o.c1;have d2:=aE.o.c2;have d3:=aE.o.b0;have d4:=aE.o.b1;go_wp2_with (at_builtin;refine Am _ rfl _ _ 109 rfl w.heap.size 129 (.agg #[(0:Int),(0:Int),(0:Int),.slice none 0 0,.slice none 0 0]) 5 72 Tryz.underlying109 Qo rfl ae _ LA (FJ GA cs) rfl bI.o [.int .i64 (i:Int),.int .i64 (j:Int),.int .i64 (a:Int),.slice aI (i+1) aH,.slice aK (i+1) aJ] 129 _ rfl ag rfl aj (by have:=aZ.o;unfold maxLen;omega) (by have:=aZ.o;omega) bH.o ?_)
         intro v9 w9 aC;have aA:Bt (w8.setCell (XB,4) (.slice aK (i+1) aJ)) w9 w.heap.size 129 5 (.slice pa LA pc) v9 GA.length (FJ GA cs) [.int .i64 (i:Int),.int .i64 (j:Int),.int .i64 (a:Int),.slice aI (i+1) aH,.slice aK (i+1) aJ]:=by rw[bE.o];exact aC
         have aG:=Aa ((HG.o.later aE.o.ex).app (g:=⟨i,j,a⟩) aE.o (fun X e=>(HG.o.own.lt X e).2) HG.o.ex.size aA);rw[<-bN.o]at aG;obtain⟨pa9,pc9,rfl⟩:=Ad aC.own;have hab:a<=256:=by have:=aX.o;have:=HQ.o;omega
         clear aC aA d0 d1 d2 d3 d4 h1 h2;go_wp2_with fail
         go_roundw
         case rel=>first|exact⟨a+1,_,ac,by have:=aX.o;omega,by go_num,aG⟩|((repeat apply Exists.intro);exact⟨⟨a+1,_,ac,by have:=aX.o;omega,by go_num,aG⟩,rfl⟩)
         case measure=>have:=aX.o;simp[intOf];omega
      .obtain rfl:q=a:=by omega
       obtain⟨LX,aN⟩:∃x,(GJ++gA i j (q-1)).length=x:=⟨_,rfl⟩;rw[aN]at hg ⊢;rw[<-bL.o]at hg;clear aN;have aG:=Aa hg.o;clear hg;go_wp2_with fail
       go_roundw
       case rel=>first|exact⟨j+1,cs,ac,by have:=bA.o;omega,by go_num,aG⟩|((repeat apply Exists.intro);exact⟨⟨j+1,cs,ac,by have:=bA.o;omega,by go_num,aG⟩,rfl⟩)
       case measure=>have:=bA.o;simp[intOf];omega
    .obtain rfl:n=j:=by omega
     obtain⟨LX,aN⟩:∃x,(GI++gJ q i (n-i)).length=x:=⟨_,rfl⟩;rw[aN]at hg ⊢;rw[<-bM.o]at hg;clear aN;have aG:=Aa hg.o;clear hg;go_wp2_with fail
     go_roundw
     case rel=>first|exact⟨i+1,cs,by have:=aW.o;omega,by go_num,aG⟩|((repeat apply Exists.intro);exact⟨⟨i+1,cs,by have:=aW.o;omega,by go_num,aG⟩,rfl⟩)
     case measure=>have:=aW.o;simp[intOf];omega
  .obtain rfl:n=i:=by omega
   go_wp2_with fail
   go_ret;exact⟨_,cs,rfl,hg.o⟩
open Classical in
noncomputable def A7 (S:List (Nat->Nat)) (b m:Nat):List Nat:=(List.range m).filter fun x=>decide (∃f,Gn S f/\AW b f/\f b=x)
open Classical in
theorem Np (S:List (Nat->Nat)) (b m:Nat):((∃f,Gn S f/\AW b f/\f b=m)->A7 S b (m+1)=A7 S b m ++ [m])/\(¬(∃f,Gn S f/\AW b f/\f b=m)->A7 S b (m+1)=A7 S b m):=by
 unfold A7;rw[List.range_succ,List.filter_append];constructor
 .intro h;simp[List.filter,h]
 .intro h;have h2:decide (∃f,Gn S f/\AW b f/\f b=m)=false:=decide_eq_false h;simp only[List.filter,h2,List.append_nil]
theorem Fz(S:List (Nat->Nat))(b m:Nat):(A7 S b m).length<=m:=by
 unfold A7;exact Nat.le_trans (List.length_filter_le _ _) ag
noncomputable def Ec(n:Nat)(S:List (Nat->Nat))(b m:Nat):List (List Int):=(A7 S b m).map fun x=>li n (CH n S b x)
noncomputable def Fo(n:Nat)(S:List (Nat->Nat))(b:Nat):Lv:=⟨b,CU (A7 S b n),Ec n S b n⟩
noncomputable def B3(n:Nat)(S:List (Nat->Nat))(m:Nat):List Lv:=((List.range m).map (Fo n S)).filter fun l=>decide (1<l.orb.length)
theorem NH(n:Nat)(S:List (Nat->Nat))(m:Nat):B3 n S (m+1)=B3 n S m++if 1<(Fo n S m).orb.length then [Fo n S m] else []:=by
 unfold B3;rw[List.range_succ,List.map_append,List.filter_append]
 congr 1
 by_cases h:1<(Fo n S m).orb.length <;> simp[List.filter,h]
theorem QP(n:Nat)(S:List (Nat->Nat))(m:Nat):(B3 n S m).length<=m:=by
 unfold B3;refine Nat.le_trans (List.length_filter_le _ _) ag
section
variable {w0 wr:World} {q n b ob lb:Nat} {lv:Value} {L:List Lv} {os:List (Value × Value)} {ov:Value} {orb:List Int} {rv:Value} {reps:List (List Int)} {vals:List Value} {mb:List Nat}
theorem MV.atOrb(h:MV w0 wr q n b ob lb lv L os ov orb rv reps vals mb){w1:World}{aA:Value}{x:Int}(ha:Bt wr w1 w0.heap.size 3 1 ov aA orb.length (Ap orb) [.int .i64 x]):w1.cell? (lb,1)=some ov/\w1.frozen? (lb,1)=false:=
 ⟨ha.cell h.lc1 (fun e=>(h.nov lb e.symm).2.1 rfl),ha.frz h.lc1 h.lf1 (fun e=>(h.nov lb e.symm).2.1 rfl)⟩
theorem MV.atRep(h:MV w0 wr q n b ob lb lv L os ov orb rv reps vals mb){w1:World}{aA z:Value}(ha:Bt wr w1 w0.heap.size 22 1 rv aA reps.length vals [z]):w1.cell? (lb,2)=some rv/\w1.frozen? (lb,2)=false:=
 ⟨ha.cell h.lc2 (fun e=>(h.nrv lb e.symm).2.1 rfl),ha.frz h.lc2 h.lf2 (fun e=>(h.nrv lb e.symm).2.1 rfl)⟩
theorem MV.atLev(h:MV w0 wr q n b ob lb lv L os ov orb rv reps vals mb){w1:World}{aA:Value}{news:List Value}(ha:Bt wr w1 w0.heap.size 90 3 lv aA L.length (RT L os) news):w1.cell? (ob,1)=some lv/\w1.frozen? (ob,1)=false:=
 ⟨ha.cell h.oc1 (fun e=>(h.nlv ob e.symm).1 rfl),ha.frz h.oc1 h.of1 (fun e=>(h.nlv ob e.symm).1 rfl)⟩
end
theorem Vp(w:World){base n tb rb gb:Nat}{rr:Nat->Nat}{bE:List Nat}{t:Tw}{S:List (Nat->Nat)}{k0:Nat}(bZ:Vs w base n tb rb gb rr bE t)(hB:I7 n S t k0)(bJ:S.length<=k0)(hS:∀s∈S,AY n s)(aP:1<=n)(hn:n<=64):
  Calls Tryz.prog 175 #[.pointer (some (tb,0))] w fun r w'=>∃lv,r= .returned (.agg #[n,lv])/\EH w' lv (B3 n S n)/\Ex w w':=by
 obtain⟨gv,V,hM⟩:=bZ;obtain⟨HM,HB,HS,aL,bD⟩:=Of hM hB hS (fun b (hb:b<n) x=>hB.orb aP hS bJ hb x) (fun b x (hb:b<n) r (hr:t.R b x=some r)=>hB.canon aP hS bJ hb hr);have hn0:n<=64:=hn;clear hM hB hS;go_enter Tryz.func175,Tryz.ntmps175
 have ea:Ex w (w.alloc (.cells #[(0:Int),.slice none 0 0] 43)):=(Ex.refl _).alloc _;have eb:Ex (w.alloc (.cells #[(0:Int),.slice none 0 0] 43)) ((w.alloc (.cells #[(0:Int),.slice none 0 0] 43)).alloc (.cells #[n,.slice none 0 0] 43)):=(Ex.refl _).alloc _;have c0:=ea.cell HM.o.c0;have cF:=eb.cell c0;go_wp2_with fail
 obtain⟨q,hq⟩:=nA w.heap.size;have bB:=Aa (HM.o.ex ea);have aJ:(w.alloc (.cells #[(0:Int),.slice none 0 0] 43)).heap.size=q+1:=by simp[hq]
 have q0:(w.alloc (.cells #[(0:Int),.slice none 0 0] 43)).cell? (q,0)=some (.int .i64 0):=by rw[<-hq];simp
 have q1:(w.alloc (.cells #[(0:Int),.slice none 0 0] 43)).cell? (q,1)=some (.slice none 0 0):=by rw[<-hq];simp
 have aS:(w.alloc (.cells #[(0:Int),.slice none 0 0] 43)).frozen? (q,0)=false:=by rw[<-hq];simp
 have aR:(w.alloc (.cells #[(0:Int),.slice none 0 0] 43)).frozen? (q,1)=false:=by rw[<-hq];simp
 try simp only[hq]
 generalize w.alloc (.cells #[(0:Int),.slice none 0 0] 43)=wR at *;have aN:=Aa (show ChS wR (wR.alloc (.cells #[n,.slice none 0 0] 43)) q n (q+1) (.slice none 0 0) [] [] [q+1] from⟨by rw[<-aJ];simp,by rw[<-aJ];simp,by rw[<-aJ];simp,Yp.nil _ _ _ _,fun B e=>(by cases e),ag,ac,fun B hB=>by
  rw[List.mem_singleton.1 hB,<-aJ];simp,eb⟩)
 obtain⟨EA,Q0,Q1,cH,cG,bA⟩:=To ea q0 q1 aS aR (show w.heap.size<=q from ac);clear ea eb c0 cF q0 q1 aS aR aJ;generalize wR.alloc (.cells #[n,.slice none 0 0] 43)=wA at *;clear hq
 go_loopw [17] (fun b' wr=>∃(b:Nat) (lv:Value) (os:List (Value × Value)) (mb:List Nat),b<=n/\b'= .int .i64 b/\Hia (ChS wR wr q n (q+1) lv (B3 n S b) os mb)) (fun b' _=>n-(intOf b').toNat)
 case atStart=>exact⟨0,_, [],_,ac,rfl,aN⟩
 case round=>
  clear aN;obtain⟨b,lv,os,mb,hb,rfl,aE⟩:=hrel;have cO:=Aa (QP n S b);by_cases hbn:b<n
  .have i1:(0:Int)<=(b:Int):=by omega
   have i2:(b:Int)<(n:Int):=ac;obtain⟨aH,cC⟩:=aE.o.begin_ (b:=b);have bC:=Aa aH;have bP:=Aa (bB.o.ex aH.ex);have c1:=bP.o.c1;have c3:=bP.o.ro b hbn;clear aH cC aE;go_wp2_with fail
   obtain⟨lb,aX⟩:=nA wr.heap.size;rw[aX]at bC
   try simp only[aX]
   generalize wr.alloc (.cells #[b,.slice none 0 0,.slice none 0 0] 90)=wb at *;clear aX c1 c3
   go_loopw [30] (fun x' wr=>∃(x:Nat) (ov rv:Value) (vals:List Value) (mb:List Nat),x<=n/\x'= .int .i64 x/\Hia (MV wR wr q n b (q+1) lb lv (B3 n S b) os ov (CU (A7 S b x)) rv (Ec n S b x) vals mb)) (fun x' _=>n-(intOf x').toNat)
   case atStart=>exact⟨0,_,_,_,_,ac,rfl,bC⟩
   case round=>
    clear bC;obtain⟨x,ov,rv,vals,mb,hx,rfl,aG⟩:=hrel;by_cases hxn:x<n
    .have i3:(0:Int)<=(x:Int):=by omega
     have i4:(x:Int)<(n:Int):=ac;have bO:=Aa (bB.o.ex aG.o.ex);have d3:=(bO.o.row b hbn).cell hxn;have aA:=HM.o.rep b x hbn hxn
     cases hR:t.R b x with
     | none=>
      rw[hR]at aA;have aA:V b x= .slice none 0 0:=aA;rw[aA]at d3;have aM:=Aa ((Np S b x).2 (fun h=>by
       obtain⟨r,hr⟩:=(aL.o b hbn x).2 h;rw[hR]at hr;cases hr))
      have aQ:=Aa (show Ec n S b (x+1)=Ec n S b x from by unfold Ec;rw[aM.o]);clear aA hR;go_wp2_with fail
      go_roundw
      case rel=>exact⟨x+1,ov,rv,vals,mb,ac,by go_num,by rw[aM.o,aQ.o];exact aG⟩
      case measure=>simp[intOf];omega
     | some r=>
      rw[hR]at aA;have aA:Cz _ bE n (V b x) r:=aA;obtain⟨vb,vo,vc,hV,_,_,bG,_⟩:=aA.at_;obtain⟨_,_,bI,cB,cA⟩:=HB.o.good.rep _ _ _ hR;rw[hV]at d3;have aM:=Aa ((Np S b x).1 ((aL.o b hbn x).1 ⟨r,hR⟩));obtain⟨cM,aQ,bQ,aC⟩:=Eq (Kj HS.o (bD.o b x hbn r hR)) (show Ec n S b (x+1)=Ec n S b x ++ [li n (CH n S b x)] from by unfold Ec;rw[aM.o,List.map_append];rfl) (show CU (A7 S b (x+1))=CU (A7 S b x) ++ [(x:Int)] from by rw[aM.o,TG]) aG.o;obtain⟨oa,oc,aV⟩:=Ad aC.o.ovo;subst aV;have c1:=aC.o.lc1;have hol:(CU (A7 S b x)).length<=64:=by rw[Cj];have:=Fz S b x;omega
      obtain⟨aY,cK,cL,cI⟩:=Eq aC.o.ex.size (show Aj wR (.slice (some ⟨vb,vo,none⟩) n vc) (li n r) from by rw[<-hV];exact aA.sl.ex EA.o) bI bG;clear aA hV bI cB cA aG bO hR bG;go_upto_region 11 with (at_builtin;refine Am _ rfl _ _ 22 rfl wR.heap.size 3 (.int .i64 0) 1 8 Tryz.underlying22 Az rfl ae _ (CU (A7 S b x)).length _ rfl aC.o.ovo [.int .i64 (x:Int)] 3 _ rfl ag rfl aj ai ac aY.o ?_)
      intro ov' w4 aB;obtain⟨bT,bS,aU⟩:=Ad aB.own;subst aU;obtain⟨e1,e2⟩:=aC.o.atOrb aB;obtain⟨bU,bH,_⟩:=aC.o.appOrb aB;have aF:=Aa bH;clear aB bH d3 c1;go_upto_region 11 with fail
      obtain⟨wo,bF⟩:=nA (w4.setCell (lb,1) (.slice bT ((CU (A7 S b x)).length+1) bS));rw[bF]at aF ⊢;clear bF e1 e2;obtain⟨ra,rc,aT⟩:=Ad aF.o.rvo;subst aT;have c2:=aF.o.lc2;have E0:Ex wo wo.drew:=(Ex.refl wo).drew;have hrl:(Ec n S b x).length<=64:=by unfold Ec;rw[List.length_map];have:=Fz S b x;omega
      have cP:=Aa (fun w5 (h5:Ex wo w5)=>PZ w5 (bB.o.ex (aF.o.ex.trans h5)) HB.o.good aP hn _ r b hbn (cK.o.ex (aF.o.ex.trans h5)) cL.o)
      go_region_law ((first|(go_simp;go_at_call 211;(with_reducible refine(cP.o _ E0).mono ?_);rintro e w5⟨z,rfl,hz,bL,bX⟩;have E5:=E0.trans bX;have bN:=E5.cell c2;obtain⟨za,zc,bV,_,_,_⟩:=DV hz;subst bV;have cE:=((Ex.refl w5).alloc (.cells #[.slice za n zc] 22)).cell bN;have HZ:=Aa hz;have cN:=Aa bL;clear hz bL;have aK:=Aa (aF.o.later E5))|(refine Cq br _ _ _ br wR.heap.size 22 (.slice none 0 0) 1 24 Tryz.underlying37 BG rfl ae (.slice ra (Ec n S b x).length rc) (Ec n S b x).length vals br (Ai aK.o.rvo ((Ex.refl w5).alloc _)) _ 1 [.slice za n zc] br (Sl.own (Fy w5 (.slice za n zc) 22)) aj ai ac (Nat.le_trans aK.o.ex.size ag) ?_;intro v6 w6 aD bK bM;have bR:=Aa (show Bt w5 w6 wR.heap.size 22 1 (.slice ra (Ec n S b x).length rc) v6 (Ec n S b x).length vals [.slice za n zc] from⟨aD,⟨_,bK⟩,by simpa using bM,aK.o.rvo⟩);obtain⟨k1,k2⟩:=aK.o.atRep bR.o;obtain⟨va,vc6,bY⟩:=Ad aD;subst bY;clear aD bK bM)))
      all_goals
       have cJ:=Aa (show SI w5 (q :: bU) (.slice za n zc) (li n (CH n S b x)) from⟨by rw[cM.o];exact HZ.o,fun _ B e=>by
        obtain⟨b',o',bW,cD,_⟩:=EI HZ.o aP;subst bW;injection e with e;have e:b'=B:=e;subst e;refine⟨fun hm=>?_,cD⟩;have hl:b'=q∨wR.heap.size<=b'/\b'<wo.heap.size:=by
         rcases List.mem_cons.1 hm with e|e
         .exact .inl e
         .exact .inr (aF.o.lo b' e)
        have hqw:=bA.o;have hql:=aF.o.ql;have hws:=aF.o.ex.size;have hea:=EA.o.size;rcases cN.o with h1|⟨g,cap',h1,h2⟩
        .injection h1 with h1 _ _;injection h1 with h1;injection h1 with h1;have:=cI.o;omega
        .injection h1 with h1 _ _;injection h1 with h1;injection h1 with h1;have h2:wo.heap.size<=g:=h2;omega⟩)
       have aZ:=Aa (aK.o.appRep cJ.o bR.o);clear k1 k2 c2 bN cE;go_wp2_with fail
       go_roundw
       case rel=>
        obtain⟨aI,h1⟩:=aZ.o
        first
                | exact⟨x+1,_,_,_,aI,ac,by go_num,by rw[bQ.o,aQ.o];exact Aa h1.1⟩
                | ((repeat apply Exists.intro);exact⟨⟨x+1,_,_,_,aI,ac,by go_num,by rw[bQ.o,aQ.o];exact Aa h1.1⟩,rfl⟩)
       case measure=>simp[intOf];omega
    .obtain rfl:x=n:=by omega
     have aC:=Aa aG.o;obtain⟨oa,oc,aV⟩:=Ad aC.o.ovo;subst aV;have c1:=aC.o.lc1;have hcl:(B3 x S b).length<=64:=by have:=cO.o;omega
     have aY:=Aa aC.o.ex.size;by_cases h1:1<(CU (A7 S b x)).length
     .have aO:=Aa (show B3 x S (b+1)=B3 x S b ++ [⟨b,CU (A7 S b x),Ec x S b x⟩] from by
       rw[NH,if_pos (show 1<(Fo x S b).orb.length from h1)];rfl)
      have b1:decide (1<((CU (A7 S b x)).length:Int))=true:=aq;have b2:decide (1<(CU (A7 S b x)).length)=true:=bt;obtain⟨la,lc,aH⟩:=Ad aC.o.ch.own;obtain⟨ra,rc,aT⟩:=Ad aC.o.rvo;subst aH aT;have l0:=aC.o.lc0;have l2:=aC.o.lc2;have o1:=aC.o.oc1;clear h1 aG;go_wp2_with (at_builtin;refine Am _ rfl _ _ 41 rfl wR.heap.size 90 (.agg #[(0:Int),.slice none 0 0,.slice none 0 0]) 3 56 Tryz.underlying41 Va rfl ae _ (B3 x S b).length _ rfl aC.o.ch.own [.int .i64 b,.slice oa (CU (A7 S b x)).length oc,.slice ra (Ec x S b x).length rc] 90 _ rfl ag rfl aj ai ac aY.o ?_)
      intro lv2 w4 aB;obtain⟨la2,lc2,aW⟩:=Ad aB.own;subst aW;obtain⟨e1,e2⟩:=aC.o.atLev aB;have HK:=Aa (aC.o.keep aB);clear aB l0 l2 o1 c1;go_wp2_with fail
      go_roundw
      case rel=>
       obtain⟨aI,h1⟩:=HK.o
       first
              | exact⟨b+1,_,_,aI,ac,by go_num,by rw[aO.o];exact Aa h1⟩
              | ((repeat apply Exists.intro);exact⟨⟨b+1,_,_,aI,ac,by go_num,by rw[aO.o];exact Aa h1⟩,rfl⟩)
      case measure=>simp[intOf];omega
     .have aO:=Aa (show B3 x S (b+1)=B3 x S b from by
       rw[NH,if_neg (show ¬1<(Fo x S b).orb.length from h1),List.append_nil])
      have b1:decide (1<((CU (A7 S b x)).length:Int))=false:=aq;have b2:decide (1<(CU (A7 S b x)).length)=false:=bt;have HK:=Aa aG.o.drop;clear h1 aG;go_wp2_with fail
      go_roundw
      case rel=>first|exact⟨b+1,lv,os,mb,ac,by go_num,by rw[aO.o];exact HK⟩|((repeat apply Exists.intro);exact⟨⟨b+1,lv,os,mb,ac,by go_num,by rw[aO.o];exact HK⟩,rfl⟩)
      case measure=>simp[intOf];omega
  .obtain rfl:b=n:=by omega
   have o0:=aE.o.oc0;have o1:=aE.o.oc1;obtain⟨la,lc,aH⟩:=Ad aE.o.ch.own;subst aH;have q0:=aE.o.ex.cell Q0.o;have q1:=aE.o.ex.cell Q1.o;have aS:=aE.o.ex.frz Q0.o cH.o;have aR:=aE.o.ex.frz Q1.o cG.o;have aN:=Aa aE.o;clear aE;go_wp2_with fail
   exact bodyPost_ret (v:= .agg #[b,.slice la (B3 b S b).length lc]) (by simp[results,Tryz.results175,go_sem,q0,q1]) rfl ⟨_,rfl,aN.o.o _ _,((EA.o.trans aN.o.ex).setCell (p:=⟨q,0,none⟩) bA.o _).setCell (p:=⟨q,1,none⟩) bA.o _⟩
structure Chn where
 deg:Int
 lev:List Lv
noncomputable def Dd(n:Int)(rows:List (List Int)):Chn × Int:=if Ez n rows≠0 then(⟨0, []⟩,Ez n rows) else(⟨n,B3 n.toNat (rows.map CJ) n.toNat⟩,0)
def BldR(n:Int)(rows:List (List Int))(r:Ending)(w':World):Prop:=∃v,r= .returned (.tuple #[.agg #[.int .i64 (Dd n rows).1.deg,v],.int .i64 (Dd n rows).2])/\EH w' v (Dd n rows).1.lev
theorem Kx{n:Int}{rows:List (List Int)}{d:Int}{L:List Lv}{e:Int}{v:Value}{w':World}(h:Dd n rows=(⟨d,L⟩,e))(hv:EH w' v L):BldR n rows (.returned (.tuple #[.agg #[d,v],e])) w':=⟨v,by rw[h],by rw[h];exact hv⟩
theorem zcD{P:Prop}(h:P:=by
 apply Classical.byContradiction;intro hn;have:n=0:=by omega
 subst this;omega):P:=h
theorem Td{w:World}{q:Nat}{z:Int}(h0:w.cell? (q,0)=some (.int .i64 z))(h1:w.cell? (q,1)=some (.slice none 0 0))(h2:∀j,2<=j->w.cell? ⟨q,j,none⟩=none){v:Value}{n size:Nat}{xs:List Value}(h:Sl w v n size xs)(hl:2<=xs.length)(hx:xs[0]?≠some (.int .i64 z)∨xs[1]?≠some (.slice none 0 0)):v.ownBlock≠some q:=by
 intro e;obtain⟨k1,a,cap,rfl,_,_,k5⟩:=h;have hn:0<n:=by
  exact zcD
 obtain⟨b,o,rfl,k6⟩:=k5 hn;injection e with e;have e:b=q:=e;subst e;have x0:=k6 0 _ (List.getElem?_eq_getElem ac);have x1:=k6 1 _ (List.getElem?_eq_getElem ac);have ho:o=0:=by
  apply Classical.byContradiction;intro ho;have:=h2 (o+1) ac;rw[x1]at this;cases this
 subst ho;rw[h0]at x0;rw[h1]at x1;injection x0 with x0;injection x1 with x1;rcases hx with hx|hx
 .exact hx (by rw[List.getElem?_eq_getElem ac,<-x0])
 .exact hx (by rw[List.getElem?_eq_getElem ac,<-x1])
theorem Sl.set2{w:World}{v:Value}{n size:Nat}{xs:List Value}(h:Sl w v n size xs){q:Nat}(hq:v.ownBlock≠some q)(u u':Value):Sl ((w.setCell (q,0) u).setCell (q,1) u') v n size xs:=by
 obtain⟨k1,a,cap,rfl,k3,k4,k5⟩:=h;refine⟨k1,a,cap,rfl,k3,k4,fun hn=>?_⟩;obtain⟨b,o,rfl,k6⟩:=k5 hn;have hb:q≠b:=fun e=>hq (by rw[e];rfl);refine⟨b,o,rfl,fun j x hx=>?_⟩;rw[World.cell?_setCell_other _ _ _ _ (by intro e;injection e with e;exact hb e),World.cell?_setCell_other _ _ _ _ (by intro e;injection e with e;exact hb e)];exact k6 j x hx
theorem EH.set2{w:World}{q:Nat}{z:Int}(h0:w.cell? (q,0)=some (.int .i64 z))(h1:w.cell? (q,1)=some (.slice none 0 0))(h2:∀j,2<=j->w.cell? ⟨q,j,none⟩=none){v:Value}{L:List Lv}(h:EH w v L)
  (hL:∀l∈L,2<=l.orb.length/\2<=l.reps.length/\∀r∈l.reps,2<=r.length) (u u':Value):EH ((w.setCell (q,0) u).setCell (q,1) u') v L:=by
 obtain⟨os,k1,k2,k3⟩:=h;have aA:∀ {y:Value} {l:List Int},Aj w y l->2<=l.length->Aj ((w.setCell (q,0) u).setCell (q,1) u') y l:=fun {y l} hy hl=>
  Sl.set2 hy (Td h0 h1 h2 hy (by rw[Bf];exact hl) (.inr (by
   unfold Ap;rw[List.getElem?_map]
   cases l[1]? with
   | none=>simp
   | some x=>simp))) u u'
 refine⟨os,k1,?_,fun i l o a c=>?_⟩
 .by_cases hn:0<L.length
  .refine Sl.set2 k2 (fun e=>?_) u u';obtain⟨m1,a,cap,rfl,_,_,m5⟩:=k2;obtain⟨b,o,rfl,m6⟩:=m5 hn;injection e with e;have e:b=q:=e;subst e;have hl3:=Oq L os k1;have:=m6 2 _ (List.getElem?_eq_getElem ac);rw[h2 (o+2) ac]at this;cases this
  .obtain⟨m1,a,cap,rfl,m3,m4,m5⟩:=k2;exact⟨m1,a,cap,rfl,m3,m4,fun h=>absurd h hn⟩
 .obtain⟨g1,vals,g2,g3⟩:=k3 i l o a c;obtain⟨b1,b2,b3⟩:=hL l (List.mem_of_getElem? a);refine⟨aA g1 b1,vals,?_,fun j r y hr hy=>aA (g3 j r y hr hy) (b3 r (List.mem_of_getElem? hr))⟩;have hvl:vals.length=l.reps.length:=by have:=g2.1;omega
  refine Sl.set2 g2 (Td h0 h1 h2 g2 ac (.inl fun e=>?_)) u u';have aB:l.reps[0]?=some (l.reps[0]'ac):=List.getElem?_eq_getElem _;obtain⟨_,_,e2,_⟩:=(g3 0 _ _ aB e).open;cases e2
theorem QQ{n:Nat}{S:List (Nat->Nat)}{m:Nat}{l:Lv}(h:l∈B3 n S m):2<=l.orb.length/\2<=l.reps.length/\∀r∈l.reps,2<=r.length:=by
 unfold B3 at h;obtain⟨h1,h2⟩:=List.mem_filter.1 h;obtain⟨b,_,rfl⟩:=List.mem_map.1 h1;have h2:1<(CU (A7 S b n)).length:=of_decide_eq_true h2;rw[Cj]at h2;have h3:=Fz S b n;refine⟨by show 2<=(CU (A7 S b n)).length;rw[Cj];omega,by show 2<=(Ec n S b n).length;unfold Ec;rw[List.length_map];omega,fun r hr=>?_⟩;have hr:r∈Ec n S b n:=hr;unfold Ec at hr;obtain⟨x,_,rfl⟩:=List.mem_map.1 hr;rw[BB];omega
theorem ZB(n:Nat):Rb n (Om n) 0:=fun c _ _=>by
 have:=ZA n (Om n) c;show 0+_<=_
 omega
theorem NU(w:World)(n:Int)(rows:List (List Int))(v:Value)(hv:B9 w v rows)(hrl:rows.length<=1000):
  Calls Tryz.prog 123 #[n,v] w fun r w'=>BldR n rows r w'/\Ex w w':=by
 have ea:Ex w (w.alloc (.cells #[(0:Int),.slice none 0 0] 43)):=(Ex.refl _).alloc _;have q0:(w.alloc (.cells #[(0:Int),.slice none 0 0] 43)).cell? (w.heap.size,0)=some (.int .i64 0):=ag;have q1:(w.alloc (.cells #[(0:Int),.slice none 0 0] 43)).cell? (w.heap.size,1)=some (.slice none 0 0):=ag;have q2:∀j,2<=j->(w.alloc (.cells #[(0:Int),.slice none 0 0] 43)).cell? ⟨w.heap.size,j,none⟩=none:=fun j hj=>by
  obtain⟨i,rfl⟩:∃i,j=i+2:=⟨j-2,ac⟩;simp
 have aE:(w.alloc (.cells #[(0:Int),.slice none 0 0] 43)).frozen? (w.heap.size,0)=false:=ag;have aD:(w.alloc (.cells #[(0:Int),.slice none 0 0] 43)).frozen? (w.heap.size,1)=false:=ag;have HV:=Aa hv;have HG:=Aa (fun w1 (h:Ex w w1)=>GP w1 n rows v (hv.ex h));obtain⟨a,cap,rfl,_,s2,_⟩:=hv.open;unfold maxLen at s2;obtain⟨e,he⟩:=nA (Ez n rows);rw[he]at HG;clear hv;go_enter Tryz.func123,Tryz.ntmps123
 go_wp2_with fail
 obtain⟨q,hq⟩:=nA w.heap.size;rw[hq]at q0 q1 aE aD q2
 try simp only[hq]
 have HQ:=Aa hq;have aP:=Aa ea;clear hq;generalize w.alloc (.cells #[(0:Int),.slice none 0 0] 43)=wR at *;refine(HG.o wR ea).mono ?_;rintro e' w1⟨rfl,aC⟩;have aO:=Aa aC;have aB:=World.block_lt_of_cell? _ _ q0;have Q2:=Aa (show ∀j,2<=j->w1.cell? ⟨q,j,none⟩=none from fun j hj=>(Below.cell aC (show(⟨q,j,none⟩:Addr).block<wR.heap.size from aB)).trans (q2 j hj));have aX:=aC.frz q0 aE;have aW:=aC.frz q1 aD;have q0:=aC.cell q0;have q1:=aC.cell q1;clear aC aE aD ea HG q2 aB;by_cases h0:e=0
 .subst h0;obtain⟨N,rfl,aN,aS,S,aM,hS⟩:=Kq he;have HP:=Aa (show Dd N rows=(⟨N,B3 N S N⟩,0) from by unfold Dd;rw[he,if_neg ae,aM,Ev hS];rfl);have HS:=Aa hS;have bQ:=Aa aM;have bC:S.length=rows.length:=by rw[aM];simp
  obtain⟨bG,bT,Q0,Q1,bM,bL⟩:=To bC (Ol w1 N aN aS) q0 q1 aX aW;clear he hS aM bC q0 q1 aX aW;go_wp2_with (go_at_call 173;refine bT.o.mono ?_;rintro e w2⟨tb,rb,gb,rr,mb,rfl,aA,aZ⟩;have bF:=Aa aA;have bE:=Aa aZ;clear aA aZ)
  have bI:=Aa (I7.start (n:=N) (S:=S));have bH:=Aa (ZB N)
  go_loopw [21] (fun k' wr=>∃(k:Nat) (aH:List Nat) (tc:Tw),k<=rows.length/\k'= .int .i64 k/\Hia (Vs wr w1.heap.size N tb rb gb rr aH tc)/\Hia (I7 N S tc k)/\Hia (Rb N tc 0)/\Hia (Ex w1 wr)) (fun k' _=>rows.length-(intOf k').toNat)
  case atStart=>exact⟨0,mb,Om N,ac,rfl,bF,bI,bH,bE⟩
  case round=>
   clear bF bI bH bE;obtain⟨k,aH,tc,hk,rfl,aA,aG,aR,hx⟩:=hrel;by_cases hkn:k<rows.length
   .obtain⟨s,hs⟩:∃s,S[k]?=some s:=⟨_,List.getElem?_eq_getElem (by rw[bG.o];exact hkn)⟩;have bB:rows[k]?=some (li N s):=by rw[bQ.o,List.getElem?_map,hs];rfl
    have bA:=HS.o s (List.mem_of_getElem? hs);obtain⟨_,_,e1,_,_,h3⟩:=HV.o.open;injection e1 with e1 e2 e3;subst e1 e3;obtain⟨zb,zo,rfl,aY⟩:=h3 ac;obtain⟨u,d1,hu⟩:=aY k _ bB;have bJ:=Aa (aP.o.trans (aO.o.trans hx.o));have d1:=bJ.o.cell d1;obtain⟨ua,uc,rfl,_,_,_⟩:=DV hu;obtain⟨pb,po,rfl,hpb,_⟩:=EI hu ac;have bS:=Aa (Cz.of (mb:=aH) (hu.ex bJ.o) aN fun B eB hm=>by
     injection eB with eB;have eB:pb=B:=eB;subst eB;obtain⟨gv,V,hM⟩:=aA.o;have h5:=(hM.lo pb hm).1;have h6:=(aP.o.trans aO.o).size;omega)
    have i1:(0:Int)<=(k:Int):=ac;have i2:(k:Int)<(rows.length:Int):=ac;obtain⟨bX,bV,cA,bR⟩:=Eq (ZQ (base:=w1.heap.size) (tb:=tb) (rb:=rb) (gb:=gb) (rr:=rr) aN aS (Tg N tc 0) wr aH tc s _ 0 (fun _=>Nat.le_refl _) (Nat.zero_le _) aA.o aG.o.good (fun c _ hc=>aG.o.comp c hc) bS.o bA (fun i hi=>ac) hx.o.size aR.o) (show ∀B∈aH,w1.heap.size<=B from by obtain⟨gv,V,hM⟩:=aA.o;exact fun B hB=>(hM.lo B hB).1) aG.o hs;clear hs bB bA h3 aY hu aA aG aR;go_wp2_with (go_at_call 174;refine bX.o.mono ?_;rintro e w3⟨⟨zz,rfl⟩,mb3,t3,aI,aK,aJ,aL⟩;have aT:=Aa aI;have aU:=Aa aK;have bP:=Aa (aJ.ex hx.o bV.o);have aV:=Aa aL;clear aI aK aJ aL)
    have cB:=Aa (cA.o.step HS.o bR.o aU.o);go_roundw
    case rel=>exact⟨k+1,mb3,t3,ac,by go_num,aT,cB,aV,bP⟩
    case measure=>simp[intOf];omega
   .obtain rfl:k=rows.length:=by omega
    have bZ:=Aa (Vp wr aA.o aG.o (by rw[bG.o];exact Nat.le_refl _) HS.o aN aS);have q0:=hx.o.cell Q0.o;have q1:=hx.o.cell Q1.o;have aE:=hx.o.frz Q0.o bM.o;have aD:=hx.o.frz Q1.o bL.o;have bN:=Aa hx.o;clear aA aG aR hx;go_wp2_with (go_at_call 175;refine bZ.o.mono ?_;rintro e w4⟨lv,rfl,aQ,aF⟩;obtain⟨la,lc,bK,_,_,_⟩:=aQ.open;subst bK;have aE:=aF.frz q0 aE;have aD:=aF.frz q1 aD;have q0:=aF.cell q0;have q1:=aF.cell q1;have bU:=Aa aQ;have bO:=Aa aF;clear aQ aF)
    have bD:=Aa (bN.o.trans bO.o);have bY:=Aa (aP.o.trans (aO.o.trans bD.o));have aB:=World.block_lt_of_cell? _ _ Q0.o;have bW:=Aa (bU.o.set2 q0 q1 (fun j hj=>(Below.cell bD.o (show(⟨q,j,none⟩:Addr).block<w1.heap.size from aB)).trans (Q2.o j hj)) (fun l hl=>QQ hl) (.int .i64 N) (.slice la (B3 N S N).length lc));exact bodyPost_ret (v:= .tuple #[.agg #[N,.slice la (B3 N S N).length lc],(0:Int)]) (by simp[results,Tryz.results123,go_sem,q0,q1]) rfl ⟨Kx HP.o bW.o,(bY.o.setCell (p:=⟨q,0,none⟩) (Nat.le_of_eq HQ.o) _).setCell (p:=⟨q,1,none⟩) (Nat.le_of_eq HQ.o) _⟩
 .have HP:=Aa (show Dd n rows=(⟨0, []⟩,e) from by unfold Dd;rw[he,if_pos h0]);have hb:(e !=0)=true:=by simpa using h0
  clear h0 he;go_wp2_with fail
  exact bodyPost_ret (v:= .tuple #[.agg #[(0:Int),.slice none 0 0],e]) (by simp[results,Tryz.results123,go_sem,q0,q1]) rfl ⟨Kx HP.o (EH.nil _),((aP.o.trans aO.o).setCell (p:=⟨q,0,none⟩) (Nat.le_of_eq HQ.o) _).setCell (p:=⟨q,1,none⟩) (Nat.le_of_eq HQ.o) _⟩
def GG:List Int->List Int->Bool
 | x :: l,y :: k=>if x=y then GG l k else decide (x<y)
 | _,_=>false
theorem Ns:∀ {l k:List Int} {i:Nat} {x y:Int},l[i]?=some x->k[i]?=some y->x≠y->(∀j,j<i->l[j]?=k[j]?)->GG l k=decide (x<y)
 | x' :: l,y' :: k,0,x,y,h1,h2,hne,_=>by
  simp at h1 h2;subst h1 h2;unfold GG;rw[if_neg hne]
 | x' :: l,y' :: k,i+1,x,y,h1,h2,hne,ha=>by
  have h0:=ha 0 ac;simp at h0;subst h0;unfold GG;rw[if_pos rfl];exact Ns (i:=i) bt dw hne fun j hj=>by
   have:=ha (j+1) ac;simpa using this
 | [],k,i,x,y,h1,_,_,_=>by simp at h1
 | x' :: l, [],i,x,y,_,h2,_,_=>by simp at h2
theorem Ly:∀ {l k:List Int},(∀j,j<l.length->l[j]?=k[j]?)->GG l k=false
 | [],k,_=>by unfold GG;rfl
 | x :: l, [],h=>by
  have:=h 0 ag;simp at this
 | x :: l,y :: k,h=>by
  have h0:=h 0 ag;simp at h0;subst h0;unfold GG;rw[if_pos rfl];exact Ly fun j hj=>by
   have:=h (j+1) (by simpa using hj);simpa using this
def fixB(b:Nat)(f:Nat->Nat):Bool:=(List.range b).all fun i=>f i==i
theorem Xu(b:Nat)(f:Nat->Nat):fixB b f=true↔AW b f:=by
 unfold fixB AW;rw[List.all_eq_true];exact⟨fun h i hi=>by simpa using h i (List.mem_range.2 hi),fun h i hi=>by simpa using h i (List.mem_range.1 hi)⟩
def AE(L:List Lv):List (List Int):=L.flatMap fun l=>l.reps
theorem L6{L:List Lv}{i:Nat}{l:Lv}(h:L[i]?=some l):AE (L.take (i+1))=AE (L.take i)++l.reps:=by
 unfold AE;rw[List.take_add_one,h];simp
theorem IN(L:List Lv)(i:Nat):(AE (L.take i)).length<=(AE L).length:=by
 have:AE L=AE (L.take i)++AE (L.drop i):=by
  unfold AE;rw[<-List.flatMap_append,List.take_append_drop]
 rw[this,List.length_append];omega
open Classical in
noncomputable def Bb (d:Int) (L:List Lv):Int:=if d<1∨64<d then 4 else if Ez d (AE L)=0/\L=B3 d.toNat ((AE L).map CJ) d.toNat then 0 else 5
theorem QO{n:Nat}{S:List (Nat->Nat)}{m:Nat}{l:Lv}(h:l∈B3 n S m):l.orb.length<=n/\l.reps.length=l.orb.length:=by
 unfold B3 at h;obtain⟨h1,h2⟩:=List.mem_filter.1 h;obtain⟨b,_,rfl⟩:=List.mem_map.1 h1;refine⟨by show(CU (A7 S b n)).length<=n;rw[Cj];exact Fz S b n,?_⟩;show(Ec n S b n).length=(CU (A7 S b n)).length
 unfold Ec;rw[List.length_map,Cj]
structure Gv(w0 wr:World)(gv:Value)(M:List (List Int))(vals:List Value):Prop where
 own:wr.ownsRow w0.heap.size 22 1 gv M.length vals
 row:∀(i:Nat) (r:List Int) (u:Value),M[i]?=some r->vals[i]?=some u->Aj w0 u r
 ex:Ex w0 wr
theorem Gv.nil(w:World):Gv w w (.slice none 0 0) [] []:=⟨World.ownsRow_nil _ _ _ _,fun i r u h=>by simp at h,Ex.refl _⟩
theorem Gv.len{w0 wr:World}{gv:Value}{M:List (List Int)}{vals:List Value}(h:Gv w0 wr gv M vals):vals.length=M.length:=by have:=h.own.1;omega
theorem Gv.later{w0 wr w':World}{gv:Value}{M:List (List Int)}{vals:List Value}(h:Gv w0 wr gv M vals)(hx:Ex wr w'):Gv w0 w' gv M vals:=⟨Ai h.own hx,h.row,h.ex.trans hx⟩
theorem Gv.msl{w0 wr:World}{gv:Value}{M:List (List Int)}{vals:List Value}(h:Gv w0 wr gv M vals):B9 wr gv M:=⟨vals,Sl.own h.own,fun i r u a b=>(h.row i r u a b).ex h.ex⟩
theorem Gv.app{w0 wr w':World}{gv gv':Value}{M R:List (List Int)}{vals us:List Value}(h:Gv w0 wr gv M vals)(hr:∀(i:Nat) (r:List Int) (u:Value),R[i]?=some r->us[i]?=some u->Aj w0 u r)
  (ho:w'.ownsRow w0.heap.size 22 1 gv' (M.length+R.length) (vals++us)) (hx:Ex w0 w'):Gv w0 w' gv' (M++R) (vals++us):=by
 have hn:=h.len;refine⟨by rw[List.length_append];exact ho,fun i r u h1 h2=>?_,hx⟩;by_cases e:i<M.length
 .rw[List.getElem?_append_left e]at h1;rw[List.getElem?_append_left ac]at h2;exact h.row i r u h1 h2
 .rw[List.getElem?_append_right ac]at h1 h2;rw[hn]at h2;exact hr _ r u h1 h2
theorem EH.open3{w:World}{v:Value}{L:List Lv}(h:EH w v L):∃a cap,v= .slice a L.length cap/\L.length<=cap/\cap<=maxLen/\
  (0<L.length->∃b o,a=some ⟨b,o,none⟩/\∀(i:Nat) (l:Lv),L[i]?=some l->∃u r,w.cell? ⟨b,o+i*3,none⟩=some (.int .i64 l.pt)/\w.cell? ⟨b,o+i*3+1,none⟩=some u/\w.cell? ⟨b,o+i*3+2,none⟩=some r/\Aj w u l.orb/\B9 w r l.reps):=by
 obtain⟨a,cap,h1,h2,h3,h4⟩:=h.open;refine⟨a,cap,h1,h2,h3,fun hn=>?_⟩;obtain⟨b,o,h5,h6⟩:=h4 hn;refine⟨b,o,h5,fun i l hl=>?_⟩;obtain⟨u,r,k1,k2,k3,k4,k5⟩:=h6 i l hl;exact⟨u,r,by rw[Nat.mul_comm i 3];exact k1,by rw[Nat.mul_comm i 3,Nat.add_assoc];exact k2,by rw[Nat.mul_comm i 3,Nat.add_assoc];exact k3,k4,k5⟩
theorem Ts{l k:List Lv}(hl:l.length=k.length)(h:∀j,j<l.length->l[j]?=k[j]?):l=k:=by
 exact zck
theorem BW(w:World)(c:Int)(v:Value):(w.alloc (.cells #[c,v] 43)).cell? (w.heap.size,0)=some (.int .i64 c)/\
  (w.alloc (.cells #[c,v] 43)).cell? (w.heap.size,1)=some v/\Ex w (w.alloc (.cells #[c,v] 43)):=
 ⟨ag,ag,(Ex.refl _).alloc _⟩
theorem Ei(w:World)(c:Int)(u v:Value):(w.alloc (.cells #[c,u,v] 90)).cell? (w.heap.size,0)=some (.int .i64 c)/\
  (w.alloc (.cells #[c,u,v] 90)).cell? (w.heap.size,1)=some u/\(w.alloc (.cells #[c,u,v] 90)).cell? (w.heap.size,2)=some v/\Ex w (w.alloc (.cells #[c,u,v] 90)):=
 ⟨ag,ag,ag,(Ex.refl _).alloc _⟩
theorem zcl{P:Prop}(h:P:=by
 go_wp2_with fail
 go_ret;exact⟨Af HR.o,aJ.o.trans (aA.o.ex.trans EB.o)⟩):P:=h
theorem EY(w:World)(d:Int)(L:List Lv)(lv:Value)(hL:EH w lv L)(hg:(AE L).length<=1000):
  Calls Tryz.prog 70 #[.agg #[d,lv]] w fun r w'=>r= .returned (.int .i64 (Bb d L))/\Ex w w':=by
 obtain⟨d0,d1,e0⟩:=BW w d lv;obtain⟨za,zc,rfl,z1,z2,z3⟩:=(hL.ex e0).open3;unfold maxLen at z2;have HL:=Aa (hL.ex e0);have Z3:=Aa z3;clear z3 hL;have HG:=Aa (Io (w.alloc (.cells #[d,.slice za L.length zc] 43)) d);go_enter Tryz.func70,Tryz.ntmps70
 go_wp2_with fail
 obtain⟨q,hq⟩:=nA w.heap.size;rw[hq]at d0 d1
 try simp only[hq]
 clear hq;generalize w.alloc (.cells #[d,.slice za L.length zc] 43)=w1 at *;have aJ:=Aa e0;clear e0;refine HG.o.mono ?_;rintro e wd⟨rfl,rfl⟩;by_cases hd:d<1∨64<d
 .have HR:=Aa (show(4:Int)=Bb d L from by unfold Bb;rw[if_pos hd]);have aR:MP d=4:=by unfold MP;rw[if_pos hd]
  rw[aR];clear hd aR;go_wp2_with fail
  go_ret;exact⟨Af HR.o,aJ.o⟩
 .have aR:MP d=0:=by unfold MP;rw[if_neg hd]
  rw[aR];obtain⟨D,rfl⟩:∃D:Nat,d=D:=⟨d.toNat,ac⟩;have hD1:1<=D:=bu;have hD2:D<=64:=ac;have aE:=Aa (show(¬(Ez D (AE L)=0/\L=B3 D ((AE L).map CJ) D))->5=Bb D L from fun h=>by unfold Bb;rw[if_neg hd];exact(if_neg h).symm);have bG:=Aa (show Ez D (AE L)=0->L=B3 D ((AE L).map CJ) D->0=Bb D L from fun h k=>by unfold Bb;rw[if_neg hd];exact(if_pos ⟨h,k⟩).symm);clear hd aR;have D0:=Aa d0;have D1:=Aa d1;by_cases hln:D<L.length
  .have HR:=Aa (aE.o <| by
    rintro⟨_,h⟩;have:=congrArg List.length h;have:=QP D ((AE L).map CJ) D;omega)
   have h1:(D:Int)<(L.length:Int):=ac;go_wp2_with fail
   go_ret;exact⟨Af HR.o,aJ.o⟩
  .have h1:¬(D:Int)<(L.length:Int):=by omega
   go_wp2_with fail
   clear d0 d1
   go_loopw [4,27] (fun gv' k' wr=>∃(k:Nat) (vals:List Value),k<=L.length/\k'= .int .i64 k/\Hia (Gv w1 wr gv' (AE (L.take k)) vals)) (fun _ k' _=>L.length-(intOf k').toNat)
   case atStart=>exact⟨0, [],ac,rfl,Aa (Gv.nil w1)⟩
   case round=>
    obtain⟨k,vals,hk,rfl,aA⟩:=hrel;have cA:=IN L k;obtain⟨ga,gc,rfl⟩:=Ad aA.o.own;by_cases hkl:k<L.length
    .obtain⟨l,hl⟩:∃l,L[k]?=some l:=⟨_,List.getElem?_eq_getElem hkl⟩;obtain⟨zb,zo,rfl,aO⟩:=Z3.o ac;obtain⟨u,r,c0,c1,c2,hu,hr⟩:=aO k l hl;have c0:=aA.o.ex.cell c0;have c1:=aA.o.ex.cell c1;have c2:=aA.o.ex.cell c2;have d0:=aA.o.ex.cell D0.o;have d1:=aA.o.ex.cell D1.o;obtain⟨oa,oc,rfl,_,_,_⟩:=hu.open;obtain⟨ra,rc,rfl,_,_,_⟩:=hr.open;have i1:(0:Int)<=(k:Int):=by omega
     have i2:(k:Int)<(L.length:Int):=ac;obtain⟨p,hp⟩:=nA l.pt;rw[hp]at c0;obtain⟨bE,HPE,HU,aU⟩:=Eq hl hp hu hr;obtain⟨b0,b1,b2,eb⟩:=Ei wr p (.slice oa l.orb.length oc) (.slice ra l.reps.length rc);have bd0:=eb.cell d0;have EB:=Aa eb;clear aO hl hp hu hr d1 eb;by_cases hbad:D<l.orb.length
     .have HR:=Aa (aE.o <| by
       rintro⟨_,h⟩;have:=(QO (h ▸ List.mem_of_getElem? bE.o)).1;omega)
      have h2:(D:Int)<(l.orb.length:Int):=ac;clear hbad;exact zcl
     .have h2:¬(D:Int)<(l.orb.length:Int):=by omega
      by_cases hne:l.reps.length=l.orb.length
      .have h3:((l.reps.length:Int) !=(l.orb.length:Int))=false:=by simp;omega
       have HNE:=Aa hne;clear hne hbad;obtain⟨us,bO,_,bL⟩:=aU.o.vals;have bP:=Aa bL;have bR:=Aa bO;clear bL bO;have cG:=Aa (show ∀u∈us,u.oneCell'=true from fun u hu=>by
        obtain⟨i,hi,e⟩:=List.getElem_of_mem hu;have hul:us.length=l.reps.length:=by have:=bR.o.1;omega
        obtain⟨_,_,rfl,_⟩:=(bP.o i _ u (List.getElem?_eq_getElem ac) au).open;rfl)
       have aZ:=IN L (k+1);have bY:=Aa (L6 bE.o);rw[bY.o,List.length_append]at aZ;have HB:=Aa (Nat.le_trans aA.o.ex.size EB.o.size);have bU:=Aa (Ai aA.o.own EB.o);have cC:=Aa (bR.o.ex (aA.o.ex.trans EB.o));go_wp2_with (at_builtin;refine A9 _ rfl _ _ 37 rfl w1.heap.size 22 (.slice none 0 0) 1 24 Tryz.underlying37 BG rfl ae (.slice ga (AE (L.take k)).length gc) (AE (L.take k)).length vals rfl bU.o (.slice ra l.reps.length rc) l.reps.length us rfl cC.o cG.o ai ac HB.o ?_;intro v' w' aK hg hb;have cI:=Aa (aA.o.app (R:=l.reps) (us:=us) (fun i r u a b=>bP.o i r u a b) aK (Ex.grown (aA.o.ex.trans EB.o) bU.o (Nat.le_refl _) hg));obtain⟨oa',oc',rfl⟩:=Ad aK;clear aK hg hb)
       go_roundw
       case rel=>exact⟨k+1,_,ac,by go_num,by rw[bY.o];exact cI⟩
       case measure=>simp[intOf];omega
      .have h3:((l.reps.length:Int) !=(l.orb.length:Int))=true:=by simp;omega
       have HR:=Aa (aE.o <| by
        rintro⟨_,h⟩;have:=(QO (h ▸ List.mem_of_getElem? bE.o)).2;omega)
       clear hbad hne;exact zcl
    .obtain rfl:k=L.length:=by omega
     have d0:=aA.o.ex.cell D0.o;have bA:=NU wr D (AE (L.take L.length)) _ aA.o.msl ac;rw[List.take_length]at bA;have bI:=Aa bA;have bM:AE (L.take L.length)=AE L:=by rw[List.take_length]
     rw[bM];have aG:=Aa aA.o.ex;clear bA bM aA cA;by_cases hg0:Ez D (AE L)=0
     .have aM:Dd D (AE L)=(⟨D,B3 D ((AE L).map CJ) D⟩,0):=by unfold Dd;rw[hg0,if_neg ae];rfl
      have bX:=Aa (bG.o hg0);have bF:=Aa (show L≠B3 D ((AE L).map CJ) D->5=Bb D L from fun h=>aE.o fun k=>h k.2);obtain⟨K,hK⟩:=nA (B3 D ((AE L).map CJ) D);rw[hK]at aM bX bF;have aY:=Aa aM;clear hK aM hg0;by_cases hkl:K.length=L.length
      .have hb:((K.length:Int) !=(L.length:Int))=false:=by simp;omega
       have bV:=Aa hkl;clear hkl;go_wp2_with (go_at_call 123;refine bI.o.mono ?_;rintro e w5⟨⟨kv,rfl,aB⟩,aC⟩;rw[aY.o]at aB ⊢;dsimp only at aB ⊢;have cH:=Aa aB;obtain⟨ka,kc,rfl,_,_,aQ⟩:=aB.open3;have bW:=Aa aQ;have aL:=Aa (aG.o.trans aC);have d0:=(aG.o.trans aC).cell D0.o;have d1:=(aG.o.trans aC).cell D1.o;obtain⟨b0,b1,eb⟩:=BW w5 D (.slice ka K.length kc);have e1:=eb.cell d1;have EB:=Aa eb;clear aB aQ aC eb)
       go_loopw [72] (fun j' wr=>∃(j:Nat),j<=L.length/\j'= .int .i64 j/\Hia (∀i,i<j->L[i]?=K[i]?)/\Hia (Ex (w5.alloc (.cells #[D,.slice ka K.length kc] 43)) wr)) (fun j' _=>L.length-(intOf j').toNat)
       case atStart=>exact⟨0,ac,rfl,Aa (fun i h=>ac),Aa (Ex.refl _)⟩
       case round=>
        clear d0 d1 e1;obtain⟨j,hj,rfl,aD,aF⟩:=hrel;by_cases hjl:j<L.length
        .obtain⟨l,hl⟩:∃l,L[j]?=some l:=⟨_,List.getElem?_eq_getElem hjl⟩;have cB:j<K.length:=by have:=bV.o;omega
         obtain⟨k,hk⟩:∃k,K[j]?=some k:=⟨_,List.getElem?_eq_getElem cB⟩;obtain⟨zb,zo,rfl,aO⟩:=Z3.o ac;obtain⟨yb,yo,rfl,bK⟩:=bW.o ac;have aT:=Aa ((aL.o.trans EB.o).trans aF.o);obtain⟨u,r,c0,c1,c2,hu,hr⟩:=aO j l hl;obtain⟨v,s,f0,f1,f2,hv,hs⟩:=bK j k hk;have c0:=aT.o.cell c0;have c1:=aT.o.cell c1;have c2:=aT.o.cell c2;have f0:=(EB.o.trans aF.o).cell f0;have f1:=(EB.o.trans aF.o).cell f1;have f2:=(EB.o.trans aF.o).cell f2;have b1:=aF.o.cell b1;obtain⟨oa,oc,rfl,_,_,_⟩:=hu.open;obtain⟨ra,rc,rfl,_,_,_⟩:=hr.open;obtain⟨pa,pc,rfl,_,_,_⟩:=hv.open;obtain⟨sa,sc,rfl,_,_,_⟩:=hs.open;have i1:(0:Int)<=(j:Int):=bu;have i2:(j:Int)<(L.length:Int):=ac;have i3:(j:Int)<(K.length:Int):=ac;obtain⟨p,hp⟩:=nA l.pt;rw[hp]at c0;obtain⟨t,ht⟩:=nA k.pt;rw[ht]at f0;obtain⟨aV,aW,bS,bT⟩:=Eq hl hk hp ht;obtain⟨a0,a1,a2,ea⟩:=Ei wr p (.slice oa l.orb.length oc) (.slice ra l.reps.length rc);have f0:=ea.cell f0;have f1:=ea.cell f1;have f2:=ea.cell f2;have b1:=ea.cell b1;obtain⟨g0,g1,g2,eg⟩:=Ei (wr.alloc (.cells #[p,.slice oa l.orb.length oc,.slice ra l.reps.length rc] 90)) t (.slice pa k.orb.length pc) (.slice sa k.reps.length sc);obtain⟨cF,cE,aU,bQ,cD,bB⟩:=To ((hu.ex aT.o).ex (ea.trans eg)) (hv.ex ((EB.o.trans aF.o).trans (ea.trans eg))) ((hr.ex aT.o).ex (ea.trans eg)) (hs.ex ((EB.o.trans aF.o).trans (ea.trans eg))) (aF.o.trans (ea.trans eg)) ((aJ.o.trans (aL.o.trans EB.o)).trans (aF.o.trans (ea.trans eg)));have a0:=eg.cell a0;have a1:=eg.cell a1;have a2:=eg.cell a2;have bN:(wr.alloc (.cells #[p,.slice oa l.orb.length oc,.slice ra l.reps.length rc] 90)).heap.size=wr.heap.size+1:=ag;rw[bN]at g0 g1 g2;clear aO bK hl hk hp ht hu hv hr hs ea eg bN;have bH:=Aa (show(L[j]?≠K[j]?)->5=Bb D L from fun h=>bF.o fun e=>h cw);by_cases hpt:p=t
         .subst hpt;have bZ:(p !=p)=false:=by simp
          have A2:=Aa a2;have G2:=Aa g2;have aN:=Hj ((wr.alloc (.cells #[p,.slice oa l.orb.length oc,.slice ra l.reps.length rc] 90)).alloc (.cells #[p,.slice pa k.orb.length pc,.slice sa k.reps.length sc] 90)) l.orb k.orb _ _ cF.o cE.o;by_cases DX:l.orb=k.orb
          .rw[decide_eq_true DX]at aN;have aX:=Aa aN;clear aN;by_cases hre:l.reps=k.reps
           .have HE:=Aa (show L[j]?=K[j]? from by
             rw[aV.o,aW.o];have e1:=bS.o;have e2:=bT.o;cases l;cases k
             simp only at DX hre e1 e2;rw[DX,hre,e1,e2])
            have bJ:=Aa (show ∀i,i<j+1->L[i]?=K[i]? from fun i hi=>by
             by_cases e:i=j
             .subst e;exact HE.o
             .exact aD.o i ac)
            have bD:=Aa (decide_eq_true hre);clear DX hre aD;go_wp2_with (first|(go_at_call 101;refine aX.o.mono ?_;rintro e w6⟨rfl,n6,aI⟩;have X6:=(show Ex ((wr.alloc (.cells #[p,.slice oa l.orb.length oc,.slice ra l.reps.length rc] 90)).alloc (.cells #[p,.slice pa k.orb.length pc,.slice sa k.reps.length sc] 90)) w6 from by rw[aI];exact(Ex.refl _).drewN n6);have a2:=X6.cell A2.o;have g2:=X6.cell G2.o;have aH:=Ea w6 l.reps k.reps _ _ (aU.o.ex X6) (bQ.o.ex X6);rw[bD.o]at aH;have aH:=Aa aH;have aS:=Aa X6;clear aI X6)|(go_at_call 128;refine aH.o.mono ?_;rintro e w7⟨rfl,n7,aP⟩;have bC:=Aa (aS.o.trans (show Ex w6 w7 from by rw[aP];exact(Ex.refl w6).drewN n7));clear aP))
            go_roundw
            case rel=>exact⟨j+1,ac,by go_num,bJ,Aa (cD.o.trans bC.o)⟩
            case measure=>simp[intOf];omega
           .have HR:=Aa (bH.o (by
             rw[aV.o,aW.o];intro e;injection e with e;exact hre cw))
            have bD:=Aa (decide_eq_false hre);clear DX hre aD;go_wp2_with (first|(go_at_call 101;refine aX.o.mono ?_;rintro e w6⟨rfl,n6,aI⟩;have X6:=(show Ex ((wr.alloc (.cells #[p,.slice oa l.orb.length oc,.slice ra l.reps.length rc] 90)).alloc (.cells #[p,.slice pa k.orb.length pc,.slice sa k.reps.length sc] 90)) w6 from by rw[aI];exact(Ex.refl _).drewN n6);have a2:=X6.cell A2.o;have g2:=X6.cell G2.o;have aH:=Ea w6 l.reps k.reps _ _ (aU.o.ex X6) (bQ.o.ex X6);rw[bD.o]at aH;have aH:=Aa aH;have aS:=Aa X6;clear aI X6)|(go_at_call 128;refine aH.o.mono ?_;rintro e w7⟨rfl,n7,aP⟩;have bC:=Aa (aS.o.trans (show Ex w6 w7 from by rw[aP];exact(Ex.refl w6).drewN n7));clear aP))
            go_ret;exact⟨Af HR.o,bB.o.trans bC.o⟩
          .have HR:=Aa (bH.o (by
            rw[aV.o,aW.o];intro e;injection e with e;exact DX cw))
           rw[decide_eq_false DX]at aN;have aX:=Aa aN;clear aN DX aD;go_wp2_with (go_at_call 101;refine aX.o.mono ?_;rintro e w6⟨rfl,n6,aI⟩;have aS:=Aa (show Ex ((wr.alloc (.cells #[p,.slice oa l.orb.length oc,.slice ra l.reps.length rc] 90)).alloc (.cells #[p,.slice pa k.orb.length pc,.slice sa k.reps.length sc] 90)) w6 from by rw[aI];exact(Ex.refl _).drewN n6);clear aI)
           go_ret;exact⟨Af HR.o,bB.o.trans aS.o⟩
         .have bZ:(p !=t)=true:=by simpa using hpt
          have HR:=Aa (bH.o (by
           rw[aV.o,aW.o];intro e;injection e with e;have e1:=bS.o;have e2:=bT.o;exact hpt (by rw[<-e1,<-e2,e])))
          clear hpt;go_wp2_with fail
          go_ret;exact⟨Af HR.o,bB.o⟩
        .obtain rfl:j=L.length:=by omega
         have HR:=Aa (bX.o (Ts bV.o.symm aD.o));go_wp2_with fail
         go_ret;exact⟨Af HR.o,aJ.o.trans ((aL.o.trans EB.o).trans aF.o)⟩
      .have hb:((K.length:Int) !=(L.length:Int))=true:=by simp;omega
       have HR:=Aa (bF.o fun e=>hkl (by rw[<-e]));clear hkl;go_wp2_with (go_at_call 123;refine bI.o.mono ?_;rintro e w5⟨⟨kv,rfl,aB⟩,aC⟩;rw[aY.o]at aB ⊢;dsimp only at aB ⊢;have cH:=Aa aB;obtain⟨ka,kc,rfl,_,_,aQ⟩:=aB.open3;have bW:=Aa aQ;have aL:=Aa (aG.o.trans aC);have d0:=(aG.o.trans aC).cell D0.o;have d1:=(aG.o.trans aC).cell D1.o;obtain⟨b0,b1,eb⟩:=BW w5 D (.slice ka K.length kc);have e1:=eb.cell d1;have EB:=Aa eb;clear aB aQ aC eb)
       go_ret;exact⟨Af HR.o,aJ.o.trans (aL.o.trans EB.o)⟩
     .obtain⟨E,hE⟩:=nA (Ez D (AE L));have aM:Dd D (AE L)=(⟨0, []⟩,E):=by unfold Dd;rw[if_pos hg0,hE]
      have aY:=Aa aM;have HR:=Aa (aE.o fun h=>hg0 h.1);rw[hE]at hg0;have hb:(E !=0)=true:=by simpa using hg0
      clear aM hE hg0;go_wp2_with (go_at_call 123;refine bI.o.mono ?_;rintro e w5⟨⟨kv,rfl,aB⟩,aC⟩;rw[aY.o]at aB ⊢;dsimp only at aB ⊢;obtain⟨ka,kc,rfl,_,_,_⟩:=aB.open3;have aL:=Aa (aG.o.trans aC);have d0:=(aG.o.trans aC).cell D0.o;have d1:=(aG.o.trans aC).cell D1.o;obtain⟨b0,b1,eb⟩:=BW w5 0 (.slice ka 0 kc);have EB:=Aa eb;clear aB aC eb)
      go_ret;exact⟨Af HR.o,aJ.o.trans (aL.o.trans EB.o)⟩
def BM:Nat:=4294967296
theorem IY:0<BM:=ae
def vS(f:Nat->Nat):Nat->Nat
 | 0=>0
 | n+1=>vS f n+f n*BM^n
theorem Gx{f g:Nat->Nat}:∀ {n},(∀k,k<n->f k=g k)->vS f n=vS g n
 | 0,_=>rfl
 | n+1,h=>by unfold vS;rw[Gx fun k hk=>h k (by omega),h n (by omega)]
theorem Ps{f:Nat->Nat}:∀n,(∀k,k<n->f k<BM)->vS f n<BM^n
 | 0,_=>by unfold vS;decide
 | n+1,h=>by
  have h1:=Ps n fun k hk=>h k ac;have h2:f n+1<=BM:=h n ac;have h3:=Nat.mul_le_mul_right (BM^n) h2;rw[Nat.add_mul,Nat.one_mul]at h3;unfold vS;rw[Nat.pow_succ,Nat.mul_comm (BM^n) BM];omega
theorem Rd{f:Nat->Nat}{j x:Nat}:∀ {n},j<n->vS (Ay f j x) n+f j*BM^j=vS f n+x*BM^j
 | 0,h=>by omega
 | n+1,h=>by
  by_cases e:j=n
  .subst e;unfold vS;have h1:vS (Ay f j x) j=vS f j:=Gx fun k hk=>by unfold Ay;rw[if_neg ac]
   have h2:Ay f j x j=x:=by unfold Ay;rw[if_pos rfl]
   rw[h1,h2];omega
  .have h1:=Rd (f:=f) (x:=x) (n:=n) (j:=j) ac;have h2:Ay f j x n=f n:=by unfold Ay;rw[if_neg ac]
   unfold vS;rw[h2];omega
theorem NZ{f:Nat->Nat}:∀ {n m},m<=n->(∀k,m<=k->k<n->f k=0)->vS f n=vS f m
 | 0,m,h,_=>by rw[show m=0 by omega]
 | n+1,m,h,h0=>by
  by_cases e:m=n+1
  .rw[e]
  .show vS f n+f n*BM^n=vS f m
   rw[h0 n (by omega) (by omega),Nat.zero_mul,Nat.add_zero];exact NZ (by omega) fun k h1 h2=>h0 k h1 (by omega)
structure JL(n:Nat)(f:Nat->Nat):Prop where
 lt:∀k,k<n->f k<BM
 top:∀m,n=m+1->f m≠0
theorem JL.ge{m:Nat}{f:Nat->Nat}(h:JL (m+1) f):BM^m<=vS f (m+1):=by
 have h1:1<=f m:=Nat.one_le_iff_ne_zero.2 (h.top m rfl);have:=Nat.mul_le_mul_right (BM^m) h1;unfold vS;omega
theorem JL.len{n m:Nat}{f:Nat->Nat}(h:JL n f)(hv:vS f n<BM^m):n<=m:=by
 cases n with
 | zero=>omega
 | succ k=>
  have h1:=h.ge;have h2:BM^k<BM^m:=ac;have:=(Nat.pow_lt_pow_iff_right (by decide:1<BM)).1 h2;omega
theorem zcq{P:Prop}(h:P:=by
 have:=Nat.mul_le_mul_right (BM^n) h3;rw[Nat.add_mul,Nat.one_mul]at this;omega):P:=h
theorem VG{f g:Nat->Nat}:∀n,(∀k,k<n->f k<BM)->(∀k,k<n->g k<BM)->vS f n=vS g n->∀k,k<n->f k=g k
 | 0,_,_,_,k,hk=>by omega
 | n+1,hf,hg,h,k,hk=>by
  have h1:=Ps n fun k hk=>hf k ac;have h2:=Ps n fun k hk=>hg k ac;unfold vS at h;have e:f n=g n:=by
   apply Classical.byContradiction;intro aA;rcases Nat.lt_or_gt_of_ne aA with h3|h3
   .have h3:f n+1<=g n:=h3;exact zcq
   .have h3:g n+1<=f n:=h3;exact zcq
  by_cases e2:k=n
  .subst e2;exact e
  .rw[e]at h;exact VG n (fun k hk=>hf k ac) (fun k hk=>hg k ac) ac k ac
theorem JL.uniq{n m:Nat}{f g:Nat->Nat}(hf:JL n f)(hg:JL m g)(h:vS f n=vS g m):n=m/\∀k,k<n->f k=g k:=by
 have h1:n<=m:=hf.len (by rw[h];exact Ps m hg.lt);have h2:m<=n:=hg.len (by rw[<-h];exact Ps n hf.lt);have e:n=m:=by omega
 subst e;exact⟨rfl,VG n hf.lt hg.lt h⟩
structure SE(N i m:Nat)(a b:Nat->Nat)(f:Nat->Nat)(c j:Nat):Prop where
 lt:∀k,k<N->f k<BM
 zero:∀k,i+m<=k->f k=0
 cl:c<BM
 val:vS f N+c*BM^(i+j)=vS a i*vS b m+a i*vS b j*BM^i
structure SF(N i m:Nat)(a b:Nat->Nat)(f:Nat->Nat):Prop where
 lt:∀k,k<N->f k<BM
 zero:∀k,i+m<=k->f k=0
 val:vS f N=vS a i*vS b m
theorem SF.start(N m:Nat)(a b:Nat->Nat):SF N 0 m a b (fun _=>0):=
 ⟨fun _ _=>IY,fun _ _=>rfl,by rw[NZ (m:=0) (Nat.zero_le _) fun _ _ _=>rfl];unfold vS;rw[Nat.zero_mul]⟩
theorem SF.inner{N i m:Nat}{a b f:Nat->Nat}(h:SF N i m a b f):SE N i m a b f 0 0:=
 ⟨h.lt,h.zero,IY,by rw[h.val,Nat.zero_mul];show _=_+a i*0*_;rw[Nat.mul_zero,Nat.zero_mul]⟩
theorem Nr{x y u c:Nat}(hx:x<BM)(hy:y<BM)(hu:u<BM)(hc:c<BM):x*y+u+c<BM*BM:=by
 have h1:x<=BM-1:=ac;have h2:y<=BM-1:=ac;have h3:=Nat.mul_le_mul h1 h2;have h4:(BM-1)*(BM-1)+(BM-1)+(BM-1)<BM*BM:=ae;omega
theorem SE.step{N i m:Nat}{a b f:Nat->Nat}{c j:Nat}(h:SE N i m a b f c j)(hj:j<m)(hN:i+m<=N)(ha:a i<BM)(hb:b j<BM):
  SE N i m a b (Ay f (i+j) ((a i*b j+f (i+j)+c)%BM)) ((a i*b j+f (i+j)+c)/BM) (j+1):=by
 refine⟨fun k hk=>?_,fun k hk=>?_,?_,?_⟩
 .unfold Ay;split
  .exact Nat.mod_lt _ IY
  .exact h.lt k hk
 .unfold Ay;rw[if_neg ac];exact h.zero k hk
 .exact Nat.div_lt_of_lt_mul (Nr ha hb (h.lt (i+j) ac) h.cl)
 .have h1:=Rd (f:=f) (j:=i+j) (x:=(a i*b j+f (i+j)+c)%BM) (n:=N) ac;have h2:=h.val;have h3:=Nat.div_add_mod (a i*b j+f (i+j)+c) BM;generalize (a i*b j+f (i+j)+c)/BM=q at *;generalize (a i*b j+f (i+j)+c)%BM=r at *;generalize vS (Ay f (i+j) r) N=V at *;have h4:(BM*q+r)*BM^(i+j)=(a i*b j+f (i+j)+c)*BM^(i+j):=by rw[h3]
  have h5:BM^(i+(j+1))=BM^(i+j)*BM:=by rw[<-Nat.add_assoc,Nat.pow_succ]
  have h6:BM^(i+j)=BM^j*BM^i:=by rw[Nat.add_comm,Nat.pow_add]
  have h7:vS b (j+1)=vS b j+b j*BM^j:=rfl;rw[h5,h7];rw[Nat.add_mul]at h4;rw[Nat.add_mul,Nat.add_mul]at h4;have h8:BM*q*BM^(i+j)=q*(BM^(i+j)*BM):=by rw[Nat.mul_comm BM q,Nat.mul_assoc,Nat.mul_comm BM]
  have h9:a i*(vS b j+b j*BM^j)*BM^i=a i*vS b j*BM^i+a i*b j*BM^(i+j):=by
   rw[Nat.mul_add,Nat.add_mul,h6];simp only[Nat.mul_assoc]
  rw[h9];rw[h8]at h4;omega
theorem SE.fin{N i m:Nat}{a b f:Nat->Nat}{c:Nat}(h:SE N i m a b f c m)(hN:i+m<N):SF N (i+1) m a b (Ay f (i+m) c):=by
 refine⟨fun k hk=>?_,fun k hk=>?_,?_⟩
 .unfold Ay;split
  .exact h.cl
  .exact h.lt k hk
 .unfold Ay;rw[if_neg ac];exact h.zero k ac
 .have h1:=Rd (f:=f) (j:=i+m) (x:=c) (n:=N) hN;rw[h.zero (i+m) (Nat.le_refl _),Nat.zero_mul,Nat.add_zero]at h1;rw[h1,h.val];show _=(vS a i+a i*BM^i)*vS b m
  rw[Nat.add_mul,Nat.mul_right_comm]
structure NM(f:Nat->Nat)(N n:Nat):Prop where
 le:n<=N
 val:vS f n=vS f N
theorem NM.step{f:Nat->Nat}{N n:Nat}(h:NM f N (n+1))(h0:f n=0):NM f N n:=
 ⟨by have:=h.le;omega,by rw[<-h.val,show vS f (n+1)=vS f n+f n*BM^n from rfl,h0];omega⟩
theorem NM.fin{f:Nat->Nat}{N n:Nat}(h:NM f N n)(hl:∀k,k<N->f k<BM)(h0:∀m,n=m+1->f m≠0):JL n f:=⟨fun k hk=>hl k (by have:=h.le;omega),h0⟩
theorem sortOK:SC:=by
 intro w base v l hv h1 h2;rcases hv.2 with⟨_,h0⟩|⟨g,cap,cur,rfl,hbase,hb,c1,c2,c3,c4⟩
 .omega
 .have aA:cur.toList.take l.length=l.map (Value.int .i64):=by simpa[Ap]using c4
  have hg:g<w.heap.size:=(Array.getElem?_eq_some_iff.1 hb).1;refine(Tryz.slices_Sort_int g 0 cap l w (holds_of_blockI hb aA) hg ac).mono ?_;rintro e w'⟨rfl,n,os,rfl⟩;have hl:(l.mergeSort fun x y=>decide (x<=y)).length=l.length:=List.length_mergeSort _;exact⟨rfl,ownsRow_sortedI hl hbase hb c1 c2 c3,grownBy_sortedI _⟩
def Ul(n:Nat)(f g:Nat->Nat):Prop:=∃i,i<n/\(∀j,j<i->f j=g j)/\f i<g i
theorem Ul.le{n:Nat}{f g:Nat->Nat}(h:Ul n f g):Fe n f g:= .inr h
theorem L7{n:Nat}{f g:Nat->Nat}:∀m,m<=n->(∀i,i<m->f i=g i)∨∃i,i<m/\(∀j,j<i->f j=g j)/\f i≠g i
 | 0,_=> .inl fun i h=>by omega
 | m+1,h=>by
  rcases L7 (n:=n) (f:=f) (g:=g) m (by omega) with h1|⟨i,h1,h2,h3⟩
  .by_cases e:f m=g m
   .exact .inl fun i hi=>by
     by_cases e2:i=m
     .subst e2;exact e
     .exact h1 i (by omega)
   .exact .inr ⟨m,by omega,h1,e⟩
  .exact .inr ⟨i,by omega,h2,h3⟩
theorem WQ{n:Nat}{f g:Nat->Nat}:GG (li n f) (li n g)=true↔Ul n f g:=by
 rcases L7 (n:=n) (f:=f) (g:=g) n (Nat.le_refl _) with h1|⟨i,h1,h2,h3⟩
 .have e:li n f=li n g:=WP h1;rw[e,Ly fun j _=>rfl];constructor
  .intro h;cases h
  .rintro⟨i,hi,_,h⟩;have:=h1 i hi;omega
 .rw[Ns (i:=i) (Dm h1 f) (Dm h1 g) ac fun j hj=>by rw[Dm ac,Dm ac,h2 j hj],decide_eq_true_eq];constructor
  .intro h;exact⟨i,h1,h2,ac⟩
  .rintro⟨j,hj,j1,j2⟩;rcases Nat.lt_trichotomy i j with e|e|e
   .exact absurd (j1 i e) h3
   .subst e;omega
   .have:=h2 j e;omega
structure Pe(n m:Nat)(S:List (Nat->Nat))(A:Nat->Nat->Nat):Prop where
 all:∀f,Gn S f↔∃i,i<m/\A i=f
 srt:∀a b,a<b->b<m->Ul n (A a) (A b)
theorem Pe.least{n m:Nat}{S:List (Nat->Nat)}{A:Nat->Nat->Nat}(h:Pe n m S A){b x i:Nat}(hi:i<m)(h1:AW b (A i))(h2:A i b=x)(h3:∀j,j<i->¬(AW b (A j)/\A j b=x)):DZ n S b x (A i):=
 ⟨(h.all _).2 ⟨i,hi,rfl⟩,h1,h2,fun g hg hF aA=>by
  obtain⟨j,hj,rfl⟩:=(h.all g).1 hg;rcases Nat.lt_trichotomy i j with e|e|e
  .exact(h.srt i j e hj).le
  .subst e;exact .inl fun _ _=>rfl
  .exact absurd ⟨hF,aA⟩ (h3 j e)⟩
section
variable {p m:Nat} {ml pl sl sl':List Int} {fr N:Nat}
end
end Go.Proofs.YtehieobniamagaaGreat
