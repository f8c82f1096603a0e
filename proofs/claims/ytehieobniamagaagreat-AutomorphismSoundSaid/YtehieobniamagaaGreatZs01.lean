/- Walks of the package field: multiply. -/
import Derived.Deep.RegionHeld3
import Derived.Laws.CopyOwn
import Derived.StillTailTactics
import Derived.Test.YtehieobniamagaaGreatZs00
namespace Go.Proofs.YtehieobniamagaaGreat
open Go.RowKit
set_option linter.all false
set_option maxRecDepth 100000
set_option maxHeartbeats 4000000
structure Ha(p m:Nat)(ml:List Int):Prop where
 p2:2<=p
 m1:1<=m
 m8:m<=8
 q:p^m<=256
 len:ml.length=if m=1 then 0 else m
 rng:∀x∈ml,0<=x/\x<p
def lw(ml:List Int):Vc:=fun j=>ml.getD j 0
theorem Ha.p256{p m:Nat}{ml:List Int}(h:Ha p m ml):p<=256:=by
 have h1:p^1<=p^m:=Nat.pow_le_pow_right (by have:=h.p2;omega) h.m1;have:=h.q;rw[Nat.pow_one]at h1;omega
def BC(p m:Nat)(low x y:Vc)(k:Nat):Vc:=fun j=>DV m low x (m-k) (fun t=>y (k+t)) j%(p:Int)
theorem ZB(p m:Nat)(low x y:Vc)(j:Nat):BC p m low x y m j=0:=by
 unfold BC;rw[Nat.sub_self];simp[DV]
theorem ZC{p:Nat}(hp:1<=p)(m:Nat)(low x y:Vc)(k j:Nat):0<=BC p m low x y k j/\BC p m low x y k j<p:=
 ⟨Int.emod_nonneg _ ac,Int.emod_lt_of_pos _ ac⟩
theorem WU{p m:Nat}(low x y:Vc){k j:Nat}(hk:k<m)(hj:j<m):
  BC p m low x y k j=((if j=0 then 0 else BC p m low x y (k+1) (j-1))+((p:Int)-BC p m low x y (k+1) (m-1))*low j+y k*x j)%(p:Int):=by
 unfold BC;rw[show m-k=(m-(k+1))+1 by omega,DV];have e:(fun t=>y (k+(t+1)))=fun t=>y (k+1+t):=by funext t;rw[show k+(t+1)=k+1+t by omega]
 rw[e];generalize DV m low x (m-(k+1)) (fun t=>y (k+1+t))=H;unfold sX;show((if j<m then(if j=0 then 0 else H (j-1))-H (m-1)*low j else 0)+y (k+0)*x j)%(p:Int)=_
 rw[if_pos hj,Nat.add_zero];refine Eu ?_ rfl;have h1:((if j=0 then 0 else H (j-1))-H (m-1)*low j)%(p:Int)=((if j=0 then 0 else H (j-1))+((p:Int)-H (m-1))*low j)%(p:Int):=by
  refine Cw.2 ⟨- low j,?_⟩;generalize (if j=0 then 0 else H (j-1))=z
  grind
 rw[h1];refine Eu ?_ (F4 (II rfl (Int.emod_emod_of_dvd _ (Int.dvd_refl _)).symm) rfl);split
 .rfl
 .exact(Int.emod_emod_of_dvd _ (Int.dvd_refl _)).symm
theorem ZD{p:Nat}(hp:1<=p)(m:Nat)(low:Vc)(x y:Nat):Ey p m (BC p m low (AK p m x) (AK p m y) 0)=((Ai p m low x y:Nat):Int):=by
 unfold Ai rep Fh;rw[Int.toNat_of_nonneg (Dj (fun j=>⟨Int.emod_nonneg _ ac,Int.emod_lt_of_pos _ ac⟩) m).1];refine DW m fun j _=>?_;unfold BC;rw[Nat.sub_zero,Ov];simp only[Nat.zero_add]
def YH(o:Nat->Int):Nat->Int:=fun j=>if j=0 then 0 else o (j-1)
theorem NJ(n:Nat)(o:Nat->Int):splice (vs (n+1) (iv o)) 1 (vs n (iv o))=vs (n+1) (iv fun j=>if j=0 then o 0 else o (j-1)):=by
 unfold splice;apply List.ext_getElem?;intro j;rcases j with _|j
 .simp[vs,iv,List.range_succ_eq_map]
 .by_cases hj:j<n
  .simp[vs,iv,hj,List.getElem?_append]
  .simp[vs,iv,hj,List.getElem?_append];omega
theorem zaJ{P:Prop}(h:P:=by
 rw[if_neg h1];by_cases h2:t<j
 .rw[if_pos h2,if_pos (by omega)]
 .rw[if_neg h2,if_neg (by omega)]):P:=h
theorem bf{P:Prop}(h:P:=by omega):P:=h
theorem bp{P:Prop}(h:P:=by rfl):P:=h
theorem cd{P:Prop}(h:P:=by rw[<-aE];simp):P:=h
theorem Ix(p m x y:Nat)(ml:List Int)(mv:Value)(w:World)(hf:Ha p m ml)(aU:Al w mv ml)(hx:x<p^m)(hy:y<p^m):
  Calls Tryz.prog 166 #[.agg #[p,m,mv],x,y] w fun r w'=>r= .returned (.int .i64 (Ai p m (lw ml) x y))/\Ex w w':=by
 obtain⟨p2,m1,m8,q,aL,aK⟩:=hf;have p256:=Ha.p256 ⟨p2,m1,m8,q,aL,aK⟩;obtain⟨xb,aE⟩:=nA w.heap.size;have HX:=Aa aE;go_enter Tryz.func166,Tryz.ntmps166
 go_wp2_with fail
 try simp only[aE]
 have d0:(w.alloc (.cells #[p,m,mv] 24)).cell? (xb,0)=some (.int .i64 p):=cd;have d1:(w.alloc (.cells #[p,m,mv] 24)).cell? (xb,1)=some (.int .i64 m):=cd;have d2:(w.alloc (.cells #[p,m,mv] 24)).cell? (xb,2)=some mv:=cd;have e0:Ex w (w.alloc (.cells #[p,m,mv] 24)):=(Ex.refl _).alloc _;generalize w.alloc (.cells #[p,m,mv] 24)=w1 at *;clear aE
 go_region_held3 (fun w'=>w'.cell? (xb,0)=some (.int .i64 p)/\w'.cell? (xb,1)=some (.int .i64 m)/\w'.cell? (xb,2)=some mv/\Ex w w')
  (first|exact⟨d0,d1,d2,e0.drew⟩|exact⟨hx1.cell d0,hx1.cell d1,hx1.cell d2,e0.drew.trans hx1⟩|(obtain⟨k0,k1,k2,k3⟩:=‹_/\_/\_/\Ex w _›;exact⟨hx1.cell k0,hx1.cell k1,hx1.cell k2,k3.trans hx1⟩))
  ((go_at_call 205;refine(ON _ _ _ _ ac ac ac ac).mono ?_;rintro e w2⟨v,rfl,hs,hx1⟩))
 have aT:=‹Al _ _ (il m (AK p m x))›.ex hx1;have aS:=hs;obtain⟨k0,k1,k2,k3⟩:=‹_/\_/\_/\Ex w _›;clear d0 d1 d2 e0 hx1;obtain⟨aa,ca,rfl,a1,a2,a3⟩:=aT.open;obtain⟨ab,cb,rfl,b1,b2,b3⟩:=aS.open;have aF:=aU.ex k3;obtain⟨am,cm,rfl,c1,c2,c3⟩:=aF.open;simp only[An]at *;obtain⟨aab,aao,rfl,a4⟩:=a3 ac;obtain⟨abb,abo,rfl,b4⟩:=b3 ac;obtain⟨A4,B4,C3,aW⟩:=Eq (fun j (hj:j<m)=>a4 j _ (AQ hj _)) (fun j (hj:j<m)=>b4 j _ (AQ hj _)) c3 aL;unfold maxLen at a2 b2 c2;have bU:=Aa (show ∀j,0<=lw ml j/\lw ml j<p from fun j=>by
  unfold lw;rw[List.getD_eq_getElem?_getD];rcases h:ml[j]? with _|z
  .simp;omega
  .exact aK z (List.mem_of_getElem? h))
 have bN:=Aa (Dy (show 1<=p by omega) m x);have bM:=Aa (Dy (show 1<=p by omega) m y);clear a3 b3 c3 a4 b4 aT aS aF aU aK aL;go_wp2_with (at_make;refine Au _ rfl _ _ 22 rfl 3 (.int .i64 0) 8 Tryz.underlying22 AC rfl _ m rfl rfl rfl ac ai ?_)
 intro w4 aA aH;obtain⟨g,hg⟩:=nA w2.heap.size;have aC:AH w4 g 3 g m (iv (BC p m (lw ml) (AK p m x) (AK p m y) m)):=by
  rw[hg]at aA;exact aA.congr fun j _=>by unfold iv;rw[ZB]
 obtain⟨HG,bV,bW,bP,aN⟩:=Of hg (fun (wr:World) (h:AH wr g 3 g m (iv (BC p m (lw ml) (AK p m x) (AK p m y) 0)))=>h.isl) (ZD (show 1<=p by omega) m (lw ml) x y) (fun k j (hk:k<m) (hj:j<m)=>WU (p:=p) (lw ml) (AK p m x) (AK p m y) hk hj) (fun k j=>ZC (show 1<=p by omega) m (lw ml) (AK p m x) (AK p m y) k j);have bK:xb<g:=by rw[<-hg];exact World.block_lt_of_cell? _ _ k0
 simp only[hg];clear aA hg;generalize BC p m (lw ml) (AK p m x) (AK p m y)=H at *;have q0:=aH.cell k0;have q1:=aH.cell k1;go_wp2_with fail
 clear q0 q1
 go_loopw [10] (fun i' wr=>∃k:Nat,k<=m/\i'= .int .i64 ((k:Int)-1)/\AH wr g 3 g m (iv (H k))/\Ex w2 wr) (fun i' _=>(intOf i'+1).toNat)
 case atStart=>exact⟨m,ac,rfl,aC,aH⟩
 case round=>
  clear aC aH;obtain⟨k,hk,rfl,aA,aD⟩:=hrel;have r0:=aD.cell k0;have r1:=aD.cell k1;have r2:=aD.cell k2;rcases k with _|k
  .have aR:=bV.o _ aA;have HQ:=Aa aR;have bR:=Aa (show ∀z∈il m (H 0),0<=z/\z<p from fun z hz=>by
    obtain⟨j,_,rfl⟩:=List.mem_map.1 hz;exact aN.o 0 j)
   have bS:=Aa (show p^(il m (H 0)).length<=65536 by rw[An];omega);have bO:=Aa (show vl p (il m (H 0))=((Ai p m (lw ml) x y:Nat):Int) by rw[Pf];exact bW.o);clear aR aA;go_wp2_with fail
   refine(Pg _ _ _ _ HQ.o ac ac bR.o bS.o).mono ?_;rintro e w9⟨rfl,rfl⟩;go_wp2_with fail
   go_ret;exact⟨Af bO.o,k3.trans aD⟩
  .have aV:=aA.cell (show m-1<m by omega);have bL:wr.cell? (g,m-1)=some (.int .i64 (H (k+1) (m-1))):=aV;have e:(((k+1:Nat)):Int)-1=k:=by omega
   rw[e];clear aV e;have aQ:Below g w2 wr:=by rw[<-HG.o];exact aD
   obtain⟨bG,HO,aM,aX⟩:=Eq (show m=(m-1)+1 by omega) aA aD aQ;clear aA aD aQ;go_wp2_with fail
   have i1:(1:Int)<=(m:Int):=ac;have i3:(0:Int)<=(m:Int)-1:=ac;have i4:(m:Int)-1<=(m:Int):=ac;have i5:((m:Int)-1).toNat=m-1:=ac;have i7:IntKind.i64.wrap ((m:Int)-1)=(m:Int)-1:=IntWalk.i64_in _ ac;have HP:=Aa (show wr.drew.heap[g]?=some (.cells (vs m (iv (H (k+1)))).toArray 3 (0,0)) from HO.o.drew.heap);have HQ:=Aa (show ∀(j:Nat) (v:Value),(vs (m-1) (iv (H (k+1))))[j]?=some v->wr.drew.cell? ((⟨g,0,none⟩:Addr).add j)=some v from fun j v h=>by
    have hj:j<m-1:=by have:=(List.getElem?_eq_some_iff.1 h).1;rwa[Bm]at this
    rw[Dk hj]at h;injection h with h;have h2:(⟨g,0,none⟩:Addr).add j=⟨g,j,none⟩:=db;rw[h2,<-h];exact HO.o.drew.cell ac)
   have HN:=Aa (show(vs (m-1) (iv (H (k+1)))).length=Nat.min (m-1) (m-1) by rw[Bm];exact(Nat.min_self _).symm);have bF:=Aa (show 0<(vs (m-1) (iv (H (k+1)))).length->¬m=1 by rw[Bm];omega);have HF:=Aa (show 1+(vs (m-1) (iv (H (k+1)))).length<=(vs m (iv (H (k+1)))).length by rw[Bm,Bm];omega);have bE:=Aa (show ∀v∈vs (m-1) (iv (H (k+1))),v.oneCell'=true from fun v h=>by
    obtain⟨j,_,rfl⟩:=List.mem_map.1 h;rfl)
   have bH:=Aa (show Below g w2 wr.drew from Below.drew aX.o)
   go_region_law ((go_loud (refine step_copy_splice bp _ _ _ _ bp 3 Tryz.underlying22 ah _ _ _ _ _ _ bp bp g 1 (vs m (iv (H (k+1)))) 3 HP.o (vs (m-1) (iv (H (k+1)))) HN.o (fun h=>⟨if_neg (bF.o h),_,rfl,HQ.o⟩) HF.o bE.o g w2 bH.o (Nat.le_refl _) ?_);intro w5 hw5 hb5))
   all_goals
    generalize (if m=1 then some (⟨g,0,none⟩:Addr) else some ⟨g,1,none⟩)=sd;clear i1 i3 i4 i5 i7 HP HQ HF bE bH bF HN aX;have aG:Hia (AH w5 g 3 g m (iv fun j=>if j=0 then H (k+1) 0 else H (k+1) (j-1))):=by
     apply Aa;refine AH.of_heap ?_ (Nat.le_refl _) ai;have h:=hw5.out;rw[bG.o,Nat.add_sub_cancel,NJ]at h;rw[bG.o];exact h
    have bA:Hia (Ex w2 w5):=Aa (by rw[<-HG.o]at hb5;exact hb5);clear hw5 hb5;have bD:=Aa (aG.o.set 0 (.int .i64 0));have aZ:=Aa (aG.o.exSet (by rw[HG.o];exact Nat.le_refl _) bA.o 0 (.int .i64 0));have f5:=aG.o.frz 0;have m0:0<m:=by omega
    have m0':(0:Int)<(m:Int):=ac;have c5:=aG.o.cell (show 0<m by omega);clear r0 r1 r2 HO aM bL;go_wp2_with fail
    generalize w5.setCell (g,0) (.int .i64 0)=w6 at *;have bC:Hia (AH w6 g 3 g m (iv fun t=>if t<0 then H k t else YH (H (k+1)) t)):=by
     apply Aa;have:=bD.o;rw[CC]at this;refine this.icongr fun j hj=>?_;unfold Az YH;rw[if_neg (show ¬j<0 by omega)];by_cases h:j=0
     .rw[if_pos h,if_pos h]
     .rw[if_neg h,if_neg h];exact if_neg h
    clear aG bA bD f5 c5
    go_loopw [12,13,54] (fun _ _ j' wz=>∃j:Nat,j<=m/\j'= .int .i64 j/\Hia (AH wz g 3 g m (iv fun t=>if t<j then H k t else YH (H (k+1)) t))/\Ex w2 wz) (fun _ _ j' _=>m-(intOf j').toNat)
    case atStart=>exact⟨0,ac,rfl,bC,aZ.o⟩
    case round=>
     clear bC aZ;obtain⟨j,hj,rfl,HO,aB⟩:=hrel;have r0:=aB.cell k0;have r1:=aB.cell k1;have r2:=aB.cell k2;by_cases hlt:j<m
     .have hoj:wr.cell? (g,j)=some (.int .i64 (YH (H (k+1)) j)):=by
       have h:=HO.o.cell hlt;rw[h];unfold iv;simp
      have hfj:=HO.o.frz j;have ha:=aB.cell (A4.o j hlt);have hb:=aB.cell (B4.o k ac);have BC:=bP.o k j ac hlt;have HS:Hia ((YH (H (k+1)) j+((p:Int)-H (k+1) (m-1))*lw ml j+AK p m y k*AK p m x j)%(p:Int)=H k j):=Aa (by rw[BC];rfl);obtain⟨t1,t2⟩:=aN.o (k+1) (m-1);obtain⟨l1,l2⟩:=bU.o j;obtain⟨u1,u2⟩:=bN.o j;obtain⟨v1,v2⟩:=bM.o k;have bJ:0<=YH (H (k+1)) j/\YH (H (k+1)) j<p:=by
       unfold YH;split
       .omega
       .exact aN.o _ _
      obtain⟨s1,s2⟩:=bJ;have bB:=Aa (fun z=>HO.o.set j (.int .i64 z));have aY:=Aa (fun z=>HO.o.exSet (by rw[HG.o];exact Nat.le_refl _) aB j (.int .i64 z));have aO:=Aa (show ¬1<m->lw ml j=0 from fun h=>by
       unfold lw;have hl:=aW.o;rw[if_pos ac]at hl;rw[List.eq_nil_of_length_eq_zero hl];rfl)
      have aP:=Aa (show 1<m->∃b o,am=some ⟨b,o,none⟩/\wr.cell? ⟨b,o+j,none⟩=some (.int .i64 (lw ml j))/\j<ml.length from fun h=>by
       have hl:=aW.o;rw[if_neg ac]at hl;obtain⟨b,o,e,hc⟩:=C3.o ac;refine⟨b,o,e,aB.cell (hc j _ ?_),ac⟩;unfold lw;rw[List.getD_eq_getElem?_getD,List.getElem?_eq_getElem ac];rfl)
      generalize YH (H (k+1)) j=sj at *;generalize H (k+1) (m-1)=tp at *;generalize lw ml j=lj at *;generalize AK p m x j=xj at *;generalize AK p m y k=yk at *;have p1:0<=((p:Int)-tp)*lj:=Int.mul_nonneg ac l1;have p3:((p:Int)-tp)*lj<=65536:=by
       have:=Int.mul_le_mul (show(p:Int)-tp<=256 by omega) (show lj<=256 by omega) l1 ac;omega
      have p4:0<=yk*xj:=Int.mul_nonneg v1 u1;have p5:yk*xj<=65536:=by
       have:=Int.mul_le_mul (show yk<=256 by omega) (show xj<=256 by omega) u1 ac;omega
      have hkm:k<m:=ac;clear BC hk bK;by_cases hm1:1<m
      .obtain⟨bb,oo,rfl,hcm,hjl⟩:=aP.o hm1;clear aP aO;go_wp2_with fail
       have w1:IntKind.i64.wrap ((p:Int)-tp)=(p:Int)-tp:=IntWalk.i64_in _ ac;have bI:IntKind.i64.wrap (((p:Int)-tp)*lj)=((p:Int)-tp)*lj:=IntWalk.i64_in _ ac;have w3:IntKind.i64.wrap (sj+((p:Int)-tp)*lj)=sj+((p:Int)-tp)*lj:=IntWalk.i64_in _ ac;have aJ:IntKind.i64.wrap (yk*xj)=yk*xj:=IntWalk.i64_in _ ac;have aI:IntKind.i64.wrap (sj+((p:Int)-tp)*lj+yk*xj)=sj+((p:Int)-tp)*lj+yk*xj:=IntWalk.i64_in _ ac;have w6:(sj+((p:Int)-tp)*lj+yk*xj).tmod (p:Int)=(sj+((p:Int)-tp)*lj+yk*xj)%(p:Int):=Int.tmod_eq_emod_of_nonneg ac;have p0:¬p=0:=bf
       go_still_tail 27,ah
       change wpList _ _ _ _ _ wr.drew
       clear w1 bI w3 aJ aI w6;go_wp2_with fail
       go_roundw
       case rel=>
        refine⟨j+1,ac,by go_num,?_,(aY.o _).drew⟩;have h:=(bB.o ((sj+((p:Int)-tp)*lj+yk*xj)%(p:Int))).drew;rw[CC]at h;refine Aa (h.icongr fun t ht=>?_);unfold Az;dsimp only;by_cases h1:t=j
        .subst h1;rw[if_pos rfl,if_pos ac,HS.o]
        .exact zaJ
       case measure=>simp[intOf];omega
      .obtain rfl:lj=0:=aO.o hm1;clear aP aO;have bQ:Hia ((sj+yk*xj)%(p:Int)=H k j):=Aa (by have:=HS.o;rwa[Int.mul_zero,Int.add_zero]at this);clear p1 p3;go_wp2_with fail
       have w1:IntKind.i64.wrap ((p:Int)-tp)=(p:Int)-tp:=IntWalk.i64_in _ ac;have w3:IntKind.i64.wrap sj=sj:=IntWalk.i64_in _ ac;have aJ:IntKind.i64.wrap (yk*xj)=yk*xj:=IntWalk.i64_in _ ac;have aI:IntKind.i64.wrap (sj+yk*xj)=sj+yk*xj:=IntWalk.i64_in _ ac;have w6:(sj+yk*xj).tmod (p:Int)=(sj+yk*xj)%(p:Int):=Int.tmod_eq_emod_of_nonneg ac;have p0:¬p=0:=bf
       go_still_tail 27,ah
       change wpList _ _ _ _ _ wr.drew
       clear w1 w3 aJ aI w6;go_wp2_with fail
       go_roundw
       case rel=>
        refine⟨j+1,ac,by go_num,?_,(aY.o _).drew⟩;have h:=(bB.o ((sj+yk*xj)%(p:Int))).drew;rw[CC]at h;refine Aa (h.icongr fun t ht=>?_);unfold Az;dsimp only;by_cases h1:t=j
        .subst h1;rw[if_pos rfl,if_pos ac,bQ.o]
        .exact zaJ
       case measure=>simp[intOf];omega
     .obtain rfl:j=m:=by omega
      have bT:=HO.o.icongr (h:=H k) fun t ht=>if_pos ht;clear HO;go_wp2_with fail
      go_roundw
      case rel=>exact⟨k,ac,rfl,bT,aB⟩
      case measure=>simp[intOf]
def KX(p m:Nat)(ml:List Int)(x:Nat):Nat->Int:=fun k=>((BK p m (lw ml) x k:Nat):Int)
theorem Tl(n:Nat)(f:Nat->Int):il (n+1) f=il n f ++ [f n]:=by simp[il,List.range_succ]
def JM(p m:Nat)(ml:List Int)(x k:Nat):Nat->Bool:=fun z=>decide (∃i,i<k/\BK p m (lw ml) x i=z)
theorem zc2{P:Prop}(h:P:=by
 go_wp2_with fail
 go_ret;exact⟨_,k,rfl,aI.o,aH.o,e0.trans aF⟩):P:=h
theorem ae{P:Prop}(h:P:=by decide):P:=h
theorem aj{P:Prop}(h:P:=by simp[Value.oneCell']):P:=h
theorem RG(p m x:Nat)(ml:List Int)(mv:Value)(w:World)(hf:Ha p m ml)(bD:Al w mv ml)(hx:x<p^m):
  Calls Tryz.prog 165 #[.agg #[p,m,mv],((p^m:Nat):Int),x] w fun r w'=>∃v L,r= .returned v/\L9 p m (lw ml) x L/\Al w' v (il L (KX p m ml x))/\Ex w w':=by
 have hp:=hf.p2;have hm:=hf.m1;have HF:=Aa hf;have bU:=Aa bD;have hq:=hf.q;have bA:1<p^m:=Bz hp hm;obtain⟨HL,HM,bR,bL,bP⟩:=Of (fun k=>Dm (low:=lw ml) hp hm x k) (fun (y:Nat) (w':World) (h:y<p^m) (h':Al w' mv ml)=>Ix p m y x ml mv w' hf h' h hx) (Jy.one (low:=lw ml) hp hm x) (fun k (h:Jy p m (lw ml) x k)=>h.len hp hm) (show BK p m (lw ml) x 1=x by simp only[BK];exact Cp hp hm hx);clear hf bD hm;obtain⟨q,aT⟩:=nA (p^m);simp only[aT]at hq bA HL HM bL hx ⊢;have HQ:=Aa aT;clear aT;obtain⟨xb,aX⟩:=nA w.heap.size;have aP:=Aa aX;go_enter Tryz.func165,Tryz.ntmps165
 go_wp2_with (at_make;refine Au _ rfl _ _ 168 rfl 4 (.bool false) 1 Tryz.underlying168 Ll rfl _ q rfl rfl rfl ac ai ?_)
 intro w3 aL aS;clear aX;have d0:(w.alloc (.cells #[p,m,mv] 24)).cell? (xb,0)=some (.int .i64 p):=by rw[<-aP.o];simp
 have d1:(w.alloc (.cells #[p,m,mv] 24)).cell? (xb,1)=some (.int .i64 m):=by rw[<-aP.o];simp
 have d2:(w.alloc (.cells #[p,m,mv] 24)).cell? (xb,2)=some mv:=by rw[<-aP.o];simp
 have d3:(w.alloc (.cells #[p,m,mv] 24)).heap.size=xb+1:=by rw[<-aP.o];simp
 have e0:Ex w (w.alloc (.cells #[p,m,mv] 24)):=(Ex.refl _).alloc _;generalize w.alloc (.cells #[p,m,mv] 24)=w1 at *;have o1:(w1.alloc (.cells #[(1:Int)] 3)).ownsRow (xb+1) 3 1 (.slice (some (xb+1,0)) 1 1) 1 (vs 1 (iv (KX p m ml x))):=by
  have:=Ft w1 (.int .i64 1) 3;rw[d3]at this;exact this
 have e1:Ex w1 (w1.alloc (.cells #[(1:Int)] 3)):=(Ex.refl _).alloc _;have g2:(w1.alloc (.cells #[(1:Int)] 3)).heap.size=xb+2:=by simp[d3]
 generalize w1.alloc (.cells #[(1:Int)] 3)=w2 at *;have o2:=Aj o1 aS;have aA:AH w3 (xb+1) 4 (xb+1+1) q (bv fun _=>false):=aL.mono ac;have bE:Ex w1 w3:=e1.trans aS;have f1:=aA.frz 1;have c1:=aA.cell bA;have q1:(1:Int)<(q:Int):=bf;have bH:=Aa (aA.set 1 (.bool true));have bN:=Aa (aA.exSet (a:=w1) ac bE 1 (.bool true));have bK:=Aa (Ac o2 (a:=(xb+1+1,1)) (by simp[Value.ownBlock]) (.bool true));clear aL aS o1 g2 o2 aA bE e1 w2;go_wp2_with fail
 generalize w3.setCell (xb+1+1,1) (.bool true)=w4 at *;have aW:Hia (AH w4 (xb+1) 4 (xb+1+1) q (bv (JM p m ml x 1))):=Aa (by
  have:=bH.o;rw[Se]at this;refine this.bcongr fun j hj=>?_;unfold Az JM;rw[Bool.eq_iff_iff];by_cases h:j=1
  .subst h;simp;rfl
  .simp[h];simp only[BK];exact fun e=>h e.symm)
 clear bH f1 c1 w3;obtain⟨g,hg⟩:=nA (xb+1+1);have HG:=Aa (show xb+1<g by omega);rw[hg]at aW
 try simp only[hg]
 have bM:Hia (Value.ownBlock (.slice (some (xb+1,0)) 1 1)≠some g):=Aa (by simp[Value.ownBlock];omega);clear hg
 go_loopw [7,9] (fun o' y' wr=>∃k:Nat,1<=k/\Hia (Jy p m (lw ml) x k)/\y'= .int .i64 ((BK p m (lw ml) x k:Nat):Int)/\Hia (wr.ownsRow (xb+1) 3 1 o' k (vs k (iv (KX p m ml x))))/\
  Hia (AH wr (xb+1) 4 g q (bv (JM p m ml x k)))/\Hia (o'.ownBlock≠some g)/\Ex w1 wr) (fun o' _ _=>q-lenV o')
 case atStart=>exact⟨1,ac,bR,by rw[bP.o],bK,aW,bM,bN.o⟩
 case round=>
  clear bK aW bM bN;obtain⟨k,aU,aN,rfl,aC,aB,bB,aF⟩:=hrel;have hkq:=bL.o k aN.o;have aD:=P5 aC.o;have r0:=aF.cell d0;have r1:=aF.cell d1;have r2:=aF.cell d2;have aQ:=HL.o k;obtain⟨oa,aJ,ho,ho2,ho3⟩:=Fs aC.o aU;subst ho;have HY:=Aa (show BK p m (lw ml) x (k+1)=Ai p m (lw ml) (BK p m (lw ml) x k) x from rfl);obtain⟨y,hy⟩:=nA (BK p m (lw ml) x k);have aG:=Aa hy;rw[hy]at aQ HY ⊢;by_cases h0:y=0
  .have aI:Hia (L9 p m (lw ml) x k):=Aa ⟨aU,by have:=HQ.o;omega,aN.o,.inl (by rw[aG.o];exact h0)⟩;have hb:((y:Int) !=0)=false:=by simp;omega
   have aH:=Aa (show Al wr (.slice (some (oa,0)) k aJ) (il k (KX p m ml x)) by
    unfold Al;rw[An,Cu];exact Sl.own aC.o)
   clear h0 hy aD;exact zc2
  .have hb:((y:Int) !=0)=true:=by simp;omega
   have aO:=aB.o.cell aQ;have bO:=aB.o.frz y;by_cases hs:JM p m ml x k y=true
   .have aI:Hia (L9 p m (lw ml) x k):=Aa ⟨aU,by have:=HQ.o;omega,aN.o,.inr (by
     unfold JM at hs;obtain⟨i,hi,e⟩:=of_decide_eq_true hs;exact⟨i,hi,by rw[e,aG.o]⟩)⟩
    have aM:wr.cell? (g,y)=some (.bool true):=by rw[aO];unfold bv;rw[hs]
    have aH:=Aa (show Al wr (.slice (some (oa,0)) k aJ) (il k (KX p m ml x)) by
     unfold Al;rw[An,Cu];exact Sl.own aC.o)
    clear h0 hy aD aO hs;exact zc2
   .have aZ:JM p m ml x k y=false:=by simpa using hs
    have aM:wr.cell? (g,y)=some (.bool false):=by rw[aO];unfold bv;rw[aZ]
    have bS:Hia (Jy p m (lw ml) x (k+1)):=Aa (aN.o.succ (by rw[aG.o];exact h0) (fun j hj e=>by
     rw[aG.o]at e;exact hs (decide_eq_true ⟨j,hj,e⟩)))
    have bV:=Aa aD;clear h0 hy aD aO hs aZ;have bG:Hia (AH (wr.setCell (g,y) (.bool true)) (xb+1) 4 g q (bv (JM p m ml x (k+1)))):=Aa (by
     have:=aB.o.set y (.bool true);rw[Se]at this;refine this.bcongr fun j hj=>?_;unfold Az JM;rw[Bool.eq_iff_iff];by_cases h:j=y
     .rw[if_pos h];simp;exact⟨k,ac,by rw[aG.o,h]⟩
     .rw[if_neg h];simp;constructor
      .rintro⟨i,hi,e⟩;exact⟨i,ac,e⟩
      .rintro⟨i,hi,e⟩;by_cases h3:i=k
       .subst h3;rw[aG.o]at e;exact absurd e.symm h
       .exact⟨i,ac,e⟩)
    have bJ:=Aa (Ac aC.o (a:=(g,y)) bB.o (.bool true));have aV:=Aa (aB.o.exSet (a:=w1) ac aF y (.bool true));have bF:=Aa (show xb+1<=(wr.setCell (g,y) (.bool true)).heap.size by have:=aV.o.size;omega);go_wp2_with (at_builtin;go_loud (refine Am _ rfl _ _ 22 rfl (xb+1) 3 (.int .i64 0) 1 8 Tryz.underlying22 AC rfl ae _ k _ rfl bJ.o [.int .i64 (y:Int)] 3 _ rfl ag rfl aj ai ac bF.o ?_))
    intro v' w5 aE;have bI:Hia (w5.ownsRow (xb+1) 3 1 v' (k+1) (vs (k+1) (iv (KX p m ml x)))):=Aa (by
     have:=aE.own;rw[SE];unfold iv KX;rw[aG.o];exact this)
    obtain⟨aY,bC⟩:=aE.arr bG.o bB.o;have bQ:=Aa aY;have bT:=Aa bC;have aK:=aE.ex aV.o ac;have bW:=Aa (P5 bI.o);have r0:=aK.cell d0;have r1:=aK.cell d1;have r2:=aK.cell d2;clear aE aY bC bG bJ aV bF aM bO hb aF;go_wp2_with fail
    refine(HM.o y w5 aQ (bU.o.ex (e0.trans aK))).mono ?_;rintro e w6⟨rfl,aR⟩;go_wp2_with fail
    go_roundw
    case rel=>exact⟨k+1,ac,bS,by rw[HY.o],Aa (Aj bI.o aR),Aa (bQ.o.ex aR),bT,aK.trans aR⟩
    case measure=>rw[bW.o,bV.o];omega
def O6(p m:Nat)(ml:List Int)(w':World)(v:Value):Prop:=
 (∃x,1<=x/\x<p^m/\De p m (lw ml) x/\Al w' v (il (p^m-1) (KX p m ml x)))∨(¬Hf p m (lw ml)/\v= .slice none 0 0)
theorem Hl(p m:Nat)(ml:List Int)(mv:Value)(w:World)(hf:Ha p m ml)(aK:Al w mv ml):
  Calls Tryz.prog 113 #[.agg #[p,m,mv],((p^m:Nat):Int)] w fun r w'=>∃v,r= .returned v/\O6 p m ml w' v/\Ex w w':=by
 have hp:=hf.p2;have hm:=hf.m1;have aN:=Aa aK;have hq:=hf.q;have aS:1<p^m:=Bz hp hm;obtain⟨aL,HM,HL,aF,aM,aJ,aP,HK⟩:=On (fun (x:Nat) (w':World) (h:x<p^m) (h':Al w' mv ml)=>RG p m x ml mv w' hf h' h) (fun (x y:Nat) (w':World) (h:y<p^m) (hx:x<p^m) (h':Al w' mv ml)=>Ix p m y x ml mv w' hf h' h hx) (fun x k=>Dm (low:=lw ml) hp hm x k) (fun x L (h:L9 p m (lw ml) x L)=>h.gen hp hm) (fun x L (h:L9 p m (lw ml) x L)=>h.2.1) (show ∀w' v,O6 p m ml w' v↔((∃x,1<=x/\x<p^m/\De p m (lw ml) x/\Al w' v (il (p^m-1) (KX p m ml x)))∨(¬Hf p m (lw ml)/\v= .slice none 0 0)) from fun _ _=>Iff.rfl) (show Hf p m (lw ml)↔∃x,1<=x/\x<p^m/\De p m (lw ml) x from Iff.rfl) (show ∀x k,BK p m (lw ml) x (k+1)=Ai p m (lw ml) (BK p m (lw ml) x k) x from fun _ _=>rfl);clear hf aK hm;obtain⟨q,aH⟩:=nA (p^m);simp only[aH]at hq aS aL HM HL aF aM aJ aP ⊢;have HQ:=Aa aH;clear aH;obtain⟨xb,aG⟩:=nA w.heap.size;have d0:(w.alloc (.cells #[p,m,mv] 24)).cell? (xb,0)=some (.int .i64 p):=by rw[<-aG];simp
 have d1:(w.alloc (.cells #[p,m,mv] 24)).cell? (xb,1)=some (.int .i64 m):=by rw[<-aG];simp
 have d2:(w.alloc (.cells #[p,m,mv] 24)).cell? (xb,2)=some mv:=by rw[<-aG];simp
 have D0:=Aa d0;have D1:=Aa d1;have D2:=Aa d2;clear d0 d1 d2;go_enter Tryz.func113,Tryz.ntmps113
 go_wp2_with fail
 clear aG;have d0:=D0.o;have d1:=D1.o;have d2:=D2.o;clear D0 D1 D2;have e0:Ex w (w.alloc (.cells #[p,m,mv] 24)):=(Ex.refl _).alloc _;generalize w.alloc (.cells #[p,m,mv] 24)=w1 at *
 go_loopw [5] (fun x' wr=>∃x:Nat,1<=x/\x<=q/\x'= .int .i64 x/\Hia (∀y,1<=y->y<x->¬De p m (lw ml) y)/\Ex w1 wr) (fun x' _=>q-(intOf x').toNat)
 case atStart=>exact⟨1,ac,ac,rfl,Aa (fun y a b=>ac),Ex.refl _⟩
 case round=>
  obtain⟨x,aR,hx2,rfl,aC,aB⟩:=hrel;have r0:=aB.cell d0;have r1:=aB.cell d1;have r2:=aB.cell d2;by_cases hlt:x<q
  .go_wp2_with fail
   refine(aL.o x _ hlt (aN.o.ex (e0.trans aB))).mono ?_;rintro e w5⟨v,L,rfl,aA,hv,aE⟩;have s0:=aE.cell r0;have s1:=aE.cell r1;have s2:=aE.cell r2;have hLq:=aM.o x L aA;obtain⟨va,vc,rfl,v1,v2,v3⟩:=hv.open;have HV:=Aa hv;have HG:=Aa (aF.o x L aA);have hL1:=aA.1;rw[An]at *;obtain⟨vb,vo,rfl,v4⟩:=v3 ac;have aD:=aB.trans aE;unfold maxLen at v2;clear r0 r1 r2 v3 hv aA aB aE;have k1:IntKind.i64.wrap ((q:Int)-1)=(q:Int)-1:=IntWalk.i64_in _ ac;by_cases hLe:L=q-1
   .have hc:=v4 (q-2) (KX p m ml x (q-2)) (AQ ac _);have hb:((L:Int)==(q:Int)-1)=true:=by simp;omega
    obtain⟨y,hy⟩:=nA (BK p m (lw ml) x (q-2));have aQ:y<q:=by rw[<-hy];exact HL.o x (q-2)
    unfold KX at hc;rw[hy]at hc;have HY:=Aa (show BK p m (lw ml) x (q-1)=Ai p m (lw ml) y x by rw[show q-1=(q-2)+1 by omega,HK.o,hy]);have k2:IntKind.i64.wrap ((q:Int)-2)=(q:Int)-2:=IntWalk.i64_in _ ac;have k3:((q:Int)-2).toNat=q-2:=by omega
    have k4:(0:Int)<=(q:Int)-2:=ac;have k5:(q:Int)-2<(L:Int):=ac;have k6:(2:Int)<=(q:Int):=ac;have k7:(q:Int)<(L:Int)+2:=ac;have k8:2<=q:=ac;have aO:=Aa hLe;clear v4 hy hLe;go_wp2_with fail
    go_region_held3 (fun w'=>w'.cell? (xb,0)=some (.int .i64 p)/\w'.cell? (xb,1)=some (.int .i64 m)/\w'.cell? (xb,2)=some mv/\w'.cell? (vb,vo+(q-2))=some (.int .i64 y)/\Ex w1 w')
     (first|exact⟨s0,s1,s2,hc,aD.drew⟩|exact⟨hx6.cell s0,hx6.cell s1,hx6.cell s2,hx6.cell hc,aD.drew.trans hx6⟩)
     ((go_at_call 166;refine(HM.o x y _ aQ hlt (aN.o.ex ((e0.trans aD).drew))).mono ?_;rintro e w6⟨rfl,hx6⟩))
    by_cases h1:Ai p m (lw ml) y x=1
    .have aT:(((Ai p m (lw ml) y x:Nat):Int)==1)=true:=by simp;omega
     have aV:=Aa (HG.o.2 ⟨aO.o,by rw[HY.o];exact h1⟩);have aI:=Aa (show Al w6 (.slice (some (vb,vo)) L vc) (il (q-1) (KX p m ml x)) by
      have:=HV.o.ex ((Ex.refl _).drew.trans hx6)
      rwa[show il L (KX p m ml x)=il (q-1) (KX p m ml x) by rw[aO.o]]at this)
     clear h1;go_wp2_with fail
     go_ret;exact⟨_,rfl,(aJ.o _ _).2 (.inl ⟨x,aR,hlt,aV.o,aI.o⟩),e0.trans (aD.drew.trans hx6)⟩
    .have aT:(((Ai p m (lw ml) y x:Nat):Int)==1)=false:=by simp;omega
     have HN:=Aa (show ¬De p m (lw ml) x from fun h=>h1 (by rw[<-HY.o];exact(HG.o.1 h).2));clear h1;go_wp2_with fail
     go_roundw
     case rel=>exact⟨x+1,ac,ac,by go_num,Aa (fun z a b=>by
      by_cases e:z=x
      .subst e;exact HN.o
      .exact aC.o z a ac),aD.drew.trans hx6⟩
     case measure=>simp[intOf];omega
   .have hb:((L:Int)==(q:Int)-1)=false:=by simp;omega
    have HN:=Aa (show ¬De p m (lw ml) x from fun h=>hLe (HG.o.1 h).1);clear hLe v4;go_wp2_with fail
    go_quiet (fail)
    go_wp2_with fail
    go_roundw
    case rel=>exact⟨x+1,ac,ac,by go_num,Aa (fun y a b=>by
     by_cases e:y=x
     .subst e;exact HN.o
     .exact aC.o y a ac),aD.drewN _⟩
    case measure=>simp[intOf];omega
  .obtain rfl:x=q:=by omega
   have aU:=Aa (show ¬Hf p m (lw ml) from fun h=>by
    obtain⟨y,a,b,c⟩:=aP.o.1 h;exact aC.o y a b c)
   go_wp2_with fail
   go_ret;exact⟨_,rfl,(aJ.o _ _).2 (.inr ⟨aU.o,rfl⟩),e0.trans aB⟩
def KE(p m:Int)(ml:List Int):Bool:=
 decide (CG p m≠0)&&(Je p.toNat&&if m=1 then ml.length==0 else ml.length==m.toNat&&ml.all fun x=>decide (0<=x)&&decide (x<p))
theorem N6{p m:Int}(h:CG p m≠0):∃pn mn:Nat,p=pn/\m=mn/\2<=pn/\1<=mn/\mn<=8/\pn^mn<=256/\CG p m=((pn^mn:Nat):Int):=by
 unfold CG at h ⊢;split at h
 .rename_i hc;obtain⟨h1,h2,h3,h4⟩:=hc;obtain⟨pn,rfl⟩:=Int.eq_ofNat_of_zero_le (show 0<=p by omega);obtain⟨mn,rfl⟩:=Int.eq_ofNat_of_zero_le (show 0<=m by omega);rw[Int.toNat_natCast,<-Int.natCast_pow]at h4;refine⟨pn,mn,rfl,rfl,ac,ac,ac,ac,?_⟩;rw[if_pos ⟨h1,h2,h3,by rw[Int.toNat_natCast,<-Int.natCast_pow];exact h4⟩,Int.toNat_natCast,Int.natCast_pow]
 .exact absurd rfl h
theorem NM{p m:Int}{ml:List Int}(h:KE p m ml=true):∃pn mn:Nat,p=pn/\m=mn/\Ha pn mn ml/\Je pn=true/\CG p m=((pn^mn:Nat):Int):=by
 unfold KE at h;simp only[Bool.and_eq_true,decide_eq_true_eq]at h;obtain⟨h1,h2,h3⟩:=h;obtain⟨pn,mn,rfl,rfl,a,b,c,d,e⟩:=N6 h1;refine⟨pn,mn,rfl,rfl,⟨a,b,c,d,?_,?_⟩,by simpa using h2,e⟩
 .split at h3
  .rename_i hm;rw[if_pos ac];simpa using h3
  .rename_i hm;simp only[Bool.and_eq_true,beq_iff_eq]at h3;rw[if_neg ac,h3.1];simp
 .intro x hx;split at h3
  .have:ml= []:=List.eq_nil_of_length_eq_zero (by simpa using h3);subst this;cases hx
  .simp only[Bool.and_eq_true,List.all_eq_true,decide_eq_true_eq]at h3;exact h3.2 x hx
theorem zbI{P:Prop}(h:P:=by
 unfold CG;rw[if_pos ⟨by omega,by omega,by omega,by rw[Int.toNat_natCast,<-Int.natCast_pow];omega⟩,Int.toNat_natCast,Int.natCast_pow]):P:=h
theorem T4{pn mn:Nat}{ml:List Int}(h:Ha pn mn ml)(hp:Je pn=true):KE pn mn ml=true/\CG pn mn=((pn^mn:Nat):Int):=by
 obtain⟨a,b,c,d,e,f⟩:=h;have ho:CG pn mn=((pn^mn:Nat):Int):=by
  exact zbI
 refine⟨?_,ho⟩;have hq:1<=pn^mn:=Nat.pow_pos ac;unfold KE;simp only[Bool.and_eq_true,decide_eq_true_eq];refine⟨by rw[ho];omega,by simpa using hp,?_⟩;by_cases h1:mn=1
 .rw[if_pos ac];rw[if_pos h1]at e;simp[e]
 .rw[if_neg ac];rw[if_neg h1]at e;simp only[Bool.and_eq_true,List.all_eq_true,decide_eq_true_eq];exact⟨by simp[e],f⟩
theorem zck{P:Prop}(h:P:=by
 have h1:pn^1<=pn^mn:=Nat.pow_le_pow_right (by omega) q1;rw[Nat.pow_one]at h1;omega):P:=h
theorem au{P:Prop}(h:P:=by rw[List.getElem?_eq_getElem hi,e]):P:=h
theorem dd{P:Prop}(h:P:=by rw[<-aC];simp):P:=h
theorem MU(p m:Int)(ml:List Int)(mv:Value)(w:World)(aO:Al w mv ml):
  Calls Tryz.prog 111 #[.agg #[p,m,mv]] w fun r w'=>r= .returned (.bool (KE p m ml))/\Ex w w':=by
 obtain⟨xb,aC⟩:=nA w.heap.size;have d0:(w.alloc (.cells #[p,m,mv] 24)).cell? (xb,0)=some (.int .i64 p):=dd;have d1:(w.alloc (.cells #[p,m,mv] 24)).cell? (xb,1)=some (.int .i64 m):=dd;have d2:(w.alloc (.cells #[p,m,mv] 24)).cell? (xb,2)=some mv:=dd;have e0:Ex w (w.alloc (.cells #[p,m,mv] 24)):=(Ex.refl _).alloc _;have aI:=Aa (show KE p m ml=(decide (CG p m≠0)&&(Je p.toNat&&if m=1 then ml.length==0 else ml.length==m.toNat&&ml.all fun x=>decide (0<=x)&&decide (x<p))) from rfl);have aM:=aO.ex e0;obtain⟨ma,mc,rfl,m1,m2,m3⟩:=aM.open;have M3:=Aa m3;have DV:=Jg p m;unfold maxLen at m2;clear aO aM m3;by_cases ho:CG p m=0
 .rw[ho]at aI DV;clear ho;obtain⟨aB,D0,D1,D2⟩:=Eq DV d0 d1 d2;clear DV d0 d1 d2;go_enter Tryz.func111,Tryz.ntmps111
  have d0:=D0.o;have d1:=D1.o;have d2:=D2.o;go_wp2_with fail
  clear aC;generalize w.alloc (.cells #[p,m,.slice ma ml.length mc] 24)=w1 at *;clear D0 D1 D2;refine(aB.o _).mono ?_;rintro e w2⟨rfl,rfl⟩;go_wp2_with fail
  go_ret;exact⟨Ap (by rw[aI.o];simp),e0⟩
 .obtain⟨pn,mn,rfl,rfl,p2,q1,q8,qq,aN⟩:=N6 ho;have hpw:1<=pn^mn:=Nat.pow_pos ac;have aF:pn<=256:=by
   exact zck
  rw[aN]at DV;have hb0:(((pn^mn:Nat):Int)==0)=false:=by rw[beq_eq_false_iff_ne];omega
  have aA:=Aa (show KE pn mn ml=(Je pn&&if (mn:Int)=1 then ml.length==0 else ml.length==mn&&ml.all fun x=>decide (0<=x)&&decide (x<pn)) by
   rw[aI.o,decide_eq_true ho];simp)
  have aD:=fun w=>Qf pn w p2 aF;generalize pn^mn=qn at *;clear ho aN aI;by_cases hpr:Je pn=true
  .rw[hpr]at aA aD;have aH:=Aa aD;clear aD hpr;by_cases hm1:mn=1
   .have aL:((mn:Int)==1)=true:=by simp;omega
    have HR:=Aa (show KE pn mn ml=((ml.length:Int)==0) by rw[aA.o,if_pos ac,Bool.true_and,Bool.eq_iff_iff];simp);clear hm1 aA;obtain⟨aB,D0,D1,D2⟩:=Eq DV d0 d1 d2;clear DV d0 d1 d2;go_enter Tryz.func111,Tryz.ntmps111
    have d0:=D0.o;have d1:=D1.o;have d2:=D2.o;go_wp2_with fail
    clear aC;generalize w.alloc (.cells #[pn,mn,.slice ma ml.length mc] 24)=w1 at *;clear D0 D1 D2;refine(aB.o _).mono ?_;rintro e w2⟨rfl,rfl⟩;go_wp2_with fail
    refine(aH.o _).mono ?_;rintro e w2⟨rfl,rfl⟩;go_wp2_with fail
    go_ret;exact⟨Ap (by rw[HR.o]),e0⟩
   .have aL:((mn:Int)==1)=false:=by simp;omega
    have HR:=Aa (show KE pn mn ml=(ml.length==mn&&ml.all fun x=>decide (0<=x)&&decide (x<pn)) by rw[aA.o,if_neg ac,Bool.true_and]);clear hm1 aA;by_cases hlen:ml.length=mn
    .have aQ:((ml.length:Int)==(mn:Int))=true:=by simp;omega
     have aP:((ml.length:Int) !=(mn:Int))=false:=aq;have aJ:=Aa (show KE pn mn ml=ml.all fun x=>decide (0<=x)&&decide (x<pn) by rw[HR.o,show(ml.length==mn)=true by simp[hlen],Bool.true_and]);clear hlen HR;obtain⟨aB,D0,D1,D2⟩:=Eq DV d0 d1 d2;clear DV d0 d1 d2;go_enter Tryz.func111,Tryz.ntmps111
     have d0:=D0.o;have d1:=D1.o;have d2:=D2.o;go_wp2_with fail
     clear aC;generalize w.alloc (.cells #[pn,mn,.slice ma ml.length mc] 24)=w1 at *;clear D0 D1 D2;refine(aB.o _).mono ?_;rintro e w2⟨rfl,rfl⟩;go_wp2_with fail
     refine(aH.o _).mono ?_;rintro e w2⟨rfl,rfl⟩;go_wp2_with fail
     go_loopw [4,33] (fun _ j' wr=>∃j:Nat,j<=ml.length/\j'= .int .i64 j/\Hia (∀i y,i<j->ml[i]?=some y->0<=y/\y<pn)/\w1=wr) (fun _ j' _=>ml.length-(intOf j').toNat)
     case atStart=>exact⟨0,ac,rfl,Aa (fun i y h=>ac),rfl⟩
     case round=>
      obtain⟨j,hj,rfl,aG,rfl⟩:=hrel;by_cases hlt:j<ml.length
      .obtain⟨y,hy⟩:∃y,ml[j]?=some y:=⟨_,List.getElem?_eq_getElem hlt⟩;obtain⟨b,o,rfl,hc⟩:=M3.o ac;have c1:=hc j y hy;by_cases hy0:0<=y/\y<pn
       .have HA:=Aa (show ∀i z,i<j+1->ml[i]?=some z->0<=z/\z<pn from fun i z hi hz=>by
         by_cases e:i=j
         .subst e;rw[hy]at hz;injection hz with hz;subst hz;exact hy0
         .exact aG.o i z ac hz)
        obtain⟨y0,y1⟩:=hy0;clear hc hy;go_wp2_with fail
        go_roundw
        case rel=>exact⟨j+1,ac,by go_num,HA,by first|trivial|rfl⟩
        case measure=>simp[intOf];omega
       .have HF:=Aa (show KE pn mn ml=false by
         rw[aJ.o,List.all_eq_false];refine⟨y,List.mem_of_getElem? hy,?_⟩;simpa using hy0)
        have aK:y<0∨(0<=y/\(pn:Int)<=y):=ac;clear hc hy hy0;rcases aK with aK|⟨aK,hy2⟩
        all_goals
         go_wp2_with fail
         go_ret;exact⟨Ap HF.o.symm,e0⟩
      .obtain rfl:j=ml.length:=by omega
       have HT:=Aa (show KE pn mn ml=true by
        rw[aJ.o,List.all_eq_true];intro y hy;obtain⟨i,hi,e⟩:=List.getElem_of_mem hy;have:=aG.o i y hi au;simp[this])
       go_wp2_with fail
       go_ret;exact⟨Ap HT.o.symm,e0⟩
    .have aQ:((ml.length:Int)==(mn:Int))=false:=by simp;omega
     have aP:((ml.length:Int) !=(mn:Int))=true:=aq;have aJ:=Aa (show KE pn mn ml=false by rw[HR.o,show(ml.length==mn)=false by simp[hlen],Bool.false_and]);clear hlen HR;obtain⟨aB,D0,D1,D2⟩:=Eq DV d0 d1 d2;clear DV d0 d1 d2;go_enter Tryz.func111,Tryz.ntmps111
     have d0:=D0.o;have d1:=D1.o;have d2:=D2.o;go_wp2_with fail
     clear aC;generalize w.alloc (.cells #[pn,mn,.slice ma ml.length mc] 24)=w1 at *;clear D0 D1 D2;refine(aB.o _).mono ?_;rintro e w2⟨rfl,rfl⟩;go_wp2_with fail
     refine(aH.o _).mono ?_;rintro e w2⟨rfl,rfl⟩;go_wp2_with fail
     go_ret;exact⟨Ap aJ.o.symm,e0⟩
  .have aE:Je pn=false:=by simpa using hpr
   rw[aE]at aA aD;have aH:=Aa aD;clear aD hpr aE;obtain⟨aB,D0,D1,D2⟩:=Eq DV d0 d1 d2;clear DV d0 d1 d2;go_enter Tryz.func111,Tryz.ntmps111
   have d0:=D0.o;have d1:=D1.o;have d2:=D2.o;go_wp2_with fail
   clear aC;generalize w.alloc (.cells #[pn,mn,.slice ma ml.length mc] 24)=w1 at *;clear D0 D1 D2;refine(aB.o _).mono ?_;rintro e w2⟨rfl,rfl⟩;go_wp2_with fail
   refine(aH.o _).mono ?_;rintro e w2⟨rfl,rfl⟩;go_wp2_with fail
   go_ret;exact⟨Ap (by rw[aA.o];simp),e0⟩
structure Bh(w:World)(b:Nat)(p m:Nat)(ml:List Int)(x:Nat):Prop where
 sh:Ha p m ml
 pr:Je p=true
 gen:De p m (lw ml) x
 c0:w.cell? (b,0)=some (.int .i64 p)
 c1:w.cell? (b,1)=some (.int .i64 m)
 c2:∃v,w.cell? (b,2)=some v/\Al w v ml
 c3:w.cell? (b,3)=some (.int .i64 ((p^m:Nat):Int))
 c4:∃v,w.cell? (b,4)=some v/\Al w v (il (p^m-1) (KX p m ml x))
 c5:∃v f,w.cell? (b,5)=some v/\Al w v (il (p^m) f)/\∀k,k<p^m-1->f (BK p m (lw ml) x k)=k
theorem Bh.ex{w w':World}{b p m:Nat}{ml:List Int}{x:Nat}(h:Bh w b p m ml x)(hx:Ex w w'):Bh w' b p m ml x:=by
 obtain⟨a1,a2,a3,c0,c1,⟨v2,c2,s2⟩,c3,⟨v4,c4,s4⟩,⟨v5,f,c5,s5,hf⟩⟩:=h;exact⟨a1,a2,a3,hx.cell c0,hx.cell c1,⟨v2,hx.cell c2,s2.ex hx⟩,hx.cell c3,⟨v4,hx.cell c4,s4.ex hx⟩,⟨v5,f,hx.cell c5,s5.ex hx,hf⟩⟩
def Ga(p m:Int)(ml:List Int):Prop:=∃pn mn:Nat,p=pn/\m=mn/\Ha pn mn ml/\Je pn=true/\Hf pn mn (lw ml)
structure FinS(w3 wz:World)(b g q:Nat)(e:TypeId)(c0 c1 c2 c3 c4 c5:Value)(ml:List Int):Prop where
 f0:wz.cell? (b,0)=some c0
 f1:wz.cell? (b,1)=some c1
 f2:wz.cell? (b,2)=some c2
 f3:wz.cell? (b,3)=some c3
 f4:wz.cell? (b,4)=some c4
 f5:wz.cell? (b,5)=some c5
 isl:Al wz c2 ml
 own:AH wz w3.heap.size e g q (iv fun _=>0)
 ex:Ex w3 wz
 lt:g<b
 off:∀B,c2.ownBlock=some B->B≠g
theorem Sl.other{w:World}{v:Value}{n size:Nat}{xs:List Value}(h:Sl w v n size xs){a:Addr}(ha:∀B,v.ownBlock=some B->B≠a.block)(u:Value):Sl (w.setCell a u) v n size xs:=by
 obtain⟨h1,c,cap,rfl,h3,h4,h5⟩:=h;refine⟨h1,c,cap,rfl,h3,h4,fun hn=>?_⟩;obtain⟨b,o,rfl,h6⟩:=h5 hn;refine⟨b,o,rfl,fun j x hx=>?_⟩;rw[World.cell?_setCell_other _ _ _ _ (by
   intro e;have:a.block=b:=cj;exact ha b rfl this.symm)]
 exact h6 j x hx
theorem R7{w3 W:World}{g q:Nat}{e t:TypeId}{c0 c1 c2 c3 c4 c5:Value}{ml:List Int}(h1:Al W c2 ml)(h2:AH W w3.heap.size e g q (iv fun _=>0))(h3:Ex w3 W)(h4:∀B,c2.ownBlock=some B->B≠g):
  FinS w3 (W.alloc (.cells #[c0,c1,c2,c3,c4,c5] t)) W.heap.size g q e c0 c1 c2 c3 c4 c5 ml:=
 ⟨ag,ag,ag,ag,ag,ag,h1.ex ((Ex.refl _).alloc _),h2.alloc _,h3.alloc _,h2.lt.2,h4⟩
theorem PT{w w':World}{b b0:Nat}{e:TypeId}{g n:Nat}{c:Nat->Value}(h:AH w b e g n c)(hg:w.grownBy w' (Value.slice (some (b0,0)) 0 0).ownBlock)(aA:g≠b0):AH w' b e g n c:=
 World.ownsRow.kept h hg (.inr (by simpa[Value.ownBlock]using aA))
theorem Ki{w:World}{b:Nat}{e:TypeId}{v:Value}{ml:List Int}(h:w.ownsRow b e 1 v (0+ml.length) ([]++Ao ml)):Al w v ml:=by
 rw[Nat.zero_add,List.nil_append]at h;exact Sl.own h
def NewOut(p m:Int)(ml:List Int)(w':World)(r:Ending):Prop:=
 (∃(pn mn x b:Nat),p=pn/\m=mn/\r= .returned (.tuple #[.pointer (some (b,0)),(0:Int)])/\Bh w' b pn mn ml x/\1<=x/\x<pn^mn)∨
 (¬Ga p m ml/\r= .returned (.tuple #[.pointer none,(1:Int)]))
theorem dl{P:Prop}(h:P:=by rw[<-aL];simp):P:=h
theorem dn{P:Prop}(h:P:=by rw[Nat.zero_add];exact h):P:=h
theorem F8(p m:Int)(ml:List Int)(mv:Value)(w:World)(bA:Al w mv ml):
  Calls Tryz.prog 52 #[.agg #[p,m,mv]] w fun r w'=>NewOut p m ml w' r/\Ex w w':=by
 obtain⟨xb,aL⟩:=nA w.heap.size;have d0:(w.alloc (.cells #[p,m,mv] 24)).cell? (xb,0)=some (.int .i64 p):=dl;have d1:(w.alloc (.cells #[p,m,mv] 24)).cell? (xb,1)=some (.int .i64 m):=dl;have d2:(w.alloc (.cells #[p,m,mv] 24)).cell? (xb,2)=some mv:=dl;have e0:Ex w (w.alloc (.cells #[p,m,mv] 24)):=(Ex.refl _).alloc _;have aR:=Aa bA;have aS:=Aa (fun w' (h:Al w' mv ml)=>MU p m ml mv w' h);have aG:=Jg p m;have D0:=Aa d0;have D1:=Aa d1;have D2:=Aa d2;clear d0 d1 d2 bA;by_cases hs:KE p m ml=true
 .obtain⟨pn,mn,rfl,rfl,hf,aZ,ho⟩:=NM hs;rw[ho]at aG;rw[hs]at aS;have bF:=Aa aG;have HF:=Aa hf;have bO:=Aa aZ;have hq:=hf.q;have bE:=Aa (Bz hf.p2 hf.m1);have bH:=Aa (fun w' (h:Al w' mv ml)=>Hl pn mn ml mv w' hf h);have bG:=Aa (show ∀w' v,O6 pn mn ml w' v↔((∃x,1<=x/\x<pn^mn/\De pn mn (lw ml) x/\Al w' v (il (pn^mn-1) (KX pn mn ml x)))∨(¬Hf pn mn (lw ml)/\v= .slice none 0 0)) from fun _ _=>Iff.rfl);clear aG hf aZ ho hs;obtain⟨q,aN⟩:=nA (pn^mn);simp only[aN]at hq bF bE bH bG;have aK:=Aa aN;have hq1:1<q:=by rw[<-aN];exact Bz HF.o.p2 HF.o.m1
  have hpq:pn<=q/\mn<=8:=⟨by rw[<-aN];have:=Nat.pow_le_pow_right (show 0<pn by have:=HF.o.p2;omega) HF.o.m1;rwa[Nat.pow_one]at this,HF.o.m8⟩;clear aN;go_enter Tryz.func52,Tryz.ntmps52
  have d0:=D0.o;have d1:=D1.o;have d2:=D2.o;go_wp2_with fail
  clear aL D0 D1 D2;generalize w.alloc (.cells #[pn,mn,mv] 24)=w1 at *;refine(aS.o _ (aR.o.ex e0)).mono ?_;rintro e w2⟨rfl,aI⟩;have r0:=aI.cell d0;have r1:=aI.cell d1;have r2:=aI.cell d2;have e2:=e0.trans aI;clear d0 d1 d2 e0 aI;go_wp2_with fail
  refine(bF.o _).mono ?_;rintro e w3⟨rfl,rfl⟩;go_wp2_with fail
  refine(bH.o _ (aR.o.ex e2)).mono ?_;rintro e w3⟨gv,rfl,aU,aM⟩;have s0:=aM.cell r0;have s1:=aM.cell r1;have s2:=aM.cell r2;have e3:=e2.trans aM;clear r0 r1 r2 e2 aM;rcases (bG.o _ _).1 aU with⟨x,x1,x2,hgx,hgv⟩|⟨hno,rfl⟩
  .obtain⟨ga,gc,rfl,g1,g2,g3⟩:=hgv.open;obtain⟨gb,aF,rfl,g4⟩:=g3 (by rw[An];have:=bE.o;omega);rw[An]at *;have hE:=fun w=>AP (P:=Tryz.prog) w 22 3 (some ⟨gb,aF,none⟩) (q-1) gc Tryz.underlying22;have hqi:1<=(q:Int):=by omega
   go_wp2_with fail
   have aT:=Aa (aR.o.ex e3);have hln:ml.length<=8:=by
    have h1:=HF.o.len;have h2:=HF.o.m8;split at h1 <;> omega
   have k0:0<q:=ac
   go_region_held3 (fun w'=>w'.cell? (xb,0)=some (.int .i64 pn)/\w'.cell? (xb,1)=some (.int .i64 mn)/\w'.cell? (xb,2)=some mv/\Ex w w')
    (first
          | exact⟨s0,s1,s2,e3.drew⟩
          | exact⟨aB.cell s0,aB.cell s1,aB.cell s2,e3.trans aB⟩
          | exact⟨aB.cell s0,aB.cell s1,aB.cell s2,e3.drew.trans aB⟩
          | exact⟨(aH.trans aB).cell s0,(aH.trans aB).cell s1,(aH.trans aB).cell s2,e3.drew.trans (aH.trans aB)⟩
          | exact⟨(((Ex.refl w3).alloc (.cells #[] 3)).drew).cell s0,(((Ex.refl w3).alloc (.cells #[] 3)).drew).cell s1,(((Ex.refl w3).alloc (.cells #[] 3)).drew).cell s2,e3.trans (((Ex.refl w3).alloc (.cells #[] 3)).drew)⟩
          | (obtain⟨k0,k1,k2,k3⟩:=‹_/\_/\_/\Ex w _›;exact⟨aB.cell k0,aB.cell k1,aB.cell k2,k3.trans aB⟩)
          | (obtain⟨k0,k1,k2,k3⟩:=‹_/\_/\_/\Ex w _›;exact⟨((Ex.refl _).alloc _).cell k0,((Ex.refl _).alloc _).cell k1,((Ex.refl _).alloc _).cell k2,k3.trans ((Ex.refl _).alloc _)⟩))
    ((first
          | (refine Co bp _ _ _ bp _ 3 (.int .i64 0) 1 8 Tryz.underlying22 AC rfl ae _ 0 [] bp (Aj (Bw _ _) (by first|exact Ex.refl _|exact(Ex.refl _).drew|exact aB|exact Ex.trans (Ex.refl _).drew aB)) _ ml.length (Ao ml) bp (aR.o.ex (by first|exact(e3.alloc _).drew|exact(e3.drew.alloc _)|assumption|exact(‹_/\_/\_/\Ex w _›).2.2.2)) (by intro u hu;obtain⟨z,_,rfl⟩:=List.mem_map.1 hu;rfl) ai ac (by first|(simp;done)|omega|exact Nat.le_trans ag aB.size) ?_;intro v8 w8 aC aP bK;obtain⟨va,aA,bI⟩:=Ae aC;subst bI;first|(have aB:=Ex.grown ((Ex.refl _).alloc _).drew (Bw _ _).drew (Nat.le_refl _) aP)|(have aB:=Ex.grown (((Ex.refl _).alloc _).drew.trans aB) (Aj (Bw _ _) ((Ex.refl _).drew.trans aB)) (Nat.le_refl _) aP)|(have aB:=Ex.grown ((Ex.refl _).alloc _) (Bw _ _) (Nat.le_refl _) aP))
          | (refine Fd 22 3 (.int .i64 0) 8 Tryz.underlying22 AC rfl q ac ai ?_;intro w6 aD aB;have aH:=aB;go_simp)))
   all_goals
    first
        | (have FN:FinS w3 (w6.alloc (.cells #[.int .i64 pn,.int .i64 mn,.slice va ml.length aA,.int .i64 q,.slice (some ⟨gb,aF,none⟩) (q-1) gc,.slice (some ⟨w8.heap.size,0,none⟩) q q] 164)) w6.heap.size w8.heap.size q 3 (.int .i64 pn) (.int .i64 mn) (.slice va ml.length aA) (.int .i64 q) (.slice (some ⟨gb,aF,none⟩) (q-1) gc) (.slice (some ⟨w8.heap.size,0,none⟩) q q) ml:=R7 ((by have:=Ki aC;rwa[Nat.zero_add]at this:Al w8 (.slice va ml.length aA) ml).ex aH) (aD.mono (‹Ex w3 w8›).size) ((‹Ex w3 w8›).trans aH) (fun B h=>Nat.ne_of_lt (aC.lt B dn).2)
           generalize w6.alloc (.cells #[pn,mn,.slice va ml.length aA,q,.slice (some (gb,aF)) (q-1) gc,.slice (some (w8.heap.size,0)) q q] 164)=wz at FN ⊢;generalize w6.heap.size=b at FN ⊢;generalize w8.heap.size=g at FN ⊢)
        | (have FN:FinS w3 (w8.alloc (.cells #[.int .i64 pn,.int .i64 mn,.slice va ml.length aA,.int .i64 q,.slice (some ⟨gb,aF,none⟩) (q-1) gc,.slice (some ⟨w3.heap.size,0,none⟩) q q] 164)) w8.heap.size w3.heap.size q 3 (.int .i64 pn) (.int .i64 mn) (.slice va ml.length aA) (.int .i64 q) (.slice (some ⟨gb,aF,none⟩) (q-1) gc) (.slice (some ⟨w3.heap.size,0,none⟩) q q) ml:=R7 (by have:=Ki aC;rwa[Nat.zero_add]at this:Al w8 (.slice va ml.length aA) ml) (PT (AH.alloc (show AH w6 w3.heap.size 3 w3.heap.size q (iv fun _=>0) from aD) _) aP (Nat.ne_of_lt aD.lt.2)) ((Ex.refl w3).drew.trans (aH.trans aB)) (fun B h=>Nat.ne_of_gt (Nat.lt_of_lt_of_le aD.lt.2 (aC.lt B dn).1))
           generalize w8.alloc (.cells #[pn,mn,.slice va ml.length aA,q,.slice (some (gb,aF)) (q-1) gc,.slice (some (w3.heap.size,0)) q q] 164)=wz at FN ⊢;generalize w8.heap.size=b at FN ⊢;generalize w3.heap.size=g at FN ⊢)
        | (have FN:FinS w3 (w8.alloc (.cells #[.int .i64 pn,.int .i64 mn,.slice va ml.length aA,.int .i64 q,.slice (some ⟨gb,aF,none⟩) (q-1) gc,.slice (some ⟨(w3.heap.size+1),0,none⟩) q q] 164)) w8.heap.size (w3.heap.size+1) q 3 (.int .i64 pn) (.int .i64 mn) (.slice va ml.length aA) (.int .i64 q) (.slice (some ⟨gb,aF,none⟩) (q-1) gc) (.slice (some ⟨(w3.heap.size+1),0,none⟩) q q) ml:=R7 (by have:=Ki aC;rwa[Nat.zero_add]at this:Al w8 (.slice va ml.length aA) ml) (PT (show AH w6 w3.heap.size 3 (w3.heap.size+1) q (fun _=> .int .i64 0) by have:=aD.mono (b':=w3.heap.size) ag;simpa using this) aP ac) aB (fun B h=>by
            have hs6:w3.heap.size+1<w6.heap.size:=by have:=aD.lt.2;simpa using this
            have h':(Value.slice va (0+ml.length) aA).ownBlock=some B:=dn;rcases bK with e|e
            .rw[e]at h';injection h' with h';have h':w3.heap.size=B:=h';omega
            .rw[e]at h';injection h' with h';omega)
           generalize w8.alloc (.cells #[pn,mn,.slice va ml.length aA,q,.slice (some (gb,aF)) (q-1) gc,.slice (some ((w3.heap.size+1),0)) q q] 164)=wz at FN ⊢;generalize w8.heap.size=b at FN ⊢;generalize (w3.heap.size+1)=g at FN ⊢)
   all_goals
    have FF:=Aa FN;obtain⟨f0,f1,f2,f3,f4,f5,fi,fo,fe,fl,aQ⟩:=FN;obtain⟨aV,bU,G4,bT,bP,bR,bS⟩:=OK aQ fi g4 hgv (fun k=>(by rw[<-aK.o];exact Dm HF.o.p2 HF.o.m1 x k:BK pn mn (lw ml) x k<q)) (show ∀i j,j<q-1->i<j->BK pn mn (lw ml) x i≠BK pn mn (lw ml) x j from fun i j hj bJ=>hgx.inj HF.o.p2 HF.o.m1 (by rw[aK.o];exact hj) bJ) hgx;have bB:w3.heap.size<=g:=fo.lt.1;have HWG:=Aa bB;have bV:=Aa e3;clear aU hgx hgv g4 fi e3 bB s0 s1 s2 aT aQ;go_wp2_with fail
    go_loopw [7,8,39] (fun _ _ j' wr=>∃(j:Nat) (f:Nat->Int),j<=q-1/\j'= .int .i64 j/\Hia (AH wr w3.heap.size 3 g q (iv f))/\Hia (∀i,i<j->f (BK pn mn (lw ml) x i)=i)/\Hia (∀k u,wz.cell? ⟨b,k,none⟩=some u->wr.cell? ⟨b,k,none⟩=some u)/\Hia (Al wr (.slice va ml.length aA) ml)/\Ex w3 wr) (fun _ _ j' _=>q-(intOf j').toNat)
    case atStart=>exact⟨0,fun _=>0,ac,rfl,Aa fo,Aa (fun i h=>ac),Aa (fun k u h=>h),bU,fe⟩
    case round=>
     clear fo fe;obtain⟨j,f,hj,rfl,aE,bC,aJ,aO,hx⟩:=hrel;have b5:=aJ.o 5 _ f5;by_cases hlt:j<q-1
     .have hc:=hx.cell (G4.o j _ (AQ hlt _));have aX:=bP.o j;have HY:=Aa (show KX pn mn ml x j=((BK pn mn (lw ml) x j:Nat):Int) from rfl);rw[HY.o]at hc;obtain⟨y,hy⟩:=nA (BK pn mn (lw ml) x j);have bD:=Aa hy;rw[hy]at hc aX;have hcy:=aE.o.cell aX;have hfy:=aE.o.frz y;have HS:=Aa (aE.o.set y (.int .i64 j));have bN:=Aa (aE.o.exSet (Nat.le_refl _) hx y (.int .i64 j));have bW:=Aa (show ∀k u,wz.cell? ⟨b,k,none⟩=some u->(wr.setCell (g,y) (.int .i64 j)).cell? ⟨b,k,none⟩=some u from fun k u h=>by
       rw[World.cell?_setCell_other _ _ _ _ (by intro e;injection e;omega)];exact aJ.o k u h)
      have bQ:=Aa (show Al (wr.setCell (g,y) (.int .i64 j)) (.slice va ml.length aA) ml from Sl.other aO.o (fun B h=>aV.o B h) _);clear hy;go_wp2_with fail
      go_roundw
      case rel=>
       refine⟨j+1,Az f y j,ac,by go_num,Aa (by have:=HS.o;rwa[CC]at this),Aa (fun i hi=>?_),bW,bQ,bN.o⟩;by_cases e:i=j
       .subst e;rw[bD.o,Ab]
       .rw[Ad _ _ (fun h=>bR.o i j hlt ac (h.trans bD.o.symm))];exact bC.o i ac
      case measure=>simp[intOf];omega
     .have hjq:j=q-1:=by omega
      have HR:Hia (Bh wr b pn mn ml x):=Aa ⟨HF.o,bO.o,bS.o,aJ.o 0 _ f0,aJ.o 1 _ f1,⟨_,aJ.o 2 _ f2,aO.o⟩,by rw[aK.o];exact aJ.o 3 _ f3,
       ⟨_,aJ.o 4 _ f4,by rw[aK.o];exact bT.o.ex hx⟩,⟨_,f,b5,by rw[aK.o];exact aE.o.isl,fun k hk=>bC.o k (by rw[aK.o]at hk;omega)⟩⟩
      clear hlt b5;go_wp2_with fail
      go_ret2;exact⟨.inl ⟨pn,mn,x,b,rfl,rfl,rfl,HR.o,x1,by rw[aK.o];exact x2⟩,bV.o.trans hx⟩
  .have aW:=Aa (show ¬Ga pn mn ml from fun ⟨a,b,e1,e2,_,_,h⟩=>by
    have bM:pn=a:=ac;have bL:mn=b:=ac;subst bM;subst bL;exact hno h)
   clear aU hno;have hE:=fun w=>AP (P:=Tryz.prog) w 22 3 none 0 0 Tryz.underlying22;go_wp2_with fail
   go_ret2;exact⟨.inr ⟨aW.o,rfl⟩,e3⟩
 .have aY:KE p m ml=false:=by simpa using hs
  have aW:=Aa (show ¬Ga p m ml from fun ⟨a,b,e1,e2,h1,h2,_⟩=>by
   rw[e1,e2]at hs;exact hs (T4 h1 h2).1)
  rw[aY]at aS;clear hs aY aG;go_enter Tryz.func52,Tryz.ntmps52
  have d0:=D0.o;have d1:=D1.o;have d2:=D2.o;go_wp2_with fail
  clear aL D0 D1 D2;generalize w.alloc (.cells #[p,m,mv] 24)=w1 at *;refine(aS.o _ (aR.o.ex e0)).mono ?_;rintro e w2⟨rfl,aI⟩;go_wp2_with fail
  go_ret2;exact⟨.inr ⟨aW.o,rfl⟩,e0.trans aI⟩
end Go.Proofs.YtehieobniamagaaGreat
