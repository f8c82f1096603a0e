/- Walks of the package field: multiply. -/
import Derived.Deep.RegionHeld3
import Derived.Laws.CopyOwn
import Derived.StillTailTactics
import Derived.Test.YtehieobniamagaaGreatZi01
namespace Go.Proofs.YtehieobniamagaaGreat
open Nat renaming pow_le_pow_right→ϝ,pow_one→θw,zero_add→ύ,le_refl→ζ,pow_pos→ϕ,ne_of_lt→κg
open Int renaming emod_nonneg→γw,emod_lt_of_pos→γi,emod_emod_of_dvd→δj,dvd_refl→ηc,mul_nonneg→δd,mul_le_mul→δv,tmod_eq_emod_of_nonneg→Φ,eq_ofNat_of_zero_le→δi,toNat_natCast→ώ,natCast_pow→κk
open List renaming getElem?_append→κt,getD_eq_getElem?_getD→δ,mem_of_getElem?→ι,mem_map→ψ,eq_nil_of_length_eq_zero→ζa,getElem?_eq_getElem→γ,all_eq_true→υ
open Go.IntWalk renaming i64_in→ρ
open Go.Value renaming ownBlock→γu,slice→ζb
open Bool renaming eq_iff_iff→γh,and_eq_true→Ξ,true_and→θe
open Go.RowKit
set_option linter.all false
set_option maxRecDepth 100000
set_option maxHeartbeats 4000000
structure Gg(p m:Nat)(ml:List Int):Prop where
 p2:2<=p
 m1:1<=m
 m8:m<=8
 q:p^m<=256
 len:ml.length=if m=1 then 0 else m
 rng:∀x∈ml,0<=x/\x<p
def lw(ml:List Int):Vc:=fun j=>ml.getD j 0
theorem Gg.p256{p m:Nat}{ml:List Int}(h:Gg p m ml):p<=256:=by
 have h1:p^1<=p^m:=ϝ (by have:=h.p2;omega) h.m1;have:=h.q;rw[θw]at h1;omega
def BF(p m:Nat)(low x y:Vc)(k:Nat):Vc:=fun j=>Dy m low x (m-k) (fun t=>y (k+t)) j%(p:Int)
theorem Z7(p m:Nat)(low x y:Vc)(j:Nat):BF p m low x y m j=0:=by
 unfold BF;rw[Nat.sub_self];simp[Dy]
theorem Z8{p:Nat}(hp:1<=p)(m:Nat)(low x y:Vc)(k j:Nat):0<=BF p m low x y k j/\BF p m low x y k j<p:=
 ⟨γw _ ac,γi _ ac⟩
theorem Xu{p m:Nat}(low x y:Vc){k j:Nat}(hk:k<m)(hj:j<m):
  BF p m low x y k j=((if j=0 then 0 else BF p m low x y (k+1) (j-1))+((p:Int)-BF p m low x y (k+1) (m-1))*low j+y k*x j)%(p:Int):=by
 unfold BF;rw[show m-k=(m-(k+1))+1 by omega,Dy];have e:(fun t=>y (k+(t+1)))=fun t=>y (k+1+t):=by funext t;rw[show k+(t+1)=k+1+t by omega]
 rw[e];generalize Dy m low x (m-(k+1)) (fun t=>y (k+1+t))=H;unfold sX;show((if j<m then(if j=0 then 0 else H (j-1))-H (m-1)*low j else 0)+y (k+0)*x j)%(p:Int)=_
 rw[if_pos hj,Nat.add_zero];refine Et ?_ rfl;have h1:((if j=0 then 0 else H (j-1))-H (m-1)*low j)%(p:Int)=((if j=0 then 0 else H (j-1))+((p:Int)-H (m-1))*low j)%(p:Int):=by
  refine CA.2 ⟨- low j,?_⟩;generalize (if j=0 then 0 else H (j-1))=z
  grind
 rw[h1];refine Et ?_ (FS (IB rfl (δj _ (ηc _)).symm) rfl);split
 .rfl
 .exact(δj _ (ηc _)).symm
theorem Z9{p:Nat}(hp:1<=p)(m:Nat)(low:Vc)(x y:Nat):Ev p m (BF p m low (AO p m x) (AO p m y) 0)=((Am p m low x y:Nat):Int):=by
 unfold Am rep Fa;rw[Int.toNat_of_nonneg (Dm (fun j=>⟨γw _ ac,γi _ ac⟩) m).1];refine DW m fun j _=>?_;unfold BF;rw[Nat.sub_zero,OD];simp only[ύ]
def Zj(o:Nat->Int):Nat->Int:=fun j=>if j=0 then 0 else o (j-1)
theorem NR(n:Nat)(o:Nat->Int):splice (vs (n+1) (iv o)) 1 (vs n (iv o))=vs (n+1) (iv fun j=>if j=0 then o 0 else o (j-1)):=by
 unfold splice;apply List.ext_getElem?;intro j;rcases j with _|j
 .simp[vs,iv,List.range_succ_eq_map]
 .by_cases hj:j<n
  .simp[vs,iv,hj,κt]
  .simp[vs,iv,hj,κt];omega
theorem zaM{P:Prop}(h:P:=by
 rw[if_neg h1];by_cases h2:t<j
 .rw[if_pos h2,if_pos (by omega)]
 .rw[if_neg h2,if_neg (by omega)]):P:=h
theorem bp{P:Prop}(h:P:=by rfl):P:=h
theorem bz{P:Prop}(h:P:=by omega):P:=h
theorem cq{P:Prop}(h:P:=by rw[<-aE];simp):P:=h
theorem Ip(p m x y:Nat)(ml:List Int)(mv:Value)(w:World)(hf:Gg p m ml)(aU:Ak w mv ml)(hx:x<p^m)(hy:y<p^m):
  Calls Tryz.prog 166 #[.agg #[p,.int .i64 m,mv],x,y] w fun r w'=>r= .returned (.int .i64 (Am p m (lw ml) x y))/\Ex w w':=by
 obtain⟨p2,m1,m8,q,aL,aK⟩:=hf;have p256:=Gg.p256 ⟨p2,m1,m8,q,aL,aK⟩;obtain⟨xb,aE⟩:=nA w.heap.size;have HX:=Aa aE;go_enter Tryz.func166,Tryz.ntmps166
 go_wp2_with fail
 try simp only[aE]
 have d0:(w.alloc (.cells #[p,.int .i64 m,mv] 24)).cell? (xb,0)=some (.int .i64 p):=cq;have d1:(w.alloc (.cells #[p,.int .i64 m,mv] 24)).cell? (xb,1)=some (.int .i64 m):=cq;have d2:(w.alloc (.cells #[p,.int .i64 m,mv] 24)).cell? (xb,2)=some mv:=cq;have e0:Ex w (w.alloc (.cells #[p,.int .i64 m,mv] 24)):=(Ex.refl _).alloc _;generalize w.alloc (.cells #[p,.int .i64 m,mv] 24)=w1 at *;clear aE
 go_region_held3 (fun w'=>w'.cell? (xb,0)=some (.int .i64 p)/\w'.cell? (xb,1)=some (.int .i64 m)/\w'.cell? (xb,2)=some mv/\Ex w w')
  (first|exact⟨d0,d1,d2,e0.drew⟩|exact⟨hx1.cell d0,hx1.cell d1,hx1.cell d2,e0.drew.trans hx1⟩|(obtain⟨k0,k1,k2,k3⟩:=‹_/\_/\_/\Ex w _›;exact⟨hx1.cell k0,hx1.cell k1,hx1.cell k2,k3.trans hx1⟩))
  ((go_at_call 205;refine(OU _ _ _ _ ac ac ac ac).mono ?_;rintro e w2⟨v,rfl,hs,hx1⟩))
 have aT:=‹Ak _ _ (il m (AO p m x))›.ex hx1;have aS:=hs;obtain⟨k0,k1,k2,k3⟩:=‹_/\_/\_/\Ex w _›;clear d0 d1 d2 e0 hx1;obtain⟨aa,ca,rfl,a1,a2,a3⟩:=aT.open;obtain⟨ab,cb,rfl,b1,b2,b3⟩:=aS.open;have aF:=aU.ex k3;obtain⟨am,cm,rfl,c1,c2,c3⟩:=aF.open;simp only[Ao]at *;obtain⟨aab,aao,rfl,a4⟩:=a3 ac;obtain⟨abb,abo,rfl,b4⟩:=b3 ac;obtain⟨A4,B4,C3,aW⟩:=Of (fun j (hj:j<m)=>a4 j _ (AT hj _)) (fun j (hj:j<m)=>b4 j _ (AT hj _)) c3 aL;unfold maxLen at a2 b2 c2;have bU:Hia (∀j,0<=lw ml j/\lw ml j<p):=Aa (fun j=>by
  unfold lw;rw[δ];rcases h:ml[j]? with _|z
  .simp;omega
  .exact aK z (ι h))
 have bN:=Aa (DF (show 1<=p by omega) m x);have bM:=Aa (DF (show 1<=p by omega) m y);clear a3 b3 c3 a4 b4 aT aS aF aU aK aL;go_wp2_with (at_make;refine Ar _ rfl _ _ 22 rfl 3 (.int .i64 0) 8 Tryz.underlying22 Az rfl _ m rfl rfl rfl ac ai ?_)
 intro w4 aA aH;obtain⟨g,hg⟩:=nA w2.heap.size;have aC:AJ w4 g 3 g m (iv (BF p m (lw ml) (AO p m x) (AO p m y) m)):=by
  rw[hg]at aA;exact aA.congr fun j _=>by unfold iv;rw[Z7]
 obtain⟨HG,bV,bW,bP,aN⟩:=On hg (fun (wr:World) (h:AJ wr g 3 g m (iv (BF p m (lw ml) (AO p m x) (AO p m y) 0)))=>h.isl) (Z9 (show 1<=p by omega) m (lw ml) x y) (fun k j (hk:k<m) (hj:j<m)=>Xu (p:=p) (lw ml) (AO p m x) (AO p m y) hk hj) (fun k j=>Z8 (show 1<=p by omega) m (lw ml) (AO p m x) (AO p m y) k j);have bK:xb<g:=by rw[<-hg];exact World.block_lt_of_cell? _ _ k0
 simp only[hg];clear aA hg;generalize BF p m (lw ml) (AO p m x) (AO p m y)=H at *;have q0:=aH.cell k0;have q1:=aH.cell k1;go_wp2_with fail
 clear q0 q1
 go_loopw [10] (fun i' wr=>∃k:Nat,k<=m/\i'= .int .i64 ((k:Int)-1)/\AJ wr g 3 g m (iv (H k))/\Ex w2 wr) (fun i' _=>(intOf i'+1).toNat)
 case atStart=>exact⟨m,ac,rfl,aC,aH⟩
 case round=>
  clear aC aH;obtain⟨k,hk,rfl,aA,aD⟩:=hrel;have r0:=aD.cell k0;have r1:=aD.cell k1;have r2:=aD.cell k2;rcases k with _|k
  .have aR:=bV.o _ aA;have HQ:=Aa aR;have bR:Hia (∀z∈il m (H 0),0<=z/\z<p):=Aa (fun z hz=>by
    obtain⟨j,_,rfl⟩:=ψ.1 hz;exact aN.o 0 j)
   have bS:=Aa (show p^(il m (H 0)).length<=65536 by rw[Ao];omega);have bO:=Aa (show vl p (il m (H 0))=((Am p m (lw ml) x y:Nat):Int) by rw[Pq];exact bW.o);clear aR aA;go_wp2_with fail
   refine(Pr _ _ _ _ HQ.o ac ac bR.o bS.o).mono ?_;rintro e w9⟨rfl,rfl⟩;go_wp2_with fail
   go_ret;exact⟨Ai bO.o,k3.trans aD⟩
  .have aV:=aA.cell (show m-1<m by omega);have bL:wr.cell? (g,m-1)=some (.int .i64 (H (k+1) (m-1))):=aV;have e:(((k+1:Nat)):Int)-1=k:=by omega
   rw[e];clear aV e;have aQ:Below g w2 wr:=by rw[<-HG.o];exact aD
   obtain⟨bG,HO,aM,aX⟩:=Of (show m=(m-1)+1 by omega) aA aD aQ;clear aA aD aQ;go_wp2_with fail
   have i1:(1:Int)<=(m:Int):=ac;have i3:(0:Int)<=(m:Int)-1:=ac;have i4:(m:Int)-1<=(m:Int):=ac;have i5:((m:Int)-1).toNat=m-1:=ac;have i7:IntKind.i64.wrap ((m:Int)-1)=(m:Int)-1:=ρ _ ac;have HP:Hia (wr.drew.heap[g]?=some (.cells (vs m (iv (H (k+1)))).toArray 3 (0,0))):=Aa (HO.o.drew.heap);have HQ:Hia (∀(j:Nat) (v:Value),(vs (m-1) (iv (H (k+1))))[j]?=some v->wr.drew.cell? ((⟨g,0,none⟩:Addr).add j)=some v):=Aa (fun j v h=>by
    have hj:j<m-1:=by have:=(List.getElem?_eq_some_iff.1 h).1;rwa[Bl]at this
    rw[Dn hj]at h;injection h with h;have h2:(⟨g,0,none⟩:Addr).add j=⟨g,j,none⟩:=dj;rw[h2,<-h];exact HO.o.drew.cell ac)
   have HN:=Aa (show(vs (m-1) (iv (H (k+1)))).length=Nat.min (m-1) (m-1) by rw[Bl];exact(Nat.min_self _).symm);have bF:=Aa (show 0<(vs (m-1) (iv (H (k+1)))).length->¬m=1 by rw[Bl];omega);have HF:=Aa (show 1+(vs (m-1) (iv (H (k+1)))).length<=(vs m (iv (H (k+1)))).length by rw[Bl,Bl];omega);have bE:Hia (∀v∈vs (m-1) (iv (H (k+1))),v.oneCell'=true):=Aa (fun v h=>by
    obtain⟨j,_,rfl⟩:=ψ.1 h;rfl)
   have bH:Hia (Below g w2 wr.drew):=Aa (Below.drew aX.o)
   go_region_law ((go_loud (refine step_copy_splice bp _ _ _ _ bp 3 Tryz.underlying22 ah _ _ _ _ _ _ bp bp g 1 (vs m (iv (H (k+1)))) 3 HP.o (vs (m-1) (iv (H (k+1)))) HN.o (fun h=>⟨if_neg (bF.o h),_,rfl,HQ.o⟩) HF.o bE.o g w2 bH.o (ζ _) ?_);intro w5 hw5 hb5))
   all_goals
    generalize (if m=1 then some (⟨g,0,none⟩:Addr) else some ⟨g,1,none⟩)=sd;clear i1 i3 i4 i5 i7 HP HQ HF bE bH bF HN aX;have aG:Hia (AJ w5 g 3 g m (iv fun j=>if j=0 then H (k+1) 0 else H (k+1) (j-1))):=by
     apply Aa;refine AJ.of_heap ?_ (ζ _) ai;have h:=hw5.out;rw[bG.o,Nat.add_sub_cancel,NR]at h;rw[bG.o];exact h
    have bA:Hia (Ex w2 w5):=Aa (by rw[<-HG.o]at hb5;exact hb5);clear hw5 hb5;have bD:=Aa (aG.o.set 0 (.int .i64 0));have aZ:=Aa (aG.o.exSet (by rw[HG.o];exact ζ _) bA.o 0 (.int .i64 0));have f5:=aG.o.frz 0;have m0:0<m:=by omega
    have m0':(0:Int)<(m:Int):=ac;have c5:=aG.o.cell (show 0<m by omega);clear r0 r1 r2 HO aM bL;go_wp2_with fail
    generalize w5.setCell (g,0) (.int .i64 0)=w6 at *;have bC:Hia (AJ w6 g 3 g m (iv fun t=>if t<0 then H k t else Zj (H (k+1)) t)):=by
     apply Aa;have:=bD.o;rw[CF]at this;refine this.icongr fun j hj=>?_;unfold Ay Zj;rw[if_neg (show ¬j<0 by omega)];by_cases h:j=0
     .rw[if_pos h,if_pos h]
     .rw[if_neg h,if_neg h];exact if_neg h
    clear aG bA bD f5 c5
    go_loopw [12,13,54] (fun _ _ j' wz=>∃j:Nat,j<=m/\j'= .int .i64 j/\Hia (AJ wz g 3 g m (iv fun t=>if t<j then H k t else Zj (H (k+1)) t))/\Ex w2 wz) (fun _ _ j' _=>m-(intOf j').toNat)
    case atStart=>exact⟨0,ac,rfl,bC,aZ.o⟩
    case round=>
     clear bC aZ;obtain⟨j,hj,rfl,HO,aB⟩:=hrel;have r0:=aB.cell k0;have r1:=aB.cell k1;have r2:=aB.cell k2;by_cases hlt:j<m
     .have hoj:wr.cell? (g,j)=some (.int .i64 (Zj (H (k+1)) j)):=by
       have h:=HO.o.cell hlt;rw[h];unfold iv;simp
      have hfj:=HO.o.frz j;have ha:=aB.cell (A4.o j hlt);have hb:=aB.cell (B4.o k ac);have BF:=bP.o k j ac hlt;have HS:Hia ((Zj (H (k+1)) j+((p:Int)-H (k+1) (m-1))*lw ml j+AO p m y k*AO p m x j)%(p:Int)=H k j):=Aa (by rw[BF];rfl);obtain⟨t1,t2⟩:=aN.o (k+1) (m-1);obtain⟨l1,l2⟩:=bU.o j;obtain⟨u1,u2⟩:=bN.o j;obtain⟨v1,v2⟩:=bM.o k;have bJ:0<=Zj (H (k+1)) j/\Zj (H (k+1)) j<p:=by
       unfold Zj;split
       .omega
       .exact aN.o _ _
      obtain⟨s1,s2⟩:=bJ;have bB:=Aa (fun z=>HO.o.set j (.int .i64 z));have aY:=Aa (fun z=>HO.o.exSet (by rw[HG.o];exact ζ _) aB j (.int .i64 z));have aO:Hia (¬1<m->lw ml j=0):=Aa (fun h=>by
       unfold lw;have hl:=aW.o;rw[if_pos ac]at hl;rw[ζa hl];rfl)
      have aP:Hia (1<m->∃b o,am=some ⟨b,o,none⟩/\wr.cell? ⟨b,o+j,none⟩=some (.int .i64 (lw ml j))/\j<ml.length):=Aa (fun h=>by
       have hl:=aW.o;rw[if_neg ac]at hl;obtain⟨b,o,e,hc⟩:=C3.o ac;refine⟨b,o,e,aB.cell (hc j _ ?_),ac⟩;unfold lw;rw[δ,γ ac];rfl)
      generalize Zj (H (k+1)) j=sj at *;generalize H (k+1) (m-1)=tp at *;generalize lw ml j=lj at *;generalize AO p m x j=xj at *;generalize AO p m y k=yk at *;have p1:0<=((p:Int)-tp)*lj:=δd ac l1;have p3:((p:Int)-tp)*lj<=65536:=by
       have:=δv (show(p:Int)-tp<=256 by omega) (show lj<=256 by omega) l1 ac;omega
      have p4:0<=yk*xj:=δd v1 u1;have p5:yk*xj<=65536:=by
       have:=δv (show yk<=256 by omega) (show xj<=256 by omega) u1 ac;omega
      have hkm:k<m:=ac;clear BF hk bK;by_cases hm1:1<m
      .obtain⟨bb,oo,rfl,hcm,hjl⟩:=aP.o hm1;clear aP aO;go_wp2_with fail
       have w1:IntKind.i64.wrap ((p:Int)-tp)=(p:Int)-tp:=ρ _ ac;have bI:IntKind.i64.wrap (((p:Int)-tp)*lj)=((p:Int)-tp)*lj:=ρ _ ac;have w3:IntKind.i64.wrap (sj+((p:Int)-tp)*lj)=sj+((p:Int)-tp)*lj:=ρ _ ac;have aJ:IntKind.i64.wrap (yk*xj)=yk*xj:=ρ _ ac;have aI:IntKind.i64.wrap (sj+((p:Int)-tp)*lj+yk*xj)=sj+((p:Int)-tp)*lj+yk*xj:=ρ _ ac;have w6:(sj+((p:Int)-tp)*lj+yk*xj).tmod (p:Int)=(sj+((p:Int)-tp)*lj+yk*xj)%(p:Int):=Φ ac;have p0:¬p=0:=bz
       go_still_tail 27,ah
       change wpList _ _ _ _ _ wr.drew
       clear w1 bI w3 aJ aI w6;go_wp2_with fail
       go_roundw
       case rel=>
        refine⟨j+1,ac,by go_num,?_,(aY.o _).drew⟩;have h:=(bB.o ((sj+((p:Int)-tp)*lj+yk*xj)%(p:Int))).drew;rw[CF]at h;refine Aa (h.icongr fun t ht=>?_);unfold Ay;dsimp only;by_cases h1:t=j
        .subst h1;rw[if_pos rfl,if_pos ac,HS.o]
        .exact zaM
       case measure=>exact Ωm
      .obtain rfl:lj=0:=aO.o hm1;clear aP aO;have bQ:Hia ((sj+yk*xj)%(p:Int)=H k j):=Aa (by have:=HS.o;rwa[Int.mul_zero,Int.add_zero]at this);clear p1 p3;go_wp2_with fail
       have w1:IntKind.i64.wrap ((p:Int)-tp)=(p:Int)-tp:=ρ _ ac;have w3:IntKind.i64.wrap sj=sj:=ρ _ ac;have aJ:IntKind.i64.wrap (yk*xj)=yk*xj:=ρ _ ac;have aI:IntKind.i64.wrap (sj+yk*xj)=sj+yk*xj:=ρ _ ac;have w6:(sj+yk*xj).tmod (p:Int)=(sj+yk*xj)%(p:Int):=Φ ac;have p0:¬p=0:=bz
       go_still_tail 27,ah
       change wpList _ _ _ _ _ wr.drew
       clear w1 w3 aJ aI w6;go_wp2_with fail
       go_roundw
       case rel=>
        refine⟨j+1,ac,by go_num,?_,(aY.o _).drew⟩;have h:=(bB.o ((sj+yk*xj)%(p:Int))).drew;rw[CF]at h;refine Aa (h.icongr fun t ht=>?_);unfold Ay;dsimp only;by_cases h1:t=j
        .subst h1;rw[if_pos rfl,if_pos ac,bQ.o]
        .exact zaM
       case measure=>exact Ωm
     .obtain rfl:j=m:=by omega
      have bT:=HO.o.icongr (h:=H k) fun t ht=>if_pos ht;clear HO;go_wp2_with fail
      go_roundw
      case rel=>exact⟨k,ac,rfl,bT,aB⟩
      case measure=>simp[intOf]
def KU(p m:Nat)(ml:List Int)(x:Nat):Nat->Int:=fun k=>((BN p m (lw ml) x k:Nat):Int)
theorem TJ(n:Nat)(f:Nat->Int):il (n+1) f=il n f ++ [f n]:=by simp[il,List.range_succ]
def JD(p m:Nat)(ml:List Int)(x k:Nat):Nat->Bool:=fun z=>decide (∃i,i<k/\BN p m (lw ml) x i=z)
theorem zc3{P:Prop}(h:P:=by
 go_wp2_with fail
 go_ret;exact⟨_,k,rfl,aI.o,aH.o,e0.trans aF⟩):P:=h
theorem aj{P:Prop}(h:P:=by simp[Value.oneCell']):P:=h
theorem RL(p m x:Nat)(ml:List Int)(mv:Value)(w:World)(hf:Gg p m ml)(bD:Ak w mv ml)(hx:x<p^m):
  Calls Tryz.prog 165 #[.agg #[p,m,mv],((p^m:Nat):Int),x] w fun r w'=>∃v L,r= .returned v/\Mc p m (lw ml) x L/\Ak w' v (il L (KU p m ml x))/\Ex w w':=by
 have hp:=hf.p2;have hm:=hf.m1;have HF:=Aa hf;have bU:=Aa bD;have hq:=hf.q;have bA:1<p^m:=BC hp hm;obtain⟨HL,HM,bR,bL,bP⟩:=On (fun k=>Dq (low:=lw ml) hp hm x k) (fun (y:Nat) (w':World) (h:y<p^m) (h':Ak w' mv ml)=>Ip p m y x ml mv w' hf h' h hx) (Jr.one (low:=lw ml) hp hm x) (fun k (h:Jr p m (lw ml) x k)=>h.len hp hm) (show BN p m (lw ml) x 1=x by simp only[BN];exact Cr hp hm hx);clear hf bD hm;obtain⟨q,aT⟩:=nA (p^m);simp only[aT]at hq bA HL HM bL hx ⊢;have HQ:=Aa aT;clear aT;obtain⟨xb,aX⟩:=nA w.heap.size;have aP:=Aa aX;go_enter Tryz.func165,Tryz.ntmps165
 go_wp2_with (at_make;refine Ar _ rfl _ _ 168 rfl 4 (.bool false) 1 Tryz.underlying168 Lj rfl _ q rfl rfl rfl ac ai ?_)
 intro w3 aL aS;clear aX;have d0:(w.alloc (.cells #[p,m,mv] 24)).cell? (xb,0)=some (.int .i64 p):=by rw[<-aP.o];simp
 have d1:(w.alloc (.cells #[p,m,mv] 24)).cell? (xb,1)=some (.int .i64 m):=by rw[<-aP.o];simp
 have d2:(w.alloc (.cells #[p,m,mv] 24)).cell? (xb,2)=some mv:=by rw[<-aP.o];simp
 have d3:(w.alloc (.cells #[p,m,mv] 24)).heap.size=xb+1:=by rw[<-aP.o];simp
 have e0:Ex w (w.alloc (.cells #[p,m,mv] 24)):=(Ex.refl _).alloc _;generalize w.alloc (.cells #[p,m,mv] 24)=w1 at *;have o1:(w1.alloc (.cells #[(1:Int)] 3)).ownsRow (xb+1) 3 1 (.slice (some (xb+1,0)) 1 1) 1 (vs 1 (iv (KU p m ml x))):=by
  have:=Ee w1 (.int .i64 1) 3;rw[d3]at this;exact this
 have e1:Ex w1 (w1.alloc (.cells #[(1:Int)] 3)):=(Ex.refl _).alloc _;have g2:(w1.alloc (.cells #[(1:Int)] 3)).heap.size=xb+2:=by simp[d3]
 generalize w1.alloc (.cells #[(1:Int)] 3)=w2 at *;have o2:=Ag o1 aS;have aA:AJ w3 (xb+1) 4 (xb+1+1) q (bv fun _=>false):=aL.mono ac;have bE:Ex w1 w3:=e1.trans aS;have f1:=aA.frz 1;have c1:=aA.cell bA;have q1:(1:Int)<(q:Int):=bz;have bH:=Aa (aA.set 1 (.bool true));have bN:=Aa (aA.exSet (a:=w1) ac bE 1 (.bool true));have bK:=Aa (Ae o2 (a:=⟨xb+1+1,1,none⟩) (by simp[γu]) (.bool true));clear aL aS o1 g2 o2 aA bE e1 w2;go_wp2_with fail
 generalize w3.setCell (xb+1+1,1) (.bool true)=w4 at *;have aW:Hia (AJ w4 (xb+1) 4 (xb+1+1) q (bv (JD p m ml x 1))):=Aa (by
  have:=bH.o;rw[SA]at this;refine this.bcongr fun j hj=>?_;unfold Ay JD;rw[γh];by_cases h:j=1
  .subst h;simp;rfl
  .simp[h];simp only[BN];exact fun e=>h e.symm)
 clear bH f1 c1 w3;obtain⟨g,hg⟩:=nA (xb+1+1);have HG:=Aa (show xb+1<g by omega);rw[hg]at aW
 try simp only[hg]
 have bM:Hia (γu (.slice (some (xb+1,0)) 1 1)≠some g):=Aa (by simp[γu];omega);clear hg
 go_loopw [7,9] (fun o' y' wr=>∃k:Nat,1<=k/\Hia (Jr p m (lw ml) x k)/\y'= .int .i64 ((BN p m (lw ml) x k:Nat):Int)/\Hia (wr.ownsRow (xb+1) 3 1 o' k (vs k (iv (KU p m ml x))))/\
  Hia (AJ wr (xb+1) 4 g q (bv (JD p m ml x k)))/\Hia (o'.ownBlock≠some g)/\Ex w1 wr) (fun o' _ _=>q-lenV o')
 case atStart=>exact⟨1,ac,bR,by rw[bP.o],bK,aW,bM,bN.o⟩
 case round=>
  clear bK aW bM bN;obtain⟨k,aU,aN,rfl,aC,aB,bB,aF⟩:=hrel;have hkq:=bL.o k aN.o;have aD:=Qc aC.o;have r0:=aF.cell d0;have r1:=aF.cell d1;have r2:=aF.cell d2;have aQ:=HL.o k;obtain⟨oa,aJ,ho,ho2,ho3⟩:=Dz aC.o aU;subst ho;have HY:Hia (BN p m (lw ml) x (k+1)=Am p m (lw ml) (BN p m (lw ml) x k) x):=Aa (rfl);obtain⟨y,hy⟩:=nA (BN p m (lw ml) x k);have aG:=Aa hy;rw[hy]at aQ HY ⊢;by_cases h0:y=0
  .have aI:Hia (Mc p m (lw ml) x k):=Aa ⟨aU,by have:=HQ.o;omega,aN.o,.inl (by rw[aG.o];exact h0)⟩;have hb:((y:Int) !=0)=false:=by simp;omega
   have aH:=Aa (show Ak wr (.slice (some (oa,0)) k aJ) (il k (KU p m ml x)) by
    unfold Ak;rw[Ao,Cy];exact Sl.own aC.o)
   clear h0 hy aD;exact zc3
  .have hb:((y:Int) !=0)=true:=by simp;omega
   have aO:=aB.o.cell aQ;have bO:=aB.o.frz y;by_cases hs:JD p m ml x k y=true
   .have aI:Hia (Mc p m (lw ml) x k):=Aa ⟨aU,by have:=HQ.o;omega,aN.o,.inr (by
     unfold JD at hs;obtain⟨i,hi,e⟩:=of_decide_eq_true hs;exact⟨i,hi,by rw[e,aG.o]⟩)⟩
    have aM:wr.cell? (g,y)=some (.bool true):=by rw[aO];unfold bv;rw[hs]
    have aH:=Aa (show Ak wr (.slice (some (oa,0)) k aJ) (il k (KU p m ml x)) by
     unfold Ak;rw[Ao,Cy];exact Sl.own aC.o)
    clear h0 hy aD aO hs;exact zc3
   .have aZ:JD p m ml x k y=false:=by simpa using hs
    have aM:wr.cell? (g,y)=some (.bool false):=by rw[aO];unfold bv;rw[aZ]
    have bS:Hia (Jr p m (lw ml) x (k+1)):=Aa (aN.o.succ (by rw[aG.o];exact h0) (fun j hj e=>by
     rw[aG.o]at e;exact hs (decide_eq_true ⟨j,hj,e⟩)))
    have bV:=Aa aD;clear h0 hy aD aO hs aZ;have bG:Hia (AJ (wr.setCell (g,y) (.bool true)) (xb+1) 4 g q (bv (JD p m ml x (k+1)))):=Aa (by
     have:=aB.o.set y (.bool true);rw[SA]at this;refine this.bcongr fun j hj=>?_;unfold Ay JD;rw[γh];by_cases h:j=y
     .rw[if_pos h];simp;exact⟨k,ac,by rw[aG.o,h]⟩
     .rw[if_neg h];simp;constructor
      .rintro⟨i,hi,e⟩;exact⟨i,ac,e⟩
      .rintro⟨i,hi,e⟩;by_cases h3:i=k
       .subst h3;rw[aG.o]at e;exact absurd e.symm h
       .exact⟨i,ac,e⟩)
    have bJ:=Aa (Ae aC.o (a:=⟨g,y,none⟩) bB.o (.bool true));have aV:=Aa (aB.o.exSet (a:=w1) ac aF y (.bool true));have bF:=Aa (show xb+1<=(wr.setCell (g,y) (.bool true)).heap.size by have:=aV.o.size;omega);go_wp2_with (at_builtin;go_loud (refine Al _ rfl _ _ 22 rfl (xb+1) 3 (.int .i64 0) 1 8 Tryz.underlying22 Az rfl (by decide) _ k _ rfl bJ.o [.int .i64 (y:Int)] 3 _ rfl ag rfl aj ai ac bF.o ?_))
    intro v' w5 aE;have bI:Hia (w5.ownsRow (xb+1) 3 1 v' (k+1) (vs (k+1) (iv (KU p m ml x)))):=Aa (by
     have:=aE.own;rw[S2];unfold iv KU;rw[aG.o];exact this)
    obtain⟨aY,bC⟩:=aE.arr bG.o bB.o;have bQ:=Aa aY;have bT:=Aa bC;have aK:=aE.ex aV.o ac;have bW:=Aa (Qc bI.o);have r0:=aK.cell d0;have r1:=aK.cell d1;have r2:=aK.cell d2;clear aE aY bC bG bJ aV bF aM bO hb aF;go_wp2_with fail
    refine(HM.o y w5 aQ (bU.o.ex (e0.trans aK))).mono ?_;rintro e w6⟨rfl,aR⟩;go_wp2_with fail
    go_roundw
    case rel=>exact⟨k+1,ac,bS,by rw[HY.o],Aa (Ag bI.o aR),Aa (bQ.o.ex aR),bT,aK.trans aR⟩
    case measure=>rw[bW.o,bV.o];omega
def Pg(p m:Nat)(ml:List Int)(w':World)(v:Value):Prop:=
 (∃x,1<=x/\x<p^m/\Dh p m (lw ml) x/\Ak w' v (il (p^m-1) (KU p m ml x)))∨(¬Hc p m (lw ml)/\v= .slice none 0 0)
theorem Hi(p m:Nat)(ml:List Int)(mv:Value)(w:World)(hf:Gg p m ml)(aK:Ak w mv ml):
  Calls Tryz.prog 113 #[.agg #[p,m,mv],((p^m:Nat):Int)] w fun r w'=>∃v,r= .returned v/\Pg p m ml w' v/\Ex w w':=by
 have hp:=hf.p2;have hm:=hf.m1;have aN:=Aa aK;have hq:=hf.q;have aS:1<p^m:=BC hp hm;obtain⟨aL,HM,HL,aF,aM,aJ,aP,HK⟩:=OK (fun (x:Nat) (w':World) (h:x<p^m) (h':Ak w' mv ml)=>RL p m x ml mv w' hf h' h) (fun (x y:Nat) (w':World) (h:y<p^m) (hx:x<p^m) (h':Ak w' mv ml)=>Ip p m y x ml mv w' hf h' h hx) (fun x k=>Dq (low:=lw ml) hp hm x k) (fun x L (h:Mc p m (lw ml) x L)=>h.gen hp hm) (fun x L (h:Mc p m (lw ml) x L)=>h.2.1) (show ∀w' v,Pg p m ml w' v↔((∃x,1<=x/\x<p^m/\Dh p m (lw ml) x/\Ak w' v (il (p^m-1) (KU p m ml x)))∨(¬Hc p m (lw ml)/\v= .slice none 0 0)) from fun _ _=>Iff.rfl) (show Hc p m (lw ml)↔∃x,1<=x/\x<p^m/\Dh p m (lw ml) x from Iff.rfl) (show ∀x k,BN p m (lw ml) x (k+1)=Am p m (lw ml) (BN p m (lw ml) x k) x from fun _ _=>rfl);clear hf aK hm;obtain⟨q,aH⟩:=nA (p^m);simp only[aH]at hq aS aL HM HL aF aM aJ aP ⊢;have HQ:=Aa aH;clear aH;obtain⟨xb,aG⟩:=nA w.heap.size;have d0:(w.alloc (.cells #[p,m,mv] 24)).cell? (xb,0)=some (.int .i64 p):=by rw[<-aG];simp
 have d1:(w.alloc (.cells #[p,m,mv] 24)).cell? (xb,1)=some (.int .i64 m):=by rw[<-aG];simp
 have d2:(w.alloc (.cells #[p,m,mv] 24)).cell? (xb,2)=some mv:=by rw[<-aG];simp
 have D0:=Aa d0;have D1:=Aa d1;have D2:=Aa d2;clear d0 d1 d2;go_enter Tryz.func113,Tryz.ntmps113
 go_wp2_with fail
 clear aG;have d0:=D0.o;have d1:=D1.o;have d2:=D2.o;clear D0 D1 D2;have e0:Ex w (w.alloc (.cells #[p,m,mv] 24)):=(Ex.refl _).alloc _;generalize w.alloc (.cells #[p,m,mv] 24)=w1 at *
 go_loopw [5] (fun x' wr=>∃x:Nat,1<=x/\x<=q/\x'= .int .i64 x/\Hia (∀y,1<=y->y<x->¬Dh p m (lw ml) y)/\Ex w1 wr) (fun x' _=>q-(intOf x').toNat)
 case atStart=>exact⟨1,ac,ac,rfl,Aa (fun y a b=>ac),Ex.refl _⟩
 case round=>
  obtain⟨x,aR,hx2,rfl,aC,aB⟩:=hrel;have r0:=aB.cell d0;have r1:=aB.cell d1;have r2:=aB.cell d2;by_cases hlt:x<q
  .go_wp2_with fail
   refine(aL.o x _ hlt (aN.o.ex (e0.trans aB))).mono ?_;rintro e w5⟨v,L,rfl,aA,hv,aE⟩;have s0:=aE.cell r0;have s1:=aE.cell r1;have s2:=aE.cell r2;have hLq:=aM.o x L aA;obtain⟨va,vc,rfl,v1,v2,v3⟩:=hv.open;have HV:=Aa hv;have HG:=Aa (aF.o x L aA);have hL1:=aA.1;rw[Ao]at *;obtain⟨vb,vo,rfl,v4⟩:=v3 ac;have aD:=aB.trans aE;unfold maxLen at v2;clear r0 r1 r2 v3 hv aA aB aE;have k1:IntKind.i64.wrap ((q:Int)-1)=(q:Int)-1:=ρ _ ac;by_cases hLe:L=q-1
   .have hc:=v4 (q-2) (KU p m ml x (q-2)) (AT ac _);have hb:((L:Int)==(q:Int)-1)=true:=by simp;omega
    obtain⟨y,hy⟩:=nA (BN p m (lw ml) x (q-2));have aQ:y<q:=by rw[<-hy];exact HL.o x (q-2)
    unfold KU at hc;rw[hy]at hc;have HY:=Aa (show BN p m (lw ml) x (q-1)=Am p m (lw ml) y x by rw[show q-1=(q-2)+1 by omega,HK.o,hy]);have k2:IntKind.i64.wrap ((q:Int)-2)=(q:Int)-2:=ρ _ ac;have k3:((q:Int)-2).toNat=q-2:=by omega
    have k4:(0:Int)<=(q:Int)-2:=ac;have k5:(q:Int)-2<(L:Int):=ac;have k6:(2:Int)<=(q:Int):=ac;have k7:(q:Int)<(L:Int)+2:=ac;have k8:2<=q:=ac;have aO:=Aa hLe;clear v4 hy hLe;go_wp2_with fail
    go_region_held3 (fun w'=>w'.cell? (xb,0)=some (.int .i64 p)/\w'.cell? (xb,1)=some (.int .i64 m)/\w'.cell? (xb,2)=some mv/\w'.cell? (vb,vo+(q-2))=some (.int .i64 y)/\Ex w1 w')
     (first|exact⟨s0,s1,s2,hc,aD.drew⟩|exact⟨hx6.cell s0,hx6.cell s1,hx6.cell s2,hx6.cell hc,aD.drew.trans hx6⟩)
     ((go_at_call 166;refine(HM.o x y _ aQ hlt (aN.o.ex ((e0.trans aD).drew))).mono ?_;rintro e w6⟨rfl,hx6⟩))
    by_cases h1:Am p m (lw ml) y x=1
    .have aT:(((Am p m (lw ml) y x:Nat):Int)==1)=true:=by simp;omega
     have aV:=Aa (HG.o.2 ⟨aO.o,by rw[HY.o];exact h1⟩);have aI:=Aa (show Ak w6 (.slice (some (vb,vo)) L vc) (il (q-1) (KU p m ml x)) by
      have:=HV.o.ex ((Ex.refl _).drew.trans hx6)
      rwa[show il L (KU p m ml x)=il (q-1) (KU p m ml x) by rw[aO.o]]at this)
     clear h1;go_wp2_with fail
     go_ret;exact⟨_,rfl,(aJ.o _ _).2 (.inl ⟨x,aR,hlt,aV.o,aI.o⟩),e0.trans (aD.drew.trans hx6)⟩
    .have aT:(((Am p m (lw ml) y x:Nat):Int)==1)=false:=by simp;omega
     have HN:Hia (¬Dh p m (lw ml) x):=Aa (fun h=>h1 (by rw[<-HY.o];exact(HG.o.1 h).2));clear h1;go_wp2_with fail
     go_roundw
     case rel=>exact⟨x+1,ac,ac,by go_num,Aa (fun z a b=>by
      by_cases e:z=x
      .subst e;exact HN.o
      .exact aC.o z a ac),aD.drew.trans hx6⟩
     case measure=>exact Ωm
   .have hb:((L:Int)==(q:Int)-1)=false:=by simp;omega
    have HN:Hia (¬Dh p m (lw ml) x):=Aa (fun h=>hLe (HG.o.1 h).1);clear hLe v4;go_wp2_with fail
    go_quiet (fail)
    go_wp2_with fail
    go_roundw
    case rel=>exact⟨x+1,ac,ac,by go_num,Aa (fun y a b=>by
     by_cases e:y=x
     .subst e;exact HN.o
     .exact aC.o y a ac),aD.drewN _⟩
    case measure=>exact Ωm
  .obtain rfl:x=q:=by omega
   have aU:Hia (¬Hc p m (lw ml)):=Aa (fun h=>by
    obtain⟨y,a,b,c⟩:=aP.o.1 h;exact aC.o y a b c)
   go_wp2_with fail
   go_ret;exact⟨_,rfl,(aJ.o _ _).2 (.inr ⟨aU.o,rfl⟩),e0.trans aB⟩
def Ky(p m:Int)(ml:List Int):Bool:=
 decide (CJ p m≠0)&&(I6 p.toNat&&if m=1 then ml.length==0 else ml.length==m.toNat&&ml.all fun x=>decide (0<=x)&&decide (x<p))
theorem Ob{p m:Int}(h:CJ p m≠0):∃pn mn:Nat,p=pn/\m=mn/\2<=pn/\1<=mn/\mn<=8/\pn^mn<=256/\CJ p m=((pn^mn:Nat):Int):=by
 unfold CJ at h ⊢;split at h
 .rename_i hc;obtain⟨h1,h2,h3,h4⟩:=hc;obtain⟨pn,rfl⟩:=δi (show 0<=p by omega);obtain⟨mn,rfl⟩:=δi (show 0<=m by omega);rw[ώ,<-κk]at h4;refine⟨pn,mn,rfl,rfl,ac,ac,ac,ac,?_⟩;rw[if_pos ⟨h1,h2,h3,by rw[ώ,<-κk];exact h4⟩,ώ,κk]
 .exact absurd rfl h
theorem NV{p m:Int}{ml:List Int}(h:Ky p m ml=true):∃pn mn:Nat,p=pn/\m=mn/\Gg pn mn ml/\I6 pn=true/\CJ p m=((pn^mn:Nat):Int):=by
 unfold Ky at h;simp only[Ξ,decide_eq_true_eq]at h;obtain⟨h1,h2,h3⟩:=h;obtain⟨pn,mn,rfl,rfl,a,b,c,d,e⟩:=Ob h1;refine⟨pn,mn,rfl,rfl,⟨a,b,c,d,?_,?_⟩,by simpa using h2,e⟩
 .split at h3
  .rename_i hm;rw[if_pos ac];simpa using h3
  .rename_i hm;simp only[Ξ,beq_iff_eq]at h3;rw[if_neg ac,h3.1];simp
 .intro x hx;split at h3
  .have:ml= []:=ζa (by simpa using h3);subst this;cases hx
  .simp only[Ξ,υ,decide_eq_true_eq]at h3;exact h3.2 x hx
theorem zbK{P:Prop}(h:P:=by
 unfold CJ;rw[if_pos ⟨by omega,by omega,by omega,by rw[Int.toNat_natCast,<-Int.natCast_pow];omega⟩,Int.toNat_natCast,Int.natCast_pow]):P:=h
theorem Uw{pn mn:Nat}{ml:List Int}(h:Gg pn mn ml)(hp:I6 pn=true):Ky pn mn ml=true/\CJ pn mn=((pn^mn:Nat):Int):=by
 obtain⟨a,b,c,d,e,f⟩:=h;have ho:CJ pn mn=((pn^mn:Nat):Int):=by
  exact zbK
 refine⟨?_,ho⟩;have hq:1<=pn^mn:=ϕ ac;unfold Ky;simp only[Ξ,decide_eq_true_eq];refine⟨by rw[ho];omega,by simpa using hp,?_⟩;by_cases h1:mn=1
 .rw[if_pos ac];rw[if_pos h1]at e;simp[e]
 .rw[if_neg ac];rw[if_neg h1]at e;simp only[Ξ,υ,decide_eq_true_eq];exact⟨by simp[e],f⟩
theorem zcn{P:Prop}(h:P:=by
 have h1:pn^1<=pn^mn:=Nat.pow_le_pow_right (by omega) q1;rw[Nat.pow_one]at h1;omega):P:=h
theorem au{P:Prop}(h:P:=by rw[List.getElem?_eq_getElem hi,e]):P:=h
theorem dl{P:Prop}(h:P:=by rw[<-aC];simp):P:=h
theorem MX(p m:Int)(ml:List Int)(mv:Value)(w:World)(aO:Ak w mv ml):
  Calls Tryz.prog 111 #[.agg #[p,m,mv]] w fun r w'=>r= .returned (.bool (Ky p m ml))/\Ex w w':=by
 obtain⟨xb,aC⟩:=nA w.heap.size;have d0:(w.alloc (.cells #[p,m,mv] 24)).cell? (xb,0)=some (.int .i64 p):=dl;have d1:(w.alloc (.cells #[p,m,mv] 24)).cell? (xb,1)=some (.int .i64 m):=dl;have d2:(w.alloc (.cells #[p,m,mv] 24)).cell? (xb,2)=some mv:=dl;have e0:Ex w (w.alloc (.cells #[p,m,mv] 24)):=(Ex.refl _).alloc _;have aI:Hia (Ky p m ml=(decide (CJ p m≠0)&&(I6 p.toNat&&if m=1 then ml.length==0 else ml.length==m.toNat&&ml.all fun x=>decide (0<=x)&&decide (x<p)))):=Aa (rfl);have aM:=aO.ex e0;obtain⟨ma,mc,rfl,m1,m2,m3⟩:=aM.open;have M3:=Aa m3;have Dy:=I8 p m;unfold maxLen at m2;clear aO aM m3;by_cases ho:CJ p m=0
 .rw[ho]at aI Dy;clear ho;obtain⟨aB,D0,D1,D2⟩:=Of Dy d0 d1 d2;clear Dy d0 d1 d2;go_enter Tryz.func111,Tryz.ntmps111
  have d0:=D0.o;have d1:=D1.o;have d2:=D2.o;go_wp2_with fail
  clear aC;generalize w.alloc (.cells #[p,m,(ma,ml.length,mc)] 24)=w1 at *;clear D0 D1 D2;refine(aB.o _).mono ?_;rintro e w2⟨rfl,rfl⟩;go_wp2_with fail
  go_ret;exact⟨Aq (by rw[aI.o];simp),e0⟩
 .obtain⟨pn,mn,rfl,rfl,p2,q1,q8,qq,aN⟩:=Ob ho;have hpw:1<=pn^mn:=ϕ ac;have aF:pn<=256:=by
   exact zcn
  rw[aN]at Dy;have hb0:(((pn^mn:Nat):Int)==0)=false:=by rw[beq_eq_false_iff_ne];omega
  have aA:=Aa (show Ky pn mn ml=(I6 pn&&if (mn:Int)=1 then ml.length==0 else ml.length==mn&&ml.all fun x=>decide (0<=x)&&decide (x<pn)) by
   rw[aI.o,decide_eq_true ho];simp)
  have aD:=fun w=>Ql pn w p2 aF;generalize pn^mn=qn at *;clear ho aN aI;by_cases hpr:I6 pn=true
  .rw[hpr]at aA aD;have aH:=Aa aD;clear aD hpr;by_cases hm1:mn=1
   .have aL:((mn:Int)==1)=true:=by simp;omega
    have HR:=Aa (show Ky pn mn ml=((ml.length:Int)==0) by rw[aA.o,if_pos ac,θe,γh];simp);clear hm1 aA;obtain⟨aB,D0,D1,D2⟩:=Of Dy d0 d1 d2;clear Dy d0 d1 d2;go_enter Tryz.func111,Tryz.ntmps111
    have d0:=D0.o;have d1:=D1.o;have d2:=D2.o;go_wp2_with fail
    clear aC;generalize w.alloc (.cells #[pn,mn,(ma,ml.length,mc)] 24)=w1 at *;clear D0 D1 D2;refine(aB.o _).mono ?_;rintro e w2⟨rfl,rfl⟩;go_wp2_with fail
    refine(aH.o _).mono ?_;rintro e w2⟨rfl,rfl⟩;go_wp2_with fail
    go_ret;exact⟨Aq (by rw[HR.o]),e0⟩
   .have aL:((mn:Int)==1)=false:=by simp;omega
    have HR:=Aa (show Ky pn mn ml=(ml.length==mn&&ml.all fun x=>decide (0<=x)&&decide (x<pn)) by rw[aA.o,if_neg ac,θe]);clear hm1 aA;by_cases hlen:ml.length=mn
    .have aQ:((ml.length:Int)==(mn:Int))=true:=by simp;omega
     have aP:((ml.length:Int) !=(mn:Int))=false:=aq;have aJ:=Aa (show Ky pn mn ml=ml.all fun x=>decide (0<=x)&&decide (x<pn) by rw[HR.o,show(ml.length==mn)=true by simp[hlen],θe]);clear hlen HR;obtain⟨aB,D0,D1,D2⟩:=Of Dy d0 d1 d2;clear Dy d0 d1 d2;go_enter Tryz.func111,Tryz.ntmps111
     have d0:=D0.o;have d1:=D1.o;have d2:=D2.o;go_wp2_with fail
     clear aC;generalize w.alloc (.cells #[pn,mn,(ma,ml.length,mc)] 24)=w1 at *;clear D0 D1 D2;refine(aB.o _).mono ?_;rintro e w2⟨rfl,rfl⟩;go_wp2_with fail
     refine(aH.o _).mono ?_;rintro e w2⟨rfl,rfl⟩;go_wp2_with fail
     go_loopw [4,33] (fun _ j' wr=>∃j:Nat,j<=ml.length/\j'= .int .i64 j/\Hia (∀i y,i<j->ml[i]?=some y->0<=y/\y<pn)/\w1=wr) (fun _ j' _=>ml.length-(intOf j').toNat)
     case atStart=>exact⟨0,ac,rfl,Aa (fun i y h=>ac),rfl⟩
     case round=>
      obtain⟨j,hj,rfl,aG,rfl⟩:=hrel;by_cases hlt:j<ml.length
      .obtain⟨y,hy⟩:∃y,ml[j]?=some y:=⟨_,γ hlt⟩;obtain⟨b,o,rfl,hc⟩:=M3.o ac;have c1:=hc j y hy;by_cases hy0:0<=y/\y<pn
       .have HA:Hia (∀i z,i<j+1->ml[i]?=some z->0<=z/\z<pn):=Aa (fun i z hi hz=>by
         by_cases e:i=j
         .subst e;rw[hy]at hz;injection hz with hz;subst hz;exact hy0
         .exact aG.o i z ac hz)
        obtain⟨y0,y1⟩:=hy0;clear hc hy;go_wp2_with fail
        go_roundw
        case rel=>exact⟨j+1,ac,by go_num,HA,by first|trivial|rfl⟩
        case measure=>exact Ωm
       .have HF:=Aa (show Ky pn mn ml=false by
         rw[aJ.o,List.all_eq_false];refine⟨y,ι hy,?_⟩;simpa using hy0)
        have aK:y<0∨(0<=y/\(pn:Int)<=y):=ac;clear hc hy hy0;rcases aK with aK|⟨aK,hy2⟩
        all_goals
         go_wp2_with fail
         go_ret;exact⟨Aq HF.o.symm,e0⟩
      .obtain rfl:j=ml.length:=by omega
       have HT:=Aa (show Ky pn mn ml=true by
        rw[aJ.o,υ];intro y hy;obtain⟨i,hi,e⟩:=List.getElem_of_mem hy;have:=aG.o i y hi au;simp[this])
       go_wp2_with fail
       go_ret;exact⟨Aq HT.o.symm,e0⟩
    .have aQ:((ml.length:Int)==(mn:Int))=false:=by simp;omega
     have aP:((ml.length:Int) !=(mn:Int))=true:=aq;have aJ:=Aa (show Ky pn mn ml=false by rw[HR.o,show(ml.length==mn)=false by simp[hlen],Bool.false_and]);clear hlen HR;obtain⟨aB,D0,D1,D2⟩:=Of Dy d0 d1 d2;clear Dy d0 d1 d2;go_enter Tryz.func111,Tryz.ntmps111
     have d0:=D0.o;have d1:=D1.o;have d2:=D2.o;go_wp2_with fail
     clear aC;generalize w.alloc (.cells #[pn,mn,(ma,ml.length,mc)] 24)=w1 at *;clear D0 D1 D2;refine(aB.o _).mono ?_;rintro e w2⟨rfl,rfl⟩;go_wp2_with fail
     refine(aH.o _).mono ?_;rintro e w2⟨rfl,rfl⟩;go_wp2_with fail
     go_ret;exact⟨Aq aJ.o.symm,e0⟩
  .have aE:I6 pn=false:=by simpa using hpr
   rw[aE]at aA aD;have aH:=Aa aD;clear aD hpr aE;obtain⟨aB,D0,D1,D2⟩:=Of Dy d0 d1 d2;clear Dy d0 d1 d2;go_enter Tryz.func111,Tryz.ntmps111
   have d0:=D0.o;have d1:=D1.o;have d2:=D2.o;go_wp2_with fail
   clear aC;generalize w.alloc (.cells #[pn,mn,(ma,ml.length,mc)] 24)=w1 at *;clear D0 D1 D2;refine(aB.o _).mono ?_;rintro e w2⟨rfl,rfl⟩;go_wp2_with fail
   refine(aH.o _).mono ?_;rintro e w2⟨rfl,rfl⟩;go_wp2_with fail
   go_ret;exact⟨Aq (by rw[aA.o];simp),e0⟩
structure Bh(w:World)(b:Nat)(p m:Nat)(ml:List Int)(x:Nat):Prop where
 sh:Gg p m ml
 pr:I6 p=true
 gen:Dh p m (lw ml) x
 c0:w.cell? (b,0)=some (.int .i64 p)
 c1:w.cell? (b,1)=some (.int .i64 m)
 c2:∃v,w.cell? (b,2)=some v/\Ak w v ml
 c3:w.cell? (b,3)=some (.int .i64 ((p^m:Nat):Int))
 c4:∃v,w.cell? (b,4)=some v/\Ak w v (il (p^m-1) (KU p m ml x))
 c5:∃v f,w.cell? (b,5)=some v/\Ak w v (il (p^m) f)/\∀k,k<p^m-1->f (BN p m (lw ml) x k)=k
theorem Bh.ex{w w':World}{b p m:Nat}{ml:List Int}{x:Nat}(h:Bh w b p m ml x)(hx:Ex w w'):Bh w' b p m ml x:=by
 obtain⟨a1,a2,a3,c0,c1,⟨v2,c2,s2⟩,c3,⟨v4,c4,s4⟩,⟨v5,f,c5,s5,hf⟩⟩:=h;exact⟨a1,a2,a3,hx.cell c0,hx.cell c1,⟨v2,hx.cell c2,s2.ex hx⟩,hx.cell c3,⟨v4,hx.cell c4,s4.ex hx⟩,⟨v5,f,hx.cell c5,s5.ex hx,hf⟩⟩
def FD(p m:Int)(ml:List Int):Prop:=∃pn mn:Nat,p=pn/\m=mn/\Gg pn mn ml/\I6 pn=true/\Hc pn mn (lw ml)
structure FinS(w3 wz:World)(b g q:Nat)(e:TypeId)(c0 c1 c2 c3 c4 c5:Value)(ml:List Int):Prop where
 f0:wz.cell? (b,0)=some c0
 f1:wz.cell? (b,1)=some c1
 f2:wz.cell? (b,2)=some c2
 f3:wz.cell? (b,3)=some c3
 f4:wz.cell? (b,4)=some c4
 f5:wz.cell? (b,5)=some c5
 isl:Ak wz c2 ml
 own:AJ wz w3.heap.size e g q (iv fun _=>0)
 ex:Ex w3 wz
 lt:g<b
 off:∀B,c2.ownBlock=some B->B≠g
theorem Sl.other{w:World}{v:Value}{n size:Nat}{xs:List Value}(h:Sl w v n size xs){a:Addr}(ha:∀B,v.ownBlock=some B->B≠a.block)(u:Value):Sl (w.setCell a u) v n size xs:=by
 obtain⟨h1,c,cap,rfl,h3,h4,h5⟩:=h;refine⟨h1,c,cap,rfl,h3,h4,fun hn=>?_⟩;obtain⟨b,o,rfl,h6⟩:=h5 hn;refine⟨b,o,rfl,fun j x hx=>?_⟩;rw[World.cell?_setCell_other _ _ _ _ (by
   intro e;have:a.block=b:=cw;exact ha b rfl this.symm)]
 exact h6 j x hx
theorem Sn{w3 W:World}{g q:Nat}{e t:TypeId}{c0 c1 c2 c3 c4 c5:Value}{ml:List Int}(h1:Ak W c2 ml)(h2:AJ W w3.heap.size e g q (iv fun _=>0))(h3:Ex w3 W)(h4:∀B,c2.ownBlock=some B->B≠g):
  FinS w3 (W.alloc (.cells #[c0,c1,c2,c3,c4,c5] t)) W.heap.size g q e c0 c1 c2 c3 c4 c5 ml:=
 ⟨ag,ag,ag,ag,ag,ag,h1.ex ((Ex.refl _).alloc _),h2.alloc _,h3.alloc _,h2.lt.2,h4⟩
theorem PX{w w':World}{b b0:Nat}{e:TypeId}{g n:Nat}{c:Nat->Value}(h:AJ w b e g n c)(hg:w.grownBy w' (ζb (some (b0,0)) 0 0).ownBlock)(aA:g≠b0):AJ w' b e g n c:=
 World.ownsRow.kept h hg (.inr (by simpa[γu]using aA))
theorem Ke{w:World}{b:Nat}{e:TypeId}{v:Value}{ml:List Int}(h:w.ownsRow b e 1 v (0+ml.length) ([]++Aj ml)):Ak w v ml:=by
 rw[ύ,List.nil_append]at h;exact Sl.own h
def NewOut(p m:Int)(ml:List Int)(w':World)(r:Ending):Prop:=
 (∃(pn mn x b:Nat),p=pn/\m=mn/\r= .returned (.tuple #[(b,0),Ω])/\Bh w' b pn mn ml x/\1<=x/\x<pn^mn)∨
 (¬FD p m ml/\r= .returned (.tuple #[.pointer none,(1:Int)]))
theorem dy{P:Prop}(h:P:=by rw[<-aL];simp):P:=h
theorem dz{P:Prop}(h:P:=by rw[Nat.zero_add];exact h):P:=h
theorem FV(p m:Int)(ml:List Int)(mv:Value)(w:World)(bA:Ak w mv ml):
  Calls Tryz.prog 52 #[.agg #[p,m,mv]] w fun r w'=>NewOut p m ml w' r/\Ex w w':=by
 obtain⟨xb,aL⟩:=nA w.heap.size;have d0:(w.alloc (.cells #[p,m,mv] 24)).cell? (xb,0)=some (.int .i64 p):=dy;have d1:(w.alloc (.cells #[p,m,mv] 24)).cell? (xb,1)=some (.int .i64 m):=dy;have d2:(w.alloc (.cells #[p,m,mv] 24)).cell? (xb,2)=some mv:=dy;have e0:Ex w (w.alloc (.cells #[p,m,mv] 24)):=(Ex.refl _).alloc _;have aR:=Aa bA;have aS:=Aa (fun w' (h:Ak w' mv ml)=>MX p m ml mv w' h);have aG:=I8 p m;have D0:=Aa d0;have D1:=Aa d1;have D2:=Aa d2;clear d0 d1 d2 bA;by_cases hs:Ky p m ml=true
 .obtain⟨pn,mn,rfl,rfl,hf,aZ,ho⟩:=NV hs;rw[ho]at aG;rw[hs]at aS;have bF:=Aa aG;have HF:=Aa hf;have bO:=Aa aZ;have hq:=hf.q;have bE:=Aa (BC hf.p2 hf.m1);have bH:=Aa (fun w' (h:Ak w' mv ml)=>Hi pn mn ml mv w' hf h);have bG:Hia (∀w' v,Pg pn mn ml w' v↔((∃x,1<=x/\x<pn^mn/\Dh pn mn (lw ml) x/\Ak w' v (il (pn^mn-1) (KU pn mn ml x)))∨(¬Hc pn mn (lw ml)/\v= .slice none 0 0))):=Aa (fun _ _=>Iff.rfl);clear aG hf aZ ho hs;obtain⟨q,aN⟩:=nA (pn^mn);simp only[aN]at hq bF bE bH bG;have aK:=Aa aN;have hq1:1<q:=by rw[<-aN];exact BC HF.o.p2 HF.o.m1
  have hpq:pn<=q/\mn<=8:=⟨by rw[<-aN];have:=ϝ (show 0<pn by have:=HF.o.p2;omega) HF.o.m1;rwa[θw]at this,HF.o.m8⟩;clear aN;go_enter Tryz.func52,Tryz.ntmps52
  have d0:=D0.o;have d1:=D1.o;have d2:=D2.o;go_wp2_with fail
  clear aL D0 D1 D2;generalize w.alloc (.cells #[pn,mn,mv] 24)=w1 at *;refine(aS.o _ (aR.o.ex e0)).mono ?_;rintro e w2⟨rfl,aI⟩;have r0:=aI.cell d0;have r1:=aI.cell d1;have r2:=aI.cell d2;have e2:=e0.trans aI;clear d0 d1 d2 e0 aI;go_wp2_with fail
  refine(bF.o _).mono ?_;rintro e w3⟨rfl,rfl⟩;go_wp2_with fail
  refine(bH.o _ (aR.o.ex e2)).mono ?_;rintro e w3⟨gv,rfl,aU,aM⟩;have s0:=aM.cell r0;have s1:=aM.cell r1;have s2:=aM.cell r2;have e3:=e2.trans aM;clear r0 r1 r2 e2 aM;rcases (bG.o _ _).1 aU with⟨x,x1,x2,hgx,hgv⟩|⟨hno,rfl⟩
  .obtain⟨ga,gc,rfl,g1,g2,g3⟩:=hgv.open;obtain⟨gb,aF,rfl,g4⟩:=g3 (by rw[Ao];have:=bE.o;omega);rw[Ao]at *;have hE:=fun w=>AS (P:=Tryz.prog) w 22 3 (some ⟨gb,aF,none⟩) (q-1) gc Tryz.underlying22;have hqi:1<=(q:Int):=by omega
   go_wp2_with fail
   have aT:=Aa (aR.o.ex e3);have hln:ml.length<=8:=by
    have h1:=HF.o.len;have h2:=HF.o.m8;split at h1 <;> omega
   have k0:0<q:=ac
   go_region_held3 (fun w'=>w'.cell? (xb,0)=some (.int .i64 pn)/\w'.cell? (xb,1)=some (.int .i64 mn)/\w'.cell? (xb,2)=some mv/\Ex w w')
    (first
          | exact⟨s0,s1,s2,e3.drew⟩
          | exact⟨aB.cell s0,aB.cell s1,aB.cell s2,e3.trans aB⟩
          | exact⟨aB.cell s0,aB.cell s1,aB.cell s2,e3.drew.trans aB⟩
          | exact⟨(aH.trans aB).cell s0,(aH.trans aB).cell s1,(aH.trans aB).cell s2,e3.drew.trans (aH.trans aB)⟩
          | exact⟨(((Ex.refl w3).alloc (.cells #[] 3)).drew).cell s0,(((Ex.refl w3).alloc (.cells #[] 3)).drew).cell s1,(((Ex.refl w3).alloc (.cells #[] 3)).drew).cell s2,e3.trans (((Ex.refl w3).alloc (.cells #[] 3)).drew)⟩
          | (obtain⟨k0,k1,k2,k3⟩:=‹_/\_/\_/\Ex w _›;exact⟨aB.cell k0,aB.cell k1,aB.cell k2,k3.trans aB⟩)
          | (obtain⟨k0,k1,k2,k3⟩:=‹_/\_/\_/\Ex w _›;exact⟨((Ex.refl _).alloc _).cell k0,((Ex.refl _).alloc _).cell k1,((Ex.refl _).alloc _).cell k2,k3.trans ((Ex.refl _).alloc _)⟩))
    ((first
          | (refine Cq bp _ _ _ bp _ 3 (.int .i64 0) 1 8 Tryz.underlying22 Az rfl (by decide) _ 0 [] bp (Ag (Bm _ _) (by first|exact Ex.refl _|exact(Ex.refl _).drew|exact aB|exact Ex.trans (Ex.refl _).drew aB)) _ ml.length (Aj ml) bp (aR.o.ex (by first|exact(e3.alloc _).drew|exact(e3.drew.alloc _)|assumption|exact(‹_/\_/\_/\Ex w _›).2.2.2)) (by intro u hu;obtain⟨z,_,rfl⟩:=ψ.1 hu;rfl) ai ac (by first|(simp;done)|omega|exact Nat.le_trans ag aB.size) ?_;intro v8 w8 aC aP bK;obtain⟨va,aA,bI⟩:=Ad aC;subst bI;first|(have aB:=Ex.grown ((Ex.refl _).alloc _).drew (Bm _ _).drew (ζ _) aP)|(have aB:=Ex.grown (((Ex.refl _).alloc _).drew.trans aB) (Ag (Bm _ _) ((Ex.refl _).drew.trans aB)) (ζ _) aP)|(have aB:=Ex.grown ((Ex.refl _).alloc _) (Bm _ _) (ζ _) aP))
          | (refine E4 22 3 (.int .i64 0) 8 Tryz.underlying22 Az rfl q ac ai ?_;intro w6 aD aB;have aH:=aB;go_simp)))
   all_goals
    first
        | (have FN:FinS w3 (w6.alloc (.cells #[.int .i64 pn,.int .i64 mn,.slice va ml.length aA,.int .i64 q,.slice (some ⟨gb,aF,none⟩) (q-1) gc,.slice (some ⟨w8.heap.size,0,none⟩) q q] 164)) w6.heap.size w8.heap.size q 3 (.int .i64 pn) (.int .i64 mn) (.slice va ml.length aA) (.int .i64 q) (.slice (some ⟨gb,aF,none⟩) (q-1) gc) (.slice (some ⟨w8.heap.size,0,none⟩) q q) ml:=Sn ((by have:=Ke aC;rwa[ύ]at this:Ak w8 (.slice va ml.length aA) ml).ex aH) (aD.mono (‹Ex w3 w8›).size) ((‹Ex w3 w8›).trans aH) (fun B h=>κg (aC.lt B dz).2)
           generalize w6.alloc (.cells #[pn,mn,(va,ml.length,aA),q,.slice (some (gb,aF)) (q-1) gc,.slice (some (w8.heap.size,0)) q q] 164)=wz at FN ⊢;generalize w6.heap.size=b at FN ⊢;generalize w8.heap.size=g at FN ⊢)
        | (have FN:FinS w3 (w8.alloc (.cells #[.int .i64 pn,.int .i64 mn,.slice va ml.length aA,.int .i64 q,.slice (some ⟨gb,aF,none⟩) (q-1) gc,.slice (some ⟨w3.heap.size,0,none⟩) q q] 164)) w8.heap.size w3.heap.size q 3 (.int .i64 pn) (.int .i64 mn) (.slice va ml.length aA) (.int .i64 q) (.slice (some ⟨gb,aF,none⟩) (q-1) gc) (.slice (some ⟨w3.heap.size,0,none⟩) q q) ml:=Sn (by have:=Ke aC;rwa[ύ]at this:Ak w8 (.slice va ml.length aA) ml) (PX (AJ.alloc (show AJ w6 w3.heap.size 3 w3.heap.size q (iv fun _=>0) from aD) _) aP (κg aD.lt.2)) ((Ex.refl w3).drew.trans (aH.trans aB)) (fun B h=>Nat.ne_of_gt (Nat.lt_of_lt_of_le aD.lt.2 (aC.lt B dz).1))
           generalize w8.alloc (.cells #[pn,mn,(va,ml.length,aA),q,.slice (some (gb,aF)) (q-1) gc,.slice (some (w3.heap.size,0)) q q] 164)=wz at FN ⊢;generalize w8.heap.size=b at FN ⊢;generalize w3.heap.size=g at FN ⊢)
        | (have FN:FinS w3 (w8.alloc (.cells #[.int .i64 pn,.int .i64 mn,.slice va ml.length aA,.int .i64 q,.slice (some ⟨gb,aF,none⟩) (q-1) gc,.slice (some ⟨(w3.heap.size+1),0,none⟩) q q] 164)) w8.heap.size (w3.heap.size+1) q 3 (.int .i64 pn) (.int .i64 mn) (.slice va ml.length aA) (.int .i64 q) (.slice (some ⟨gb,aF,none⟩) (q-1) gc) (.slice (some ⟨(w3.heap.size+1),0,none⟩) q q) ml:=Sn (by have:=Ke aC;rwa[ύ]at this:Ak w8 (.slice va ml.length aA) ml) (PX (show AJ w6 w3.heap.size 3 (w3.heap.size+1) q (fun _=> .int .i64 0) by have:=aD.mono (b':=w3.heap.size) ag;simpa using this) aP ac) aB (fun B h=>by
            have hs6:w3.heap.size+1<w6.heap.size:=by have:=aD.lt.2;simpa using this
            have h':(ζb va (0+ml.length) aA).ownBlock=some B:=dz;rcases bK with e|e
            .rw[e]at h';injection h' with h';have h':w3.heap.size=B:=h';omega
            .rw[e]at h';injection h' with h';omega)
           generalize w8.alloc (.cells #[pn,mn,(va,ml.length,aA),q,.slice (some (gb,aF)) (q-1) gc,.slice (some ((w3.heap.size+1),0)) q q] 164)=wz at FN ⊢;generalize w8.heap.size=b at FN ⊢;generalize (w3.heap.size+1)=g at FN ⊢)
   all_goals
    have FF:=Aa FN;obtain⟨f0,f1,f2,f3,f4,f5,fi,fo,fe,fl,aQ⟩:=FN;obtain⟨aV,bU,G4,bT,bP,bR,bS⟩:=To aQ fi g4 hgv (fun k=>(by rw[<-aK.o];exact Dq HF.o.p2 HF.o.m1 x k:BN pn mn (lw ml) x k<q)) (show ∀i j,j<q-1->i<j->BN pn mn (lw ml) x i≠BN pn mn (lw ml) x j from fun i j hj bJ=>hgx.inj HF.o.p2 HF.o.m1 (by rw[aK.o];exact hj) bJ) hgx;have bB:w3.heap.size<=g:=fo.lt.1;have HWG:=Aa bB;have bV:=Aa e3;clear aU hgx hgv g4 fi e3 bB s0 s1 s2 aT aQ;go_wp2_with fail
    go_loopw [7,8,39] (fun _ _ j' wr=>∃(j:Nat) (f:Nat->Int),j<=q-1/\j'= .int .i64 j/\Hia (AJ wr w3.heap.size 3 g q (iv f))/\Hia (∀i,i<j->f (BN pn mn (lw ml) x i)=i)/\Hia (∀k u,wz.cell? ⟨b,k,none⟩=some u->wr.cell? ⟨b,k,none⟩=some u)/\Hia (Ak wr (.slice va ml.length aA) ml)/\Ex w3 wr) (fun _ _ j' _=>q-(intOf j').toNat)
    case atStart=>exact⟨0,fun _=>0,ac,rfl,Aa fo,Aa (fun i h=>ac),Aa (fun k u h=>h),bU,fe⟩
    case round=>
     clear fo fe;obtain⟨j,f,hj,rfl,aE,bC,aJ,aO,hx⟩:=hrel;have b5:=aJ.o 5 _ f5;by_cases hlt:j<q-1
     .have hc:=hx.cell (G4.o j _ (AT hlt _));have aX:=bP.o j;have HY:Hia (KU pn mn ml x j=((BN pn mn (lw ml) x j:Nat):Int)):=Aa (rfl);rw[HY.o]at hc;obtain⟨y,hy⟩:=nA (BN pn mn (lw ml) x j);have bD:=Aa hy;rw[hy]at hc aX;have hcy:=aE.o.cell aX;have hfy:=aE.o.frz y;have HS:=Aa (aE.o.set y (.int .i64 j));have bN:=Aa (aE.o.exSet (ζ _) hx y (.int .i64 j));have bW:Hia (∀k u,wz.cell? ⟨b,k,none⟩=some u->(wr.setCell (g,y) (.int .i64 j)).cell? ⟨b,k,none⟩=some u):=Aa (fun k u h=>by
       rw[World.cell?_setCell_other _ _ _ _ (by intro e;injection e;omega)];exact aJ.o k u h)
      have bQ:Hia (Ak (wr.setCell (g,y) (.int .i64 j)) (.slice va ml.length aA) ml):=Aa (Sl.other aO.o (fun B h=>aV.o B h) _);clear hy;go_wp2_with fail
      go_roundw
      case rel=>
       refine⟨j+1,Ay f y j,ac,by go_num,Aa (by have:=HS.o;rwa[CF]at this),Aa (fun i hi=>?_),bW,bQ,bN.o⟩;by_cases e:i=j
       .subst e;rw[bD.o,Ab]
       .rw[Ac _ _ (fun h=>bR.o i j hlt ac (h.trans bD.o.symm))];exact bC.o i ac
      case measure=>exact Ωm
     .have hjq:j=q-1:=by omega
      have HR:Hia (Bh wr b pn mn ml x):=Aa ⟨HF.o,bO.o,bS.o,aJ.o 0 _ f0,aJ.o 1 _ f1,⟨_,aJ.o 2 _ f2,aO.o⟩,by rw[aK.o];exact aJ.o 3 _ f3,
       ⟨_,aJ.o 4 _ f4,by rw[aK.o];exact bT.o.ex hx⟩,⟨_,f,b5,by rw[aK.o];exact aE.o.isl,fun k hk=>bC.o k (by rw[aK.o]at hk;omega)⟩⟩
      clear hlt b5;go_wp2_with fail
      go_ret2;exact⟨.inl ⟨pn,mn,x,b,rfl,rfl,rfl,HR.o,x1,by rw[aK.o];exact x2⟩,bV.o.trans hx⟩
  .have aW:Hia (¬FD pn mn ml):=Aa (fun ⟨a,b,e1,e2,_,_,h⟩=>by
    have bM:pn=a:=ac;have bL:mn=b:=ac;subst bM;subst bL;exact hno h)
   clear aU hno;have hE:=fun w=>AS (P:=Tryz.prog) w 22 3 none 0 0 Tryz.underlying22;go_wp2_with fail
   go_ret2;exact⟨.inr ⟨aW.o,rfl⟩,e3⟩
 .have aY:Ky p m ml=false:=by simpa using hs
  have aW:Hia (¬FD p m ml):=Aa (fun ⟨a,b,e1,e2,h1,h2,_⟩=>by
   rw[e1,e2]at hs;exact hs (Uw h1 h2).1)
  rw[aY]at aS;clear hs aY aG;go_enter Tryz.func52,Tryz.ntmps52
  have d0:=D0.o;have d1:=D1.o;have d2:=D2.o;go_wp2_with fail
  clear aL D0 D1 D2;generalize w.alloc (.cells #[p,m,mv] 24)=w1 at *;refine(aS.o _ (aR.o.ex e0)).mono ?_;rintro e w2⟨rfl,aI⟩;go_wp2_with fail
  go_ret2;exact⟨.inr ⟨aW.o,rfl⟩,e0.trans aI⟩
end Go.Proofs.YtehieobniamagaaGreat
