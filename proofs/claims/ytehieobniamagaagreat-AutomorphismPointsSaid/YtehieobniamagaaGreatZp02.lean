/- Walks of the package field: multiply. -/
import Derived.Deep.RegionHeld3
import Derived.Laws.CopyOwn
import Derived.Deep.RegionLaw
import Derived.StillTailTactics
import Derived.Test.YtehieobniamagaaGreatZp01
namespace Go.Proofs.YtehieobniamagaaGreat
set_option linter.unusedVariables false
set_option linter.unusedSimpArgs false
set_option maxRecDepth 100000
set_option maxHeartbeats 4000000
section
open Go.RowKit
structure Iz(p m:Nat)(ml:List Int):Prop where
 p2:2<=p
 m1:1<=m
 m8:m<=8
 q:p^m<=256
 len:ml.length=if m=1 then 0 else m
 rng:∀x∈ml,0<=x/\x<p
def lw(ml:List Int):Vc:=fun j=>ml.getD j 0
theorem Iz.p256{p m:Nat}{ml:List Int}(h:Iz p m ml):p<=256:=by
 have h1:p^1<=p^m:=Nat.pow_le_pow_right (by have:=h.p2;omega) h.m1;have:=h.q;rw[Nat.pow_one]at h1;omega
def Bf(p m:Nat)(low x y:Vc)(k:Nat):Vc:=fun j=>DJ m low x (m-k) (fun t=>y (k+t)) j%(p:Int)
theorem V2(p m:Nat)(low x y:Vc)(j:Nat):Bf p m low x y m j=0:=by
 unfold Bf;rw[Nat.sub_self];simp[DJ]
theorem V4{p:Nat}(hp:1<=p)(m:Nat)(low x y:Vc)(k j:Nat):0<=Bf p m low x y k j/\Bf p m low x y k j<p:=
 ⟨Int.emod_nonneg _ ac,Int.emod_lt_of_pos _ ac⟩
theorem TS{p m:Nat}(low x y:Vc){k j:Nat}(hk:k<m)(hj:j<m):
  Bf p m low x y k j=((if j=0 then 0 else Bf p m low x y (k+1) (j-1))+((p:Int)-Bf p m low x y (k+1) (m-1))*low j+y k*x j)%(p:Int):=by
 unfold Bf;rw[show m-k=(m-(k+1))+1 by omega,DJ];have e:(fun t=>y (k+(t+1)))=fun t=>y (k+1+t):=by funext t;rw[show k+(t+1)=k+1+t by omega]
 rw[e];generalize DJ m low x (m-(k+1)) (fun t=>y (k+1+t))=H;unfold sX;show((if j<m then(if j=0 then 0 else H (j-1))-H (m-1)*low j else 0)+y (k+0)*x j)%(p:Int)=_
 rw[if_pos hj,Nat.add_zero];refine DL ?_ rfl;have h1:((if j=0 then 0 else H (j-1))-H (m-1)*low j)%(p:Int)=((if j=0 then 0 else H (j-1))+((p:Int)-H (m-1))*low j)%(p:Int):=by
  refine BZ.2 ⟨- low j,?_⟩;generalize (if j=0 then 0 else H (j-1))=z
  grind
 rw[h1];refine DL ?_ (EW (GN rfl (Int.emod_emod_of_dvd _ (Int.dvd_refl _)).symm) rfl);split
 .rfl
 .exact(Int.emod_emod_of_dvd _ (Int.dvd_refl _)).symm
theorem V5{p:Nat}(hp:1<=p)(m:Nat)(low:Vc)(x y:Nat):DN p m (Bf p m low (AS p m x) (AS p m y) 0)=((Ar p m low x y:Nat):Int):=by
 unfold Ar rep El;rw[Int.toNat_of_nonneg (CI (fun j=>⟨Int.emod_nonneg _ ac,Int.emod_lt_of_pos _ ac⟩) m).1];refine Dh m fun j _=>?_;unfold Bf;rw[Nat.sub_zero,Mp];simp only[Nat.zero_add]
def Vg(o:Nat->Int):Nat->Int:=fun j=>if j=0 then 0 else o (j-1)
theorem LD(n:Nat)(o:Nat->Int):splice (vs (n+1) (iv o)) 1 (vs n (iv o))=vs (n+1) (iv fun j=>if j=0 then o 0 else o (j-1)):=by
 unfold splice;apply List.ext_getElem?;intro j;rcases j with _|j
 .simp[vs,iv,List.range_succ_eq_map]
 .by_cases hj:j<n
  .simp[vs,iv,hj,List.getElem?_append]
  .simp[vs,iv,hj,List.getElem?_append];omega
theorem bj{P:Prop}(h:P:=by rfl):P:=h
theorem b8{P:Prop}(h:P:=by rw[<-aE];simp):P:=h
theorem c9{P:Prop}(h:P:=by omega):P:=h
theorem GH(p m x y:Nat)(ml:List Int)(mv:Value)(w:World)(hf:Iz p m ml)(aU:Ak w mv ml)(hx:x<p^m)(hy:y<p^m):
  Calls Tryz.prog 166 #[.agg #[.int .i64 p,.int .i64 m,mv],.int .i64 x,.int .i64 y] w fun r w'=>r= .returned (.int .i64 (Ar p m (lw ml) x y))/\Ex w w':=by
 obtain⟨p2,m1,m8,q,aL,aK⟩:=hf;have p256:=Iz.p256 ⟨p2,m1,m8,q,aL,aK⟩;obtain⟨xb,aE⟩:=nA w.heap.size;have HX:=Aa aE;go_enter Tryz.func166,Tryz.ntmps166
 go_wp2_with fail
 try simp only[aE]
 have d0:(w.alloc (.cells #[.int .i64 p,.int .i64 m,mv] 24)).cell? ⟨xb,0,none⟩=some (.int .i64 p):=b8;have d1:(w.alloc (.cells #[.int .i64 p,.int .i64 m,mv] 24)).cell? ⟨xb,1,none⟩=some (.int .i64 m):=b8;have d2:(w.alloc (.cells #[.int .i64 p,.int .i64 m,mv] 24)).cell? ⟨xb,2,none⟩=some mv:=b8;have e0:Ex w (w.alloc (.cells #[.int .i64 p,.int .i64 m,mv] 24)):=(Ex.refl _).alloc _;generalize w.alloc (.cells #[.int .i64 p,.int .i64 m,mv] 24)=w1 at *;clear aE
 go_region_held3 (fun w'=>w'.cell? ⟨xb,0,none⟩=some (.int .i64 p)/\w'.cell? ⟨xb,1,none⟩=some (.int .i64 m)/\w'.cell? ⟨xb,2,none⟩=some mv/\Ex w w')
  (first|exact⟨d0,d1,d2,e0.drew⟩|exact⟨hx1.cell d0,hx1.cell d1,hx1.cell d2,e0.drew.trans hx1⟩|(obtain⟨k0,k1,k2,k3⟩:=‹_/\_/\_/\Ex w _›;exact⟨hx1.cell k0,hx1.cell k1,hx1.cell k2,k3.trans hx1⟩))
  ((go_at_call 205;refine(MD _ _ _ _ ac ac ac ac).mono ?_;rintro e w2⟨v,rfl,hs,hx1⟩))
 have aT:=‹Ak _ _ (il m (AS p m x))›.ex hx1;have aS:=hs;obtain⟨k0,k1,k2,k3⟩:=‹_/\_/\_/\Ex w _›;clear d0 d1 d2 e0 hx1;obtain⟨aa,ca,rfl,a1,a2,a3⟩:=aT.open;obtain⟨ab,cb,rfl,b1,b2,b3⟩:=aS.open;have aF:=aU.ex k3;obtain⟨am,cm,rfl,c1,c2,c3⟩:=aF.open;simp only[Aj]at *;obtain⟨aab,aao,rfl,a4⟩:=a3 ac;obtain⟨abb,abo,rfl,b4⟩:=b3 ac;have A4:=Aa (fun j (hj:j<m)=>a4 j _ (AH hj _));have B4:=Aa (fun j (hj:j<m)=>b4 j _ (AH hj _));have C3:=Aa c3;have aW:=Aa aL;unfold maxLen at a2 b2 c2;have bU:=Aa (show ∀j,0<=lw ml j/\lw ml j<p from fun j=>by
  unfold lw;rw[List.getD_eq_getElem?_getD];rcases h:ml[j]? with _|z
  .simp;omega
  .exact aK z (List.mem_of_getElem? h))
 have bN:=Aa (Ed (show 1<=p by omega) m x);have bM:=Aa (Ed (show 1<=p by omega) m y);clear a3 b3 c3 a4 b4 aT aS aF aU aK aL;go_wp2_with (at_make;refine Ap _ rfl _ _ 22 rfl 3 (.int .i64 0) 8 Tryz.underlying22 Aw rfl _ m rfl rfl rfl ac ai ?_)
 intro w4 aA aH;obtain⟨g,hg⟩:=nA w2.heap.size;have aC:AG w4 g 3 g m (iv (Bf p m (lw ml) (AS p m x) (AS p m y) m)):=by
  rw[hg]at aA;exact aA.congr fun j _=>by unfold iv;rw[V2]
 have HG:=Aa hg;have bV:=Aa (fun (wr:World) (h:AG wr g 3 g m (iv (Bf p m (lw ml) (AS p m x) (AS p m y) 0)))=>h.isl);have bW:=Aa (V5 (show 1<=p by omega) m (lw ml) x y);have bP:=Aa (fun k j (hk:k<m) (hj:j<m)=>TS (p:=p) (lw ml) (AS p m x) (AS p m y) hk hj);have aN:=Aa (fun k j=>V4 (show 1<=p by omega) m (lw ml) (AS p m x) (AS p m y) k j);have bK:xb<g:=by rw[<-hg];exact World.block_lt_of_cell? _ _ k0
 simp only[hg];clear aA hg;generalize Bf p m (lw ml) (AS p m x) (AS p m y)=H at *;have q0:=aH.cell k0;have q1:=aH.cell k1;go_wp2_with fail
 clear q0 q1
 go_loopw [10] (fun i' wr=>∃k:Nat,k<=m/\i'= .int .i64 ((k:Int)-1)/\AG wr g 3 g m (iv (H k))/\Ex w2 wr) (fun i' _=>(intOf i'+1).toNat)
 case atStart=>exact⟨m,ac,rfl,aC,aH⟩
 case round=>
  clear aC aH;obtain⟨k,hk,rfl,aA,aD⟩:=hrel;have r0:=aD.cell k0;have r1:=aD.cell k1;have r2:=aD.cell k2;rcases k with _|k
  .have aR:=bV.o _ aA;have HQ:=Aa aR;have bR:=Aa (show ∀z∈il m (H 0),0<=z/\z<p from fun z hz=>by
    obtain⟨j,_,rfl⟩:=List.mem_map.1 hz;exact aN.o 0 j)
   have bS:=Aa (show p^(il m (H 0)).length<=65536 by rw[Aj];omega);have bO:=Aa (show vl p (il m (H 0))=((Ar p m (lw ml) x y:Nat):Int) by rw[Sq];exact bW.o);clear aR aA;go_wp2_with fail
   refine(M9 _ _ _ _ HQ.o ac ac bR.o bS.o).mono ?_;rintro e w9⟨rfl,rfl⟩;go_wp2_with fail
   go_ret;exact⟨Af bO.o,k3.trans aD⟩
  .have aV:=aA.cell (show m-1<m by omega);have bL:wr.cell? ⟨g,m-1,none⟩=some (.int .i64 (H (k+1) (m-1))):=aV;have e:(((k+1:Nat)):Int)-1=k:=by omega
   rw[e];clear aV e;have aQ:Below g w2 wr:=by rw[<-HG.o];exact aD
   have bG:=Aa (show m=(m-1)+1 by omega);have HO:=Aa aA;have aM:=Aa aD;have aX:=Aa aQ;clear aA aD aQ;go_wp2_with fail
   have i1:(1:Int)<=(m:Int):=ac;have i3:(0:Int)<=(m:Int)-1:=ac;have i4:(m:Int)-1<=(m:Int):=ac;have i5:((m:Int)-1).toNat=m-1:=ac;have i7:IntKind.i64.wrap ((m:Int)-1)=(m:Int)-1:=IntWalk.i64_in _ ac;have HP:=Aa (show wr.drew.heap[g]?=some (.cells (vs m (iv (H (k+1)))).toArray 3 (0,0)) from HO.o.drew.heap);have HQ:=Aa (show ∀(j:Nat) (v:Value),(vs (m-1) (iv (H (k+1))))[j]?=some v->wr.drew.cell? ((⟨g,0,none⟩:Addr).add j)=some v from fun j v h=>by
    have hj:j<m-1:=by have:=(List.getElem?_eq_some_iff.1 h).1;rwa[Bm]at this
    rw[Dy hj]at h;injection h with h;have h2:(⟨g,0,none⟩:Addr).add j=⟨g,j,none⟩:=dd;rw[h2,<-h];exact HO.o.drew.cell ac)
   have HN:=Aa (show(vs (m-1) (iv (H (k+1)))).length=Nat.min (m-1) (m-1) by rw[Bm];exact(Nat.min_self _).symm);have bF:=Aa (show 0<(vs (m-1) (iv (H (k+1)))).length->¬m=1 by rw[Bm];omega);have HF:=Aa (show 1+(vs (m-1) (iv (H (k+1)))).length<=(vs m (iv (H (k+1)))).length by rw[Bm,Bm];omega);have bE:=Aa (show ∀v∈vs (m-1) (iv (H (k+1))),v.oneCell'=true from fun v h=>by
    obtain⟨j,_,rfl⟩:=List.mem_map.1 h;rfl)
   have bH:=Aa (show Below g w2 wr.drew from Below.drew aX.o)
   go_region_law ((go_loud (refine step_copy_splice bj _ _ _ _ bj 3 Tryz.underlying22 ah _ _ _ _ _ _ bj bj g 1 (vs m (iv (H (k+1)))) 3 HP.o (vs (m-1) (iv (H (k+1)))) HN.o (fun h=>⟨if_neg (bF.o h),_,rfl,HQ.o⟩) HF.o bE.o g w2 bH.o (Nat.le_refl _) ?_);intro w5 hw5 hb5))
   all_goals
    generalize (if m=1 then some (⟨g,0,none⟩:Addr) else some ⟨g,1,none⟩)=sd;clear i1 i3 i4 i5 i7 HP HQ HF bE bH bF HN aX;have aG:Hia (AG w5 g 3 g m (iv fun j=>if j=0 then H (k+1) 0 else H (k+1) (j-1))):=by
     apply Aa;refine AG.of_heap ?_ (Nat.le_refl _) ai;have h:=hw5.out;rw[bG.o,Nat.add_sub_cancel,LD]at h;rw[bG.o];exact h
    have bA:Hia (Ex w2 w5):=Aa (by rw[<-HG.o]at hb5;exact hb5);clear hw5 hb5;have bD:=Aa (aG.o.set 0 (.int .i64 0));have aZ:=Aa (aG.o.exSet (by rw[HG.o];exact Nat.le_refl _) bA.o 0 (.int .i64 0));have f5:=aG.o.frz 0;have m0:0<m:=by omega
    have m0':(0:Int)<(m:Int):=ac;have c5:=aG.o.cell (show 0<m by omega);clear r0 r1 r2 HO aM bL;go_wp2_with fail
    generalize w5.setCell ⟨g,0,none⟩ (.int .i64 0)=w6 at *;have bC:Hia (AG w6 g 3 g m (iv fun t=>if t<0 then H k t else Vg (H (k+1)) t)):=by
     apply Aa;have:=bD.o;rw[Cy]at this;refine this.icongr fun j hj=>?_;unfold Ax Vg;rw[if_neg (show ¬j<0 by omega)];by_cases h:j=0
     .rw[if_pos h,if_pos h]
     .rw[if_neg h,if_neg h];exact if_neg h
    clear aG bA bD f5 c5
    go_loopw [12,13,54] (fun _ _ j' wz=>∃j:Nat,j<=m/\j'= .int .i64 j/\Hia (AG wz g 3 g m (iv fun t=>if t<j then H k t else Vg (H (k+1)) t))/\Ex w2 wz) (fun _ _ j' _=>m-(intOf j').toNat)
    case atStart=>exact⟨0,ac,rfl,bC,aZ.o⟩
    case round=>
     clear bC aZ;obtain⟨j,hj,rfl,HO,aB⟩:=hrel;have r0:=aB.cell k0;have r1:=aB.cell k1;have r2:=aB.cell k2;by_cases hlt:j<m
     .have hoj:wr.cell? ⟨g,j,none⟩=some (.int .i64 (Vg (H (k+1)) j)):=by
       have h:=HO.o.cell hlt;rw[h];unfold iv;simp
      have hfj:=HO.o.frz j;have ha:=aB.cell (A4.o j hlt);have hb:=aB.cell (B4.o k ac);have Bf:=bP.o k j ac hlt;have HS:Hia ((Vg (H (k+1)) j+((p:Int)-H (k+1) (m-1))*lw ml j+AS p m y k*AS p m x j)%(p:Int)=H k j):=Aa (by rw[Bf];rfl);obtain⟨t1,t2⟩:=aN.o (k+1) (m-1);obtain⟨l1,l2⟩:=bU.o j;obtain⟨u1,u2⟩:=bN.o j;obtain⟨v1,v2⟩:=bM.o k;have bJ:0<=Vg (H (k+1)) j/\Vg (H (k+1)) j<p:=by
       unfold Vg;split
       .omega
       .exact aN.o _ _
      obtain⟨s1,s2⟩:=bJ;have bB:=Aa (fun z=>HO.o.set j (.int .i64 z));have aY:=Aa (fun z=>HO.o.exSet (by rw[HG.o];exact Nat.le_refl _) aB j (.int .i64 z));have aO:=Aa (show ¬1<m->lw ml j=0 from fun h=>by
       unfold lw;have hl:=aW.o;rw[if_pos ac]at hl;rw[List.eq_nil_of_length_eq_zero hl];rfl)
      have aP:=Aa (show 1<m->∃b o,am=some ⟨b,o,none⟩/\wr.cell? ⟨b,o+j,none⟩=some (.int .i64 (lw ml j))/\j<ml.length from fun h=>by
       have hl:=aW.o;rw[if_neg ac]at hl;obtain⟨b,o,e,hc⟩:=C3.o ac;refine⟨b,o,e,aB.cell (hc j _ ?_),ac⟩;unfold lw;rw[List.getD_eq_getElem?_getD,List.getElem?_eq_getElem ac];rfl)
      generalize Vg (H (k+1)) j=sj at *;generalize H (k+1) (m-1)=tp at *;generalize lw ml j=lj at *;generalize AS p m x j=xj at *;generalize AS p m y k=yk at *;have p1:0<=((p:Int)-tp)*lj:=Int.mul_nonneg ac l1;have p3:((p:Int)-tp)*lj<=65536:=by
       have:=Int.mul_le_mul (show(p:Int)-tp<=256 by omega) (show lj<=256 by omega) l1 ac;omega
      have p4:0<=yk*xj:=Int.mul_nonneg v1 u1;have p5:yk*xj<=65536:=by
       have:=Int.mul_le_mul (show yk<=256 by omega) (show xj<=256 by omega) u1 ac;omega
      have hkm:k<m:=ac;clear Bf hk bK;by_cases hm1:1<m
      .obtain⟨bb,oo,rfl,hcm,hjl⟩:=aP.o hm1;clear aP aO;go_wp2_with fail
       have w1:IntKind.i64.wrap ((p:Int)-tp)=(p:Int)-tp:=IntWalk.i64_in _ ac;have bI:IntKind.i64.wrap (((p:Int)-tp)*lj)=((p:Int)-tp)*lj:=IntWalk.i64_in _ ac;have w3:IntKind.i64.wrap (sj+((p:Int)-tp)*lj)=sj+((p:Int)-tp)*lj:=IntWalk.i64_in _ ac;have aJ:IntKind.i64.wrap (yk*xj)=yk*xj:=IntWalk.i64_in _ ac;have aI:IntKind.i64.wrap (sj+((p:Int)-tp)*lj+yk*xj)=sj+((p:Int)-tp)*lj+yk*xj:=IntWalk.i64_in _ ac;have w6:(sj+((p:Int)-tp)*lj+yk*xj).tmod (p:Int)=(sj+((p:Int)-tp)*lj+yk*xj)%(p:Int):=Int.tmod_eq_emod_of_nonneg ac;have p0:¬p=0:=c9
       go_still_tail 27,ah
       change wpList _ _ _ _ _ wr.drew
       clear w1 bI w3 aJ aI w6;go_wp2_with fail
       go_roundw
       case rel=>
        refine⟨j+1,ac,by go_num,?_,(aY.o _).drew⟩;have h:=(bB.o ((sj+((p:Int)-tp)*lj+yk*xj)%(p:Int))).drew;rw[Cy]at h;refine Aa (h.icongr fun t ht=>?_);unfold Ax;dsimp only;by_cases h1:t=j
        .subst h1;rw[if_pos rfl,if_pos ac,HS.o]
        .rw[if_neg h1];by_cases h2:t<j
         .rw[if_pos h2,if_pos ac]
         .rw[if_neg h2,if_neg ac]
       case measure=>simp[intOf];omega
      .obtain rfl:lj=0:=aO.o hm1;clear aP aO;have bQ:Hia ((sj+yk*xj)%(p:Int)=H k j):=Aa (by have:=HS.o;rwa[Int.mul_zero,Int.add_zero]at this);clear p1 p3;go_wp2_with fail
       have w1:IntKind.i64.wrap ((p:Int)-tp)=(p:Int)-tp:=IntWalk.i64_in _ ac;have w3:IntKind.i64.wrap sj=sj:=IntWalk.i64_in _ ac;have aJ:IntKind.i64.wrap (yk*xj)=yk*xj:=IntWalk.i64_in _ ac;have aI:IntKind.i64.wrap (sj+yk*xj)=sj+yk*xj:=IntWalk.i64_in _ ac;have w6:(sj+yk*xj).tmod (p:Int)=(sj+yk*xj)%(p:Int):=Int.tmod_eq_emod_of_nonneg ac;have p0:¬p=0:=c9
       go_still_tail 27,ah
       change wpList _ _ _ _ _ wr.drew
       clear w1 w3 aJ aI w6;go_wp2_with fail
       go_roundw
       case rel=>
        refine⟨j+1,ac,by go_num,?_,(aY.o _).drew⟩;have h:=(bB.o ((sj+yk*xj)%(p:Int))).drew;rw[Cy]at h;refine Aa (h.icongr fun t ht=>?_);unfold Ax;dsimp only;by_cases h1:t=j
        .subst h1;rw[if_pos rfl,if_pos ac,bQ.o]
        .rw[if_neg h1];by_cases h2:t<j
         .rw[if_pos h2,if_pos ac]
         .rw[if_neg h2,if_neg ac]
       case measure=>simp[intOf];omega
     .obtain rfl:j=m:=by omega
      have bT:=HO.o.icongr (h:=H k) fun t ht=>if_pos ht;clear HO;go_wp2_with fail
      go_roundw
      case rel=>exact⟨k,ac,rfl,bT,aB⟩
      case measure=>simp[intOf]
end
section
open Go.RowKit
def Jl(p m:Nat)(ml:List Int)(x:Nat):Nat->Int:=fun k=>((Bw p m (lw ml) x k:Nat):Int)
theorem IS(n:Nat)(f:Nat->Int):il (n+1) f=il n f ++ [f n]:=by simp[il,List.range_succ]
def H6(p m:Nat)(ml:List Int)(x k:Nat):Nat->Bool:=fun z=>decide (∃i,i<k/\Bw p m (lw ml) x i=z)
theorem ae{P:Prop}(h:P:=by decide):P:=h
theorem ak{P:Prop}(h:P:=by simp[Value.oneCell']):P:=h
theorem O6(p m x:Nat)(ml:List Int)(mv:Value)(w:World)(hf:Iz p m ml)(bD:Ak w mv ml)(hx:x<p^m):
  Calls Tryz.prog 165 #[.agg #[.int .i64 p,.int .i64 m,mv],.int .i64 ((p^m:Nat):Int),.int .i64 x] w fun r w'=>∃v L,r= .returned v/\J7 p m (lw ml) x L/\Ak w' v (il L (Jl p m ml x))/\Ex w w':=by
 have hp:=hf.p2;have hm:=hf.m1;have HF:=Aa hf;have bU:=Aa bD;have hq:=hf.q;have bA:1<p^m:=BK hp hm;have HL:=Aa (fun k=>CZ (low:=lw ml) hp hm x k);have HM:=Aa (fun (y:Nat) (w':World) (h:y<p^m) (h':Ak w' mv ml)=>GH p m y x ml mv w' hf h' h hx);have bR:=Aa (Ht.one (low:=lw ml) hp hm x);have bL:=Aa (fun k (h:Ht p m (lw ml) x k)=>h.len hp hm);have bP:=Aa (show Bw p m (lw ml) x 1=x by simp only[Bw];exact DR hp hm hx);clear hf bD hm;obtain⟨q,aT⟩:=nA (p^m);simp only[aT]at hq bA HL HM bL hx ⊢;have HQ:=Aa aT;clear aT;obtain⟨xb,aX⟩:=nA w.heap.size;have aP:=Aa aX;go_enter Tryz.func165,Tryz.ntmps165
 go_wp2_with (at_make;refine Ap _ rfl _ _ 168 rfl 4 (.bool false) 1 Tryz.underlying168 JF rfl _ q rfl rfl rfl ac ai ?_)
 intro w3 aL aS;clear aX;have d0:(w.alloc (.cells #[.int .i64 p,.int .i64 m,mv] 24)).cell? ⟨xb,0,none⟩=some (.int .i64 p):=by rw[<-aP.o];simp
 have d1:(w.alloc (.cells #[.int .i64 p,.int .i64 m,mv] 24)).cell? ⟨xb,1,none⟩=some (.int .i64 m):=by rw[<-aP.o];simp
 have d2:(w.alloc (.cells #[.int .i64 p,.int .i64 m,mv] 24)).cell? ⟨xb,2,none⟩=some mv:=by rw[<-aP.o];simp
 have d3:(w.alloc (.cells #[.int .i64 p,.int .i64 m,mv] 24)).heap.size=xb+1:=by rw[<-aP.o];simp
 have e0:Ex w (w.alloc (.cells #[.int .i64 p,.int .i64 m,mv] 24)):=(Ex.refl _).alloc _;generalize w.alloc (.cells #[.int .i64 p,.int .i64 m,mv] 24)=w1 at *;have o1:(w1.alloc (.cells #[.int .i64 1] 3)).ownsRow (xb+1) 3 1 (.slice (some ⟨xb+1,0,none⟩) 1 1) 1 (vs 1 (iv (Jl p m ml x))):=by
  have:=DQ w1 (.int .i64 1) 3;rw[d3]at this;exact this
 have e1:Ex w1 (w1.alloc (.cells #[.int .i64 1] 3)):=(Ex.refl _).alloc _;have g2:(w1.alloc (.cells #[.int .i64 1] 3)).heap.size=xb+2:=by simp[d3]
 generalize w1.alloc (.cells #[.int .i64 1] 3)=w2 at *;have o2:=Ai o1 aS;have aA:AG w3 (xb+1) 4 (xb+1+1) q (bv fun _=>false):=aL.mono ac;have bE:Ex w1 w3:=e1.trans aS;have f1:=aA.frz 1;have c1:=aA.cell bA;have q1:(1:Int)<(q:Int):=c9;have bH:=Aa (aA.set 1 (.bool true));have bN:=Aa (aA.exSet (a:=w1) ac bE 1 (.bool true));have bK:=Aa (Ad o2 (a:=⟨xb+1+1,1,none⟩) (by simp[Value.ownBlock]) (.bool true));clear aL aS o1 g2 o2 aA bE e1 w2;go_wp2_with fail
 generalize w3.setCell ⟨xb+1+1,1,none⟩ (.bool true)=w4 at *;have aW:Hia (AG w4 (xb+1) 4 (xb+1+1) q (bv (H6 p m ml x 1))):=Aa (by
  have:=bH.o;rw[PB]at this;refine this.bcongr fun j hj=>?_;unfold Ax H6;rw[Bool.eq_iff_iff];by_cases h:j=1
  .subst h;simp;rfl
  .simp[h];simp only[Bw];exact fun e=>h e.symm)
 clear bH f1 c1 w3;obtain⟨g,hg⟩:=nA (xb+1+1);have HG:=Aa (show xb+1<g by omega);rw[hg]at aW
 try simp only[hg]
 have bM:Hia (Value.ownBlock (.slice (some ⟨xb+1,0,none⟩) 1 1)≠some g):=Aa (by simp[Value.ownBlock];omega);clear hg
 go_loopw [7,9] (fun o' y' wr=>∃k:Nat,1<=k/\Hia (Ht p m (lw ml) x k)/\y'= .int .i64 ((Bw p m (lw ml) x k:Nat):Int)/\Hia (wr.ownsRow (xb+1) 3 1 o' k (vs k (iv (Jl p m ml x))))/\
  Hia (AG wr (xb+1) 4 g q (bv (H6 p m ml x k)))/\Hia (o'.ownBlock≠some g)/\Ex w1 wr) (fun o' _ _=>q-YK o')
 case atStart=>exact⟨1,ac,bR,by rw[bP.o],bK,aW,bM,bN.o⟩
 case round=>
  clear bK aW bM bN;obtain⟨k,aU,aN,rfl,aC,aB,bB,aF⟩:=hrel;have hkq:=bL.o k aN.o;have aD:=NG aC.o;have r0:=aF.cell d0;have r1:=aF.cell d1;have r2:=aF.cell d2;have aQ:=HL.o k;obtain⟨oa,aJ,ho,ho2,ho3⟩:=Fs aC.o aU;subst ho;have HY:=Aa (show Bw p m (lw ml) x (k+1)=Ar p m (lw ml) (Bw p m (lw ml) x k) x from rfl);obtain⟨y,hy⟩:=nA (Bw p m (lw ml) x k);have aG:=Aa hy;rw[hy]at aQ HY ⊢;by_cases h0:y=0
  .have aI:Hia (J7 p m (lw ml) x k):=Aa ⟨aU,by have:=HQ.o;omega,aN.o,.inl (by rw[aG.o];exact h0)⟩;have hb:((y:Int) !=0)=false:=by simp;omega
   have aH:=Aa (show Ak wr (.slice (some ⟨oa,0,none⟩) k aJ) (il k (Jl p m ml x)) by
    unfold Ak;rw[Aj,Ch];exact Sl.own aC.o)
   clear h0 hy aD;go_wp2_with fail
   go_ret;exact⟨_,k,rfl,aI.o,aH.o,e0.trans aF⟩
  .have hb:((y:Int) !=0)=true:=by simp;omega
   have aO:=aB.o.cell aQ;have bO:=aB.o.frz y;by_cases hs:H6 p m ml x k y=true
   .have aI:Hia (J7 p m (lw ml) x k):=Aa ⟨aU,by have:=HQ.o;omega,aN.o,.inr (by
     unfold H6 at hs;obtain⟨i,hi,e⟩:=of_decide_eq_true hs;exact⟨i,hi,by rw[e,aG.o]⟩)⟩
    have aM:wr.cell? ⟨g,y,none⟩=some (.bool true):=by rw[aO];unfold bv;rw[hs]
    have aH:=Aa (show Ak wr (.slice (some ⟨oa,0,none⟩) k aJ) (il k (Jl p m ml x)) by
     unfold Ak;rw[Aj,Ch];exact Sl.own aC.o)
    clear h0 hy aD aO hs;go_wp2_with fail
    go_ret;exact⟨_,k,rfl,aI.o,aH.o,e0.trans aF⟩
   .have aZ:H6 p m ml x k y=false:=by simpa using hs
    have aM:wr.cell? ⟨g,y,none⟩=some (.bool false):=by rw[aO];unfold bv;rw[aZ]
    have bS:Hia (Ht p m (lw ml) x (k+1)):=Aa (aN.o.succ (by rw[aG.o];exact h0) (fun j hj e=>by
     rw[aG.o]at e;exact hs (decide_eq_true ⟨j,hj,e⟩)))
    have bV:=Aa aD;clear h0 hy aD aO hs aZ;have bG:Hia (AG (wr.setCell ⟨g,y,none⟩ (.bool true)) (xb+1) 4 g q (bv (H6 p m ml x (k+1)))):=Aa (by
     have:=aB.o.set y (.bool true);rw[PB]at this;refine this.bcongr fun j hj=>?_;unfold Ax H6;rw[Bool.eq_iff_iff];by_cases h:j=y
     .rw[if_pos h];simp;exact⟨k,ac,by rw[aG.o,h]⟩
     .rw[if_neg h];simp;constructor
      .rintro⟨i,hi,e⟩;exact⟨i,ac,e⟩
      .rintro⟨i,hi,e⟩;by_cases h3:i=k
       .subst h3;rw[aG.o]at e;exact absurd e.symm h
       .exact⟨i,ac,e⟩)
    have bJ:=Aa (Ad aC.o (a:=⟨g,y,none⟩) bB.o (.bool true));have aV:=Aa (aB.o.exSet (a:=w1) ac aF y (.bool true));have bF:=Aa (show xb+1<=(wr.setCell ⟨g,y,none⟩ (.bool true)).heap.size by have:=aV.o.size;omega);go_wp2_with (at_builtin;go_loud (refine Al _ rfl _ _ 22 rfl (xb+1) 3 (.int .i64 0) 1 8 Tryz.underlying22 Aw rfl ae _ k _ rfl bJ.o [.int .i64 (y:Int)] 3 _ rfl ag rfl ak ai ac bF.o ?_))
    intro v' w5 aE;have bI:Hia (w5.ownsRow (xb+1) 3 1 v' (k+1) (vs (k+1) (iv (Jl p m ml x)))):=Aa (by
     have:=aE.own;rw[Lz];unfold iv Jl;rw[aG.o];exact this)
    obtain⟨aY,bC⟩:=aE.arr bG.o bB.o;have bQ:=Aa aY;have bT:=Aa bC;have aK:=aE.ex aV.o ac;have bW:=Aa (NG bI.o);have r0:=aK.cell d0;have r1:=aK.cell d1;have r2:=aK.cell d2;clear aE aY bC bG bJ aV bF aM bO hb aF;go_wp2_with fail
    refine(HM.o y w5 aQ (bU.o.ex (e0.trans aK))).mono ?_;rintro e w6⟨rfl,aR⟩;go_wp2_with fail
    go_roundw
    case rel=>exact⟨k+1,ac,bS,by rw[HY.o],Aa (Ai bI.o aR),Aa (bQ.o.ex aR),bT,aK.trans aR⟩
    case measure=>rw[bW.o,bV.o];omega
def MX(p m:Nat)(ml:List Int)(w':World)(v:Value):Prop:=
 (∃x,1<=x/\x<p^m/\CF p m (lw ml) x/\Ak w' v (il (p^m-1) (Jl p m ml x)))∨(¬Kd p m (lw ml)/\v= .slice none 0 0)
theorem Gc(p m:Nat)(ml:List Int)(mv:Value)(w:World)(hf:Iz p m ml)(aK:Ak w mv ml):
  Calls Tryz.prog 113 #[.agg #[.int .i64 p,.int .i64 m,mv],.int .i64 ((p^m:Nat):Int)] w fun r w'=>∃v,r= .returned v/\MX p m ml w' v/\Ex w w':=by
 have hp:=hf.p2;have hm:=hf.m1;have aN:=Aa aK;have hq:=hf.q;have aS:1<p^m:=BK hp hm;have aL:=Aa (fun (x:Nat) (w':World) (h:x<p^m) (h':Ak w' mv ml)=>O6 p m x ml mv w' hf h' h);have HM:=Aa (fun (x y:Nat) (w':World) (h:y<p^m) (hx:x<p^m) (h':Ak w' mv ml)=>GH p m y x ml mv w' hf h' h hx);have HL:=Aa (fun x k=>CZ (low:=lw ml) hp hm x k);have aF:=Aa (fun x L (h:J7 p m (lw ml) x L)=>h.gen hp hm);have aM:=Aa (fun x L (h:J7 p m (lw ml) x L)=>h.2.1);have aJ:=Aa (show ∀w' v,MX p m ml w' v↔((∃x,1<=x/\x<p^m/\CF p m (lw ml) x/\Ak w' v (il (p^m-1) (Jl p m ml x)))∨(¬Kd p m (lw ml)/\v= .slice none 0 0)) from fun _ _=>Iff.rfl);have aP:=Aa (show Kd p m (lw ml)↔∃x,1<=x/\x<p^m/\CF p m (lw ml) x from Iff.rfl);have HK:=Aa (show ∀x k,Bw p m (lw ml) x (k+1)=Ar p m (lw ml) (Bw p m (lw ml) x k) x from fun _ _=>rfl);clear hf aK hm;obtain⟨q,aH⟩:=nA (p^m);simp only[aH]at hq aS aL HM HL aF aM aJ aP ⊢;have HQ:=Aa aH;clear aH;obtain⟨xb,aG⟩:=nA w.heap.size;have d0:(w.alloc (.cells #[.int .i64 p,.int .i64 m,mv] 24)).cell? ⟨xb,0,none⟩=some (.int .i64 p):=by rw[<-aG];simp
 have d1:(w.alloc (.cells #[.int .i64 p,.int .i64 m,mv] 24)).cell? ⟨xb,1,none⟩=some (.int .i64 m):=by rw[<-aG];simp
 have d2:(w.alloc (.cells #[.int .i64 p,.int .i64 m,mv] 24)).cell? ⟨xb,2,none⟩=some mv:=by rw[<-aG];simp
 have D0:=Aa d0;have D1:=Aa d1;have D2:=Aa d2;clear d0 d1 d2;go_enter Tryz.func113,Tryz.ntmps113
 go_wp2_with fail
 clear aG;have d0:=D0.o;have d1:=D1.o;have d2:=D2.o;clear D0 D1 D2;have e0:Ex w (w.alloc (.cells #[.int .i64 p,.int .i64 m,mv] 24)):=(Ex.refl _).alloc _;generalize w.alloc (.cells #[.int .i64 p,.int .i64 m,mv] 24)=w1 at *
 go_loopw [5] (fun x' wr=>∃x:Nat,1<=x/\x<=q/\x'= .int .i64 x/\Hia (∀y,1<=y->y<x->¬CF p m (lw ml) y)/\Ex w1 wr) (fun x' _=>q-(intOf x').toNat)
 case atStart=>exact⟨1,ac,ac,rfl,Aa (fun y a b=>ac),Ex.refl _⟩
 case round=>
  obtain⟨x,aR,hx2,rfl,aC,aB⟩:=hrel;have r0:=aB.cell d0;have r1:=aB.cell d1;have r2:=aB.cell d2;by_cases hlt:x<q
  .go_wp2_with fail
   refine(aL.o x _ hlt (aN.o.ex (e0.trans aB))).mono ?_;rintro e w5⟨v,L,rfl,aA,hv,aE⟩;have s0:=aE.cell r0;have s1:=aE.cell r1;have s2:=aE.cell r2;have hLq:=aM.o x L aA;obtain⟨va,vc,rfl,v1,v2,v3⟩:=hv.open;have HV:=Aa hv;have HG:=Aa (aF.o x L aA);have hL1:=aA.1;rw[Aj]at *;obtain⟨vb,vo,rfl,v4⟩:=v3 ac;have aD:=aB.trans aE;unfold maxLen at v2;clear r0 r1 r2 v3 hv aA aB aE;have k1:IntKind.i64.wrap ((q:Int)-1)=(q:Int)-1:=IntWalk.i64_in _ ac;by_cases hLe:L=q-1
   .have hc:=v4 (q-2) (Jl p m ml x (q-2)) (AH ac _);have hb:((L:Int)==(q:Int)-1)=true:=by simp;omega
    obtain⟨y,hy⟩:=nA (Bw p m (lw ml) x (q-2));have aQ:y<q:=by rw[<-hy];exact HL.o x (q-2)
    unfold Jl at hc;rw[hy]at hc;have HY:=Aa (show Bw p m (lw ml) x (q-1)=Ar p m (lw ml) y x by rw[show q-1=(q-2)+1 by omega,HK.o,hy]);have k2:IntKind.i64.wrap ((q:Int)-2)=(q:Int)-2:=IntWalk.i64_in _ ac;have k3:((q:Int)-2).toNat=q-2:=by omega
    have k4:(0:Int)<=(q:Int)-2:=ac;have k5:(q:Int)-2<(L:Int):=ac;have k6:(2:Int)<=(q:Int):=ac;have k7:(q:Int)<(L:Int)+2:=ac;have k8:2<=q:=ac;have aO:=Aa hLe;clear v4 hy hLe;go_wp2_with fail
    go_region_held3 (fun w'=>w'.cell? ⟨xb,0,none⟩=some (.int .i64 p)/\w'.cell? ⟨xb,1,none⟩=some (.int .i64 m)/\w'.cell? ⟨xb,2,none⟩=some mv/\w'.cell? ⟨vb,vo+(q-2),none⟩=some (.int .i64 y)/\Ex w1 w')
     (first|exact⟨s0,s1,s2,hc,aD.drew⟩|exact⟨hx6.cell s0,hx6.cell s1,hx6.cell s2,hx6.cell hc,aD.drew.trans hx6⟩)
     ((go_at_call 166;refine(HM.o x y _ aQ hlt (aN.o.ex ((e0.trans aD).drew))).mono ?_;rintro e w6⟨rfl,hx6⟩))
    by_cases h1:Ar p m (lw ml) y x=1
    .have aT:(((Ar p m (lw ml) y x:Nat):Int)==1)=true:=by simp;omega
     have aV:=Aa (HG.o.2 ⟨aO.o,by rw[HY.o];exact h1⟩);have aI:=Aa (show Ak w6 (.slice (some ⟨vb,vo,none⟩) L vc) (il (q-1) (Jl p m ml x)) by
      have:=HV.o.ex ((Ex.refl _).drew.trans hx6)
      rwa[show il L (Jl p m ml x)=il (q-1) (Jl p m ml x) by rw[aO.o]]at this)
     clear h1;go_wp2_with fail
     go_ret;exact⟨_,rfl,(aJ.o _ _).2 (.inl ⟨x,aR,hlt,aV.o,aI.o⟩),e0.trans (aD.drew.trans hx6)⟩
    .have aT:(((Ar p m (lw ml) y x:Nat):Int)==1)=false:=by simp;omega
     have HN:=Aa (show ¬CF p m (lw ml) x from fun h=>h1 (by rw[<-HY.o];exact(HG.o.1 h).2));clear h1;go_wp2_with fail
     go_roundw
     case rel=>exact⟨x+1,ac,ac,by go_num,Aa (fun z a b=>by
      by_cases e:z=x
      .subst e;exact HN.o
      .exact aC.o z a ac),aD.drew.trans hx6⟩
     case measure=>simp[intOf];omega
   .have hb:((L:Int)==(q:Int)-1)=false:=by simp;omega
    have HN:=Aa (show ¬CF p m (lw ml) x from fun h=>hLe (HG.o.1 h).1);clear hLe v4;go_wp2_with fail
    go_quiet (fail)
    go_wp2_with fail
    go_roundw
    case rel=>exact⟨x+1,ac,ac,by go_num,Aa (fun y a b=>by
     by_cases e:y=x
     .subst e;exact HN.o
     .exact aC.o y a ac),aD.drewN _⟩
    case measure=>simp[intOf];omega
  .obtain rfl:x=q:=by omega
   have aU:=Aa (show ¬Kd p m (lw ml) from fun h=>by
    obtain⟨y,a,b,c⟩:=aP.o.1 h;exact aC.o y a b c)
   go_wp2_with fail
   go_ret;exact⟨_,rfl,(aJ.o _ _).2 (.inr ⟨aU.o,rfl⟩),e0.trans aB⟩
end
end Go.Proofs.YtehieobniamagaaGreat
