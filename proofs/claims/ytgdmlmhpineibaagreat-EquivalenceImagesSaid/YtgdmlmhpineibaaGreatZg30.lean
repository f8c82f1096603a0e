/- Walk of equivalence.Compose. -/
import Derived.Deep.AppendLies
import Derived.Test.YtgdmlmhpineibaaGreatZg21
import Derived.Test.YtgdmlmhpineibaaGreatZg29
namespace Go.Proofs.YtgdmlmhpineibaaGreat
set_option linter.unusedVariables false
set_option linter.unusedSimpArgs false
set_option maxRecDepth 100000
set_option maxHeartbeats 4000000
open Go.RowKit
theorem efrz_set (w:World) (a b:Addr) (u:Value):(w.setCell a u).frozen? b=w.frozen? b:=by simp
structure CmS (w1 wr:World) (B:Nat) (bk:Int) (pv sv:Value) (L0 L1:List Int):Prop where
 b0:wr.cell? ⟨B,0,none⟩=some pv
 b1:wr.cell? ⟨B,1,none⟩=some sv
 b2:wr.cell? ⟨B,2,none⟩=some (.int .i64 bk)
 f0:wr.frozen? ⟨B,0,none⟩=false
 f1:wr.frozen? ⟨B,1,none⟩=false
 o0:wr.ownsRow w1.heap.size 3 1 pv L0.length (ints L0)
 o1:wr.ownsRow w1.heap.size 3 1 sv L1.length (ints L1)
 ap:Aprt pv sv
 n0:∀X,pv.ownBlock=some X→X≠B
 n1:∀X,sv.ownBlock=some X→X≠B
 lb:w1.heap.size≤B
 ex:Ex w1 wr
section
variable {w1 wr w':World} {B:Nat} {bk:Int} {pv sv v':Value} {L0 L1:List Int} {x:Int}
theorem CmS.later (h:CmS w1 wr B bk pv sv L0 L1) (hx:Ex wr w'):CmS w1 w' B bk pv sv L0 L1:=
 ⟨hx.cell h.b0,hx.cell h.b1,hx.cell h.b2,hx.frz h.b0 h.f0,hx.frz h.b1 h.f1,ownsRow_ex h.o0 hx,ownsRow_ex h.o1 hx,h.ap,h.n0,h.n1,h.lb,h.ex.trans hx⟩
theorem CmS.no0 (h:CmS w1 wr B bk pv sv L0 L1):some B≠pv.ownBlock:=fun e=> h.n0 B e.symm rfl
theorem CmS.no1 (h:CmS w1 wr B bk pv sv L0 L1):some B≠sv.ownBlock:=fun e=> h.n1 B e.symm rfl
end
section
variable {w1 wr w':World} {B:Nat} {bk:Int} {pv sv v':Value} {L0 L1:List Int} {x:Int}
theorem CmS.at0g (h:CmS w1 wr B bk pv sv L0 L1) (ha:Apg wr w' w1.heap.size 3 1 pv v' L0.length (ints L0) [.int .i64 x]):
  w'.cell? ⟨B,0,none⟩=some pv∧w'.frozen? ⟨B,0,none⟩=false:=⟨ha.cell h.b0 h.no0,ha.frz h.b0 h.f0 h.no0⟩
theorem CmS.at1g (h:CmS w1 wr B bk pv sv L0 L1) (ha:Apg wr w' w1.heap.size 3 1 sv v' L1.length (ints L1) [.int .i64 x]):
  w'.cell? ⟨B,1,none⟩=some sv∧w'.frozen? ⟨B,1,none⟩=false:=⟨ha.cell h.b1 h.no1,ha.frz h.b1 h.f1 h.no1⟩
theorem CmS.blkg {b:Nat} {u:Value} {e:TypeId} {n:Nat} {xs news:List Value} (ha:Apg wr w' b e 1 u v' n xs news) (hB:wr.cell? ⟨B,0,none⟩=some pv) (h:∀X,u.ownBlock=some X→X≠B):∀X,v'.ownBlock=some X→X≠B:=fun X e=> by
 have hlt:=World.block_lt_of_cell? _ _ hB;rcases ha.at_ with h1 | h1
 ·rw [h1] at e;exact h X e
 ·rw [h1] at e;injection e with e;have:B < wr.heap.size:=hlt;omega
theorem CmS.app0g (h:CmS w1 wr B bk pv sv L0 L1) (ha:Apg wr w' w1.heap.size 3 1 pv v' L0.length (ints L0) [.int .i64 x]):
  CmS w1 (w'.setCell ⟨B,0,none⟩ v') B bk v' sv (L0 ++ [x]) L1:=by
 have hn:=CmS.blkg ha h.b0 h.n0;have hr:=ha.row h.o1 h.ap.symm;refine ⟨World.cell?_setCell_same _ _ _ (ha.cell h.b0 h.no0),?_,?_,?_,?_,?_,?_,hr.2.symm,hn,h.n1,h.lb,(ha.ex h.ex (Nat.le_refl _)).setCell (p:=⟨B,0,none⟩) h.lb _⟩
 ·rw [cell_set_off (by decide)];exact ha.cell h.b1 h.no0
 ·rw [cell_set_off (by decide)];exact ha.cell h.b2 h.no0
 ·rw [efrz_set];exact ha.frz h.b0 h.f0 h.no0
 ·rw [efrz_set];exact ha.frz h.b1 h.f1 h.no0
 ·have:=ownsRow_setCell_ne (a:=⟨B,0,none⟩) ha.own (fun e=> hn B e rfl) v';rw [List.length_append,show ints (L0 ++ [x])=ints L0 ++ [.int .i64 x] from by unfold ints;simp];exact this
 ·exact ownsRow_setCell_ne (a:=⟨B,0,none⟩) hr.1 (fun e=> h.n1 B e rfl) v'
theorem CmS.app1g (h:CmS w1 wr B bk pv sv L0 L1) (ha:Apg wr w' w1.heap.size 3 1 sv v' L1.length (ints L1) [.int .i64 x]):
  CmS w1 (w'.setCell ⟨B,1,none⟩ v') B bk pv v' L0 (L1 ++ [x]):=by
 have hn:=CmS.blkg ha h.b0 h.n1;have hr:=ha.row h.o0 h.ap;refine ⟨?_,World.cell?_setCell_same _ _ _ (ha.cell h.b1 h.no1),?_,?_,?_,?_,?_,hr.2,h.n0,hn,h.lb,(ha.ex h.ex (Nat.le_refl _)).setCell (p:=⟨B,1,none⟩) h.lb _⟩
 ·rw [cell_set_off (by decide)];exact ha.cell h.b0 h.no1
 ·rw [cell_set_off (by decide)];exact ha.cell h.b2 h.no1
 ·rw [efrz_set];exact ha.frz h.b0 h.f0 h.no1
 ·rw [efrz_set];exact ha.frz h.b1 h.f1 h.no1
 ·exact ownsRow_setCell_ne (a:=⟨B,1,none⟩) hr.1 (fun e=> h.n0 B e rfl) v'
 ·have:=ownsRow_setCell_ne (a:=⟨B,1,none⟩) ha.own (fun e=> hn B e rfl) v';rw [List.length_append,show ints (L1 ++ [x])=ints L1 ++ [.int .i64 x] from by unfold ints;simp];exact this
end
theorem CmS.new (w1:World) (bk:Int):CmS w1 (w1.alloc (.cells #[.slice none 0 0,.slice none 0 0,.int .i64 bk] 26)) w1.heap.size bk (.slice none 0 0) (.slice none 0 0) [] []:=
 ⟨by simp,by simp,by simp,by simp,by simp,World.ownsRow_nil _ _ _ _,World.ownsRow_nil _ _ _ _,Aprt.nil _,by simp [Value.ownBlock],by simp [Value.ownBlock],Nat.le_refl _,(Ex.refl _).alloc _⟩
def cP (al bl:List Int) (i:Nat):Int:=bl.getD (piF al i) 0
def cS (p m:Nat) (ml al as_ bs:List Int) (fr2 i:Nat):Int:=
 ((kmul p m (lw ml) (kin (p ^ m) (bs.getD (piF al i) 0)) (frb p m (lw ml) (kin (p ^ m) (as_.getD i 0)) fr2):Nat):Int)
def cmpE (p m:Int) (ml al as_:List Int) (fr1:Int) (bl bs:List Int) (fr2:Int):Int:=
 if monS p m ml al.length al as_ fr1≠0 then monS p m ml al.length al as_ fr1 else if monS p m ml bl.length bl bs fr2≠0 then monS p m ml bl.length bl bs fr2 else if al.length≠bl.length then 10 else 0
def cmpM (p m:Int) (ml al as_:List Int) (fr1:Int) (bl bs:List Int) (fr2:Int):MapV:=
 if cmpE p m ml al as_ fr1 bl bs fr2≠0 then ⟨[], [],0⟩ else ⟨il al.length (cP al bl),il al.length (cS p.toNat m.toNat ml al as_ bs fr2.toNat),((fr1.toNat + fr2.toNat) % m.toNat:Nat)⟩
theorem Compose_any (w:World) (p m:Int) (ml:List Int) (mv:Value) (hmv:ISl w mv ml) (al as_:List Int) (pv sv:Value) (hp:ISl w pv al) (hs:ISl w sv as_) (fr1:Int) (bl bs:List Int) (pv2 sv2:Value) (hp2:ISl w pv2 bl) (hs2:ISl w sv2 bs) (fr2:Int):
  Calls Tryz.prog 23 #[.agg #[.int .i64 p,.int .i64 m,mv],.agg #[pv,sv,.int .i64 fr1],.agg #[pv2,sv2,.int .i64 fr2]] w fun r w'=> MoR (cmpM p m ml al as_ fr1 bl bs fr2) (cmpE p m ml al as_ fr1 bl bs fr2) r w'∧Ex w w':=by
 obtain ⟨a0,a1,a2,ea⟩:=boxF_facts w p m mv;obtain ⟨b0,b1,b2,eb⟩:=boxMo_facts (w.alloc (.cells #[.int .i64 p,.int .i64 m,mv] 24)) pv sv fr1;obtain ⟨c0,c1,c2,ec⟩:=boxMo_facts ((w.alloc (.cells #[.int .i64 p,.int .i64 m,mv] 24)).alloc (.cells #[pv,sv,.int .i64 fr1] 26)) pv2 sv2 fr2;have bq:=BxM.new (((w.alloc (.cells #[.int .i64 p,.int .i64 m,mv] 24)).alloc (.cells #[pv,sv,.int .i64 fr1] 26)).alloc (.cells #[pv2,sv2,.int .i64 fr2] 26));have ed:Ex (((w.alloc (.cells #[.int .i64 p,.int .i64 m,mv] 24)).alloc (.cells #[pv,sv,.int .i64 fr1] 26)).alloc (.cells #[pv2,sv2,.int .i64 fr2] 26)) _:=(Ex.refl _).alloc (.cells #[.slice none 0 0,.slice none 0 0,.int .i64 0] 26);replace a0:=(eb.trans (ec.trans ed)).cell a0;replace a1:=(eb.trans (ec.trans ed)).cell a1;replace a2:=(eb.trans (ec.trans ed)).cell a2;replace b0:=(ec.trans ed).cell b0;replace b1:=(ec.trans ed).cell b1;replace b2:=(ec.trans ed).cell b2;replace c0:=ed.cell c0;replace c1:=ed.cell c1;replace c2:=ed.cell c2;have hsz:(w.alloc (.cells #[.int .i64 p,.int .i64 m,mv] 24)).heap.size=w.heap.size + 1:=by simp
 have hsz2:((w.alloc (.cells #[.int .i64 p,.int .i64 m,mv] 24)).alloc (.cells #[pv,sv,.int .i64 fr1] 26)).heap.size=w.heap.size + 1 + 1:=by simp
 have hsz3:(((w.alloc (.cells #[.int .i64 p,.int .i64 m,mv] 24)).alloc (.cells #[pv,sv,.int .i64 fr1] 26)).alloc (.cells #[pv2,sv2,.int .i64 fr2] 26)).heap.size=w.heap.size + 1 + 1 + 1:=by simp
 rw [hsz] at b0 b1 b2;rw [hsz2] at c0 c1 c2;rw [hsz3] at bq;have HE:=hid_ (ea.trans (eb.trans (ec.trans ed)));have HOP:=hid_ (eOpen_any _ p m ml mv (hmv.ex HE.out) al.length al as_ pv sv (hp.ex HE.out) (hs.ex HE.out) fr1);have HP:=hid_ (hp.ex HE.out);have HS:=hid_ (hs.ex HE.out);have HP2:=hid_ (hp2.ex HE.out);have HS2:=hid_ (hs2.ex HE.out);have HMV:=hid_ (hmv.ex HE.out);obtain ⟨ma,mc,rfl,-,-,-⟩:=hmv.open;obtain ⟨pa,pc,rfl,-,p2,p3⟩:=hp.open;obtain ⟨sa,sc,rfl,-,s2,s3⟩:=hs.open;obtain ⟨qa,qc,rfl,-,q2,q3⟩:=hp2.open;obtain ⟨ta,tc,rfl,-,t2,t3⟩:=hs2.open;unfold maxLen at p2 s2 q2 t2;obtain ⟨E,hE⟩:∃E,cmpE p m ml al as_ fr1 bl bs fr2=E:=⟨_,rfl⟩;obtain ⟨M,hM⟩:∃M,cmpM p m ml al as_ fr1 bl bs fr2=M:=⟨_,rfl⟩;have hED:=hE;have hMD:=hM;unfold cmpE at hED;unfold cmpM at hMD;rw [hE] at hMD;rw [hE,hM];have HED:=hid_ hED;have HMD:=hid_ hMD;obtain ⟨E1,hE1⟩:∃e,monS p m ml al.length al as_ fr1=e:=⟨_,rfl⟩;obtain ⟨E2,hE2⟩:∃e,monS p m ml bl.length bl bs fr2=e:=⟨_,rfl⟩;rw [hE1] at HOP HED;rw [hE2] at HED;have HE1:=hid_ hE1;have HE2:=hid_ hE2;clear hmv hp hs hp2 hs2 hE hsz hsz2 hsz3 ea eb ec ed hM hED hMD hE1 hE2;go_enter Tryz.func23,Tryz.ntmps23
 go_wp2_with fail
 obtain ⟨q,hq⟩:∃q,w.heap.size=q:=⟨_,rfl⟩;rw [hq] at a0 a1 a2 b0 b1 b2 c0 c1 c2 bq
 try simp only [hq]
 have HQ:=hid_ hq;clear hq;generalize (((w.alloc (.cells #[.int .i64 p,.int .i64 m,.slice ma ml.length mc] 24)).alloc (.cells #[.slice pa al.length pc,.slice sa as_.length sc,.int .i64 fr1] 26)).alloc (.cells #[.slice qa bl.length qc,.slice ta bs.length tc,.int .i64 fr2] 26)).alloc (.cells #[.slice none 0 0,.slice none 0 0,.int .i64 0] 26)=w1 at *;have A0:=hid_ a0;have A1:=hid_ a1;have A2:=hid_ a2;have B0:=hid_ b0;have B1:=hid_ b1;have B2:=hid_ b2;have C0:=hid_ c0;have C1:=hid_ c1;have C2:=hid_ c2;have BQ:=hid_ bq;have HQS:=hid_ (show q + 1 + 1 + 1 < w1.heap.size from World.block_lt_of_cell? w1 ⟨q + 1 + 1 + 1,0,none⟩ BQ.out.c0);have HQW:=hid_ (show w.heap.size≤q + 1 + 1 + 1 from by have:=HQ.out;omega);clear a0 a1 a2 b0 b1 b2 c0 c1 c2 bq;refine HOP.out.mono ?_;rintro e w2 ⟨ho,hx2⟩;have HX2:=hid_ hx2;have f0:=hx2.cell A0.out;have f1:=hx2.cell A1.out;have f2:=hx2.cell A2.out;have g0:=hx2.cell B0.out;have g1:=hx2.cell B1.out;have g2:=hx2.cell B2.out;have k0:=hx2.cell C0.out;have k1:=hx2.cell C1.out;have k2:=hx2.cell C2.out;have HCK:=hid_ (eCheck_any w2 p m ml _ (HMV.out.ex hx2) bl.length bl bs _ _ (HP2.out.ex hx2) (HS2.out.ex hx2) fr2);have X02:=hid_ (HE.out.trans hx2);clear hx2;by_cases h0:E1=0
 ·subst h0;rw [if_neg (by decide)] at HED;rcases ho with ⟨_,b,pn,mn,x0,rfl,rfl,rfl,hg,x1,x2'⟩ | ⟨h0,_⟩
  rotate_left
  ·exact absurd rfl h0
  rw [HE2.out] at HCK;by_cases h1:E2=0
  ·subst h1;rw [if_neg (by decide)] at HED;by_cases h2:al.length=bl.length
   ·rw [if_neg (fun h=> h h2)] at HED;have h3:=HED.out;subst h3;have HM2:=HMD.out;rw [if_neg (by decide),Int.toNat_natCast,Int.toNat_natCast] at HM2;obtain ⟨-,n1,n2,-,n4,n5,n6,n7,-,-⟩:=mon_ok HE1.out;obtain ⟨-,-,-,-,m4,-,m6,m7,-,-⟩:=mon_ok HE2.out;obtain ⟨u1,rfl⟩:∃u:Nat,fr1=u:=⟨fr1.toNat,by omega⟩;obtain ⟨u2,rfl⟩:∃u:Nat,fr2=u:=⟨fr2.toNat,by omega⟩;rw [Int.toNat_natCast,Int.toNat_natCast] at HM2;have m8:=hg.sh.m8;have i1:IntKind.i64.wrap ((u1:Int) + (u2:Int))=(u1:Int) + (u2:Int):=IntWalk.i64_in _ (by omega);have i2:((u1:Int) + (u2:Int)).tmod (mn:Int)=(((u1 + u2) % mn:Nat):Int):=by
     rw [Int.tmod_eq_emod_of_nonneg (by omega)];simp
    have i3:¬mn=0:=by omega
    have i4:¬((mn:Int)=0):=by omega
    obtain ⟨bk,hbk⟩:∃bk,(u1 + u2) % mn=bk:=⟨_,rfl⟩;rw [hbk] at i2 HM2;have HM3:=hid_ HM2;have hl1:as_.length=al.length:=by omega
    have hl2:bl.length=al.length:=by omega
    have hl3:bs.length=al.length:=by omega
    have hn64:al.length≤64:=by omega
    have hu2:u2 < mn:=by omega
    have hq1:1≤pn ^ mn:=Nat.pow_pos (by have:=hg.sh.p2;omega);have HFL:=hid_ (fun (z:Int)=> frb_lt (low:=lw ml) hg.sh.p2 hg.sh.m1 (kin_lt hq1 z) u2);have HG:=hid_ hg;clear hq1;have P3:=hid_ p3;have S3:=hid_ s3;have Q3:=hid_ q3;have T3:=hid_ t3;rw [hl1] at S3;rw [hl2] at Q3;rw [hl3] at T3;have HRG:=hid_ (fun i (hi:i < al.length)=> rngB_at n5 hi);have HGP:=hid_ (fun i (hi:i < al.length)=> get_getD (l:=al) hi);have HGS:=hid_ (fun i (hi:i < al.length)=> get_getD (l:=as_) (i:=i) (by omega));have HGQ:=hid_ (fun i (hi:i < al.length)=> get_getD (l:=bl) (i:=i) (by omega));have HGT:=hid_ (fun i (hi:i < al.length)=> get_getD (l:=bs) (i:=i) (by omega));have HFX:=hid_ (fun (w5:World) (h5:Ex w2 w5) (y:Int)=> Frobenius_any w5 (HG.out.ex h5) y u2 hu2);have HMX:=hid_ (fun (w5:World) (h5:Ex w2 w5) (y z:Int)=> Mul_any w5 (HG.out.ex h5) y z);rw [hl1] at g1 ⊢;rw [hl2] at k0 HCK ⊢;rw [hl3] at k1 HCK ⊢;clear hg x1 x2' n1 n2 n4 n5 n6 n7 m4 m6 m7 p3 s3 q3 t3 hl1 hl2 hl3 h2 HM2 hbk hu2 HED HMD;go_wp2_with fail
    refine HCK.out.mono ?_;rintro e w3 ⟨rfl,hx3⟩;have f1':=hx3.cell f1;have g0':=hx3.cell g0;have g2':=hx3.cell g2;have k0':=hx3.cell k0;have k2':=hx3.cell k2;have HX3:=hid_ hx3;have G0:=hid_ g0;have G1:=hid_ g1;have K0:=hid_ k0;have K1:=hid_ k1;have K2:=hid_ k2;have g0'':=((Ex.refl w3).alloc (.cells #[.slice none 0 0,.slice none 0 0,.int .i64 (bk:Int)] 26)).cell g0';have HCM:=hid_ (CmS.new w3 (bk:Int));clear hx3 f0 f1 f2 g0 g1 g2 k0 k1 k2;go_wp2_with fail
    go_loopw [57] (fun i' wr=> ∃(i:Nat) (pv sv:Value),i≤al.length∧i'= .int .i64 i∧Hid (CmS w3 wr w3.heap.size (bk:Int) pv sv (il i (cP al bl)) (il i (cS pn mn ml al as_ bs u2)))) (fun i' _=> al.length - (intOf i').toNat)
    case atStart=> exact ⟨0,_,_,by omega,rfl,HCM⟩
    case round=>
     clear HCM g0'' f1' g0' g2' k0' k2';obtain ⟨i,pv,sv,hi,rfl,hc⟩:=hrel;by_cases hin:i < al.length
     ·obtain ⟨pb,po,rfl,hpc⟩:=P3.out (by omega);obtain ⟨sb,so,rfl,hsc⟩:=S3.out (by omega);obtain ⟨qb,qo,rfl,hqc⟩:=Q3.out (by omega);obtain ⟨tb,to_,rfl,htc⟩:=T3.out (by omega);have hpr:=HRG.out i hin;have EXW:=hid_ (X02.out.trans HX3.out);have HC:=hid_ hc.out;obtain ⟨y,hy⟩:∃y,piF al i=y:=⟨_,rfl⟩;have hyp:al.getD i 0=(y:Int):=by rw [←hy];unfold piF;omega
      have hyN:y < al.length:=by omega
      have hgp:=HGP.out i hin;rw [hyp] at hgp;have CP:=hid_ (EXW.out.cell (hpc i _ hgp));have cp:=HC.out.ex.cell CP.out;obtain ⟨z3,hz3⟩:∃z,as_.getD i 0=z:=⟨_,rfl⟩;have hgs:=HGS.out i hin;rw [hz3] at hgs;have CS:=hid_ (EXW.out.cell (hsc i _ hgs));obtain ⟨z1,hz1⟩:∃z,bl.getD y 0=z:=⟨_,rfl⟩;have hgq:=HGQ.out y hyN;rw [hz1] at hgq;have CQ:=hid_ (EXW.out.cell (hqc y _ hgq));obtain ⟨z2,hz2⟩:∃z,bs.getD y 0=z:=⟨_,rfl⟩;have hgt:=HGT.out y hyN;rw [hz2] at hgt;have CT:=hid_ (EXW.out.cell (htc y _ hgt));have j1:(0:Int)≤(i:Int):=by omega
      have j2:(i:Int) < (al.length:Int):=by omega
      have j3:(0:Int)≤(y:Int):=by omega
      have j4:(y:Int) < (al.length:Int):=by omega
      have HIL:=hid_ (show (il i (cP al bl)).length=i∧(il i (cS pn mn ml al as_ bs u2)).length=i from ⟨by simp [il],by simp [il]⟩);have HI64:=hid_ (show i < 64 by omega);have HL0:=hid_ (show il (i + 1) (cP al bl)=il i (cP al bl) ++ [z1] from by
       rw [il_succ,show cP al bl i=z1 from by unfold cP;rw [hy,hz1]])
      have HL1:=hid_ (show il (i + 1) (cS pn mn ml al as_ bs u2)=il i (cS pn mn ml al as_ bs u2) ++ [((kmul pn mn (lw ml) (kin (pn ^ mn) z2) (frb pn mn (lw ml) (kin (pn ^ mn) z3) u2):Nat):Int)] from by
       rw [il_succ,show cS pn mn ml al as_ bs u2 i=_ from by unfold cS;rw [hy,hz2,hz3]])
      have HFW:=hid_ (fun (w5:World) (h5:Ex w2 w5)=> HFX.out w5 h5 z3);obtain ⟨t,ht⟩:∃t,frb pn mn (lw ml) (kin (pn ^ mn) z3) u2=t:=⟨_,rfl⟩;have htl:t < pn ^ mn:=by rw [←ht];exact HFL.out z3
      rw [ht] at HFW HL1;have HMW:=hid_ (fun (w5:World) (h5:Ex w2 w5)=> HMX.out w5 h5 z2 (t:Int));rw [kin_of htl] at HMW;obtain ⟨u,hu⟩:∃u,kmul pn mn (lw ml) (kin (pn ^ mn) z2) t=u:=⟨_,rfl⟩;rw [hu] at HMW HL1;clear hu ht htl;obtain ⟨va,vc,rfl⟩:=own_shape HC.out.o0;obtain ⟨ua,uc,rfl⟩:=own_shape HC.out.o1;have HCW:=hid_ HC.out.ex;have D0:=hid_ HC.out.b0;have KQ:=hid_ (HCW.out.cell (HX3.out.cell K0.out));have CQW:=hid_ (HCW.out.cell CQ.out);clear hc hpr hy hyp hgp hz1 hz2 hz3 hgs hgq hgt hpc hsc hqc htc;go_wp2_with fail
      go_upto_region 12 with fail
      clear cp
      go_cut [62] from 62 to 71 (fun _ wx=> ∃va6 vc6,Hid (CmS w3 wx w3.heap.size (bk:Int) (.slice va6 (il (i + 1) (cP al bl)).length vc6) (.slice ua (il i (cS pn mn ml al as_ bs u2)).length uc) (il (i + 1) (cP al bl)) (il i (cS pn mn ml al as_ bs u2))))
      case first=>
       refine wp_region_as (fun k=> ([.pointer (some ⟨w3.heap.size,0,none⟩),.slice va (il i (cP al bl)).length vc,.pointer (some ⟨q + 1 + 1,0,none⟩),.slice (some ⟨qb,qo,none⟩) al.length qc,.int .i64 (y:Int),.pointer (some ⟨qb,qo + y,none⟩),.int .i64 z1,undef,undef,.pointer (some ⟨w3.heap.size,0,none⟩)]:List Value).getD k undef) 7 8 9 10 (.int .i64 z1) 3 (fun v w=> ∃w1,CmS w3 w1 w3.heap.size (bk:Int) (.slice va (il i (cP al bl)).length vc) (.slice ua (il i (cS pn mn ml al as_ bs u2)).length uc) (il i (cP al bl)) (il i (cS pn mn ml al as_ bs u2))∧Apg w1 w w3.heap.size 3 1 (.slice va (il i (cP al bl)).length vc) v (il i (cP al bl)).length (ints (il i (cP al bl))) [.int .i64 z1]) (fun v w=> CmS w3 w w3.heap.size (bk:Int) v (.slice ua (il i (cS pn mn ml al as_ bs u2)).length uc) ((il i (cP al bl)) ++ [z1]) (il i (cS pn mn ml al as_ bs u2))) (by kernel_rfl) (by kernel_rfl) (by kernel_rfl) ?_ ?_ ?_ ?_ (fun B v k=> ([.pointer (some ⟨w3.heap.size,0,none⟩),.slice va (il i (cP al bl)).length vc,.pointer (some ⟨q + 1 + 1,0,none⟩),.slice (some ⟨qb,qo,none⟩) al.length qc,.int .i64 (y:Int),.pointer (some ⟨qb,qo + y,none⟩),.int .i64 z1,.slice (some ⟨B,0,none⟩) 1 1,v,.pointer (some ⟨w3.heap.size,0,none⟩)]:List Value).getD k undef) (fun _ _=> rfl) ?_
       ·simp only [StepAll];refine ⟨?_,?_,?_,?_,?_,?_,?_,?_,?_,?_,?_,trivial⟩
        ·intro L a w hin hout hd K;rw [if_neg (by decide),if_neg (by decide),if_neg (by decide)];intro hx hK;have e10:a.tmps[10]?=some (.pointer (some ⟨w3.heap.size,0,none⟩)):=hout 10 (by kernel_rfl);clear hin hout hd;go_simp;exact hK _ (Ex.refl w)
        ·intro L a w hin hout hd K;rw [if_neg (by decide),if_neg (by decide),if_neg (by decide)];intro hx hK;have e62:=hin 0 62 _ (hd ⟨0,.data⟩ (by simp) rfl) (by decide) (by decide) (by decide) rfl rfl;have q1:=hx.cell D0.out;clear hin hout hd;go_simp;exact hK _ (Ex.refl w)
        ·intro L a w hin hout hd K;rw [if_neg (by decide),if_neg (by decide),if_neg (by decide)];intro hx hK;have e5:a.tmps[5]?=some (.pointer (some ⟨q + 1 + 1,0,none⟩)):=hout 5 (by kernel_rfl);clear hin hout hd;go_simp;exact hK _ (Ex.refl w)
        ·intro L a w hin hout hd K;rw [if_neg (by decide),if_neg (by decide),if_neg (by decide)];intro hx hK;have e64:=hin 2 64 _ (hd ⟨2,.data⟩ (by simp) rfl) (by decide) (by decide) (by decide) rfl rfl;have q1:=hx.cell KQ.out;clear hin hout hd;go_simp;exact hK _ (Ex.refl w)
        ·intro L a w hin hout hd K;rw [if_neg (by decide),if_neg (by decide),if_neg (by decide)];intro hx hK;have e12:a.tmps[12]?=some (.int .i64 (y:Int)):=hout 12 (by kernel_rfl);clear hin hout hd;go_simp;exact hK _ (Ex.refl w)
        ·intro L a w hin hout hd K;rw [if_neg (by decide),if_neg (by decide),if_neg (by decide)];intro hx hK;have e65:=hin 3 65 _ (hd ⟨3,.data⟩ (by simp) rfl) (by decide) (by decide) (by decide) rfl rfl;have e66:=hin 4 66 _ (hd ⟨4,.data⟩ (by simp) rfl) (by decide) (by decide) (by decide) rfl rfl;clear hin hout hd;go_simp;exact hK _ (Ex.refl w)
        ·intro L a w hin hout hd K;rw [if_neg (by decide),if_neg (by decide),if_neg (by decide)];intro hx hK;have e67:=hin 5 67 _ (hd ⟨5,.data⟩ (by simp) rfl) (by decide) (by decide) (by decide) rfl rfl;have q1:=hx.cell CQW.out;clear hin hout hd;go_simp;exact hK _ (Ex.refl w)
        ·intro L a w hin hout hd K;rw [if_neg (by decide),if_neg (by decide),if_pos rfl];intro _;trivial
        ·intro L a w hin hout hd K;rw [if_neg (by decide),if_pos (by decide)];trivial
        ·intro L a w hin hout hd K;rw [if_pos rfl];intro hK;have e10:a.tmps[10]?=some (.pointer (some ⟨w3.heap.size,0,none⟩)):=hout 10 (by kernel_rfl);clear hin hout hd;go_simp;exact hK
        ·intro L a w hin hout hd K;rw [if_neg (by decide),if_pos (by decide)];trivial
       ·intro o a w1 K ho hx hin hK;injection (show some _=some o from ho) with ho;subst ho;have e68:=hin 6 68 _ (by kernel_rfl) (by decide) (by decide) (by decide) rfl rfl;clear hin;go_simp;exact hK
       ·intro o ob a w1 B8 K ho hob hx hsl hbl hin hA;injection (show some _=some o from ho) with ho;subst ho;injection (show some _=some ob from hob) with hob;subst hob;have e1:=eval_tmp (hin 1 63 _ (by kernel_rfl) (by decide) (by decide) (by decide) rfl rfl);have e2:=eval_tmp (hsl 69 rfl);refine opwp_append _ _ 22 rfl w3.heap.size 3 (.int .i64 0) 1 8 Tryz.underlying22 infoInt rfl (by decide) (.slice va (il i (cP al bl)).length vc) (il i (cP al bl)).length (ints (il i (cP al bl))) e1 ((HC.out.later hx).o0) _ 1 [.int .i64 z1] e2 (sl_lit1 hbl) (by simp [Value.oneCell']) (by have:=HIL.out.1;have:=HI64.out;unfold maxLen;omega) (by have:=HIL.out.1;have:=HI64.out;omega) ((HC.out.later hx).ex.size) ?_;intro v' w' hown hg ha;exact hA v' w' (⟨w1,HC.out.later hx,⟨hown,hg,ha,(HC.out.later hx).o0⟩⟩)
       ·intro o oa of a w1 v K ho hoa hof hA h1 h2 hK;injection (show some _=some o from ho) with ho;subst ho;injection (show some _=some oa from hoa) with hoa;subst hoa;injection (show some _=some of from hof) with hof;subst hof;have e1:=h1 70 rfl;have e2:=h2 71 rfl;obtain ⟨w2,hc2,hap⟩:=hA;obtain ⟨g1,g2⟩:=hc2.at0g hap;have hfin:=hc2.app0g hap;obtain ⟨va6,vc6,rfl⟩:=own_shape hap.own;clear hc2 hap h1 h2;have HFI:=hid_ hfin;clear hfin;go_simp;exact hK _ HFI.out
       ·intro B8 v w1 hF;rw [←HL0.out] at hF;obtain ⟨va6,vc6,hv6⟩:=own_shape hF.o0;rw [hv6] at hF;have HF:=hid_ hF;clear hF hv6;simp only [putK,Act.put,List.setIfInBounds_toArray,List.set_cons_zero,List.set_cons_succ];go_wp2_with fail
        go_meet
        exact ⟨va6,vc6,HF⟩
      case rest=>
       obtain ⟨va6,vc6,hc6⟩:=hcut;have HC6:=hid_ hc6.out;clear hc6;have HCX:=hid_ HC6.out.ex;have D1:=hid_ HC6.out.b1;have KT:=hid_ (HCX.out.cell (HX3.out.cell K1.out));have KS:=hid_ (HCX.out.cell (HX3.out.cell G1.out));have KU:=hid_ (HCX.out.cell (HX3.out.cell K2.out));have CTW:=hid_ (HCX.out.cell CT.out);have CSW:=hid_ (HCX.out.cell CS.out);have HFX2:=hid_ HFW.out;have HMX2:=hid_ HMW.out;clear HFW HMW;have HFW:=hid_ (fun (w5:World) (h5:Ex wc w5)=> HFX2.out w5 (HX3.out.trans (HCX.out.trans h5)));have HMW:=hid_ (fun (w5:World) (h5:Ex wc w5)=> HMX2.out w5 (HX3.out.trans (HCX.out.trans h5)));go_upto_region 13 with fail
       refine wp_region_as (fun k=> ([.pointer (some ⟨w3.heap.size,1,none⟩),.slice ua (il i (cS pn mn ml al as_ bs u2)).length uc,.pointer (some ⟨b,0,none⟩),.pointer (some ⟨q + 1 + 1,1,none⟩),.slice (some ⟨tb,to_,none⟩) al.length tc,.int .i64 (y:Int),.pointer (some ⟨tb,to_ + y,none⟩),.int .i64 z2,.pointer (some ⟨b,0,none⟩),.pointer (some ⟨q + 1,1,none⟩),.slice (some ⟨sb,so,none⟩) al.length sc,.int .i64 (i:Int),.pointer (some ⟨sb,so + i,none⟩),.int .i64 z3,.pointer (some ⟨q + 1 + 1,2,none⟩),.int .i64 (u2:Int),.int .i64 (t:Int),.int .i64 (u:Int),undef,undef,.pointer (some ⟨w3.heap.size,1,none⟩)]:List Value).getD k undef) 18 19 20 21 (.int .i64 (u:Int)) 3 (fun v w=> ∃w1,CmS w3 w1 w3.heap.size (bk:Int) (.slice va6 (il (i + 1) (cP al bl)).length vc6) (.slice ua (il i (cS pn mn ml al as_ bs u2)).length uc) (il (i + 1) (cP al bl)) (il i (cS pn mn ml al as_ bs u2))∧Apg w1 w w3.heap.size 3 1 (.slice ua (il i (cS pn mn ml al as_ bs u2)).length uc) v (il i (cS pn mn ml al as_ bs u2)).length (ints (il i (cS pn mn ml al as_ bs u2))) [.int .i64 (u:Int)]) (fun v w=> CmS w3 w w3.heap.size (bk:Int) (.slice va6 (il (i + 1) (cP al bl)).length vc6) v (il (i + 1) (cP al bl)) ((il i (cS pn mn ml al as_ bs u2)) ++ [(u:Int)])) (by kernel_rfl) (by kernel_rfl) (by kernel_rfl) ?_ ?_ ?_ ?_ (fun B v k=> ([.pointer (some ⟨w3.heap.size,1,none⟩),.slice ua (il i (cS pn mn ml al as_ bs u2)).length uc,.pointer (some ⟨b,0,none⟩),.pointer (some ⟨q + 1 + 1,1,none⟩),.slice (some ⟨tb,to_,none⟩) al.length tc,.int .i64 (y:Int),.pointer (some ⟨tb,to_ + y,none⟩),.int .i64 z2,.pointer (some ⟨b,0,none⟩),.pointer (some ⟨q + 1,1,none⟩),.slice (some ⟨sb,so,none⟩) al.length sc,.int .i64 (i:Int),.pointer (some ⟨sb,so + i,none⟩),.int .i64 z3,.pointer (some ⟨q + 1 + 1,2,none⟩),.int .i64 (u2:Int),.int .i64 (t:Int),.int .i64 (u:Int),.slice (some ⟨B,0,none⟩) 1 1,v,.pointer (some ⟨w3.heap.size,1,none⟩)]:List Value).getD k undef) (fun _ _=> rfl) ?_
       ·simp only [StepAll];refine ⟨?_,?_,?_,?_,?_,?_,?_,?_,?_,?_,?_,?_,?_,?_,?_,?_,?_,?_,?_,?_,?_,?_,trivial⟩
        ·intro L a w hin hout hd K;rw [if_neg (by decide),if_neg (by decide),if_neg (by decide)];intro hx hK;have e10:a.tmps[10]?=some (.pointer (some ⟨w3.heap.size,0,none⟩)):=hout 10 (by kernel_rfl);clear hin hout hd;go_simp;exact hK _ (Ex.refl w)
        ·intro L a w hin hout hd K;rw [if_neg (by decide),if_neg (by decide),if_neg (by decide)];intro hx hK;have e72:=hin 0 72 _ (hd ⟨0,.data⟩ (by simp) rfl) (by decide) (by decide) (by decide) rfl rfl;have q1:=hx.cell D1.out;clear hin hout hd;go_simp;exact hK _ (Ex.refl w)
        ·intro L a w hin hout hd K;rw [if_neg (by decide),if_neg (by decide),if_neg (by decide)];intro hx hK;have e8:a.tmps[8]?=some (.pointer (some ⟨b,0,none⟩)):=hout 8 (by kernel_rfl);clear hin hout hd;go_simp;exact hK _ (Ex.refl w)
        ·intro L a w hin hout hd K;rw [if_neg (by decide),if_neg (by decide),if_neg (by decide)];intro hx hK;have e5:a.tmps[5]?=some (.pointer (some ⟨q + 1 + 1,0,none⟩)):=hout 5 (by kernel_rfl);clear hin hout hd;go_simp;exact hK _ (Ex.refl w)
        ·intro L a w hin hout hd K;rw [if_neg (by decide),if_neg (by decide),if_neg (by decide)];intro hx hK;have e75:=hin 3 75 _ (hd ⟨3,.data⟩ (by simp) rfl) (by decide) (by decide) (by decide) rfl rfl;have q1:=hx.cell KT.out;clear hin hout hd;go_simp;exact hK _ (Ex.refl w)
        ·intro L a w hin hout hd K;rw [if_neg (by decide),if_neg (by decide),if_neg (by decide)];intro hx hK;have e12:a.tmps[12]?=some (.int .i64 (y:Int)):=hout 12 (by kernel_rfl);clear hin hout hd;go_simp;exact hK _ (Ex.refl w)
        ·intro L a w hin hout hd K;rw [if_neg (by decide),if_neg (by decide),if_neg (by decide)];intro hx hK;have e76:=hin 4 76 _ (hd ⟨4,.data⟩ (by simp) rfl) (by decide) (by decide) (by decide) rfl rfl;have e77:=hin 5 77 _ (hd ⟨5,.data⟩ (by simp) rfl) (by decide) (by decide) (by decide) rfl rfl;clear hin hout hd;go_simp;exact hK _ (Ex.refl w)
        ·intro L a w hin hout hd K;rw [if_neg (by decide),if_neg (by decide),if_neg (by decide)];intro hx hK;have e78:=hin 6 78 _ (hd ⟨6,.data⟩ (by simp) rfl) (by decide) (by decide) (by decide) rfl rfl;have q1:=hx.cell CTW.out;clear hin hout hd;go_simp;exact hK _ (Ex.refl w)
        ·intro L a w hin hout hd K;rw [if_neg (by decide),if_neg (by decide),if_neg (by decide)];intro hx hK;have e8:a.tmps[8]?=some (.pointer (some ⟨b,0,none⟩)):=hout 8 (by kernel_rfl);clear hin hout hd;go_simp;exact hK _ (Ex.refl w)
        ·intro L a w hin hout hd K;rw [if_neg (by decide),if_neg (by decide),if_neg (by decide)];intro hx hK;have e4:a.tmps[4]?=some (.pointer (some ⟨q + 1,0,none⟩)):=hout 4 (by kernel_rfl);clear hin hout hd;go_simp;exact hK _ (Ex.refl w)
        ·intro L a w hin hout hd K;rw [if_neg (by decide),if_neg (by decide),if_neg (by decide)];intro hx hK;have e81:=hin 9 81 _ (hd ⟨9,.data⟩ (by simp) rfl) (by decide) (by decide) (by decide) rfl rfl;have q1:=hx.cell KS.out;clear hin hout hd;go_simp;exact hK _ (Ex.refl w)
        ·intro L a w hin hout hd K;rw [if_neg (by decide),if_neg (by decide),if_neg (by decide)];intro hx hK;have e11:a.tmps[11]?=some (.int .i64 (i:Int)):=hout 11 (by kernel_rfl);clear hin hout hd;go_simp;exact hK _ (Ex.refl w)
        ·intro L a w hin hout hd K;rw [if_neg (by decide),if_neg (by decide),if_neg (by decide)];intro hx hK;have e82:=hin 10 82 _ (hd ⟨10,.data⟩ (by simp) rfl) (by decide) (by decide) (by decide) rfl rfl;have e83:=hin 11 83 _ (hd ⟨11,.data⟩ (by simp) rfl) (by decide) (by decide) (by decide) rfl rfl;clear hin hout hd;go_simp;exact hK _ (Ex.refl w)
        ·intro L a w hin hout hd K;rw [if_neg (by decide),if_neg (by decide),if_neg (by decide)];intro hx hK;have e84:=hin 12 84 _ (hd ⟨12,.data⟩ (by simp) rfl) (by decide) (by decide) (by decide) rfl rfl;have q1:=hx.cell CSW.out;clear hin hout hd;go_simp;exact hK _ (Ex.refl w)
        ·intro L a w hin hout hd K;rw [if_neg (by decide),if_neg (by decide),if_neg (by decide)];intro hx hK;have e5:a.tmps[5]?=some (.pointer (some ⟨q + 1 + 1,0,none⟩)):=hout 5 (by kernel_rfl);clear hin hout hd;go_simp;exact hK _ (Ex.refl w)
        ·intro L a w hin hout hd K;rw [if_neg (by decide),if_neg (by decide),if_neg (by decide)];intro hx hK;have e86:=hin 14 86 _ (hd ⟨14,.data⟩ (by simp) rfl) (by decide) (by decide) (by decide) rfl rfl;have q1:=hx.cell KU.out;clear hin hout hd;go_simp;exact hK _ (Ex.refl w)
        ·intro L a w hin hout hd K;rw [if_neg (by decide),if_neg (by decide),if_neg (by decide)];intro hx hK;have e80:=hin 8 80 _ (hd ⟨8,.data⟩ (by simp) rfl) (by decide) (by decide) (by decide) rfl rfl;have e85:=hin 13 85 _ (hd ⟨13,.data⟩ (by simp) rfl) (by decide) (by decide) (by decide) rfl rfl;have e87:=hin 15 87 _ (hd ⟨15,.data⟩ (by simp) rfl) (by decide) (by decide) (by decide) rfl rfl;clear hin hout hd;go_simp;refine (HFW.out _ hx).mono ?_;rintro e w' ⟨rfl,h5⟩;exact hK _ h5
        ·intro L a w hin hout hd K;rw [if_neg (by decide),if_neg (by decide),if_neg (by decide)];intro hx hK;have e74:=hin 2 74 _ (hd ⟨2,.data⟩ (by simp) rfl) (by decide) (by decide) (by decide) rfl rfl;have e79:=hin 7 79 _ (hd ⟨7,.data⟩ (by simp) rfl) (by decide) (by decide) (by decide) rfl rfl;have e88:=hin 16 88 _ (hd ⟨16,.data⟩ (by simp) rfl) (by decide) (by decide) (by decide) rfl rfl;clear hin hout hd;go_simp;refine (HMW.out _ hx).mono ?_;rintro e w' ⟨rfl,n9,rfl⟩;exact hK _ ((Ex.refl w).drewN n9)
        ·intro L a w hin hout hd K;rw [if_neg (by decide),if_neg (by decide),if_pos rfl];intro _;trivial
        ·intro L a w hin hout hd K;rw [if_neg (by decide),if_pos (by decide)];trivial
        ·intro L a w hin hout hd K;rw [if_pos rfl];intro hK;have e10:a.tmps[10]?=some (.pointer (some ⟨w3.heap.size,0,none⟩)):=hout 10 (by kernel_rfl);clear hin hout hd;go_simp;exact hK
        ·intro L a w hin hout hd K;rw [if_neg (by decide),if_pos (by decide)];trivial
       ·intro o a w1 K ho hx hin hK;injection (show some _=some o from ho) with ho;subst ho;have e89:=hin 17 89 _ (by kernel_rfl) (by decide) (by decide) (by decide) rfl rfl;clear hin;go_simp;exact hK
       ·intro o ob a w1 B8 K ho hob hx hsl hbl hin hA;injection (show some _=some o from ho) with ho;subst ho;injection (show some _=some ob from hob) with hob;subst hob;have e1:=eval_tmp (hin 1 73 _ (by kernel_rfl) (by decide) (by decide) (by decide) rfl rfl);have e2:=eval_tmp (hsl 90 rfl);refine opwp_append _ _ 22 rfl w3.heap.size 3 (.int .i64 0) 1 8 Tryz.underlying22 infoInt rfl (by decide) (.slice ua (il i (cS pn mn ml al as_ bs u2)).length uc) (il i (cS pn mn ml al as_ bs u2)).length (ints (il i (cS pn mn ml al as_ bs u2))) e1 ((HC6.out.later hx).o1) _ 1 [.int .i64 (u:Int)] e2 (sl_lit1 hbl) (by simp [Value.oneCell']) (by have:=HIL.out.2;have:=HI64.out;unfold maxLen;omega) (by have:=HIL.out.2;have:=HI64.out;omega) ((HC6.out.later hx).ex.size) ?_;intro v' w' hown hg ha;exact hA v' w' (⟨w1,HC6.out.later hx,⟨hown,hg,ha,(HC6.out.later hx).o1⟩⟩)
       ·intro o oa of a w1 v K ho hoa hof hA h1 h2 hK;injection (show some _=some o from ho) with ho;subst ho;injection (show some _=some oa from hoa) with hoa;subst hoa;injection (show some _=some of from hof) with hof;subst hof;have e1:=h1 91 rfl;have e2:=h2 92 rfl;obtain ⟨w2,hc2,hap⟩:=hA;obtain ⟨g1,g2⟩:=hc2.at1g hap;have hfin:=hc2.app1g hap;obtain ⟨va7,vc7,rfl⟩:=own_shape hap.own;clear hc2 hap h1 h2;have HFI:=hid_ hfin;clear hfin;go_simp;exact hK _ HFI.out
       ·intro B8 v w1 hF;rw [←HL1.out] at hF;have HF:=hid_ hF;clear hF;simp only [putK,Act.put,List.setIfInBounds_toArray,List.set_cons_zero,List.set_cons_succ];go_wp2_with fail
        go_roundw
        case rel=> first | exact ⟨i + 1,_,_,by omega,by go_num,HF⟩ | ((repeat apply Exists.intro);exact ⟨⟨i + 1,_,_,by omega,by go_num,HF⟩,rfl⟩)
        case measure=> simp [intOf];omega
     ·obtain rfl:i=al.length:=by omega
      have HC:=hid_ hc.out;obtain ⟨va,vc,rfl⟩:=own_shape HC.out.o0;obtain ⟨ua,uc,rfl⟩:=own_shape HC.out.o1;have k0:=HC.out.b0;have k1:=HC.out.b1;have k2:=HC.out.b2;have X0:=hid_ ((X02.out.trans HX3.out).trans HC.out.ex);have HQB:=hid_ (show q + 1 + 1 + 1 < w3.heap.size from by have:=HX2.out.size;have:=HX3.out.size;have:=HQS.out;omega);obtain ⟨q0,q1,q2,qf0,qf1,qf2⟩:=BQ.out.ex ((HX2.out.trans HX3.out).trans HC.out.ex);have HBB:=hid_ (show ∀v (L:List Int),wr.ownsRow w3.heap.size 3 1 v L.length (ints L)→∀X,v.ownBlock=some X→X≠q + 1 + 1 + 1 from fun v L h X e=> by
       have:=(h.lt X e).1;have:=HQB.out;omega)
      have HM4:=HM3.out;clear hc;go_wp2_with fail
      subst HM4;exact bodyPost_ret (v:= .tuple #[.agg #[.slice va (il al.length (cP al bl)).length vc,.slice ua (il al.length (cS pn mn ml al as_ bs u2)).length uc,.int .i64 bk],.int .i64 0]) (by simp [results,Tryz.results23,go_sem,q0,q1,q2]) rfl ⟨⟨_,_,rfl,set3_isl (Sl.own HC.out.o0) (HBB.out _ _ HC.out.o0) _ _ _,set3_isl (Sl.own HC.out.o1) (HBB.out _ _ HC.out.o1) _ _ _⟩,set3_ex X0.out HQW.out _ _ _⟩
   ·rw [if_pos h2] at HED;have h3:=HED.out;subst h3;have HM2:=HMD.out;rw [if_pos (by decide)] at HM2;subst HM2;have i1:((al.length:Int) !=(bl.length:Int))=true:=by simp;omega
    have n2':¬((al.length:Int)=(bl.length:Int)):=by omega
    clear h2;go_wp2_with fail
    refine HCK.out.mono ?_;rintro e w3 ⟨rfl,hx3⟩;obtain ⟨q0,q1,q2,qf0,qf1,qf2⟩:=BQ.out.ex (HX2.out.trans hx3);have g0':=hx3.cell g0;have k0':=hx3.cell k0;have X03:=hid_ (X02.out.trans hx3);clear hx3;go_wp2_with fail
    exact bodyPost_ret (v:= .tuple #[.agg #[.slice none 0 0,.slice none 0 0,.int .i64 0],.int .i64 10]) (by simp [results,Tryz.results23,go_sem,q0,q1,q2]) rfl ⟨⟨_,_,rfl,isl_nil _,isl_nil _⟩,set3_ex X03.out HQW.out _ _ _⟩
  ·rw [if_pos h1] at HED;have h3:=HED.out;subst h3;have HM2:=HMD.out;rw [if_pos h1] at HM2;subst HM2;have hb:(E2 !=0)=true:=by simpa using h1
   have hb2:(E2==0)=false:=by simpa using h1
   clear h1;go_wp2_with fail
   refine HCK.out.mono ?_;rintro e w3 ⟨rfl,hx3⟩;obtain ⟨q0,q1,q2,qf0,qf1,qf2⟩:=BQ.out.ex (HX2.out.trans hx3);have X03:=hid_ (X02.out.trans hx3);clear hx3;go_wp2_with fail
   exact bodyPost_ret (v:= .tuple #[.agg #[.slice none 0 0,.slice none 0 0,.int .i64 0],.int .i64 E2]) (by simp [results,Tryz.results23,go_sem,q0,q1,q2]) rfl ⟨⟨_,_,rfl,isl_nil _,isl_nil _⟩,set3_ex X03.out HQW.out _ _ _⟩
 ·rw [if_pos h0] at HED;have h3:=HED.out;subst h3;have HM2:=HMD.out;rw [if_pos h0] at HM2;subst HM2;rcases ho with ⟨h1,_⟩ | ⟨_,ptr,rfl⟩
  ·exact absurd h1 h0
  obtain ⟨q0,q1,q2,qf0,qf1,qf2⟩:=BQ.out.ex HX2.out;have hb:(E1 !=0)=true:=by simpa using h0
  have hb2:(E1==0)=false:=by simpa using h0
  clear h0;go_wp2_with fail
  exact bodyPost_ret (v:= .tuple #[.agg #[.slice none 0 0,.slice none 0 0,.int .i64 0],.int .i64 E1]) (by simp [results,Tryz.results23,go_sem,q0,q1,q2]) rfl ⟨⟨_,_,rfl,isl_nil _,isl_nil _⟩,set3_ex X02.out HQW.out _ _ _⟩
end Go.Proofs.YtgdmlmhpineibaaGreat
