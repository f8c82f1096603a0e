/- Walks of equivalence.open and Check. -/
import Derived.Test.YtgdmlmhpineibaaGreatZg26
namespace Go.Proofs.YtgdmlmhpineibaaGreat
set_option linter.unusedVariables false
set_option linter.unusedSimpArgs false
set_option maxRecDepth 100000
set_option maxHeartbeats 4000000
section
open Go.RowKit
theorem eOpen_any (w:World) (p m:Int) (ml:List Int) (mv:Value) (hmv:ISl w mv ml) (n:Int) (pl sl:List Int) (pv sv:Value) (hp:ISl w pv pl) (hs:ISl w sv sl) (fr:Int):
  Calls Tryz.prog 46 #[.agg #[.int .i64 p,.int .i64 m,mv],.int .i64 n,.agg #[pv,sv,.int .i64 fr]] w fun r w'=> OpnR p m ml (monS p m ml n pl sl fr) r w'∧Ex w w':=by
 obtain ⟨a0,a1,a2,ea⟩:=boxF_facts w p m mv;obtain ⟨b0,b1,b2,eb⟩:=boxMo_facts (w.alloc (.cells #[.int .i64 p,.int .i64 m,mv] 24)) pv sv fr;have a0:=eb.cell a0;have a1:=eb.cell a1;have a2:=eb.cell a2;have hsz:(w.alloc (.cells #[.int .i64 p,.int .i64 m,mv] 24)).heap.size=w.heap.size + 1:=by simp
 rw [hsz] at b0 b1 b2;have HE:=hid_ (ea.trans eb);have HNW:=hid_ (New_any p m ml mv _ (hmv.ex HE.out));have HIJ:=hid_ (fun w1 (hx:Ex w w1)=> injective_any w1 pl pv n (hp.ex hx));have HFA:=hid_ (fun w1 (hx:Ex w w1) (b pn mn x0:Nat) (hg:GFat w1 b pn mn ml x0)=> factors_any w1 hg sl sv (hs.ex hx));obtain ⟨ma,mc,rfl,_,_,_⟩:=hmv.open;obtain ⟨pa,pc,rfl,_,p2,_⟩:=hp.open;obtain ⟨sa,sc,rfl,_,s2,_⟩:=hs.open;unfold maxLen at p2 s2;obtain ⟨E,hE⟩:∃E,monS p m ml n pl sl fr=E:=⟨_,rfl⟩;have hM:=hE;unfold monS at hM;rw [hE];clear hmv hp hs hE hsz ea eb;go_enter Tryz.func46,Tryz.ntmps46
 go_wp2_with fail
 obtain ⟨q,hq⟩:∃q,w.heap.size=q:=⟨_,rfl⟩;rw [hq] at a0 a1 a2 b0 b1 b2
 try simp only [hq]
 clear hq;generalize (w.alloc (.cells #[.int .i64 p,.int .i64 m,.slice ma ml.length mc] 24)).alloc (.cells #[.slice pa pl.length pc,.slice sa sl.length sc,.int .i64 fr] 26)=w1 at *;have A0:=hid_ a0;have A1:=hid_ a1;have B0:=hid_ b0;have B1:=hid_ b1;have B2:=hid_ b2;clear a0 a1 a2 b0 b1 b2;refine HNW.out.mono ?_;rintro e w2 ⟨hn,hx2⟩;rcases hn with ⟨pn,mn,x0,b,rfl,rfl,rfl,hg,x1,x2⟩ | ⟨hno,rfl⟩
 ·have hck:chkS pn mn ml=0:=(chk_iff _ _ _).2 (hg.fldB x1 x2);rw [if_neg (by rw [hck];decide),Int.toNat_natCast,Int.toNat_natCast] at hM;have HG:=hid_ hg;have HX:=hid_ (HE.out.trans hx2);have a1:=hx2.cell A1.out;have b0:=hx2.cell B0.out;have b1:=hx2.cell B1.out;have b2:=hx2.cell B2.out;have HX2:=hid_ hx2;have HXX:=hid_ (show 1≤x0∧x0 < pn ^ mn from ⟨x1,x2⟩);clear hck hg hx2 x1 x2;by_cases hn1:n < 1∨64 < n
  ·rw [if_pos hn1] at hM;subst hM;by_cases h1:n < 1
   ·have e1:decide (n < 1)=true:=decide_eq_true h1;clear hn1 h1;go_wp2_with fail
    go_ret2;exact ⟨opn_no (by decide) none _,HX.out⟩
   ·have e1:decide (n < 1)=false:=decide_eq_false h1;have e2:decide (64 < n)=true:=decide_eq_true (by omega);clear hn1 h1;go_wp2_with fail
    go_ret2;exact ⟨opn_no (by decide) none _,HX.out⟩
  ·rw [if_neg hn1] at hM;have e1:decide (n < 1)=false:=decide_eq_false (by omega);have e2:decide (64 < n)=false:=decide_eq_false (by omega);by_cases hln:(pl.length:Int)≠n∨(sl.length:Int)≠n
   ·rw [if_pos hln] at hM;subst hM;by_cases h1:(pl.length:Int)=n
    ·have e3:((pl.length:Int) !=n)=false:=by simpa using h1
     have e4:((sl.length:Int) !=n)=true:=by simp;omega
     clear hln h1 hn1;go_wp2_with fail
     go_ret2;exact ⟨opn_no (by decide) none _,HX.out⟩
    ·have e3:((pl.length:Int) !=n)=true:=by simpa using h1
     clear hln h1 hn1;go_wp2_with fail
     go_ret2;exact ⟨opn_no (by decide) none _,HX.out⟩
   ·rw [if_neg hln] at hM;have e3:((pl.length:Int) !=n)=false:=by simp;omega
    have e4:((sl.length:Int) !=n)=false:=by simp;omega
    have HIW:=hid_ (HIJ.out w2 HX.out);clear hln hn1;by_cases hr:rngB pl n=true
    ·obtain ⟨D,hD⟩:∃D,dupB pl=D:=⟨_,rfl⟩;have hij:injS pl n=if D=true then 18 else 0:=by unfold injS;rw [if_neg (by rw [hr];decide),hD]
     rw [hD] at hM;rw [hij] at HIW;by_cases hf:fr < 0∨(mn:Int)≤fr
     ·rw [if_pos (.inr hf)] at hM;subst hM;cases D <;> (
       first | rw [if_pos rfl] at HIW | rw [if_neg (by decide)] at HIW
       by_cases h1:fr < 0
       ·have e5:decide (fr < 0)=true:=decide_eq_true h1;clear hf h1 hij hD;go_wp2_with (go_at_call 88;refine HIW.out.mono ?_;rintro e w3 ⟨rfl,hx3⟩;have HX3:=hid_ (HX.out.trans hx3);have a1:=hx3.cell a1;have b1:=hx3.cell b1;have b2:=hx3.cell b2;clear hx3)
        go_ret2;exact ⟨opn_no (by decide) (some ⟨b,0,none⟩) _,HX3.out⟩
       ·have e5:decide (fr < 0)=false:=decide_eq_false h1;have e6:decide ((mn:Int)≤fr)=true:=decide_eq_true (by omega);clear hf h1 hij hD;go_wp2_with (go_at_call 88;refine HIW.out.mono ?_;rintro e w3 ⟨rfl,hx3⟩;have HX3:=hid_ (HX.out.trans hx3);have a1:=hx3.cell a1;have b1:=hx3.cell b1;have b2:=hx3.cell b2;clear hx3)
        go_ret2;exact ⟨opn_no (by decide) (some ⟨b,0,none⟩) _,HX3.out⟩)
     ·rw [if_neg (by
        rintro (h | h);·rw [hr] at h;cases h
        ·exact hf h)] at hM
      have e5:decide (fr < 0)=false:=decide_eq_false (by omega);have e6:decide ((mn:Int)≤fr)=false:=decide_eq_false (by omega)
      cases D with
      | true=>
       rw [if_pos rfl] at HIW hM;subst hM;clear hf hij hD;go_wp2_with (go_at_call 88;refine HIW.out.mono ?_;rintro e w3 ⟨rfl,hx3⟩;have HX3:=hid_ (HX.out.trans hx3);have a1:=hx3.cell a1;have b1:=hx3.cell b1;have b2:=hx3.cell b2;clear hx3)
       go_ret2;exact ⟨opn_no (by decide) (some ⟨b,0,none⟩) _,HX3.out⟩
      | false=>
       rw [if_neg (by decide)] at HIW hM;have HME:=hid_ hM;clear hf hij hD hM;go_wp2_with (go_at_call 88;refine HIW.out.mono ?_;rintro e w3 ⟨rfl,hx3⟩;have HX3:=hid_ (HX.out.trans hx3);have a1:=hx3.cell a1;have b1:=hx3.cell b1;have b2:=hx3.cell b2;have HG3:=hid_ (HG.out.ex hx3);have HFW:=hid_ (HFA.out w3 HX3.out b pn mn x0 HG3.out);clear hx3)
       refine HFW.out.mono ?_;rintro e w4 ⟨rfl,hx4⟩;have HX4:=hid_ (HX3.out.trans hx4);have HG4:=hid_ (HG3.out.ex hx4);rw [HME.out];clear hx4;go_wp2_with fail
       go_ret2;refine ⟨?_,HX4.out⟩;by_cases h0:E=0
       ·subst h0;exact .inl ⟨rfl,b,pn,mn,x0,rfl,rfl,rfl,HG4.out,HXX.out.1,HXX.out.2⟩
       ·exact opn_no h0 (some ⟨b,0,none⟩) _
    ·have hr:rngB pl n=false:=by simpa using hr
     have hij:injS pl n=6:=by unfold injS;rw [if_pos hr]
     rw [hij] at HIW;rw [if_pos (.inl hr)] at hM;subst hM;clear hij hr;go_wp2_with (go_at_call 88;refine HIW.out.mono ?_;rintro e w3 ⟨rfl,hx3⟩;have HX3:=hid_ (HX.out.trans hx3);have a1:=hx3.cell a1;have b1:=hx3.cell b1;have b2:=hx3.cell b2;clear hx3)
     go_ret2;exact ⟨opn_no (by decide) (some ⟨b,0,none⟩) _,HX3.out⟩
 ·have hck:chkS p m ml≠0:=fun h=> hno ((chk_iff _ _ _).1 h);rw [if_pos hck] at hM;subst hM;clear hck hno;go_wp2_with fail
  go_ret2;exact ⟨opn_no (by decide) none _,HE.out.trans hx2⟩
theorem eCheck_any (w:World) (p m:Int) (ml:List Int) (mv:Value) (hmv:ISl w mv ml) (n:Int) (pl sl:List Int) (pv sv:Value) (hp:ISl w pv pl) (hs:ISl w sv sl) (fr:Int):
  Calls Tryz.prog 21 #[.agg #[.int .i64 p,.int .i64 m,mv],.int .i64 n,.agg #[pv,sv,.int .i64 fr]] w fun r w'=> r= .returned (.int .i64 (monS p m ml n pl sl fr))∧Ex w w':=by
 obtain ⟨ma,mc,rfl,_,_,_⟩:=hmv.open;obtain ⟨pa,pc,rfl,_,_,_⟩:=hp.open;obtain ⟨sa,sc,rfl,_,_,_⟩:=hs.open;have HO:=hid_ (fun w1 (hx:Ex w w1)=> eOpen_any w1 p m ml _ (hmv.ex hx) n pl sl _ _ (hp.ex hx) (hs.ex hx) fr);obtain ⟨E,hE⟩:∃E,monS p m ml n pl sl fr=E:=⟨_,rfl⟩;rw [hE] at HO ⊢;clear hE hmv hp hs;go_enter Tryz.func21,Tryz.ntmps21
 go_wp2_with fail
 refine (HO.out _ (((Ex.refl w).alloc _).alloc _)).mono ?_;rintro e w2 ⟨hr,hx2⟩;have HX:=hid_ ((((Ex.refl w).alloc _).alloc _).trans hx2);rcases hr with ⟨rfl,b,pn,mn,x0,rfl,rfl,rfl,hg,_,_⟩ | ⟨h0,ptr,rfl⟩
 ·clear hg hx2;go_wp2_with fail
  go_ret;exact ⟨rfl,HX.out⟩
 ·clear hx2 h0;go_wp2_with fail
  go_ret;exact ⟨rfl,HX.out⟩
end
section
open Go.RowKit
def piF (pl:List Int) (i:Nat):Nat:=(pl.getD i 0).toNat
def vF (p m:Nat) (ml sl:List Int) (fr:Nat) (x:List Int) (i:Nat):Int:=
 ((kmul p m (lw ml) (kin (p ^ m) (sl.getD i 0)) (frb p m (lw ml) (kin (p ^ m) (x.getD i 0)) fr):Nat):Int)
def imgF (p m:Nat) (ml pl sl:List Int) (fr:Nat) (x:List Int) (N:Nat):Nat→Int:=plc (piF pl) (vF p m ml sl fr x) N
theorem rngB_at {l:List Int} {n:Int} (h:rngB l n=true) {i:Nat} (hi:i < l.length):0≤l.getD i 0∧l.getD i 0 < n:=by
 unfold rngB at h;have:=List.all_eq_true.1 h (l.getD i 0) (by rw [List.getD_eq_getElem?_getD,List.getElem?_eq_getElem hi];exact List.getElem_mem _);simpa using this
theorem get_getD {l:List Int} {i:Nat} (hi:i < l.length):l[i]?=some (l.getD i 0):=by
 rw [List.getD_eq_getElem?_getD,List.getElem?_eq_getElem hi];rfl
section
variable {b p m x0:Nat} {ml:List Int}
theorem image_any (w:World) (hg:GFat w b p m ml x0) (N:Nat) (hN:N≤64) (pl sl x:List Int) (pv sv xv:Value) (hp:ISl w pv pl) (hs:ISl w sv sl) (hx:ISl w xv x) (fr:Nat) (hfr:fr < m) (hpl:pl.length=N) (hsl:sl.length=N) (hxl:x.length=N) (hr:rngB pl N=true):
  Calls Tryz.prog 50 #[.pointer (some ⟨b,0,none⟩),.agg #[pv,sv,.int .i64 fr],xv] w fun r w'=> ∃g,r= .returned (.slice (some ⟨g,0,none⟩) N N)∧Own w' w.heap.size 3 g N (iv (imgF p m ml pl sl fr x N))∧Ex w w':=by
 obtain ⟨b0,b1,b2,eb⟩:=boxMo_facts w pv sv fr;have p2:=hg.sh.p2;have m1:=hg.sh.m1;have HFR:=hid_ (fun (w1:World) (h1:Ex w w1) (y:Int)=> Frobenius_any w1 (hg.ex h1) y fr hfr);have HMU:=hid_ (fun (w1:World) (h1:Ex w w1) (y z:Int)=> Mul_any w1 (hg.ex h1) y z);obtain ⟨pa,pc,rfl,_,q2,p3⟩:=hp.open;obtain ⟨sa,sc,rfl,_,s2,s3⟩:=hs.open;obtain ⟨xa,xc,rfl,_,x2,x3⟩:=hx.open;unfold maxLen at q2 s2 x2;rw [hpl] at p3;rw [hsl] at s3;rw [hxl] at x3;rw [hpl,hsl,hxl];rw [hpl,hsl] at b0 b1 eb b2;have P3:=hid_ p3;have S3:=hid_ s3;have X3:=hid_ x3;have HRG:=hid_ (fun i (hi:i < N)=> rngB_at hr (i:=i) (by omega));have HGP:=hid_ (fun i (hi:i < N)=> get_getD (l:=pl) (i:=i) (by omega));have HGS:=hid_ (fun i (hi:i < N)=> get_getD (l:=sl) (i:=i) (by omega));have HGX:=hid_ (fun i (hi:i < N)=> get_getD (l:=x) (i:=i) (by omega));have HEB:=hid_ eb;clear hg hp hs hx p3 s3 x3 eb hpl hsl hxl hr;go_enter Tryz.func50,Tryz.ntmps50
 go_wp2_with (at_make;refine wpList_make_arr _ rfl _ _ 22 rfl 3 (.int .i64 0) 8 Tryz.underlying22 infoInt rfl _ N rfl rfl rfl (by omega) (by unfold maxLen;omega) ?_)
 obtain ⟨B,hB⟩:∃B,w.heap.size=B:=⟨_,rfl⟩;rw [hB] at b0 b1 b2
 try simp only [hB]
 have HBW:=hid_ hB;have hsz:(w.alloc (.cells #[.slice pa N pc,.slice sa N sc,.int .i64 fr] 26)).heap.size=B + 1:=by simp [hB]
 clear hB;generalize w.alloc (.cells #[.slice pa N pc,.slice sa N sc,.int .i64 fr] 26)=w1 at *;intro w3 hown hx3;have B0:=hid_ b0;have B1:=hid_ b1;have B2:=hid_ b2;obtain ⟨g,hgg⟩:∃g,B + 1=g:=⟨_,rfl⟩;have HO3:=hid_ (show Own w3 g 3 g N (iv (plc (piF pl) (vF p m ml sl fr x) 0)) from by rw [←hgg];exact hown)
 try simp only [hgg]
 have HX3:=hid_ hx3;have HGE:=hid_ (show w1.heap.size=g from by rw [←hgg,←hsz]);clear hown hx3 b0 b1 b2 hgg hsz;go_wp2_with fail
 go_loopw [15] (fun i' wr=> ∃(i:Nat),i≤N∧i'= .int .i64 i∧Hid (Own wr g 3 g N (iv (plc (piF pl) (vF p m ml sl fr x) i)))∧Hid (Ex w1 wr)) (fun i' _=> N - (intOf i').toNat)
 case atStart=> exact ⟨0,by omega,rfl,HO3,HX3⟩
 case round=>
  clear HO3;obtain ⟨i,hi,rfl,hown,hex⟩:=hrel;by_cases hin:i < N
  ·obtain ⟨pb,po,rfl,hpc⟩:=P3.out (by omega);obtain ⟨sb,so,rfl,hsc⟩:=S3.out (by omega);obtain ⟨xb,xo,rfl,hxc⟩:=X3.out (by omega);have hpr:=HRG.out i hin;have EXW:=hid_ (HEB.out.trans hex.out);obtain ⟨y,hy⟩:∃y,piF pl i=y:=⟨_,rfl⟩;have hyp:pl.getD i 0=(y:Int):=by rw [←hy];unfold piF;omega
   have hyN:y < N:=by omega
   have hgp:=HGP.out i hin;rw [hyp] at hgp;have CPW:=hid_ (hpc i _ hgp);have cp:=EXW.out.cell CPW.out;obtain ⟨s,hs⟩:∃s,sl.getD i 0=s:=⟨_,rfl⟩;have hgs:=HGS.out i hin;rw [hs] at hgs;have CSW:=hid_ (hsc i _ hgs);have cs:=EXW.out.cell CSW.out;obtain ⟨z,hz⟩:∃z,x.getD i 0=z:=⟨_,rfl⟩;have hgx:=HGX.out i hin;rw [hz] at hgx;have cx:=EXW.out.cell (hxc i _ hgx);have i1:(0:Int)≤(i:Int):=by omega
   have i2:(i:Int) < (N:Int):=by omega
   have i3:(0:Int)≤(y:Int):=by omega
   have i4:(y:Int) < (N:Int):=by omega
   have HFW:=hid_ (fun (w5:World) (h5:Ex wr w5)=> HFR.out w5 (EXW.out.trans h5) z);obtain ⟨t,ht⟩:∃t,frb p m (lw ml) (kin (p ^ m) z) fr=t:=⟨_,rfl⟩;have htl:t < p ^ m:=by rw [←ht];exact frb_lt p2 m1 (kin_lt (Nat.pow_pos (by omega)) _) _
   rw [ht] at HFW;have HMW:=hid_ (fun (w5:World) (h5:Ex wr w5)=> by
    have:=HMU.out w5 (EXW.out.trans h5) s (t:Int);rw [kin_of htl] at this;exact this)
   obtain ⟨u,hu⟩:∃u,kmul p m (lw ml) (kin (p ^ m) s) t=u:=⟨_,rfl⟩;rw [hu] at HMW;have HVE:=hid_ (show upd (plc (piF pl) (vF p m ml sl fr x) i) y (u:Int)=plc (piF pl) (vF p m ml sl fr x) (i + 1) from by
    show _=upd (plc (piF pl) (vF p m ml sl fr x) i) (piF pl i) (vF p m ml sl fr x i)
    rw [hy]
    congr 1
    unfold vF;rw [hs,hz,ht,hu])
   have d0:=hex.out.cell B0.out;have d1:=hex.out.cell B1.out;have d2:=hex.out.cell B2.out;have HOW:=hid_ hown.out;have HEX:=hid_ hex.out;have HXS:=hid_ (fun (w5:World) (h5:Ex wr w5)=> (HOW.out.ex h5).exSet (a:=w1) (Nat.le_of_eq HGE.out) (HEX.out.trans h5) y (.int .i64 (u:Int)));have HOS:=hid_ (fun (w5:World) (h5:Ex wr w5)=> show Own (w5.setCell ⟨g,y,none⟩ (.int .i64 (u:Int))) g 3 g N (iv (plc (piF pl) (vF p m ml sl fr x) (i + 1))) from by
    rw [←HVE.out,←iv_upd];exact (HOW.out.ex h5).set y _)
   have CP:=hid_ cp;have CS:=hid_ cs;have CX:=hid_ cx;have HYN:=hid_ hyN;clear hpr hy hyp hgp hs hgs hz hgx ht htl hu hpc hsc hxc hown hex;go_wp2_with fail
   have CB0:=hid_ d0;have CB1:=hid_ d1;have CB2:=hid_ d2;have HALL:=hid_ (fun (w5:World) (h5:Ex wr w5)=> (⟨h5.cell CP.out,h5.cell CS.out,h5.cell CB0.out,h5.cell CB1.out,h5.cell CB2.out⟩:w5.cell? ⟨pb,po + i,none⟩=some (.int .i64 (y:Int))∧w5.cell? ⟨sb,so + i,none⟩=some (.int .i64 s)∧w5.cell? ⟨B,0,none⟩=some (.slice (some ⟨pb,po,none⟩) N pc)∧w5.cell? ⟨B,1,none⟩=some (.slice (some ⟨sb,so,none⟩) N sc)∧w5.cell? ⟨B,2,none⟩=some (.int .i64 (fr:Int))));have HALS:=hid_ (fun (w5:World) (h5:Ex wr w5)=> (⟨(HEB.out.trans (HXS.out w5 h5)).cell CPW.out,(HEB.out.trans (HXS.out w5 h5)).cell CSW.out,(HXS.out w5 h5).cell B0.out,(HXS.out w5 h5).cell B1.out,(HXS.out w5 h5).cell B2.out⟩:(w5.setCell ⟨g,y,none⟩ (.int .i64 (u:Int))).cell? ⟨pb,po + i,none⟩=some (.int .i64 (y:Int))∧(w5.setCell ⟨g,y,none⟩ (.int .i64 (u:Int))).cell? ⟨sb,so + i,none⟩=some (.int .i64 s)∧(w5.setCell ⟨g,y,none⟩ (.int .i64 (u:Int))).cell? ⟨B,0,none⟩=some (.slice (some ⟨pb,po,none⟩) N pc)∧(w5.setCell ⟨g,y,none⟩ (.int .i64 (u:Int))).cell? ⟨B,1,none⟩=some (.slice (some ⟨sb,so,none⟩) N sc)∧(w5.setCell ⟨g,y,none⟩ (.int .i64 (u:Int))).cell? ⟨B,2,none⟩=some (.int .i64 (fr:Int))));clear d0 d1 d2 cp cs;have G0:Ex wr wr.drew:=(Ex.refl wr).drew
   go_region_held3 (fun w'=> w'.cell? ⟨pb,po + i,none⟩=some (.int .i64 (y:Int))∧w'.cell? ⟨sb,so + i,none⟩=some (.int .i64 s)∧w'.cell? ⟨B,0,none⟩=some (.slice (some ⟨pb,po,none⟩) N pc)∧w'.cell? ⟨B,1,none⟩=some (.slice (some ⟨sb,so,none⟩) N sc)∧w'.cell? ⟨B,2,none⟩=some (.int .i64 (fr:Int)))
    (first | with_reducible exact HALL.out _ G0 | with_reducible exact HALL.out _ X5 | with_reducible exact HALL.out _ X6 | with_reducible exact HALS.out _ X6)
    (first | (go_at_call 53;(with_reducible refine (HFW.out _ G0).mono ?_);rintro e w5 ⟨rfl,h5⟩;have X5:=G0.trans h5;clear h5) | (go_at_call 59;(with_reducible refine (HMW.out _ X5).mono ?_);rintro e w6 ⟨rfl,n6,rfl⟩;have X6:=X5.drewN n6;have co6:=(HOW.out.ex X6).cell HYN.out;have cf6:=(HOW.out.ex X6).frz y))
   go_wp2_with fail
   go_roundw
   case rel=> first | exact ⟨i + 1,by omega,by go_num,hid_ (HOS.out _ X6),hid_ (HXS.out _ X6)⟩ | ((repeat apply Exists.intro);exact ⟨⟨i + 1,by omega,by go_num,hid_ (HOS.out _ X6),hid_ (HXS.out _ X6)⟩,rfl⟩)
   case measure=> simp [intOf];omega
  ·obtain rfl:i=N:=by omega
   go_wp2_with fail
   go_ret;exact ⟨g,rfl,hown.out.mono (by have:=HGE.out;have:=HBW.out;have:=HEB.out.size;omega),HEB.out.trans hex.out⟩
end
end
end Go.Proofs.YtgdmlmhpineibaaGreat
