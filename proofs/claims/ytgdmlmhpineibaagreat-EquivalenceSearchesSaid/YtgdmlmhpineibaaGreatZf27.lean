/- Walks of equivalence.open and Check. -/
import Derived.BigQuiet
import Derived.Test.YtgdmlmhpineibaaGreatZf17
import Derived.Test.YtgdmlmhpineibaaGreatZf22
import Derived.Test.YtgdmlmhpineibaaGreatZf23
import Derived.Test.YtgdmlmhpineibaaGreatZf25
import Derived.Test.YtgdmlmhpineibaaGreatZf26
namespace Go.Proofs.YtgdmlmhpineibaaGreat
set_option linter.unusedVariables false
set_option linter.unusedSimpArgs false
set_option maxRecDepth 100000
set_option maxHeartbeats 4000000
section
open Go.RowKit
theorem eOpen_any (w:World) (p m:Int) (ml:List Int) (mv:Value) (hmv:ISl w mv ml) (n:Int) (pl sl:List Int) (pv sv:Value) (hp:ISl w pv pl) (hs:ISl w sv sl) (fr:Int):
  Calls Tryz.prog 46 #[.agg #[.int .i64 p,.int .i64 m,mv],.int .i64 n,.agg #[pv,sv,.int .i64 fr]] w fun r w'=> OpnR p m ml (monS p m ml n pl sl fr) r w'∧Ex w w':=by
 obtain ⟨a0,a1,a2,ea⟩:=boxF_facts w p m mv;obtain ⟨b0,b1,b2,eb⟩:=boxMo_facts (w.alloc (.cells #[.int .i64 p,.int .i64 m,mv] 24)) pv sv fr;have a0:=eb.cell a0;have a1:=eb.cell a1;have a2:=eb.cell a2;have hsz:(w.alloc (.cells #[.int .i64 p,.int .i64 m,mv] 24)).heap.size=w.heap.size + 1:=by simp
 rw [hsz] at b0 b1 b2;have HE:=hid_ (ea.trans eb);have HNW:=hid_ (New_any p m ml mv _ (hmv.ex HE.out));have HIJ:=hid_ (fun w1 (hx:Ex w w1)=> injective_any w1 pl pv n (hp.ex hx));have HFA:=hid_ (fun w1 (hx:Ex w w1) (b pn mn x0:Nat) (hg:GFat w1 b pn mn ml x0)=> factors_any w1 hg sl sv (hs.ex hx));obtain ⟨ma,mc,rfl,_,_,_⟩:=hmv.open;obtain ⟨pa,pc,rfl,_,p2,_⟩:=hp.open;obtain ⟨sa,sc,rfl,_,s2,_⟩:=hs.open;unfold maxLen at p2 s2;obtain ⟨E,hE⟩:∃E,monS p m ml n pl sl fr=E:=⟨_,rfl⟩;have hM:=hE;unfold monS at hM;rw [hE];clear hmv hp hs hE hsz ea eb;go_enter Tryz.func46,Tryz.ntmps46
 go_wp2_with fail
 obtain ⟨q,hq⟩:∃q,w.heap.size=q:=⟨_,rfl⟩;rw [hq] at a0 a1 a2 b0 b1 b2
 try simp only [hq]
 clear hq;generalize (w.alloc (.cells #[.int .i64 p,.int .i64 m,.slice ma ml.length mc] 24)).alloc (.cells #[.slice pa pl.length pc,.slice sa sl.length sc,.int .i64 fr] 26)=w1 at *;have A0:=hid_ a0;have A1:=hid_ a1;have B0:=hid_ b0;have B1:=hid_ b1;have B2:=hid_ b2;clear a0 a1 a2 b0 b1 b2;refine HNW.out.mono ?_;rintro e w2 ⟨hn,hx2⟩;rcases hn with ⟨pn,mn,x0,b,rfl,rfl,rfl,hg,x1,x2⟩ | ⟨hno,rfl⟩
 ·have hck:chkS pn mn ml=0:=(chk_iff _ _ _).2 (hg.fldB x1 x2);rw [if_neg (by rw [hck];decide),Int.toNat_natCast,Int.toNat_natCast] at hM;have HG:=hid_ hg;have HX:=hid_ (HE.out.trans hx2);have a1:=hx2.cell A1.out;have b0:=hx2.cell B0.out;have b1:=hx2.cell B1.out;have b2:=hx2.cell B2.out;have HX2:=hid_ hx2;have HXX:=hid_ (show 1≤x0∧x0 < pn ^ mn from ⟨x1,x2⟩);clear hck hg hx2 x1 x2;by_cases hn1:n < 1∨64 < n
  ·rw [if_pos hn1] at hM;subst hM;by_cases h1:n < 1
   ·have e1:decide (n < 1)=true:=decide_eq_true h1;clear hn1 h1;go_wp2_with fail
    go_ret2;exact ⟨opn_no (by decide) none _,HX.out⟩
   ·have e1:decide (n < 1)=false:=decide_eq_false h1;have e2:decide (64 < n)=true:=decide_eq_true (by omega);clear hn1 h1;go_wp2_with fail
    go_ret2;exact ⟨opn_no (by decide) none _,HX.out⟩
  ·rw [if_neg hn1] at hM;have e1:decide (n < 1)=false:=decide_eq_false (by omega);have e2:decide (64 < n)=false:=decide_eq_false (by omega);by_cases hln:(pl.length:Int)≠n∨(sl.length:Int)≠n
   ·rw [if_pos hln] at hM;subst hM;by_cases h1:(pl.length:Int)=n
    ·have e3:((pl.length:Int) !=n)=false:=by simpa using h1
     have e4:((sl.length:Int) !=n)=true:=by simp;omega
     clear hln h1 hn1;go_wp2_with fail
     go_ret2;exact ⟨opn_no (by decide) none _,HX.out⟩
    ·have e3:((pl.length:Int) !=n)=true:=by simpa using h1
     clear hln h1 hn1;go_wp2_with fail
     go_ret2;exact ⟨opn_no (by decide) none _,HX.out⟩
   ·rw [if_neg hln] at hM;have e3:((pl.length:Int) !=n)=false:=by simp;omega
    have e4:((sl.length:Int) !=n)=false:=by simp;omega
    have HIW:=hid_ (HIJ.out w2 HX.out);clear hln hn1;by_cases hr:rngB pl n=true
    ·obtain ⟨D,hD⟩:∃D,dupB pl=D:=⟨_,rfl⟩;have hij:injS pl n=if D=true then 18 else 0:=by unfold injS;rw [if_neg (by rw [hr];decide),hD]
     rw [hD] at hM;rw [hij] at HIW;by_cases hf:fr < 0∨(mn:Int)≤fr
     ·rw [if_pos (.inr hf)] at hM;subst hM;cases D <;> (
       first | rw [if_pos rfl] at HIW | rw [if_neg (by decide)] at HIW
       by_cases h1:fr < 0
       ·have e5:decide (fr < 0)=true:=decide_eq_true h1;clear hf h1 hij hD;go_wp2_with (go_at_call 88;refine HIW.out.mono ?_;rintro e w3 ⟨rfl,hx3⟩;have HX3:=hid_ (HX.out.trans hx3);have a1:=hx3.cell a1;have b1:=hx3.cell b1;have b2:=hx3.cell b2;clear hx3)
        go_ret2;exact ⟨opn_no (by decide) (some ⟨b,0,none⟩) _,HX3.out⟩
       ·have e5:decide (fr < 0)=false:=decide_eq_false h1;have e6:decide ((mn:Int)≤fr)=true:=decide_eq_true (by omega);clear hf h1 hij hD;go_wp2_with (go_at_call 88;refine HIW.out.mono ?_;rintro e w3 ⟨rfl,hx3⟩;have HX3:=hid_ (HX.out.trans hx3);have a1:=hx3.cell a1;have b1:=hx3.cell b1;have b2:=hx3.cell b2;clear hx3)
        go_ret2;exact ⟨opn_no (by decide) (some ⟨b,0,none⟩) _,HX3.out⟩)
     ·rw [if_neg (by
        rintro (h | h);·rw [hr] at h;cases h
        ·exact hf h)] at hM
      have e5:decide (fr < 0)=false:=decide_eq_false (by omega);have e6:decide ((mn:Int)≤fr)=false:=decide_eq_false (by omega)
      cases D with
      | true=>
       rw [if_pos rfl] at HIW hM;subst hM;clear hf hij hD;go_wp2_with (go_at_call 88;refine HIW.out.mono ?_;rintro e w3 ⟨rfl,hx3⟩;have HX3:=hid_ (HX.out.trans hx3);have a1:=hx3.cell a1;have b1:=hx3.cell b1;have b2:=hx3.cell b2;clear hx3)
       go_ret2;exact ⟨opn_no (by decide) (some ⟨b,0,none⟩) _,HX3.out⟩
      | false=>
       rw [if_neg (by decide)] at HIW hM;have HME:=hid_ hM;clear hf hij hD hM;go_wp2_with (go_at_call 88;refine HIW.out.mono ?_;rintro e w3 ⟨rfl,hx3⟩;have HX3:=hid_ (HX.out.trans hx3);have a1:=hx3.cell a1;have b1:=hx3.cell b1;have b2:=hx3.cell b2;have HG3:=hid_ (HG.out.ex hx3);have HFW:=hid_ (HFA.out w3 HX3.out b pn mn x0 HG3.out);clear hx3)
       refine HFW.out.mono ?_;rintro e w4 ⟨rfl,hx4⟩;have HX4:=hid_ (HX3.out.trans hx4);have HG4:=hid_ (HG3.out.ex hx4);rw [HME.out];clear hx4;go_wp2_with fail
       go_ret2;refine ⟨?_,HX4.out⟩;by_cases h0:E=0
       ·subst h0;exact .inl ⟨rfl,b,pn,mn,x0,rfl,rfl,rfl,HG4.out,HXX.out.1,HXX.out.2⟩
       ·exact opn_no h0 (some ⟨b,0,none⟩) _
    ·have hr:rngB pl n=false:=by simpa using hr
     have hij:injS pl n=6:=by unfold injS;rw [if_pos hr]
     rw [hij] at HIW;rw [if_pos (.inl hr)] at hM;subst hM;clear hij hr;go_wp2_with (go_at_call 88;refine HIW.out.mono ?_;rintro e w3 ⟨rfl,hx3⟩;have HX3:=hid_ (HX.out.trans hx3);have a1:=hx3.cell a1;have b1:=hx3.cell b1;have b2:=hx3.cell b2;clear hx3)
     go_ret2;exact ⟨opn_no (by decide) (some ⟨b,0,none⟩) _,HX3.out⟩
 ·have hck:chkS p m ml≠0:=fun h=> hno ((chk_iff _ _ _).1 h);rw [if_pos hck] at hM;subst hM;clear hck hno;go_wp2_with fail
  go_ret2;exact ⟨opn_no (by decide) none _,HE.out.trans hx2⟩
theorem eCheck_any (w:World) (p m:Int) (ml:List Int) (mv:Value) (hmv:ISl w mv ml) (n:Int) (pl sl:List Int) (pv sv:Value) (hp:ISl w pv pl) (hs:ISl w sv sl) (fr:Int):
  Calls Tryz.prog 21 #[.agg #[.int .i64 p,.int .i64 m,mv],.int .i64 n,.agg #[pv,sv,.int .i64 fr]] w fun r w'=> r= .returned (.int .i64 (monS p m ml n pl sl fr))∧Ex w w':=by
 obtain ⟨ma,mc,rfl,_,_,_⟩:=hmv.open;obtain ⟨pa,pc,rfl,_,_,_⟩:=hp.open;obtain ⟨sa,sc,rfl,_,_,_⟩:=hs.open;have HO:=hid_ (fun w1 (hx:Ex w w1)=> eOpen_any w1 p m ml _ (hmv.ex hx) n pl sl _ _ (hp.ex hx) (hs.ex hx) fr);obtain ⟨E,hE⟩:∃E,monS p m ml n pl sl fr=E:=⟨_,rfl⟩;rw [hE] at HO ⊢;clear hE hmv hp hs;go_enter Tryz.func21,Tryz.ntmps21
 go_wp2_with fail
 refine (HO.out _ (((Ex.refl w).alloc _).alloc _)).mono ?_;rintro e w2 ⟨hr,hx2⟩;have HX:=hid_ ((((Ex.refl w).alloc _).alloc _).trans hx2);rcases hr with ⟨rfl,b,pn,mn,x0,rfl,rfl,rfl,hg,_,_⟩ | ⟨h0,ptr,rfl⟩
 ·clear hg hx2;go_wp2_with fail
  go_ret;exact ⟨rfl,HX.out⟩
 ·clear hx2 h0;go_wp2_with fail
  go_ret;exact ⟨rfl,HX.out⟩
end
section
open Go.RowKit
def piF (pl:List Int) (i:Nat):Nat:=(pl.getD i 0).toNat
def vF (p m:Nat) (ml sl:List Int) (fr:Nat) (x:List Int) (i:Nat):Int:=
 ((kmul p m (lw ml) (kin (p ^ m) (sl.getD i 0)) (frb p m (lw ml) (kin (p ^ m) (x.getD i 0)) fr):Nat):Int)
def imgF (p m:Nat) (ml pl sl:List Int) (fr:Nat) (x:List Int) (N:Nat):Nat→Int:=plc (piF pl) (vF p m ml sl fr x) N
theorem rngB_at {l:List Int} {n:Int} (h:rngB l n=true) {i:Nat} (hi:i < l.length):0≤l.getD i 0∧l.getD i 0 < n:=by
 unfold rngB at h;have:=List.all_eq_true.1 h (l.getD i 0) (by rw [List.getD_eq_getElem?_getD,List.getElem?_eq_getElem hi];exact List.getElem_mem _);simpa using this
theorem get_getD {l:List Int} {i:Nat} (hi:i < l.length):l[i]?=some (l.getD i 0):=by
 rw [List.getD_eq_getElem?_getD,List.getElem?_eq_getElem hi];rfl
section
variable {b p m x0:Nat} {ml:List Int}
theorem image_any (w:World) (hg:GFat w b p m ml x0) (N:Nat) (hN:N≤64) (pl sl x:List Int) (pv sv xv:Value) (hp:ISl w pv pl) (hs:ISl w sv sl) (hx:ISl w xv x) (fr:Nat) (hfr:fr < m) (hpl:pl.length=N) (hsl:sl.length=N) (hxl:x.length=N) (hr:rngB pl N=true):
  Calls Tryz.prog 50 #[.pointer (some ⟨b,0,none⟩),.agg #[pv,sv,.int .i64 fr],xv] w fun r w'=> ∃g,r= .returned (.slice (some ⟨g,0,none⟩) N N)∧Own w' w.heap.size 3 g N (iv (imgF p m ml pl sl fr x N))∧Ex w w':=by
 obtain ⟨b0,b1,b2,eb⟩:=boxMo_facts w pv sv fr;have p2:=hg.sh.p2;have m1:=hg.sh.m1;have HFR:=hid_ (fun (w1:World) (h1:Ex w w1) (y:Int)=> Frobenius_any w1 (hg.ex h1) y fr hfr);have HMU:=hid_ (fun (w1:World) (h1:Ex w w1) (y z:Int)=> Mul_any w1 (hg.ex h1) y z);obtain ⟨pa,pc,rfl,_,q2,p3⟩:=hp.open;obtain ⟨sa,sc,rfl,_,s2,s3⟩:=hs.open;obtain ⟨xa,xc,rfl,_,x2,x3⟩:=hx.open;unfold maxLen at q2 s2 x2;rw [hpl] at p3;rw [hsl] at s3;rw [hxl] at x3;rw [hpl,hsl,hxl];rw [hpl,hsl] at b0 b1 eb b2;have P3:=hid_ p3;have S3:=hid_ s3;have X3:=hid_ x3;have HRG:=hid_ (fun i (hi:i < N)=> rngB_at hr (i:=i) (by omega));have HGP:=hid_ (fun i (hi:i < N)=> get_getD (l:=pl) (i:=i) (by omega));have HGS:=hid_ (fun i (hi:i < N)=> get_getD (l:=sl) (i:=i) (by omega));have HGX:=hid_ (fun i (hi:i < N)=> get_getD (l:=x) (i:=i) (by omega));have HEB:=hid_ eb;clear hg hp hs hx p3 s3 x3 eb hpl hsl hxl hr;go_enter Tryz.func50,Tryz.ntmps50
 go_wp2_with (at_make;refine wpList_make_arr _ rfl _ _ 22 rfl 3 (.int .i64 0) 8 Tryz.underlying22 infoInt rfl _ N rfl rfl rfl (by omega) (by unfold maxLen;omega) ?_)
 obtain ⟨B,hB⟩:∃B,w.heap.size=B:=⟨_,rfl⟩;rw [hB] at b0 b1 b2
 try simp only [hB]
 have HBW:=hid_ hB;have hsz:(w.alloc (.cells #[.slice pa N pc,.slice sa N sc,.int .i64 fr] 26)).heap.size=B + 1:=by simp [hB]
 clear hB;generalize w.alloc (.cells #[.slice pa N pc,.slice sa N sc,.int .i64 fr] 26)=w1 at *;intro w3 hown hx3;have B0:=hid_ b0;have B1:=hid_ b1;have B2:=hid_ b2;obtain ⟨g,hgg⟩:∃g,B + 1=g:=⟨_,rfl⟩;have HO3:=hid_ (show Own w3 g 3 g N (iv (plc (piF pl) (vF p m ml sl fr x) 0)) from by rw [←hgg];exact hown)
 try simp only [hgg]
 have HX3:=hid_ hx3;have HGE:=hid_ (show w1.heap.size=g from by rw [←hgg,←hsz]);clear hown hx3 b0 b1 b2 hgg hsz;go_wp2_with fail
 go_loopw [15] (fun i' wr=> ∃(i:Nat),i≤N∧i'= .int .i64 i∧Hid (Own wr g 3 g N (iv (plc (piF pl) (vF p m ml sl fr x) i)))∧Hid (Ex w1 wr)) (fun i' _=> N - (intOf i').toNat)
 case atStart=> exact ⟨0,by omega,rfl,HO3,HX3⟩
 case round=>
  clear HO3;obtain ⟨i,hi,rfl,hown,hex⟩:=hrel;by_cases hin:i < N
  ·obtain ⟨pb,po,rfl,hpc⟩:=P3.out (by omega);obtain ⟨sb,so,rfl,hsc⟩:=S3.out (by omega);obtain ⟨xb,xo,rfl,hxc⟩:=X3.out (by omega);have hpr:=HRG.out i hin;have EXW:=hid_ (HEB.out.trans hex.out);obtain ⟨y,hy⟩:∃y,piF pl i=y:=⟨_,rfl⟩;have hyp:pl.getD i 0=(y:Int):=by rw [←hy];unfold piF;omega
   have hyN:y < N:=by omega
   have hgp:=HGP.out i hin;rw [hyp] at hgp;have CPW:=hid_ (hpc i _ hgp);have cp:=EXW.out.cell CPW.out;obtain ⟨s,hs⟩:∃s,sl.getD i 0=s:=⟨_,rfl⟩;have hgs:=HGS.out i hin;rw [hs] at hgs;have CSW:=hid_ (hsc i _ hgs);have cs:=EXW.out.cell CSW.out;obtain ⟨z,hz⟩:∃z,x.getD i 0=z:=⟨_,rfl⟩;have hgx:=HGX.out i hin;rw [hz] at hgx;have cx:=EXW.out.cell (hxc i _ hgx);have i1:(0:Int)≤(i:Int):=by omega
   have i2:(i:Int) < (N:Int):=by omega
   have i3:(0:Int)≤(y:Int):=by omega
   have i4:(y:Int) < (N:Int):=by omega
   have HFW:=hid_ (fun (w5:World) (h5:Ex wr w5)=> HFR.out w5 (EXW.out.trans h5) z);obtain ⟨t,ht⟩:∃t,frb p m (lw ml) (kin (p ^ m) z) fr=t:=⟨_,rfl⟩;have htl:t < p ^ m:=by rw [←ht];exact frb_lt p2 m1 (kin_lt (Nat.pow_pos (by omega)) _) _
   rw [ht] at HFW;have HMW:=hid_ (fun (w5:World) (h5:Ex wr w5)=> by
    have:=HMU.out w5 (EXW.out.trans h5) s (t:Int);rw [kin_of htl] at this;exact this)
   obtain ⟨u,hu⟩:∃u,kmul p m (lw ml) (kin (p ^ m) s) t=u:=⟨_,rfl⟩;rw [hu] at HMW;have HVE:=hid_ (show upd (plc (piF pl) (vF p m ml sl fr x) i) y (u:Int)=plc (piF pl) (vF p m ml sl fr x) (i + 1) from by
    show _=upd (plc (piF pl) (vF p m ml sl fr x) i) (piF pl i) (vF p m ml sl fr x i)
    rw [hy]
    congr 1
    unfold vF;rw [hs,hz,ht,hu])
   have d0:=hex.out.cell B0.out;have d1:=hex.out.cell B1.out;have d2:=hex.out.cell B2.out;have HOW:=hid_ hown.out;have HEX:=hid_ hex.out;have HXS:=hid_ (fun (w5:World) (h5:Ex wr w5)=> (HOW.out.ex h5).exSet (a:=w1) (Nat.le_of_eq HGE.out) (HEX.out.trans h5) y (.int .i64 (u:Int)));have HOS:=hid_ (fun (w5:World) (h5:Ex wr w5)=> show Own (w5.setCell ⟨g,y,none⟩ (.int .i64 (u:Int))) g 3 g N (iv (plc (piF pl) (vF p m ml sl fr x) (i + 1))) from by
    rw [←HVE.out,←iv_upd];exact (HOW.out.ex h5).set y _)
   have CP:=hid_ cp;have CS:=hid_ cs;have CX:=hid_ cx;have HYN:=hid_ hyN;clear hpr hy hyp hgp hs hgs hz hgx ht htl hu hpc hsc hxc hown hex;go_wp2_with fail
   have CB0:=hid_ d0;have CB1:=hid_ d1;have CB2:=hid_ d2;have HALL:=hid_ (fun (w5:World) (h5:Ex wr w5)=> (⟨h5.cell CP.out,h5.cell CS.out,h5.cell CB0.out,h5.cell CB1.out,h5.cell CB2.out⟩:w5.cell? ⟨pb,po + i,none⟩=some (.int .i64 (y:Int))∧w5.cell? ⟨sb,so + i,none⟩=some (.int .i64 s)∧w5.cell? ⟨B,0,none⟩=some (.slice (some ⟨pb,po,none⟩) N pc)∧w5.cell? ⟨B,1,none⟩=some (.slice (some ⟨sb,so,none⟩) N sc)∧w5.cell? ⟨B,2,none⟩=some (.int .i64 (fr:Int))));have HALS:=hid_ (fun (w5:World) (h5:Ex wr w5)=> (⟨(HEB.out.trans (HXS.out w5 h5)).cell CPW.out,(HEB.out.trans (HXS.out w5 h5)).cell CSW.out,(HXS.out w5 h5).cell B0.out,(HXS.out w5 h5).cell B1.out,(HXS.out w5 h5).cell B2.out⟩:(w5.setCell ⟨g,y,none⟩ (.int .i64 (u:Int))).cell? ⟨pb,po + i,none⟩=some (.int .i64 (y:Int))∧(w5.setCell ⟨g,y,none⟩ (.int .i64 (u:Int))).cell? ⟨sb,so + i,none⟩=some (.int .i64 s)∧(w5.setCell ⟨g,y,none⟩ (.int .i64 (u:Int))).cell? ⟨B,0,none⟩=some (.slice (some ⟨pb,po,none⟩) N pc)∧(w5.setCell ⟨g,y,none⟩ (.int .i64 (u:Int))).cell? ⟨B,1,none⟩=some (.slice (some ⟨sb,so,none⟩) N sc)∧(w5.setCell ⟨g,y,none⟩ (.int .i64 (u:Int))).cell? ⟨B,2,none⟩=some (.int .i64 (fr:Int))));clear d0 d1 d2 cp cs;have G0:Ex wr wr.drew:=(Ex.refl wr).drew
   go_region_held3 (fun w'=> w'.cell? ⟨pb,po + i,none⟩=some (.int .i64 (y:Int))∧w'.cell? ⟨sb,so + i,none⟩=some (.int .i64 s)∧w'.cell? ⟨B,0,none⟩=some (.slice (some ⟨pb,po,none⟩) N pc)∧w'.cell? ⟨B,1,none⟩=some (.slice (some ⟨sb,so,none⟩) N sc)∧w'.cell? ⟨B,2,none⟩=some (.int .i64 (fr:Int)))
    (first | with_reducible exact HALL.out _ G0 | with_reducible exact HALL.out _ X5 | with_reducible exact HALL.out _ X6 | with_reducible exact HALS.out _ X6)
    (first | (go_at_call 53;(with_reducible refine (HFW.out _ G0).mono ?_);rintro e w5 ⟨rfl,h5⟩;have X5:=G0.trans h5;clear h5) | (go_at_call 59;(with_reducible refine (HMW.out _ X5).mono ?_);rintro e w6 ⟨rfl,n6,rfl⟩;have X6:=X5.drewN n6;have co6:=(HOW.out.ex X6).cell HYN.out;have cf6:=(HOW.out.ex X6).frz y))
   go_wp2_with fail
   go_roundw
   case rel=> first | exact ⟨i + 1,by omega,by go_num,hid_ (HOS.out _ X6),hid_ (HXS.out _ X6)⟩ | ((repeat apply Exists.intro);exact ⟨⟨i + 1,by omega,by go_num,hid_ (HOS.out _ X6),hid_ (HXS.out _ X6)⟩,rfl⟩)
   case measure=> simp [intOf];omega
  ·obtain rfl:i=N:=by omega
   go_wp2_with fail
   go_ret;exact ⟨g,rfl,hown.out.mono (by have:=HGE.out;have:=HBW.out;have:=HEB.out.size;omega),HEB.out.trans hex.out⟩
end
end
section
open Go.RowKit
def disS (l:List Int) (n:Int):Int:=if rngB l n=true then 0 else 6
theorem rngB_of {l:List Int} {n:Int} (h:∀j,j < l.length→0≤l.getD j 0∧l.getD j 0 < n):rngB l n=true:=by
 unfold rngB;refine List.all_eq_true.2 fun x hx=> ?_;obtain ⟨j,hj,rfl⟩:=List.getElem_of_mem hx;have:=h j hj;rw [List.getD_eq_getElem?_getD,List.getElem?_eq_getElem hj] at this;exact decide_eq_true this
theorem rDist_any (w:World) (l:List Int) (v:Value) (hl:ISl w v l) (n:Int):
  Calls Tryz.prog 56 #[v,.int .i64 n] w fun r w'=> r= .returned (.int .i64 (disS l n))∧w=w':=by
 obtain ⟨a,cap,rfl,s1,s2,s3⟩:=hl.open;unfold maxLen at s2;have S3:=hid_ s3;have HD:=hid_ (show (∀j,j < l.length→0≤l.getD j 0∧l.getD j 0 < n)→disS l n=0 from fun h=> by unfold disS;rw [if_pos (rngB_of h)]);have HN:=hid_ (show ∀j,j < l.length→¬(0≤l.getD j 0∧l.getD j 0 < n)→disS l n=6 from fun j hj h=> by
  unfold disS;rw [if_neg fun hr=> h (rngB_at hr hj)])
 clear hl s3;go_enter Tryz.func56,Tryz.ntmps56
 go_wp2_with fail
 go_loop [5] (fun i'=> ∃(i:Nat),i≤l.length∧i'= .int .i64 i∧Hid (∀j,j < i→0≤l.getD j 0∧l.getD j 0 < n)) (fun i'=> l.length - (intOf i').toNat)
 case atStart=> exact ⟨0,by omega,rfl,hid_ (fun j h=> by omega)⟩
 case round=>
  obtain ⟨i,hi,rfl,hall⟩:=hrel;by_cases hlt:i < l.length
  ·obtain ⟨bb,o,rfl,hc⟩:=S3.out (by omega);have c1:=hc i _ (get_getD hlt);obtain ⟨x,hx⟩:∃x,l.getD i 0=x:=⟨_,rfl⟩;rw [hx] at c1;have HX:=hid_ hx;have HALL:=hid_ (show (0≤x∧x < n)→∀j,j < i + 1→0≤l.getD j 0∧l.getD j 0 < n from fun h j hj=> by
    by_cases e:j=i
    ·subst e;rw [hx];exact h
    ·exact hall.out j (by omega))
   have i1:(0:Int)≤(i:Int):=by omega
   have i2:(i:Int) < (l.length:Int):=by omega
   clear hc hx;by_cases h0:x < 0
   ·have HR:=hid_ (HN.out i hlt (by rw [HX.out];omega));have k0:decide (x < 0)=true:=by simpa using h0
    go_wp2_with fail
    go_ret;exact ⟨ret_int HR.out.symm,rfl⟩
   ·have k0:decide (x < 0)=false:=by simpa using h0
    by_cases h1:n≤x
    ·have HR:=hid_ (HN.out i hlt (by rw [HX.out];omega));have k1:decide (n≤x)=true:=by simpa using h1
     go_wp2_with fail
     go_ret;exact ⟨ret_int HR.out.symm,rfl⟩
    ·have HA:=hid_ (HALL.out ⟨by omega,by omega⟩);have k1:decide (n≤x)=false:=by simpa using h1
     go_wp2_with fail
     go_round
     case rel=> exact ⟨i + 1,by omega,by go_num,HA⟩
     case measure=> simp [intOf];omega
  ·obtain rfl:i=l.length:=by omega
   have HR:=hid_ (HD.out hall.out);go_wp2_with fail
   go_ret;exact ⟨ret_int HR.out.symm,rfl⟩
theorem dupB_iff {l:List Int}:dupB l=true↔∃i j,j < i∧i < l.length∧l.getD i 0=l.getD j 0:=by
 unfold dupB dupK;rw [List.any_eq_true];constructor
 ·rintro ⟨i,hi,h⟩;have hi:=List.mem_range.1 hi;rw [List.contains_iff_mem] at h;obtain ⟨j,hj,e⟩:=List.getElem_of_mem h;rw [List.length_take] at hj;refine ⟨i,j,by omega,hi,?_⟩;rw [←e,List.getElem_take,List.getD_eq_getElem?_getD,List.getElem?_eq_getElem (show j < l.length by omega)];rfl
 ·rintro ⟨i,j,h1,h2,h3⟩;refine ⟨i,List.mem_range.2 h2,?_⟩;rw [List.contains_iff_mem,h3];have hj:j < (l.take i).length:=by rw [List.length_take];omega
  have:=List.getElem_mem hj;rw [List.getElem_take] at this;rw [List.getD_eq_getElem?_getD,List.getElem?_eq_getElem (show j < l.length by omega)];exact this
theorem rTwice_any (w:World) (l:List Int) (v:Value) (hl:ISl w v l):
  Calls Tryz.prog 57 #[v] w fun r w'=> r= .returned (.bool (dupB l))∧Ex w w':=by
 obtain ⟨a,cap,rfl,s1,s2,s3⟩:=hl.open;unfold maxLen at s2;have S3:=hid_ s3;have HY:=hid_ (show ∀i j,j < i→i < l.length→l.getD i 0=l.getD j 0→dupB l=true from fun i j h1 h2 h3=> dupB_iff.2 ⟨i,j,h1,h2,h3⟩);have HN:=hid_ (show (∀i j,j < i→i < l.length→l.getD i 0≠l.getD j 0)→dupB l=false from fun h=> by
  cases hb:dupB l with
  | false=> rfl
  | true=> obtain ⟨i,j,h1,h2,h3⟩:=dupB_iff.1 hb;exact absurd h3 (h i j h1 h2))
 obtain ⟨D,hD⟩:∃D,dupB l=D:=⟨_,rfl⟩;rw [hD] at HY HN;rw [hD];clear hl s3 hD;go_enter Tryz.func57,Tryz.ntmps57
 go_wp2_with fail
 go_loopw [3,4] (fun i' _ wr=> ∃(i:Nat),i≤l.length∧i'= .int .i64 i∧Hid (∀k j,j < k→k < i→l.getD k 0≠l.getD j 0)∧Hid (Ex w wr)) (fun i' _ _=> l.length - (intOf i').toNat)
 case atStart=> exact ⟨0,by omega,rfl,hid_ (fun k j _ h=> by omega),hid_ (Ex.refl _)⟩
 case round=>
  obtain ⟨i,hi,rfl,hall,hex⟩:=hrel;by_cases hlt:i < l.length
  ·obtain ⟨bb,o,rfl,hc⟩:=S3.out (by omega);have c1:=hc i _ (get_getD hlt);obtain ⟨x,hx⟩:∃x,l.getD i 0=x:=⟨_,rfl⟩;rw [hx] at c1;have HX:=hid_ hx;have HC:=hid_ hc;have C1:=hid_ c1;have i1:(0:Int)≤(i:Int):=by omega
   have i2:(i:Int) < (l.length:Int):=by omega
   clear hc hx c1;obtain ⟨w8,h8⟩:∃w8,w8=wr:=⟨_,rfl⟩;rw [←h8] at hex ⊢;clear h8;go_wp2_with fail
   go_loopw [4] (fun j' wr=> ∃(j:Nat),j≤i∧j'= .int .i64 j∧Hid (∀k,k < j→x≠l.getD k 0)∧Hid (Ex w wr)) (fun j' _=> i - (intOf j').toNat)
   case atStart=> exact ⟨0,by omega,rfl,hid_ (fun k h=> by omega),hex⟩
   case round=>
    obtain ⟨j,hj,rfl,hal2,hex2⟩:=hrel;have c1:=hex2.out.cell C1.out;by_cases hji:j < i
    ·have c2:=hex2.out.cell (HC.out j _ (get_getD (by omega)));obtain ⟨y,hy⟩:∃y,l.getD j 0=y:=⟨_,rfl⟩;rw [hy] at c2;have HYY:=hid_ hy;have j1:(0:Int)≤(j:Int):=by omega
     have j2:(j:Int) < (l.length:Int):=by omega
     clear hy;by_cases hxy:x=y
     ·have hr:D=true:=HY.out i j hji hlt (by rw [HX.out,HYY.out,hxy]);subst hr;have kb:(x==y)=true:=by simpa using hxy
      clear hxy;go_upto_region 7 with fail
      go_quiet (fail)
      go_wp2_with fail
      go_ret;exact ⟨rfl,hex2.out.drewN _⟩
     ·have kb:(x==y)=false:=by simpa using hxy
      have HA:=hid_ (show ∀k,k < j + 1→x≠l.getD k 0 from fun k hk=> by
       by_cases e:k=j
       ·subst e;rw [HYY.out];exact hxy
       ·exact hal2.out k (by omega))
      clear hxy;go_upto_region 7 with fail
      go_quiet (fail)
      go_wp2_with fail
      go_roundw
      case rel=> exact ⟨j + 1,by omega,by go_num,HA,hid_ (hex2.out.drewN _)⟩
      case measure=> simp [intOf];omega
    ·obtain rfl:j=i:=by omega
     have HA:=hid_ (show ∀k m,m < k→k < j + 1→l.getD k 0≠l.getD m 0 from fun k m hm hk=> by
      by_cases e:k=j
      ·subst e;rw [HX.out];exact hal2.out m hm
      ·exact hall.out k m hm (by omega))
     go_wp2_with fail
     go_roundw
     case rel=> first | exact ⟨j + 1,by omega,by go_num,HA,hex2⟩ | ((repeat apply Exists.intro);exact ⟨⟨j + 1,by omega,by go_num,HA,hex2⟩,rfl⟩)
     case measure=> simp [intOf];omega
  ·obtain rfl:i=l.length:=by omega
   have hr:D=false:=HN.out fun k j h1 h2=> hall.out k j h1 h2;subst hr;go_wp2_with fail
   go_ret;exact ⟨rfl,hex.out⟩
section
variable {p m:Nat} {ml:List Int} {mv:Value}
theorem facS_ent {q:Nat} {l:List Int}:facS q l=if entS q l≠0 then entS q l else if l.contains 0=true then 7 else 0:=by
 unfold facS entS;have e:(l.any fun x=> !isB q x)=!(l.all fun x=> isB q x):=by rw [List.not_all_eq_any_not]
 rw [e];cases (l.all fun x=> isB q x) <;> simp
theorem rFac_any (w:World) (hf:FSh p m ml) (l:List Int) (v:Value) (hl:ISl w v l):
  Calls Tryz.prog 58 #[.agg #[.int .i64 p,.int .i64 m,mv],v] w fun r w'=> r= .returned (.int .i64 (facS (p ^ m) l))∧Ex w w':=by
 obtain ⟨d0,d1,d2,e0,hsz⟩:=box_facts w p m mv;have HE:=hid_ (rEntries_any (mv:=mv) _ hf l v (hl.ex e0));obtain ⟨a,cap,rfl,s1,s2,s3⟩:=hl.open;unfold maxLen at s2;have S3:=hid_ s3;have HF:=hid_ (facS_ent (q:=p ^ m) (l:=l));have HE0:=hid_ e0;obtain ⟨F,hF⟩:∃F,facS (p ^ m) l=F:=⟨_,rfl⟩;obtain ⟨E,hE⟩:∃E,entS (p ^ m) l=E:=⟨_,rfl⟩;rw [hF,hE] at HF;rw [hE] at HE;rw [hF];clear hl s3 hf hF hE e0 hsz;go_enter Tryz.func58,Tryz.ntmps58
 go_wp2_with fail
 generalize w.alloc (.cells #[.int .i64 p,.int .i64 m,mv] 24)=w1 at *;refine HE.out.mono ?_;rintro e w2 ⟨rfl,hx2⟩;have HX2:=hid_ (HE0.out.trans hx2);clear d0 d1 d2;by_cases he:E=0
 ·subst he;have HF2:=hid_ (show F=if l.contains 0=true then 7 else 0 from HF.out);clear hx2;go_wp2_with fail
  go_loop [6] (fun i'=> ∃(i:Nat),i≤l.length∧i'= .int .i64 i∧Hid (∀j,j < i→l.getD j 0≠0)) (fun i'=> l.length - (intOf i').toNat)
  case atStart=> exact ⟨0,by omega,rfl,hid_ (fun j h=> by omega)⟩
  case round=>
   obtain ⟨i,hi,rfl,hall⟩:=hrel;by_cases hlt:i < l.length
   ·obtain ⟨bb,o,rfl,hc⟩:=S3.out (by omega);have c1:=HX2.out.cell (hc i _ (get_getD hlt));have i1:(0:Int)≤(i:Int):=by omega
    have i2:(i:Int) < (l.length:Int):=by omega
    obtain ⟨x,hx⟩:∃x,l.getD i 0=x:=⟨_,rfl⟩;rw [hx] at c1;have HX:=hid_ hx;clear hc hx;by_cases h0:x=0
    ·subst h0;have HR:=hid_ (show F=7 from by
      rw [HF2.out,if_pos];rw [List.contains_iff_mem,←HX.out,List.getD_eq_getElem?_getD,List.getElem?_eq_getElem hlt];exact List.getElem_mem hlt)
     go_wp2_with fail
     go_ret;exact ⟨ret_int HR.out.symm,HX2.out⟩
    ·have kb:(x==0)=false:=by simpa using h0
     have HA:=hid_ (show ∀j,j < i + 1→l.getD j 0≠0 from fun j hj=> by
      by_cases e:j=i
      ·subst e;rw [HX.out];exact h0
      ·exact hall.out j (by omega))
     clear h0;go_wp2_with fail
     go_round
     case rel=> exact ⟨i + 1,by omega,by go_num,HA⟩
     case measure=> simp [intOf];omega
   ·obtain rfl:i=l.length:=by omega
    have HR:=hid_ (show F=0 from by
     rw [HF2.out,if_neg];intro h;rw [List.contains_iff_mem] at h;obtain ⟨j,hj,e⟩:=List.getElem_of_mem h;exact hall.out j hj (by rw [List.getD_eq_getElem?_getD,List.getElem?_eq_getElem hj];exact e))
    go_wp2_with fail
    go_ret;exact ⟨ret_int HR.out.symm,HX2.out⟩
 ·have HR:=hid_ (show F=E from by rw [HF.out,if_pos he]);have kb:(E !=0)=true:=by simpa using he
  clear hx2 he;go_wp2_with fail
  go_ret;exact ⟨ret_int HR.out.symm,HX2.out⟩
end
end
section
open Go.RowKit
def sizM (rows:List (List Int)):Nat:=rows.length + (rows.map List.length).sum
def fewM (cols:Int) (rows:List (List Int)) (lim:Int):Bool:=decide (cols≤260∧(sizM rows:Int)≤lim)
theorem sum_take_le:∀(l:List Nat) (i:Nat),(l.take i).sum≤l.sum
 | [],i=> by simp
 | x :: l,0=> by simp
 | x :: l,i + 1=> by have:=sum_take_le l i;simp;omega
theorem rFewM_any (w:World) (cols:Int) (rows:List (List Int)) (v:Value) (hv:MSl w v rows) (lim:Int) (hl0:0≤lim) (hl1:lim≤100000):
  Calls Tryz.prog 101 #[.agg #[.int .i64 cols,v],.int .i64 lim] w fun r w'=> r= .returned (.bool (fewM cols rows lim))∧Ex w w':=by
 obtain ⟨d0,d1,e0⟩:=boxM2_facts w cols v;obtain ⟨za,zc,rfl,z1,z2,z3⟩:=(hv.ex e0).open;have Z3:=hid_ z3;unfold maxLen at z2;have HE:=hid_ e0;clear hv z3 e0;obtain ⟨F,hF⟩:∃F,fewM cols rows lim=F:=⟨_,rfl⟩;have HF:=hid_ (show F=decide (cols≤260∧(sizM rows:Int)≤lim) from hF.symm);rw [hF];clear hF;by_cases h1:260 < cols
 ·have hF:F=false:=by rw [HF.out];exact decide_eq_false (by omega)
  subst hF;clear HF;go_enter Tryz.func101,Tryz.ntmps101
  go_wp2_with fail
  go_ret;exact ⟨rfl,HE.out⟩
 ·have h1':cols≤260:=by omega
  clear h1;by_cases h2:lim < (rows.length:Int)
  ·have hF:F=false:=by rw [HF.out];exact decide_eq_false (by unfold sizM;omega)
   subst hF;clear HF;go_enter Tryz.func101,Tryz.ntmps101
   go_wp2_with fail
   go_ret;exact ⟨rfl,HE.out⟩
  ·have h2':(rows.length:Int)≤lim:=by omega
   have b1:decide (260 < cols)=false:=by simp;omega
   have b2:decide (lim < (rows.length:Int))=false:=by simp;omega
   clear h2;go_enter Tryz.func101,Tryz.ntmps101
   go_wp2_with fail
   generalize w.alloc (.cells #[.int .i64 cols,.slice za rows.length zc] 113)=w1 at *
   go_loopw [5,6] (fun l' i' wr=> ∃(i:Nat) (l:Int),i≤rows.length∧i'= .int .i64 i∧l'= .int .i64 l∧0≤l∧l≤100000∧Hid (l=lim - rows.length - (((rows.map List.length).take i).sum:Nat))∧wr=w1) (fun _ i' _=> rows.length - (intOf i').toNat)
   case atStart=> exact ⟨0,lim - rows.length,by omega,rfl,by go_num,by omega,by omega,hid_ (by simp),rfl⟩
   case round=>
    obtain ⟨i,l,hi,rfl,rfl,l1,l2,hl,rfl⟩:=hrel;by_cases hlt:i < rows.length
    ·obtain ⟨r,hr⟩:∃r,rows[i]?=some r:=⟨_,List.getElem?_eq_getElem hlt⟩;have HS:=hid_ (show ((rows.map List.length).take (i + 1)).sum=((rows.map List.length).take i).sum + r.length from by
      rw [List.take_add_one,List.getElem?_map,hr];simp)
     have HT:=hid_ (sum_take_le (rows.map List.length) (i + 1));obtain ⟨bb,o,rfl,hc⟩:=Z3.out (by omega);obtain ⟨u,c1,hu⟩:=hc i r hr;obtain ⟨ua,uc,rfl,u1,u2,u3⟩:=hu.open;unfold maxLen at u2;clear hc hu u3 hr;by_cases h3:l < (r.length:Int)
     ·have hF:F=false:=by
       rw [HF.out];have s1:=hl.out;have s2:=HS.out;have s3:=HT.out;exact decide_eq_false (by unfold sizM;omega)
      subst hF;clear HF HS HT hl;go_wp2_with fail
      go_ret;exact ⟨rfl,HE.out⟩
     ·have h3':(r.length:Int)≤l:=by omega
      have HL:=hid_ (show l - r.length=lim - rows.length - (((rows.map List.length).take (i + 1)).sum:Nat) from by
       have s1:=hl.out;have s2:=HS.out;omega)
      clear h3 HS HT hl;go_wp2_with fail
      go_roundw
      case rel=> exact ⟨i + 1,_,by omega,by go_num,(by first | rfl | trivial),by omega,by omega,HL,(by first | rfl | trivial)⟩
      case measure=> simp [intOf];omega
    ·obtain rfl:i=rows.length:=by omega
     have hF:F=true:=by
      rw [HF.out];have s1:=hl.out;rw [List.take_of_length_le (by simp)] at s1;exact decide_eq_true ⟨h1',by unfold sizM;omega⟩
     subst hF;clear hl HF;go_wp2_with fail
     go_ret;exact ⟨rfl,HE.out⟩
end
section
section
variable {p m:Nat} {ml:List Int} {N k:Nat} {a:Nat→Nat→Int} {piv:List Nat} {c:Nat} {f:Nat→Int}
theorem rst_dt (hp:2≤p) (pl:Nat→Nat) {x:Nat→Int} (hx:Sol p m ml N k a x):∀i,i≤k→dt p m ml N (rst p m ml a pl f i) x=dt p m ml N f x
 | 0,_=> rfl
 | i + 1,hi=> by
  show dt p m ml N (addF p m ml (rst p m ml a pl f i) _ (a i)) x=_
  rw [dt_add hp,hx i (by omega),kmul_zero_r (by omega),kadd_zero (by omega) (dt_lt hp _ _)];exact rst_dt hp pl hx i (by omega)
theorem rst_rng (hp:2≤p) (pl:Nat→Nat) (hf:∀j,j < N→0≤f j∧f j < (p ^ m:Nat)):∀i,∀j,j < N→0≤rst p m ml a pl f i j∧rst p m ml a pl f i j < (p ^ m:Nat)
 | 0=> hf
 | i + 1=> fun j hj=> by
  show 0≤addF p m ml (rst p m ml a pl f i) _ (a i) j∧addF p m ml (rst p m ml a pl f i) _ (a i) j < _
  unfold addF;split
  ·exact rst_rng hp pl hf i j hj
  ·have h:=kadd_lt (m:=m) (show 1≤p by omega) (kin (p ^ m) (rst p m ml a pl f i j)) (kmul p m (lw ml) (kneg p m (kin (p ^ m) (f (pl i)))) (kin (p ^ m) (a i j)));omega
theorem PV.fz (h:PV p m k N a piv c) (hc:c≤N) {i:Nat} (hi:i < piv.length):fzN (il N (a i))=piv.getD i 0∧piv.getD i 0 < N:=by
 have hg:piv[i]?=some (piv.getD i 0):=by rw [List.getD_eq_getElem?_getD,List.getElem?_eq_getElem hi];rfl
 have h1:=h.lt i _ hg;have e:∀j,j < N→(il N (a i)).getD j 0=a i j:=fun j hj=> by
  rw [List.getD_eq_getElem?_getD,il_get hj];rfl
 refine ⟨fzN_of _ _ (fun j hj=> by rw [e j (by omega)];exact h.lead i _ j hg hj) (by rw [il_len];omega) (.inr ?_),by omega⟩;rw [e _ (by omega),h.one i _ hg];decide
theorem rst_piv (hp:2≤p) (hm:1≤m) (h:PV p m k N a piv c) (hk:piv.length=k) (hf:∀j,j < N→0≤f j∧f j < (p ^ m:Nat)):∀i,i≤k→∀j,j < k→rst p m ml a (fun i=> piv.getD i 0) f i (piv.getD j 0)=if j < i then 0 else f (piv.getD j 0)
 | 0,_,j,_=> by simp [rst]
 | i + 1,hi,j,hj=> by
  have hg:∀j,j < k→piv[j]?=some (piv.getD j 0):=fun j hj=> by rw [List.getD_eq_getElem?_getD,List.getElem?_eq_getElem (by omega)];rfl
  have ih:=rst_piv hp hm h hk hf i (by omega) j hj;have hq0:0 < p ^ m:=Nat.pow_pos (by omega);show addF p m ml (rst p m ml a _ f i) _ (a i) (piv.getD j 0)=_
  unfold addF;by_cases e:j=i
  ·subst e;rw [h.one j _ (hg j hj),if_neg (by decide),if_pos (by omega),ih,if_neg (by omega),kin_one hp hm,kmul_one hp hm (kneg_lt (by omega) _),kadd_kneg (by omega)];rfl
  ·rw [h.zer j _ i (hg j hj) (by omega) (fun e2=> e e2.symm),if_pos rfl,ih];by_cases e2:j < i
   ·rw [if_pos e2,if_pos (by omega)]
   ·rw [if_neg e2,if_neg (by omega)]
theorem rst_cl (hp:2≤p) (hm:1≤m) (h:PV p m k N a piv c) (hc:c≤N) (hk:piv.length=k) (hf:∀j,j < N→0≤f j∧f j < (p ^ m:Nat)):zerB (il N (rst p m ml a (fun i=> piv.getD i 0) f k))=true↔Cl p m ml N k a f:=by
 have e:∀g:Nat→Int,∀j,j < N→(il N g).getD j 0=g j:=fun g j hj=> by
  rw [List.getD_eq_getElem?_getD,il_get hj];rfl
 rw [zerB_iff,il_len];constructor
 ·intro hz x hx;rw [←rst_dt hp (fun i=> piv.getD i 0) hx k (Nat.le_refl _)];exact dt_zero hp fun j hj=> (e _ j hj).symm.trans (hz j hj)
 ·intro hcl j hj;rw [e _ j hj];have hE:Ech N a (fun i=> piv.getD i 0) k:=hk ▸ RR.ech (R:=k) ⟨c,hc,h,.inl hk⟩;have h2:Cl p m ml N k a (rst p m ml a (fun i=> piv.getD i 0) f k):=fun x hx=> by
   rw [rst_dt hp _ hx k (Nat.le_refl _)];exact hcl x hx
  have h3:=hE.zero (ml:=ml) hp hm (r:=rst p m ml a (fun i=> piv.getD i 0) f k) (fun i hi=> by
   rw [rst_piv hp hm h hk hf k (Nat.le_refl _) i hi,if_pos hi]) h2 hj
  have h4:=rst_rng (ml:=ml) (a:=a) hp (fun i=> piv.getD i 0) hf k j hj;have h5:=kin_code h4.1 h4.2;omega
end
end
end Go.Proofs.YtgdmlmhpineibaaGreat
