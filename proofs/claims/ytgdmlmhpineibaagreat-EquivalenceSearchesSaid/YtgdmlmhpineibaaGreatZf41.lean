/- Walk of codewrightref31.SameMap. -/
import Derived.BigQuiet
import Derived.Deep.CutRange
import Derived.Deep.RegionHeld3
import Derived.Lib.SmallJoins
import Derived.Deep.Matrix
import Derived.Deep.Slices
import Derived.OpenShut
import Derived.ProofKit
import Derived.ChangeOld
import Derived.Test.YtgdmlmhpineibaaGreatZf08
import Derived.Test.YtgdmlmhpineibaaGreatZf17
import Derived.Test.YtgdmlmhpineibaaGreatZf20
import Derived.Test.YtgdmlmhpineibaaGreatZf22
import Derived.Test.YtgdmlmhpineibaaGreatZf23
import Derived.Test.YtgdmlmhpineibaaGreatZf27
import Derived.Test.YtgdmlmhpineibaaGreatZf28
import Derived.Test.YtgdmlmhpineibaaGreatZf29
import Derived.Test.YtgdmlmhpineibaaGreatZf36
import Derived.Test.YtgdmlmhpineibaaGreatZf39
import Derived.Test.YtgdmlmhpineibaaGreatZf40
namespace Go.Proofs.YtgdmlmhpineibaaGreat
set_option linter.unusedVariables false
set_option linter.unusedSimpArgs false
set_option maxRecDepth 100000
set_option maxHeartbeats 4000000
section
open Go.RowKit
theorem SameMap_any (w:World) (pl sl ql tl:List Int) (pv sv qv tv:Value) (hp:ISl w pv pl) (hs:ISl w sv sl) (hq:ISl w qv ql) (ht:ISl w tv tl) (fr fs:Int):
  Calls Tryz.prog 20 #[.agg #[pv,sv,.int .i64 fr],.agg #[qv,tv,.int .i64 fs]] w fun r w'=> r= .returned (.bool (decide (fr=fs∧pl=ql∧sl=tl)))∧Ex w w':=by
 obtain ⟨a0,a1,a2,ea⟩:=boxMo_facts w pv sv fr;obtain ⟨b0,b1,b2,eb⟩:=boxMo_facts (w.alloc (.cells #[pv,sv,.int .i64 fr] 26)) qv tv fs;have asz:(w.alloc (.cells #[pv,sv,.int .i64 fr] 26)).heap.size=w.heap.size + 1:=by simp
 rw [asz] at b0 b1 b2;replace a0:=eb.cell a0;replace a1:=eb.cell a1;replace a2:=eb.cell a2;have HX:=hid_ (ea.trans eb);have HP:=hid_ hp;have HS:=hid_ hs;have HQ:=hid_ hq;have HT:=hid_ ht;obtain ⟨pa,pc,rfl,-,q1,-⟩:=hp.open;obtain ⟨sa,sc,rfl,-,q2,-⟩:=hs.open;obtain ⟨qa,qc,rfl,-,q3,-⟩:=hq.open;obtain ⟨ta,tc,rfl,-,q4,-⟩:=ht.open;unfold maxLen at q1 q2 q3 q4;obtain ⟨B,hB⟩:∃B,w.heap.size=B:=⟨_,rfl⟩;rw [hB] at a0 a1 a2 b0 b1 b2;clear hp hs hq ht ea eb asz;go_enter Tryz.func20,Tryz.ntmps20
 go_upto_region 1 with fail
 try simp only [hB]
 clear hB;generalize (w.alloc (.cells #[.slice pa pl.length pc,.slice sa sl.length sc,.int .i64 fr] 26)).alloc (.cells #[.slice qa ql.length qc,.slice ta tl.length tc,.int .i64 fs] 26)=w1 at *;have HALL:=hid_ (fun w' (h:Ex w1 w')=> (⟨h.cell a0,h.cell a1,h.cell b0,h.cell b1⟩:_∧_∧_∧_));have HPQ:=hid_ (SameInts_any w1 pl ql _ _ (HP.out.ex HX.out) (HQ.out.ex HX.out));have HST:=hid_ (fun (w2:World) (h:Ex w1 w2)=> SameInts_any w2 sl tl _ _ (HS.out.ex (HX.out.trans h)) (HT.out.ex (HX.out.trans h)));by_cases h1:fr=fs
 ·have k1:(fr==fs)=true:=by simpa using h1
  by_cases h2:pl=ql
  ·have HPQ2:=hid_ HPQ.out;rw [show decide (pl=ql)=true from by simpa using h2] at HPQ2;have H12:=hid_ (And.intro h1 h2);clear h1 h2 HPQ;go_wp2_with fail
   refine HPQ2.out.mono ?_;rintro e w2 ⟨rfl,n2,rfl⟩;have HX2:=hid_ ((Ex.refl w1).drewN n2);clear a0 a1 b0 b1;obtain ⟨a0,a1,b0,b1⟩:=HALL.out _ HX2.out;have HST2:=hid_ (HST.out _ HX2.out);obtain ⟨D,hD⟩:∃D,decide (sl=tl)=D:=⟨_,rfl⟩;rw [hD] at HST2;have HD:=hid_ hD;clear hD;go_wp2_with fail
   refine HST2.out.mono ?_;rintro e w3 ⟨rfl,n3,rfl⟩;have HX3:=hid_ ((Ex.refl w1).drewN (n2 + n3));go_wp2_with fail
   go_ret;refine ⟨?_,HX.out.trans HX3.out⟩;have:=HD.out;have:=H12.out.1;have:=H12.out.2
   simp_all
  ·have HPQ2:=hid_ HPQ.out;rw [show decide (pl=ql)=false from by simpa using h2] at HPQ2;have H2:=hid_ h2;clear h2 HPQ;go_wp2_with fail
   refine HPQ2.out.mono ?_;rintro e w2 ⟨rfl,n2,rfl⟩;have HX2:=hid_ ((Ex.refl w1).drewN n2);go_wp2_with fail
   go_ret;refine ⟨?_,HX.out.trans HX2.out⟩;have:=H2.out
   simp_all
 ·have k1:(fr==fs)=false:=by simpa using h1
  have H1:=hid_ h1;clear h1;go_wp2_with fail
  go_ret;refine ⟨?_,HX.out⟩;have:=H1.out
  simp_all
end
section
open Go.RowKit
theorem rFSame_any (w:World) (p m:Int) (ml:List Int) (mv:Value) (hmv:ISl w mv ml) (p' m':Int) (ml':List Int) (mv':Value) (hmv':ISl w mv' ml'):
  Calls Tryz.prog 76 #[.agg #[.int .i64 p,.int .i64 m,mv],.agg #[.int .i64 p',.int .i64 m',mv']] w fun r w'=> r= .returned (.bool (samF p m ml p' m' ml'))∧Ex w w':=by
 obtain ⟨a0,a1,a2,ea,-⟩:=box_facts w p m mv;obtain ⟨b0,b1,b2,eb,-⟩:=box_facts (w.alloc (.cells #[.int .i64 p,.int .i64 m,mv] 24)) p' m' mv';replace a0:=eb.cell a0;replace a1:=eb.cell a1;replace a2:=eb.cell a2;have hsz:(w.alloc (.cells #[.int .i64 p,.int .i64 m,mv] 24)).heap.size=w.heap.size + 1:=by simp
 rw [hsz] at b0 b1 b2;have HE:=hid_ (ea.trans eb);obtain ⟨ma,mc,rfl,m1',m2,m3⟩:=hmv.open;obtain ⟨na,nc,rfl,-,n2,n3⟩:=hmv'.open;unfold maxLen at m2 n2;obtain ⟨R,hR⟩:∃R,samF p m ml p' m' ml'=R:=⟨_,rfl⟩;rw [hR];have M3:=hid_ m3;have N3:=hid_ n3;have HR:=hid_ hR;clear hmv hmv' hsz ea eb m3 n3 hR;go_enter Tryz.func76,Tryz.ntmps76
 by_cases h1:p=p'
 ·have b1':(p !=p')=false:=by simpa using h1
  by_cases h2:m=m'
  ·have b2':(m !=m')=false:=by simpa using h2
   by_cases h3:ml.length=ml'.length
   ·have b3:((ml.length:Int) !=(ml'.length:Int))=false:=by simp;omega
    subst h1;subst h2;have hn:∃n,ml.length=n:=⟨_,rfl⟩;have HRB:=hid_ (show R=true↔ml=ml' from by rw [←HR.out,samF_iff];simp);have H3:=hid_ h3;rw [←h3] at a0 a1 a2 b0 b1 b2 HE ⊢;clear h3 b3 hn;go_wp2_with fail
    generalize (w.alloc (.cells #[.int .i64 p,.int .i64 m,.slice ma ml.length mc] 24)).alloc (.cells #[.int .i64 p,.int .i64 m,.slice na ml.length nc] 24)=w1 at *;have A2:=hid_ a2;have B2:=hid_ b2
    go_loopw [5] (fun i' wr=> ∃(i:Nat),i≤ml.length∧i'= .int .i64 i∧(∀j,j < i→ml.getD j 0=ml'.getD j 0)∧Hid (Ex w1 wr)) (fun i' _=> ml.length - (intOf i').toNat)
    case atStart=> exact ⟨0,by omega,rfl,fun j hj=> by omega,hid_ (Ex.refl _)⟩
    case round=>
     obtain ⟨i,hi,rfl,hall,hex⟩:=hrel;have HAL:=hid_ hall;clear hall a0 a1 b0 b1;by_cases hin:i < ml.length
     ·obtain ⟨mb,mo,rfl,hmc⟩:=M3.out (by omega);obtain ⟨nb,no,rfl,hnc⟩:=N3.out (by have:=H3.out;omega);have c1:=hex.out.cell (HE.out.cell (hmc i _ (show ml[i]?=some (ml.getD i 0) from by rw [List.getD_eq_getElem?_getD,List.getElem?_eq_getElem hin];rfl)));have c2:=hex.out.cell (HE.out.cell (hnc i _ (show ml'[i]?=some (ml'.getD i 0) from by rw [List.getD_eq_getElem?_getD,List.getElem?_eq_getElem (by have:=H3.out;omega)];rfl)));have f2:=hex.out.cell A2.out;have g2:=hex.out.cell B2.out;have j1:(0:Int)≤(i:Int):=by omega
      have j2:(i:Int) < (ml.length:Int):=by omega
      have hmm:m2=m2:=rfl;obtain ⟨x,hx⟩:∃x,ml.getD i 0=x:=⟨_,rfl⟩;obtain ⟨y,hy⟩:∃y,ml'.getD i 0=y:=⟨_,rfl⟩;rw [hx] at c1;rw [hy] at c2;have HXY:=hid_ (show x=ml.getD i 0∧y=ml'.getD i 0 from ⟨hx.symm,hy.symm⟩);clear hx hy hmc hnc a2 b2 hmm;by_cases hxy:x=y
      ·have HA2:=hid_ (show ∀j,j < i + 1→ml.getD j 0=ml'.getD j 0 from fun j hj=> by
        by_cases e:j=i
        ·subst e;rw [←HXY.out.1,←HXY.out.2,hxy]
        ·exact HAL.out j (by omega))
       have bb:(x !=y)=false:=by simp [hxy]
       have hyx:y=x:=hxy.symm;subst hyx;clear hxy;go_upto_region 6 with fail
       go_quiet (fail)
       go_wp2_with fail
       go_roundw
       case rel=> exact ⟨i + 1,by omega,by go_num,HA2.out,hid_ (hex.out.drewN _)⟩
       case measure=> simp [intOf];omega
      ·have bb:(x !=y)=true:=by simpa using hxy
       have hr:R=false:=Bool.eq_false_iff.2 fun h=> hxy (by rw [HXY.out.1,HXY.out.2,HRB.out.1 h]);subst hr;have hyx:¬y=x:=fun h=> hxy h.symm;go_upto_region 6 with fail
       go_quiet (fail)
       go_wp2_with fail
       go_ret;exact ⟨rfl,HE.out.trans (hex.out.drewN _)⟩
     ·obtain rfl:i=ml.length:=by omega
      have f2:=hex.out.cell A2.out;have hr:R=true:=HRB.out.2 (List.ext_getElem? fun j=> by
       by_cases hj:j < ml.length
       ·have:=HAL.out j hj;rw [List.getElem?_eq_getElem hj,List.getElem?_eq_getElem (by have:=H3.out;omega)];rw [List.getD_eq_getElem?_getD,List.getElem?_eq_getElem hj,List.getD_eq_getElem?_getD,List.getElem?_eq_getElem (by have:=H3.out;omega)] at this;simpa using this
       ·rw [List.getElem?_eq_none (by omega),List.getElem?_eq_none (by have:=H3.out;omega)])
      subst hr;go_wp2_with fail
      go_ret;exact ⟨rfl,HE.out.trans hex.out⟩
   ·have b3:((ml.length:Int) !=(ml'.length:Int))=true:=by simp;omega
    have hr:R=false:=by
     rw [←HR.out];exact Bool.eq_false_iff.2 fun h=> h3 (by rw [(samF_iff.1 h).2.2])
    subst hr;have h3':¬((ml.length:Int)=(ml'.length:Int)):=by omega
    clear h3 h1 h2;go_wp2_with fail
    go_ret;exact ⟨rfl,HE.out⟩
  ·have b2':(m !=m')=true:=by simpa using h2
   have hr:R=false:=by
    rw [←HR.out];exact Bool.eq_false_iff.2 fun h=> h2 (samF_iff.1 h).2.1
   subst hr;clear h1 h2;go_wp2_with fail
   go_ret;exact ⟨rfl,HE.out⟩
 ·have b1':(p !=p')=true:=by simpa using h1
  have hr:R=false:=by
   rw [←HR.out];exact Bool.eq_false_iff.2 fun h=> h1 (samF_iff.1 h).1
  subst hr;clear h1;go_wp2_with fail
  go_ret;exact ⟨rfl,HE.out⟩
end
section
open Go.RowKit
def BolR (P:Prop) (r:Ending):Prop:=∃b:Bool,r= .returned (.bool b)∧(b=true↔P)
theorem bolR_no {P:Prop} (h:¬P):BolR P (.returned (.bool false)):=⟨false,rfl,⟨fun h=> (by cases h),fun k=> absurd k h⟩⟩
theorem bolR_yes {P:Prop} (h:P):BolR P (.returned (.bool true)):=⟨true,rfl,⟨fun _=> h,fun _=> rfl⟩⟩
theorem rfs_eq {L K:List Rf} (h:L.length=K.length) (hall:∀i,i < L.length→L.getD i dRf=K.getD i dRf):L=K:=by
 refine List.ext_getElem h fun i h1 h2=> ?_;have:=hall i h1;rw [List.getD_eq_getElem?_getD,List.getElem?_eq_getElem h1,List.getD_eq_getElem?_getD,List.getElem?_eq_getElem h2] at this;exact this
theorem rSameR_any (w:World) (L K:List Rf) (lv kv:Value) (hL:RSl w lv L) (hK:RSl w kv K):
  Calls Tryz.prog 33 #[.agg #[lv],.agg #[kv]] w fun r w'=> BolR (L=K) r∧Ex w w':=by
 have b0:=boxRf w lv;have f0:=boxRf (w.alloc (.cells #[lv] 54)) kv;have e0:=e_al w (.cells #[lv] 54);have e1:=e_al (w.alloc (.cells #[lv] 54)) (.cells #[kv] 54);have b0:=e1.cell b0;have hsz:(w.alloc (.cells #[lv] 54)).heap.size=w.heap.size + 1:=by simp
 rw [hsz] at f0;obtain ⟨za,zc,rfl,z1,z2,z3⟩:=rsl_open (hL.ex (e0.trans e1));obtain ⟨ya,yc,rfl,y1,y2,y3⟩:=rsl_open (hK.ex (e0.trans e1));unfold maxLen at z1 y1;have Z3:=hid_ z3;have Y3:=hid_ y3;have HE0:=hid_ (e0.trans e1);clear z3 y3 hL hK e0 e1 hsz;by_cases hlen:L.length=K.length
 ·have hlb:((L.length:Int) !=(K.length:Int))=false:=by simp;omega
  have HLN:=hid_ hlen;clear hlen;go_enter Tryz.func33,Tryz.ntmps33
  go_wp2_with fail
  obtain ⟨q,hq⟩:∃q,w.heap.size=q:=⟨_,rfl⟩;rw [hq] at b0 f0
  try simp only [hq]
  clear hq;generalize (w.alloc (.cells #[.slice za L.length zc] 54)).alloc (.cells #[.slice ya K.length yc] 54)=w1 at *;have B1:=hid_ b0;have F1:=hid_ f0;clear b0 f0
  go_loopw [5] (fun j' wr=> ∃(j:Nat),j≤L.length∧j'= .int .i64 j∧Hid (∀i,i < j→L.getD i dRf=K.getD i dRf)∧Hid (Ex w1 wr)) (fun j' _=> L.length - (intOf j').toNat)
  case atStart=> exact ⟨0,by omega,rfl,hid_ (fun i h=> by omega),hid_ (Ex.refl _)⟩
  case round=>
   obtain ⟨j,hj,rfl,hall,hex⟩:=hrel;have b1:=hex.out.cell B1.out;have f1:=hex.out.cell F1.out;by_cases hjl:j < L.length
   ·have hjk:j < K.length:=by have:=HLN.out;omega
    obtain ⟨zb,zo,rfl,hzc⟩:=Z3.out (by omega);obtain ⟨yb,yo,rfl,hyc⟩:=Y3.out (by omega);obtain ⟨mv,c0,c1,c2,c3,hm⟩:=hzc j hjl;obtain ⟨nv,g0,g1,g2,g3,hn⟩:=hyc j hjk;have c0:=hex.out.cell c0;have c1:=hex.out.cell c1;have c2:=hex.out.cell c2;have c3:=hex.out.cell c3;have g0:=hex.out.cell g0;have g1:=hex.out.cell g1;have g2:=hex.out.cell g2;have g3:=hex.out.cell g3;obtain ⟨l,hl⟩:∃l,L.getD j dRf=l:=⟨_,rfl⟩;obtain ⟨k,hk⟩:∃k,K.getD j dRf=k:=⟨_,rfl⟩;rw [hl] at c0 c1 c2 hm;rw [hk] at g0 g1 g2 hn;obtain ⟨oa,oc,rfl,_,_,_⟩:=hm.open;obtain ⟨pa,pc,rfl,_,_,_⟩:=hn.open;have i1:(0:Int)≤(j:Int):=by omega
    have i2:(j:Int) < (L.length:Int):=by omega
    have i3:(j:Int) < (K.length:Int):=by omega
    have HU:=hid_ (hm.ex hex.out);have HV:=hid_ (hn.ex hex.out);have HLJ:=hid_ hl;have HKJ:=hid_ hk;have HNO:=hid_ (show (l≠k)→¬(L=K) from fun h e=> h (by rw [←hl,←hk,e]));clear hl hk hm hn hzc hyc;obtain ⟨lt,ls,ld,lm⟩:=l;obtain ⟨kt,ks,kd,km⟩:=k;have b1x:=fun o=> ((Ex.refl wr).alloc o).cell b1;have b1y:=fun o o2=> (((Ex.refl wr).alloc o).alloc o2).cell b1;have f1x:=fun o=> ((Ex.refl wr).alloc o).cell f1;have f1y:=fun o o2=> (((Ex.refl wr).alloc o).alloc o2).cell f1;have c0x:=fun o=> ((Ex.refl wr).alloc o).cell c0;have c0y:=fun o o2=> (((Ex.refl wr).alloc o).alloc o2).cell c0;have c1x:=fun o=> ((Ex.refl wr).alloc o).cell c1;have c1y:=fun o o2=> (((Ex.refl wr).alloc o).alloc o2).cell c1;have c2x:=fun o=> ((Ex.refl wr).alloc o).cell c2;have c2y:=fun o o2=> (((Ex.refl wr).alloc o).alloc o2).cell c2;have c3x:=fun o=> ((Ex.refl wr).alloc o).cell c3;have c3y:=fun o o2=> (((Ex.refl wr).alloc o).alloc o2).cell c3;have g0x:=fun o=> ((Ex.refl wr).alloc o).cell g0;have g0y:=fun o o2=> (((Ex.refl wr).alloc o).alloc o2).cell g0;have g1x:=fun o=> ((Ex.refl wr).alloc o).cell g1;have g1y:=fun o o2=> (((Ex.refl wr).alloc o).alloc o2).cell g1;have g2x:=fun o=> ((Ex.refl wr).alloc o).cell g2;have g2y:=fun o o2=> (((Ex.refl wr).alloc o).alloc o2).cell g2;have g3x:=fun o=> ((Ex.refl wr).alloc o).cell g3;have g3y:=fun o o2=> (((Ex.refl wr).alloc o).alloc o2).cell g3;go_upto_region 6 with fail
    go_cut [6,7] from 22 to 58 (fun s6 s7 wx=> ∃B1 B2:Nat,s6= .pointer (some ⟨B1,0,none⟩)∧s7= .pointer (some ⟨B2,0,none⟩)∧Hid (wx.cell? ⟨B1,0,none⟩=some (.int .i64 lt)∧wx.cell? ⟨B1,1,none⟩=some (.int .i64 ls)∧wx.cell? ⟨B1,2,none⟩=some (.int .i64 ld)∧wx.cell? ⟨B1,3,none⟩=some (.slice oa lm.length oc))∧Hid (wx.cell? ⟨B2,0,none⟩=some (.int .i64 kt)∧wx.cell? ⟨B2,1,none⟩=some (.int .i64 ks)∧wx.cell? ⟨B2,2,none⟩=some (.int .i64 kd)∧wx.cell? ⟨B2,3,none⟩=some (.slice pa km.length pc))∧Hid (Ex wr wx))
    case first=>
     go_region
     all_goals go_wp2_with fail
     all_goals go_meet
     all_goals exact ⟨_,_,rfl,rfl,hid_ ⟨by simp,by simp,by simp,by simp⟩,hid_ ⟨by simp,by simp,by simp,by simp⟩,hid_ (((Ex.refl wr).alloc _).alloc _).drew⟩
    case rest=>
     obtain ⟨B1,B2,rfl,rfl,hA,hB,hxc⟩:=hcut;clear b1 f1 c0 c1 c2 c3 g0 g1 g2 g3 b1x b1y f1x f1y c0x c0y c1x c1y c2x c2y c3x c3y g0x g0y g1x g1y g2x g2y g3x g3y;obtain ⟨a0,a1,a2,a3⟩:=hA.out;obtain ⟨g0,g1,g2,g3⟩:=hB.out;by_cases h1:lt=kt
     ·subst h1;have hpb:(lt !=lt)=false:=by simp
      by_cases h2:ls=ks
      ·subst h2;have hpc:(ls !=ls)=false:=by simp
       by_cases h3:ld=kd
       ·subst h3;have hpd:(ld !=ld)=false:=by simp
        have hE1:=SameInts_any wc lm km _ _ (HU.out.ex hxc.out) (HV.out.ex hxc.out);by_cases h4:lm=km
        ·rw [decide_eq_true h4] at hE1;have HE1:=hid_ hE1;have HALL:=hid_ (show ∀i,i < j + 1→L.getD i dRf=K.getD i dRf from fun i hi=> by
          by_cases e:i=j
          ·subst e;rw [HLJ.out,HKJ.out,h4]
          ·exact hall.out i (by omega))
         clear hE1 h4 hall;go_wp2_with (go_at_call 19;refine HE1.out.mono ?_;rintro e w6 ⟨rfl,n6,hw6⟩;have HX6:=hid_ (show Ex wc w6 from by rw [hw6];exact (Ex.refl _).drewN n6);clear hw6)
         go_roundw
         case rel=> exact ⟨j + 1,by omega,by go_num,HALL,hid_ (hex.out.trans (hxc.out.trans HX6.out))⟩
         case measure=> simp [intOf];omega
        ·have HN:=hid_ (HNO.out (fun e=> h4 (by injection e)));rw [decide_eq_false h4] at hE1;have HE1:=hid_ hE1;clear hE1 h4 hall;go_wp2_with (go_at_call 19;refine HE1.out.mono ?_;rintro e w6 ⟨rfl,n6,hw6⟩;have HX6:=hid_ (show Ex wc w6 from by rw [hw6];exact (Ex.refl _).drewN n6);clear hw6)
         go_ret;exact ⟨bolR_no HN.out,HE0.out.trans (hex.out.trans (hxc.out.trans HX6.out))⟩
       ·have hpd:(ld !=kd)=true:=by simpa using h3
        have HN:=hid_ (HNO.out (fun e=> h3 (by injection e)));clear h3;go_wp2_with fail
        go_ret;exact ⟨bolR_no HN.out,HE0.out.trans (hex.out.trans hxc.out)⟩
      ·have hpc:(ls !=ks)=true:=by simpa using h2
       have HN:=hid_ (HNO.out (fun e=> h2 (by injection e)));clear h2;go_wp2_with fail
       go_ret;exact ⟨bolR_no HN.out,HE0.out.trans (hex.out.trans hxc.out)⟩
     ·have hpb:(lt !=kt)=true:=by simpa using h1
      have HN:=hid_ (HNO.out (fun e=> h1 (by injection e)));clear h1;go_wp2_with fail
      go_ret;exact ⟨bolR_no HN.out,HE0.out.trans (hex.out.trans hxc.out)⟩
   ·obtain rfl:j=L.length:=by omega
    have HR:=hid_ (show L=K from rfs_eq HLN.out hall.out);go_wp2_with fail
    go_ret;exact ⟨bolR_yes HR.out,HE0.out.trans hex.out⟩
 ·have hlb:((L.length:Int) !=(K.length:Int))=true:=by simp;omega
  have HN:=hid_ (show ¬L=K from fun e=> hlen (by rw [e]));clear hlen;go_enter Tryz.func33,Tryz.ntmps33
  go_wp2_with fail
  go_ret;exact ⟨bolR_no HN.out,HE0.out⟩
end
section
open Go.RowKit
end
section
open Go.RowKit
section
variable {p m:Nat} {ml:List Int} {mv:Value}
end
end
section
open Go.RowKit
section
variable {p m:Nat} {ml:List Int} {mv:Value}
end
end
section
open Go.RowKit
def entG (p m:Int) (l:List Int):Int:=if (l.all fun x=> isI p m x)=true then 0 else 2
theorem entG_entS {p m:Nat} {ml:List Int} (hf:FSh p m ml) (l:List Int):entG p m l=entS (p ^ m) l:=by
 unfold entG entS
 congr 1
 rw [show (fun x=> isI (p:Int) (m:Int) x)=fun x=> isB (p ^ m) x from funext fun x=> isI_isB hf x]
section
variable {p m:Int} {mv:Value}
end
def lisG (p m:Int) (l:List Int) (n:Int):Int:=if (l.length:Int)≠n then 4 else entG p m l
theorem ent_any {q:Nat} {l:List Int}:entS q l=if (l.any fun y=> !isB q y)=true then 2 else 0:=by
 unfold entS;have e:(l.any fun x=> !isB q x)=!(l.all fun x=> isB q x):=by rw [List.not_all_eq_any_not]
 rw [e];cases (l.all fun x=> isB q x) <;> simp
end
section
open Go.RowKit
section
variable {p m:Nat} {low:Vc}
end
section
variable {p m:Nat} {ml pl sl:List Int} {fr N:Nat} {x:List Int}
end
section
variable {p m:Nat} {ml pl sl ql tl:List Int} {fr fs N:Nat} {x:List Int}
end
end
section
open Go.RowKit
end
section
open Go.RowKit
theorem PV.cut {p m R N c:Nat} {a:Nat→Nat→Int} {piv:List Nat} (h:PV p m R N a piv c):PV p m piv.length N a piv c:=
 ⟨Nat.le_refl _,fun i hi=> h.rng i (by have:=h.le;omega),h.lt,h.one,fun j q i hq hi=> h.zer j q i hq (by have:=h.le;omega),fun i j h1 h2 _=> absurd h2 (by omega),h.lead,h.asc⟩
end
section
open Go.RowKit Go.ChangeShapes Go.WideShapes Go.ChangeAt
section
variable {H:Type} {enc:TypeId × Value→H} {W:World} {held:Bool}
theorem spot_none {x:Addr} {w:World} {u:Value} (h:w.cell? x=some u) (hu:(∃k n,u= .int k n)∨∃a l c,u= .slice a l c):x=⟨x.block,x.off,none⟩:=by
 have hs:x.spot=none:=by
  rcases hs:x.spot with _ | s
  ·rfl
  ·exfalso;simp only [World.cell?,hs] at h;split at h
   ·rcases hu with ⟨k,n,rfl⟩ | ⟨a,l,c,rfl⟩ <;> simp at h
   ·simp at h
 cases x;simp_all
theorem add_off (b o j:Nat):(⟨b,o,none⟩:Addr).add j=⟨b,o + j,none⟩:=by unfold Addr.add;split <;> simp_all
theorem isl_cells {w:World} {a:Option Addr} {len cap:Nat} {zs:List Int} (h1:len≤cap) (h2:cap≤maxLen) (h3:zs.length=cap) (h4:a=none→cap=0) (h5:∀x,a=some x→∀i,i < cap→w.cell? (x.add i)=some (.int .i64 (zs.getD i 0))):
  ISl w (.slice a len cap) (zs.take len):=by
 have hl:(zs.take len).length=len:=by rw [List.length_take];omega
 unfold ISl;rw [hl];refine ⟨by rw [ints_length];omega,a,cap,rfl,h1,h2,fun hn=> ?_⟩;rcases a with _ | x
 ·have:=h4 rfl;omega
 ·have h0:=h5 x rfl 0 (by omega);have hx:=spot_none h0 (.inl ⟨_,_,rfl⟩);have hx0:(x.add 0)=x:=by simp [Addr.add]
  rw [hx0] at hx;refine ⟨x.block,x.off,congrArg some hx,fun j u hu=> ?_⟩;simp only [ints,List.getElem?_map,List.getElem?_take] at hu;split at hu
  ·have h6:=h5 x rfl j (by omega);rw [hx,add_off] at h6;rw [h6];obtain ⟨y,hy,rfl⟩:=Option.map_eq_some_iff.1 hu;rw [List.getD_eq_getElem?_getD,hy];rfl
  ·cases hu
theorem isl_trod {fuel:Nat} {v:Value} {y:DataW H × List MemPlace} (h:DataW.trod enc Tryz.prog W 0 (fun _=> true) held fuel 22 [v]=some y):∃l,ISl W v l:=by
 rcases open_ints Tryz.underlying22 Tryz.underlying3 (by kernel_rfl) h with ⟨hcs,_⟩ | ⟨x,l,c,zs,hcs,_,hl,hm,hz,_,hcell,hwz⟩
 ·simp at hcs;subst hcs;exact ⟨[],Sl.nil W 1⟩
 ·simp at hcs;subst hcs;simp only [if_true] at hz;exact ⟨_,isl_cells hl hm hz (fun h=> by cases h) (fun x' hx i hi=> by injection hx with hx;subst hx;exact hcell i (by omega))⟩
theorem msl_trod {fuel:Nat} {v:Value} {y:DataW H × List MemPlace} (h:DataW.trod enc Tryz.prog W 0 (fun _=> true) held fuel 45 [v]=some y):∃rows,MSl W v rows:=by
 rcases Go.Deep.open_int_rows Tryz.underlying45 Tryz.underlying22 Tryz.underlying3 (by kernel_rfl) (by kernel_rfl) h with ⟨hcs,_⟩ | ⟨x,len,cap,A,L,C,Z,hcs,_,hl,hm,_,hr⟩
 ·simp at hcs;subst hcs;exact ⟨[], [],Sl.nil W 1,fun i r u hr=> by simp at hr⟩
 ·simp at hcs;subst hcs;refine ⟨(List.range len).map fun r=> (Z r).take (L r),(List.range len).map fun r=> .slice (A r) (L r) (C r),?_,fun i r u h1 h2=> ?_⟩
  ·refine ⟨by simp,some x,cap,by simp,by simpa using hl,hm,fun hn=> ?_⟩;simp at hn;have h0:=(hr 0 (by omega)).1;have hx:=spot_none h0 (.inr ⟨_,_,_,rfl⟩);have hx0:(x.add 0)=x:=by simp [Addr.add]
   rw [hx0] at hx;refine ⟨x.block,x.off,congrArg some hx,fun j u hu=> ?_⟩;simp only [List.getElem?_map] at hu;obtain ⟨k,hk,rfl⟩:=Option.map_eq_some_iff.1 hu;have hj:j < len:=by have:=(List.getElem?_eq_some_iff.1 hk).1;simpa using this
   have e:k=j:=by simp [hj] at hk;exact hk.symm
   subst e;have:=(hr k (by omega)).1;rw [hx,add_off] at this;exact this
  ·have hi:i < len:=by have:=(List.getElem?_eq_some_iff.1 h1).1;simpa using this
   simp [hi] at h1 h2;subst h1 h2;obtain ⟨_,a1,a2,a3,_,a4,a5⟩:=hr i (by omega);exact isl_cells a1 a2 a3 a4 (fun x' hx j hj=> (a5 x' hx).2 j hj)
theorem c_int:Tryz.prog.cellsOf 3=1:=by kernel_rfl
theorem c_ints:Tryz.prog.cellsOf 22=1:=by kernel_rfl
theorem c_rows:Tryz.prog.cellsOf 45=1:=by kernel_rfl
theorem c_fld:Tryz.prog.cellsOf 24=3:=by kernel_rfl
theorem c_mon:Tryz.prog.cellsOf 26=3:=by kernel_rfl
theorem fld_cells {fuel:Nat} {c0 c1 c2:Value} {y:DataW H × List MemPlace} (h:DataW.trod enc Tryz.prog W 0 (fun _=> true) held fuel 24 [c0,c1,c2]=some y):
  ∃(P M:Int) (ml:List Int),c0= .int .i64 P∧c1= .int .i64 M∧ISl W c2 ml:=by
 obtain ⟨xs,k,_,_,_,hxl,hf⟩:=DataW.trod_struct Tryz.underlying24 h;have g0:=hf 0 _ rfl;have g1:=hf 1 _ rfl;have g2:=hf 2 _ rfl
 match xs,hxl with
 | [y0,y1,y2],_=>
  simp [c_int,c_ints] at g0 g1 g2;obtain ⟨P,e0,_,_⟩:=DataW.trod_int Tryz.underlying3 g0;obtain ⟨M,e1,_,_⟩:=DataW.trod_int Tryz.underlying3 g1;obtain ⟨l,hl⟩:=isl_trod g2;simp at e0 e1;exact ⟨P,M,l,e0,e1,hl⟩
theorem mon_cells {fuel:Nat} {c0 c1 c2:Value} {y:DataW H × List MemPlace} (h:DataW.trod enc Tryz.prog W 0 (fun _=> true) held fuel 26 [c0,c1,c2]=some y):
  ∃(pl sl:List Int) (fr:Int),ISl W c0 pl∧ISl W c1 sl∧c2= .int .i64 fr:=by
 obtain ⟨xs,k,_,_,_,hxl,hf⟩:=DataW.trod_struct Tryz.underlying26 h;have g0:=hf 0 _ rfl;have g1:=hf 1 _ rfl;have g2:=hf 2 _ rfl
 match xs,hxl with
 | [y0,y1,y2],_=>
  simp [c_int,c_ints] at g0 g1 g2;obtain ⟨P,e0,_,_⟩:=DataW.trod_int Tryz.underlying3 g2;obtain ⟨l,hl⟩:=isl_trod g0;obtain ⟨l',hl'⟩:=isl_trod g1;simp at e0;exact ⟨l,l',P,hl,hl',e0⟩
theorem okWide_agg {r:Reach} {b0:Nat} {t:TypeId} {fs:Array Field} {v:Value} (ht:Tryz.prog.underlying t=some (.struct fs)) (h:Value.okWide Tryz.prog W r b0 t v):∃cs,v= .agg cs∧cs.size=Tryz.prog.cellsOf t:=by
 simp only [Value.okWide,ht] at h;obtain ⟨cs,h1,h2,_⟩:=h;exact ⟨cs,h1,h2⟩
theorem okWide_array {r:Reach} {b0:Nat} {t e:TypeId} {n:Nat} {v:Value} (ht:Tryz.prog.underlying t=some (.array n e)) (h:Value.okWide Tryz.prog W r b0 t v):∃cs,v= .agg cs∧cs.size=Tryz.prog.cellsOf t:=by
 simp only [Value.okWide,ht] at h;obtain ⟨cs,h1,h2,_⟩:=h;exact ⟨cs,h1,h2⟩
theorem open_field {r:Reach} {b0:Nat} {v:Value} {d:DataW H} {p:List MemPlace} (hv:Value.okWide Tryz.prog W r b0 24 v) (h:DataW.Trod enc Tryz.prog W 0 (fun _=> true) held 24 v d p):
  ∃(P M:Int) (mv:Value) (ml:List Int),v= .agg #[.int .i64 P,.int .i64 M,mv]∧ISl W mv ml:=by
 obtain ⟨cs,rfl,hsz⟩:=okWide_agg Tryz.underlying24 hv;obtain ⟨c0,c1,c2,rfl⟩:=Go.Joins.array3 (hsz.trans c_fld);obtain ⟨fuel,hf⟩:=h;obtain ⟨P,M,ml,rfl,rfl,hl⟩:=fld_cells (by simpa [Value.cells] using hf);exact ⟨P,M,_,ml,rfl,hl⟩
theorem open_mon {r:Reach} {b0:Nat} {v:Value} {d:DataW H} {p:List MemPlace} (hv:Value.okWide Tryz.prog W r b0 26 v) (h:DataW.Trod enc Tryz.prog W 0 (fun _=> true) held 26 v d p):
  ∃(pv sv:Value) (pl sl:List Int) (fr:Int),v= .agg #[pv,sv,.int .i64 fr]∧ISl W pv pl∧ISl W sv sl:=by
 obtain ⟨cs,rfl,hsz⟩:=okWide_agg Tryz.underlying26 hv;obtain ⟨c0,c1,c2,rfl⟩:=Go.Joins.array3 (hsz.trans c_mon);obtain ⟨fuel,hf⟩:=h;obtain ⟨pl,sl,fr,h1,h2,rfl⟩:=mon_cells (by simpa [Value.cells] using hf);exact ⟨_,_,pl,sl,fr,rfl,h1,h2⟩
theorem array6 {α:Type} {cs:Array α} (h:cs.size=6):∃c0 c1 c2 c3 c4 c5,cs= #[c0,c1,c2,c3,c4,c5]:=by
 obtain ⟨l⟩:=cs
 match l,h with
 | [c0,c1,c2,c3,c4,c5],_=> exact ⟨c0,c1,c2,c3,c4,c5,rfl⟩
theorem array5 {α:Type} {cs:Array α} (h:cs.size=5):∃c0 c1 c2 c3 c4,cs= #[c0,c1,c2,c3,c4]:=by
 obtain ⟨l⟩:=cs
 match l,h with
 | [c0,c1,c2,c3,c4],_=> exact ⟨c0,c1,c2,c3,c4,rfl⟩
theorem open_mon2 {r:Reach} {b0:Nat} {v:Value} {d:DataW H} {p:List MemPlace} (hv:Value.okWide Tryz.prog W r b0 41 v) (h:DataW.Trod enc Tryz.prog W 0 (fun _=> true) held 41 v d p):
  ∃(pv sv:Value) (pl sl:List Int) (fr:Int) (qv tv:Value) (ql tl:List Int) (fs:Int),v= .agg #[pv,sv,.int .i64 fr,qv,tv,.int .i64 fs]∧ISl W pv pl∧ISl W sv sl∧ISl W qv ql∧ISl W tv tl:=by
 obtain ⟨cs,rfl,hsz⟩:=okWide_array Tryz.underlying41 hv;rw [show Tryz.prog.cellsOf 41=6 by kernel_rfl] at hsz;obtain ⟨c0,c1,c2,c3,c4,c5,rfl⟩:=array6 hsz;obtain ⟨fuel,hf⟩:=h;obtain ⟨xs,m,_,_,_,hl,hi⟩:=DataW.trod_array Tryz.underlying41 hf;have h0:=hi 0 (by omega);have h1:=hi 1 (by omega);rw [c_mon,List.getElem?_eq_getElem (by omega)] at h0 h1;obtain ⟨pl,sl,fr,p1,p2,rfl⟩:=mon_cells (c0:=c0) (c1:=c1) (c2:=c2) (by simpa [Value.cells] using h0);obtain ⟨ql,tl,fs,p3,p4,rfl⟩:=mon_cells (c0:=c3) (c1:=c4) (c2:=c5) (by simpa [Value.cells] using h1);exact ⟨_,_,pl,sl,fr,_,_,ql,tl,fs,rfl,p1,p2,p3,p4⟩
theorem open_list {v:Value} {d:DataW H} {p:List MemPlace} (h:DataW.Trod enc Tryz.prog W 0 (fun _=> true) held 22 v d p) (hv:∃a l c,v= .slice a l c):∃l,ISl W v l:=by
 obtain ⟨fuel,hf⟩:=h;obtain ⟨a,l,c,rfl⟩:=hv;exact isl_trod (by simpa [Value.cells] using hf)
end
end
end Go.Proofs.YtgdmlmhpineibaaGreat
