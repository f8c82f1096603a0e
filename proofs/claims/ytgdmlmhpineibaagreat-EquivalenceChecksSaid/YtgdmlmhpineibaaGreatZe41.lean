/- Walk of codewrightref31.SameMap. -/
import Derived.BigQuiet
import Derived.Deep.CutRange
import Derived.Deep.RegionHeld3
import Derived.Test.YtgdmlmhpineibaaGreatZe08
import Derived.Test.YtgdmlmhpineibaaGreatZe20
import Derived.Test.YtgdmlmhpineibaaGreatZe21
import Derived.Test.YtgdmlmhpineibaaGreatZe23
import Derived.Test.YtgdmlmhpineibaaGreatZe24
import Derived.Test.YtgdmlmhpineibaaGreatZe26
import Derived.Test.YtgdmlmhpineibaaGreatZe39
import Derived.Test.YtgdmlmhpineibaaGreatZe40
namespace Go.Proofs.YtgdmlmhpineibaaGreat
set_option linter.unusedVariables false
set_option linter.unusedSimpArgs false
set_option maxRecDepth 100000
set_option maxHeartbeats 4000000
section
open Go.RowKit
theorem SameMap_any (w : World) (pl sl ql tl : List Int) (pv sv qv tv : Value) (hp : ISl w pv pl) (hs : ISl w sv sl) (hq : ISl w qv ql) (ht : ISl w tv tl) (fr fs : Int) :
  Calls Tryz.prog 20 #[.agg #[pv,sv,.int .i64 fr],.agg #[qv,tv,.int .i64 fs]] w fun r w' => r = .returned (.bool (decide (fr = fs ∧ pl = ql ∧ sl = tl))) ∧ Ex w w' := by
 obtain ⟨a0,a1,a2,ea⟩ := boxMo_facts w pv sv fr;obtain ⟨b0,b1,b2,eb⟩ := boxMo_facts (w.alloc (.cells #[pv,sv,.int .i64 fr] 26)) qv tv fs;have asz : (w.alloc (.cells #[pv,sv,.int .i64 fr] 26)).heap.size = w.heap.size + 1 := by simp
 rw [asz] at b0 b1 b2;replace a0 := eb.cell a0;replace a1 := eb.cell a1;replace a2 := eb.cell a2;have HX := hid_ (ea.trans eb);have HP := hid_ hp;have HS := hid_ hs;have HQ := hid_ hq;have HT := hid_ ht;obtain ⟨pa,pc,rfl,-,q1,-⟩ := hp.open;obtain ⟨sa,sc,rfl,-,q2,-⟩ := hs.open;obtain ⟨qa,qc,rfl,-,q3,-⟩ := hq.open;obtain ⟨ta,tc,rfl,-,q4,-⟩ := ht.open;unfold maxLen at q1 q2 q3 q4;obtain ⟨B,hB⟩ : ∃ B,w.heap.size = B := ⟨_,rfl⟩;rw [hB] at a0 a1 a2 b0 b1 b2;clear hp hs hq ht ea eb asz;go_enter Tryz.func20,Tryz.ntmps20
 go_upto_region 1 with fail
 try simp only [hB]
 clear hB;generalize (w.alloc (.cells #[.slice pa pl.length pc,.slice sa sl.length sc,.int .i64 fr] 26)).alloc (.cells #[.slice qa ql.length qc,.slice ta tl.length tc,.int .i64 fs] 26) = w1 at *;have HALL := hid_ (fun w' (h : Ex w1 w') => (⟨h.cell a0,h.cell a1,h.cell b0,h.cell b1⟩ : _ ∧ _ ∧ _ ∧ _));have HPQ := hid_ (SameInts_any w1 pl ql _ _ (HP.out.ex HX.out) (HQ.out.ex HX.out));have HST := hid_ (fun (w2 : World) (h : Ex w1 w2) => SameInts_any w2 sl tl _ _ (HS.out.ex (HX.out.trans h)) (HT.out.ex (HX.out.trans h)));by_cases h1 : fr = fs
 ·have k1 : (fr == fs) = true := by simpa using h1
  by_cases h2 : pl = ql
  ·have HPQ2 := hid_ HPQ.out;rw [show decide (pl = ql) = true from by simpa using h2] at HPQ2;have H12 := hid_ (And.intro h1 h2);clear h1 h2 HPQ;go_wp2_with fail
   refine HPQ2.out.mono ?_;rintro e w2 ⟨rfl,n2,rfl⟩;have HX2 := hid_ ((Ex.refl w1).drewN n2);clear a0 a1 b0 b1;obtain ⟨a0,a1,b0,b1⟩ := HALL.out _ HX2.out;have HST2 := hid_ (HST.out _ HX2.out);obtain ⟨D,hD⟩ : ∃ D,decide (sl = tl) = D := ⟨_,rfl⟩;rw [hD] at HST2;have HD := hid_ hD;clear hD;go_wp2_with fail
   refine HST2.out.mono ?_;rintro e w3 ⟨rfl,n3,rfl⟩;have HX3 := hid_ ((Ex.refl w1).drewN (n2 + n3));go_wp2_with fail
   go_ret;refine ⟨?_,HX.out.trans HX3.out⟩;have := HD.out;have := H12.out.1;have := H12.out.2
   simp_all
  ·have HPQ2 := hid_ HPQ.out;rw [show decide (pl = ql) = false from by simpa using h2] at HPQ2;have H2 := hid_ h2;clear h2 HPQ;go_wp2_with fail
   refine HPQ2.out.mono ?_;rintro e w2 ⟨rfl,n2,rfl⟩;have HX2 := hid_ ((Ex.refl w1).drewN n2);go_wp2_with fail
   go_ret;refine ⟨?_,HX.out.trans HX2.out⟩;have := H2.out
   simp_all
 ·have k1 : (fr == fs) = false := by simpa using h1
  have H1 := hid_ h1;clear h1;go_wp2_with fail
  go_ret;refine ⟨?_,HX.out⟩;have := H1.out
  simp_all
end
section
open Go.RowKit
theorem rFSame_any (w : World) (p m : Int) (ml : List Int) (mv : Value) (hmv : ISl w mv ml) (p' m' : Int) (ml' : List Int) (mv' : Value) (hmv' : ISl w mv' ml') :
  Calls Tryz.prog 76 #[.agg #[.int .i64 p,.int .i64 m,mv],.agg #[.int .i64 p',.int .i64 m',mv']] w fun r w' => r = .returned (.bool (samF p m ml p' m' ml')) ∧ Ex w w' := by
 obtain ⟨a0,a1,a2,ea,-⟩ := box_facts w p m mv;obtain ⟨b0,b1,b2,eb,-⟩ := box_facts (w.alloc (.cells #[.int .i64 p,.int .i64 m,mv] 24)) p' m' mv';replace a0 := eb.cell a0;replace a1 := eb.cell a1;replace a2 := eb.cell a2;have hsz : (w.alloc (.cells #[.int .i64 p,.int .i64 m,mv] 24)).heap.size = w.heap.size + 1 := by simp
 rw [hsz] at b0 b1 b2;have HE := hid_ (ea.trans eb);obtain ⟨ma,mc,rfl,m1',m2,m3⟩ := hmv.open;obtain ⟨na,nc,rfl,-,n2,n3⟩ := hmv'.open;unfold maxLen at m2 n2;obtain ⟨R,hR⟩ : ∃ R,samF p m ml p' m' ml' = R := ⟨_,rfl⟩;rw [hR];have M3 := hid_ m3;have N3 := hid_ n3;have HR := hid_ hR;clear hmv hmv' hsz ea eb m3 n3 hR;go_enter Tryz.func76,Tryz.ntmps76
 by_cases h1 : p = p'
 ·have b1' : (p != p') = false := by simpa using h1
  by_cases h2 : m = m'
  ·have b2' : (m != m') = false := by simpa using h2
   by_cases h3 : ml.length = ml'.length
   ·have b3 : ((ml.length : Int) != (ml'.length : Int)) = false := by simp;omega
    subst h1;subst h2;have hn : ∃ n,ml.length = n := ⟨_,rfl⟩;have HRB := hid_ (show R = true ↔ ml = ml' from by rw [← HR.out,samF_iff];simp);have H3 := hid_ h3;rw [← h3] at a0 a1 a2 b0 b1 b2 HE ⊢;clear h3 b3 hn;go_wp2_with fail
    generalize (w.alloc (.cells #[.int .i64 p,.int .i64 m,.slice ma ml.length mc] 24)).alloc (.cells #[.int .i64 p,.int .i64 m,.slice na ml.length nc] 24) = w1 at *;have A2 := hid_ a2;have B2 := hid_ b2
    go_loopw [5] (fun i' wr => ∃ (i : Nat),i ≤ ml.length ∧ i' = .int .i64 i ∧ (∀ j,j < i → ml.getD j 0 = ml'.getD j 0) ∧ Hid (Ex w1 wr)) (fun i' _ => ml.length - (intOf i').toNat)
    case atStart => exact ⟨0,by omega,rfl,fun j hj => by omega,hid_ (Ex.refl _)⟩
    case round =>
     obtain ⟨i,hi,rfl,hall,hex⟩ := hrel;have HAL := hid_ hall;clear hall a0 a1 b0 b1;by_cases hin : i < ml.length
     ·obtain ⟨mb,mo,rfl,hmc⟩ := M3.out (by omega);obtain ⟨nb,no,rfl,hnc⟩ := N3.out (by have := H3.out;omega);have c1 := hex.out.cell (HE.out.cell (hmc i _ (show ml[i]? = some (ml.getD i 0) from by rw [List.getD_eq_getElem?_getD,List.getElem?_eq_getElem hin];rfl)));have c2 := hex.out.cell (HE.out.cell (hnc i _ (show ml'[i]? = some (ml'.getD i 0) from by rw [List.getD_eq_getElem?_getD,List.getElem?_eq_getElem (by have := H3.out;omega)];rfl)));have f2 := hex.out.cell A2.out;have g2 := hex.out.cell B2.out;have j1 : (0 : Int) ≤ (i : Int) := by omega
      have j2 : (i : Int) < (ml.length : Int) := by omega
      have hmm : m2 = m2 := rfl;obtain ⟨x,hx⟩ : ∃ x,ml.getD i 0 = x := ⟨_,rfl⟩;obtain ⟨y,hy⟩ : ∃ y,ml'.getD i 0 = y := ⟨_,rfl⟩;rw [hx] at c1;rw [hy] at c2;have HXY := hid_ (show x = ml.getD i 0 ∧ y = ml'.getD i 0 from ⟨hx.symm,hy.symm⟩);clear hx hy hmc hnc a2 b2 hmm;by_cases hxy : x = y
      ·have HA2 := hid_ (show ∀ j,j < i + 1 → ml.getD j 0 = ml'.getD j 0 from fun j hj => by
        by_cases e : j = i
        ·subst e;rw [← HXY.out.1,← HXY.out.2,hxy]
        ·exact HAL.out j (by omega))
       have bb : (x != y) = false := by simp [hxy]
       have hyx : y = x := hxy.symm;subst hyx;clear hxy;go_upto_region 6 with fail
       go_quiet (fail)
       go_wp2_with fail
       go_roundw
       case rel => exact ⟨i + 1,by omega,by go_num,HA2.out,hid_ (hex.out.drewN _)⟩
       case measure => simp [intOf];omega
      ·have bb : (x != y) = true := by simpa using hxy
       have hr : R = false := Bool.eq_false_iff.2 fun h => hxy (by rw [HXY.out.1,HXY.out.2,HRB.out.1 h]);subst hr;have hyx : ¬ y = x := fun h => hxy h.symm;go_upto_region 6 with fail
       go_quiet (fail)
       go_wp2_with fail
       go_ret;exact ⟨rfl,HE.out.trans (hex.out.drewN _)⟩
     ·obtain rfl : i = ml.length := by omega
      have f2 := hex.out.cell A2.out;have hr : R = true := HRB.out.2 (List.ext_getElem? fun j => by
       by_cases hj : j < ml.length
       ·have := HAL.out j hj;rw [List.getElem?_eq_getElem hj,List.getElem?_eq_getElem (by have := H3.out;omega)];rw [List.getD_eq_getElem?_getD,List.getElem?_eq_getElem hj,List.getD_eq_getElem?_getD,List.getElem?_eq_getElem (by have := H3.out;omega)] at this;simpa using this
       ·rw [List.getElem?_eq_none (by omega),List.getElem?_eq_none (by have := H3.out;omega)])
      subst hr;go_wp2_with fail
      go_ret;exact ⟨rfl,HE.out.trans hex.out⟩
   ·have b3 : ((ml.length : Int) != (ml'.length : Int)) = true := by simp;omega
    have hr : R = false := by
     rw [← HR.out];exact Bool.eq_false_iff.2 fun h => h3 (by rw [(samF_iff.1 h).2.2])
    subst hr;have h3' : ¬ ((ml.length : Int) = (ml'.length : Int)) := by omega
    clear h3 h1 h2;go_wp2_with fail
    go_ret;exact ⟨rfl,HE.out⟩
  ·have b2' : (m != m') = true := by simpa using h2
   have hr : R = false := by
    rw [← HR.out];exact Bool.eq_false_iff.2 fun h => h2 (samF_iff.1 h).2.1
   subst hr;clear h1 h2;go_wp2_with fail
   go_ret;exact ⟨rfl,HE.out⟩
 ·have b1' : (p != p') = true := by simpa using h1
  have hr : R = false := by
   rw [← HR.out];exact Bool.eq_false_iff.2 fun h => h1 (samF_iff.1 h).1
  subst hr;clear h1;go_wp2_with fail
  go_ret;exact ⟨rfl,HE.out⟩
end
section
open Go.RowKit
end
section
open Go.RowKit
section
variable {p m : Nat} {ml : List Int} {mv : Value}
end
end
section
open Go.RowKit
section
variable {p m : Nat} {ml : List Int} {mv : Value}
end
end
section
open Go.RowKit
theorem rFew12_any (w : World) (p m : Int) (mv : Value) (n : Int) (rows : List (List Int)) (v : Value) (hv : MSl w v rows) (lim : Int) (hl0 : 0 ≤ lim) (hl1 : lim ≤ 100000) :
  Calls Tryz.prog 62 #[.agg #[.int .i64 p,.int .i64 m,mv,.int .i64 n,v],.int .i64 lim] w fun r w' => r = .returned (.bool (fewM 0 rows lim)) ∧ Ex w w' := by
 obtain ⟨a0,a1,a2,a3,a4,ea⟩ := boxC_facts w p m mv n v;have HFW := hid_ (fun (w' : World) (h : Ex w w') => rFewM_any w' 0 rows v (hv.ex h) lim hl0 hl1);obtain ⟨za,zc,rfl,-,z2,-⟩ := hv.open;have HE := hid_ ea;clear hv ea z2;obtain ⟨F,hF⟩ : ∃ F,fewM 0 rows lim = F := ⟨_,rfl⟩;rw [hF] at HFW ⊢;clear hF;go_enter Tryz.func62,Tryz.ntmps62
 go_wp2_with fail
 generalize w.alloc (.cells #[.int .i64 p,.int .i64 m,mv,.int .i64 n,.slice za rows.length zc] 47) = w1 at *;refine (HFW.out w1 HE.out).mono ?_;rintro e w2 ⟨rfl,hx⟩;have HX := hid_ (HE.out.trans hx);clear hx;go_wp2_with fail
 go_ret;exact ⟨rfl,HX.out⟩
end
section
open Go.RowKit
def rgnH (n : Nat) : List Oper → Nat → List Nat → Bool
 | [],_,_ => true
 | o :: l,k,seen => (o.after.all fun e => decide (e.on < k)) && (match o.dst with
  | none => rgnH n l (k + 1) seen
  | some d => decide (d < n) && !seen.contains d && rgnH n l (k + 1) (d :: seen))
structure RgnOW (ops : Array Oper) (n : Nat) : Prop where
 wait : ∀ (i : Nat) (o : Oper),ops[i]? = some o → ∀ e ∈ o.after,(e : Edge).on < i
 lt : ∀ (i : Nat) (o : Oper) (d : Nat),ops[i]? = some o → o.dst = some d → d < n
 inj : ∀ (i j : Nat) (oi oj : Oper) (d : Nat),ops[i]? = some oi → ops[j]? = some oj → oi.dst = some d → oj.dst = some d → i = j
theorem rgnH_spec (n : Nat) : ∀ (l : List Oper) (k : Nat) (seen : List Nat),rgnH n l k seen = true → ∀ (i : Nat) (o : Oper),l[i]? = some o →
  (∀ e ∈ o.after,e.on < k + i) ∧ ∀ d,o.dst = some d → d < n ∧ d ∉ seen ∧ ∀ j oj,j < i → l[j]? = some oj → oj.dst ≠ some d
 | [],_,_,_,i,o,h => by simp at h
 | o :: l,k,seen,h,i,o',hi => by
  unfold rgnH at h;rw [Bool.and_eq_true] at h;obtain ⟨h2,h3⟩ := h
  cases i with
  | zero =>
   simp at hi;subst hi;refine ⟨fun e he => ?_,fun d hd => ?_⟩
   ·rw [Array.all_eq_true_iff_forall_mem] at h2;have := h2 e he;simpa using this
   ·rw [hd] at h3;simp only [Bool.and_eq_true] at h3;refine ⟨by simpa using h3.1.1,by simpa using h3.1.2,fun j oj hj => by omega⟩
  | succ i =>
   simp at hi
   cases hdo : o.dst with
   | none =>
    rw [hdo] at h3;obtain ⟨b,c⟩ := rgnH_spec n l (k + 1) seen h3 i o' hi;refine ⟨fun e he => by have := b e he;omega,fun d hd => ?_⟩;obtain ⟨c1,c2,c3⟩ := c d hd;refine ⟨c1,c2,fun j oj hj ho => ?_⟩
    cases j with
    | zero => simp at ho;subst ho;rw [hdo];simp
    | succ j => simp at ho;exact c3 j oj (by omega) ho
   | some d0 =>
    rw [hdo] at h3;simp only [Bool.and_eq_true] at h3;obtain ⟨b,c⟩ := rgnH_spec n l (k + 1) (d0 :: seen) h3.2 i o' hi;refine ⟨fun e he => by have := b e he;omega,fun d hd => ?_⟩;obtain ⟨c1,c2,c3⟩ := c d hd;refine ⟨c1,fun h => c2 (List.mem_cons_of_mem _ h),fun j oj hj ho => ?_⟩
    cases j with
    | zero =>
     simp at ho;subst ho;rw [hdo];intro e;injection e with e;exact c2 (by rw [e];exact List.mem_cons_self ..)
    | succ j => simp at ho;exact c3 j oj (by omega) ho
theorem rgn_ow {l : List Oper} {n : Nat} (h : rgnH n l 0 [] = true) : RgnOW l.toArray n := by
 have key := rgnH_spec n l 0 [] h;have hg : ∀ (i : Nat) o,l.toArray[i]? = some o → l[i]? = some o := fun i o h => by simpa using h
 refine ⟨fun i o ho e he => by have := (key i o (hg i o ho)).1 e he;omega,fun i o d ho hd => ((key i o (hg i o ho)).2 d hd).1,fun i j oi oj d hi hj h1 h2 => ?_⟩;rcases Nat.lt_trichotomy i j with e | e | e
 ·exact absurd h1 (((key j oj (hg j oj hj)).2 d h2).2.2 i oi e (hg i oi hi))
 ·exact e
 ·exact absurd h2 (((key i oi (hg i oi hi)).2 d h1).2.2 j oj e (hg j oj hj))
section
variable {ops : Array Oper} {a0 a a' : Act} {L L' : Nat → Bool} {vals : Nat → Value}
theorem RFr.stepW (H : RgnOW ops a0.tmps.size) (h : RFr ops a0 L vals a) {i : Nat} {o : Oper} (ho : ops[i]? = some o) (v : Value) : RFr ops a0 (upd L i true) (upd vals i v) (a.put o.dst v) := by
 cases hd : o.dst with
 | none =>
  refine ⟨h.sz,h.df,fun j oj d hj hoj hdj => ?_,fun s hn => h.old s fun j oj hj hoj => ?_⟩
  ·by_cases e : j = i
   ·subst e;rw [ho] at hoj;injection hoj with hoj;subst hoj;rw [hd] at hdj;cases hdj
   ·rw [upd_ne _ _ e] at hj ⊢;exact h.got j oj d hj hoj hdj
  ·by_cases e : j = i
   ·subst e;rw [ho] at hoj;injection hoj with hoj;subst hoj;rw [hd];simp
   ·exact hn j oj (by rw [upd_ne _ _ e];exact hj) hoj
 | some d0 =>
  have hlt : d0 < a.tmps.size := by rw [h.sz];exact H.lt i o d0 ho hd
  refine ⟨by show (a.tmps.setIfInBounds d0 v).size = _;rw [Array.size_setIfInBounds];exact h.sz,h.df,fun j oj d hj hoj hdj => ?_,fun s hn => ?_⟩
  ·show (a.tmps.setIfInBounds d0 v)[d]? = _
   by_cases e : j = i
   ·subst e;rw [ho] at hoj;injection hoj with hoj;subst hoj;rw [hd] at hdj;injection hdj with hdj;subst hdj;rw [Array.getElem?_setIfInBounds_self_of_lt hlt,upd_same]
   ·have hne : d0 ≠ d := fun e2 => e (H.inj j i oj o d hoj ho hdj (by rw [hd,e2]));rw [Array.getElem?_setIfInBounds_ne hne,upd_ne _ _ e];rw [upd_ne _ _ e] at hj;exact h.got j oj d hj hoj hdj
  ·show (a.tmps.setIfInBounds d0 v)[s]? = _
   have hne : d0 ≠ s := fun e2 => hn i o (upd_same _ _ _) ho (by rw [hd,e2]);rw [Array.getElem?_setIfInBounds_ne hne];exact h.old s fun j oj hj hoj => by
    by_cases e : j = i
    ·subst e;rw [ho] at hoj;injection hoj with hoj;subst hoj;rw [hd];intro e2;injection e2 with e2;exact hne e2
    ·exact hn j oj (by rw [upd_ne _ _ e];exact hj) hoj
end
theorem RFr.putKW {l0 : List Oper} {a0 : Act} (H : RgnOW l0.toArray a0.tmps.size) (vals : Nat → Value) : ∀ (l pre : List Oper) (a : Act),pre ++ l = l0 → RFr l0.toArray a0 (fun i => decide (i < pre.length)) vals a → RFr l0.toArray a0 (fun i => decide (i < l0.length)) vals (Go.Proofs.YtgdmlmhpineibaaGreat.putK l vals pre.length a)
 | [],pre,a,he,h => by
  rw [List.append_nil] at he;subst he;exact h
 | o :: l,pre,a,he,h => by
  have ho : l0.toArray[pre.length]? = some o := by rw [← he];simp
  have h1 := h.stepW H ho (vals pre.length);have e1 : upd (fun i => decide (i < pre.length)) pre.length true = fun i => decide (i < (pre ++ [o]).length) := by
   funext i;by_cases e : i = pre.length
   ·subst e;rw [upd_same];simp
   ·rw [upd_ne _ _ e];simp;omega
  have e2 : upd vals pre.length (vals pre.length) = vals := by
   funext i;by_cases e : i = pre.length
   ·subst e;rw [upd_same]
   ·rw [upd_ne _ _ e]
  rw [e1,e2] at h1;have h2 := RFr.putKW H vals l (pre ++ [o]) (a.put o.dst (vals pre.length)) (by rw [← he];simp) h1;rw [List.length_append] at h2;exact h2
section
variable {P : Program} {Q : Exit → Act → World → Prop} {J : (Nat → Bool) → (Nat → Value) → World → Prop} {a0 : Act}
def OpSw (P : Program) (Q : Exit → Act → World → Prop) (J : (Nat → Bool) → (Nat → Value) → World → Prop) (ops : Array Oper) (a0 : Act) (i : Nat) (o : Oper) : Prop :=
 ∀ L vals a w,RFr ops a0 L vals a → J L vals w → L i = false → (∀ e ∈ o.after,Region.binds .any e = true → L e.on = true) → (∀ (k : Nat) (o' : Oper),L k = true → ops[k]? = some o' → ∀ e ∈ o'.after,Region.binds .any e = true → L e.on = true) →
  ∀ K : Act → World → Prop,(∀ v w',J (upd L i true) (upd vals i v) w' → K (a.put o.dst v) w') → if Region.wanted o (yielded ops a.tmps) = true then o.wp P a w K Q else K (a.put o.dst undef) w
theorem rgn_anyW {l : List Oper} (H : RgnOW l.toArray a0.tmps.size) (hs : StepAll (OpSw P Q J l.toArray a0) l 0)
  (he : ∀ L vals w,(∀ i,i < l.length → L i = true) → J L vals w → Q .normal (putK l vals 0 a0) w) :
  ∀ fuel (listed : Array Bool) a w vals,listed.size = l.length → (List.range l.length).countP (fun i => !listed.getD i false) ≤ fuel → (∀ (k : Nat) (o' : Oper),listed.getD k false = true → l.toArray[k]? = some o' → ∀ e ∈ o'.after,Region.binds .any e = true → listed.getD e.on false = true) → RFr l.toArray a0 (fun i => listed.getD i false) vals a → J (fun i => listed.getD i false) vals w → wpAny P .any l.toArray Q fuel listed a w := by
 have hend : ∀ (listed : Array Bool) a w vals,listed.size = l.length → (∀ i,i < l.length → listed.getD i false = true) → RFr l.toArray a0 (fun i => listed.getD i false) vals a → J (fun i => listed.getD i false) vals w → Q .normal a w := fun listed a w vals hsz hall hf hj => by
  have h1 := he _ vals w hall hj;have h2 := RFr.putKW H vals l [] a0 rfl ((RFr.init l.toArray a0 vals).congr fun i hi => by simp);have h3 := hf.uniq (h2.congr fun i hi => by
   have hi' : i < l.length := by simpa using hi
   simp only [hi',decide_true];exact (hall i hi').symm)
  rw [h3];exact h1
 have hall : ∀ (listed : Array Bool),listed.size = l.length → Region.ready .any l.toArray listed = [] → ∀ i,i < l.length → listed.getD i false = true := fun listed hsz hr i => by
  induction i using Nat.strongRecOn with
  | ind i ih =>
   intro hi
   cases hb : listed.getD i false with
   | true => rfl
   | false =>
    exfalso;have ho : l.toArray[i]? = some l[i] := by simp [hi]
    have hm : i ∈ Region.ready .any l.toArray listed := mem_ready.2 ⟨by
     have hlt : i < listed.size := by omega
     simp [Array.getD,hlt] at hb ⊢;exact hb,l[i],ho,fun e hem _ => by
     have hw := H.wait i _ ho e hem;exact ih e.on hw (by omega)⟩
    rw [hr] at hm;cases hm
 intro fuel
 induction fuel with
 | zero =>
  intro listed a w vals hsz hc hcl hf hj;have ha : ∀ i,i < l.length → listed.getD i false = true := fun i hi => by
   have h0 : (List.range l.length).countP (fun i => !listed.getD i false) = 0 := by omega
   have := List.countP_eq_zero.1 h0 i (List.mem_range.2 hi);simpa using this
  refine ⟨?_,hend listed a w vals hsz ha hf hj⟩
  cases hr : Region.ready .any l.toArray listed with
  | nil => rfl
  | cons x t =>
   exfalso;have hm : x ∈ Region.ready .any l.toArray listed := by rw [hr];exact List.mem_cons_self ..
   obtain ⟨h1,o,h2,_⟩ := mem_ready.1 hm;have hx : x < l.length := by simpa using (Array.getElem?_eq_some_iff.1 h2).1
   have h3 := ha x hx;have hlt : x < listed.size := by omega
   simp [Array.getD,hlt] at h1 h3;rw [h1] at h3;cases h3
 | succ fuel ih =>
  intro listed a w vals hsz hc hcl hf hj;refine ⟨fun hr => hend listed a w vals hsz (hall listed hsz hr) hf hj,fun i hi => ?_⟩;obtain ⟨h1,o,h2,h3⟩ := mem_ready.1 hi;have hil : i < l.length := by simpa using (Array.getElem?_eq_some_iff.1 h2).1
  have hlt : i < listed.size := by omega
  have hfl : listed.getD i false = false := by
   simp [Array.getD,hlt] at h1 ⊢;exact h1
  have h2' : l[i]? = some o := by simpa using h2
  have hst : OpSw P Q J l.toArray a0 (0 + i) o := hs.get h2';rw [Nat.zero_add] at hst;have hLe : (fun j => (listed.setIfInBounds i true).getD j false) = upd (fun j => listed.getD j false) i true := by
   funext j;by_cases e : j = i
   ·subst e;rw [upd_same];simp [Array.getD,hlt]
   ·rw [upd_ne _ _ e];rw [Array.getD_eq_getD_getElem?,Array.getD_eq_getD_getElem?,Array.getElem?_setIfInBounds_ne (fun h => e h.symm)]
  have hcl' : ∀ (k : Nat) (o' : Oper),(listed.setIfInBounds i true).getD k false = true → l.toArray[k]? = some o' → ∀ e ∈ o'.after,Region.binds .any e = true → (listed.setIfInBounds i true).getD e.on false = true := fun k o' hk ho' e he hb => by
   have e1 := congrFun hLe k;have e2 := congrFun hLe e.on;rw [e1] at hk;rw [e2];by_cases h0 : e.on = i
   ·rw [h0,upd_same]
   ·rw [upd_ne _ _ h0];by_cases h4 : k = i
    ·subst h4;rw [h2] at ho';injection ho' with ho';subst ho';exact h3 e he hb
    ·rw [upd_ne _ _ h4] at hk;exact hcl k o' hk ho' e he hb
  have hnext : ∀ v w',J (upd (fun j => listed.getD j false) i true) (upd vals i v) w' → wpAny P .any l.toArray Q fuel (listed.setIfInBounds i true) (a.put o.dst v) w' := fun v w' hj' => by
   refine ih _ _ _ (upd vals i v) (by rw [Array.size_setIfInBounds];exact hsz) ?_ hcl' (by rw [hLe];exact hf.stepW H h2 v) (by rw [hLe];exact hj');have hcc := cnt_upd (fun j => listed.getD j false) i hfl l.length;rw [if_pos hil] at hcc;have hce : (List.range l.length).countP (fun j => !(listed.setIfInBounds i true).getD j false) = (List.range l.length).countP (fun j => !(upd (fun j => listed.getD j false) i true) j) := by
    congr 1
    funext j;rw [← congrFun hLe j]
   rw [hce];omega
  have hcase := hst _ vals a w hf hj hfl (fun e he hb => h3 e he hb) hcl _ hnext;unfold wpOp;rw [h2];by_cases hw : Region.wanted o (yielded l.toArray a.tmps) = true
  ·rw [if_pos hw] at hcase;simp only [hw,if_true];exact .inl hcase
  ·rw [if_neg hw] at hcase;simp only [hw];exact hcase
theorem wp_region_invW {id : Nat} {l : List Oper} {w : World} (J : (Nat → Bool) → (Nat → Value) → World → Prop) (hm : P.follows .mixedOrders = true) (hB : rgnH a0.tmps.size l 0 [] = true) (h0 : J (fun _ => false) (fun _ => undef) w.drew)
  (hs : StepAll (OpSw P Q J l.toArray a0) l 0) (he : ∀ L vals w,(∀ i,i < l.length → L i = true) → J L vals w → Q .normal (putK l vals 0 a0) w) : (Code.region id l.toArray true).wp P Q a0 w := by
 refine wp_region_any hm ?_;have hL : (fun i => (Array.replicate l.toArray.size false).getD i false) = fun _ => false := by
  funext i;rw [Array.getD_eq_getD_getElem?];by_cases h : i < l.toArray.size
  ·rw [Array.getElem?_replicate,if_pos h];rfl
  ·rw [Array.getElem?_replicate,if_neg h];rfl
 refine rgn_anyW (rgn_ow hB) hs he _ _ _ _ (fun _ => undef) (by simp) (Nat.le_trans List.countP_le_length (by simp)) (fun k o' hk => by have := congrFun hL k;rw [this] at hk;cases hk) ?_ ?_
 ·rw [hL];exact RFr.init _ _ _
 ·rw [hL];exact h0
def wantK (l : List Oper) (pv : Nat → Value) (o : Oper) : Bool := match o.guard with
 | none => true
 | some (j,want) => match (l[j]?).bind (·.dst) with
  | none => false
  | some _ => match pv j with
   | .bool b => b == want
   | _ => false
def grdK (l : List Oper) : Bool := l.all fun o => match o.guard with
 | none => true
 | some (j,_) => o.after.any fun e => e.on == j && Region.binds .any e
theorem wantK_eq {l : List Oper} {L : Nat → Bool} {pv vals : Nat → Value} {a : Act} (hf : RFr l.toArray a0 L vals a) (hv : ∀ k,L k = true → vals k = pv k) {o : Oper} (hg : ∀ j b,o.guard = some (j,b) → L j = true) :
  Region.wanted o (yielded l.toArray a.tmps) = wantK l pv o := by
 unfold Region.wanted wantK
 cases hgo : o.guard with
 | none => rfl
 | some jw =>
  obtain ⟨j,want⟩ := jw;have hL := hg j want hgo;simp only [yielded,List.getElem?_toArray]
  cases hlj : l[j]? with
  | none => simp
  | some oj =>
   cases hdj : oj.dst with
   | none => simp [hdj]
   | some t =>
    have h1 := hf.got j oj t hL (by simpa using hlj) hdj;rw [hv j hL] at h1;simp only [Option.bind_some,hdj,h1];cases pv j <;> simp
def OpPv (P : Program) (Q : Exit → Act → World → Prop) (l : List Oper) (a0 : Act) (pv : Nat → Value) (w : World) (i : Nat) (o : Oper) : Prop :=
 if wantK l pv o = true then ∀ (L : Nat → Bool) (a : Act) (w' : World),(∀ k t o',L k = true → l[k]? = some o' → o'.dst = some t → a.tmps[t]? = some (pv k)) → (∀ t,(l.all fun o => o.dst != some t) = true → a.tmps[t]? = a0.tmps[t]?) → (∀ e ∈ o.after,Region.binds .any e = true → L e.on = true) → Ex w w' →
  ∀ K : Act → World → Prop,(∀ w'',Ex w' w'' → K (a.put o.dst (pv i)) w'') → o.wp P a w' K Q
 else pv i = undef
theorem OpPv.on {l : List Oper} {pv : Nat → Value} {w : World} {i : Nat} {o : Oper} (hw : wantK l pv o = true) (h : ∀ (L : Nat → Bool) (a : Act) (w' : World),(∀ k t o',L k = true → l[k]? = some o' → o'.dst = some t → a.tmps[t]? = some (pv k)) → (∀ t,(l.all fun o => o.dst != some t) = true → a.tmps[t]? = a0.tmps[t]?) → (∀ e ∈ o.after,Region.binds .any e = true → L e.on = true) → Ex w w' →
  ∀ K : Act → World → Prop,(∀ w'',Ex w' w'' → K (a.put o.dst (pv i)) w'') → o.wp P a w' K Q) : OpPv P Q l a0 pv w i o := by
 unfold OpPv;rw [if_pos hw];exact h
theorem OpPv.off {l : List Oper} {pv : Nat → Value} {w : World} {i : Nat} {o : Oper} (hw : wantK l pv o = false) (h : pv i = undef) : OpPv P Q l a0 pv w i o := by
 unfold OpPv;rw [if_neg (by rw [hw];decide)];exact h
theorem wp_region_pv {id : Nat} {l : List Oper} {w : World} (pv : Nat → Value) (hm : P.follows .mixedOrders = true) (hB : rgnH a0.tmps.size l 0 [] = true) (hG : grdK l = true)
  (hs : StepAll (OpPv P Q l a0 pv w) l 0) (he : ∀ w',Ex w w' → Q .normal (putK l pv 0 a0) w') : (Code.region id l.toArray true).wp P Q a0 w := by
 refine wp_region_invW (fun L V w' => (∀ k,L k = true → V k = pv k) ∧ Ex w w') hm hB ⟨fun k h => (by cases h),(Ex.refl w).drew⟩ ?_ ?_
 ·have key : ∀ (l' : List Oper) (k0 : Nat),(∀ i o,l'[i]? = some o → l[k0 + i]? = some o) → StepAll (OpPv P Q l a0 pv w) l' k0 → StepAll (OpSw P Q (fun L V w' => (∀ k,L k = true → V k = pv k) ∧ Ex w w') l.toArray a0) l' k0 := fun l' => by
   induction l' with
   | nil => intro _ _ _;trivial
   | cons o l' ih =>
    intro k0 hsub h;refine ⟨?_,ih (k0 + 1) (fun i o' hi => by rw [show k0 + 1 + i = k0 + (i + 1) from by omega];exact hsub (i + 1) o' hi) h.2⟩;intro L V a w' hf hj hi hd hcl K hK;have hok : l[k0]? = some o := by have := hsub 0 o rfl;simpa using this
    have hg : ∀ j b,o.guard = some (j,b) → L j = true := fun j b hgo => by
     have h1 := List.all_eq_true.1 hG o (List.mem_of_getElem? hok);rw [hgo] at h1;simp only [Array.any_eq_true'] at h1;obtain ⟨e,he,h2⟩ := h1;rw [Bool.and_eq_true,beq_iff_eq] at h2;rw [← h2.1];exact hd e he h2.2
    rw [wantK_eq hf hj.1 hg];have h1 := h.1;unfold OpPv at h1;have hset : ∀ v w'',v = pv k0 → Ex w w'' → K (a.put o.dst v) w'' := fun v w'' hv hx => hK v w'' ⟨fun k hk => by
     by_cases e : k = k0
     ·subst e;rw [upd_same];exact hv
     ·rw [upd_ne _ _ e] at hk ⊢;exact hj.1 k hk,hx⟩
    by_cases hw : wantK l pv o = true
    ·rw [if_pos hw] at h1 ⊢;exact h1 L a w' (fun k t o' hk ho' hd' => by rw [← hj.1 k hk];exact hf.in_ k t hk ho' hd') (fun t ht => hf.out_ t ht) hd hj.2 K fun w'' hx => hset _ _ rfl (hj.2.trans hx)
    ·rw [if_neg hw] at h1 ⊢;exact hset _ _ h1.symm hj.2
  exact key l 0 (fun i o h => by rw [Nat.zero_add];exact h) hs
 ·intro L V w' hall hj;have hp : putK l V 0 a0 = putK l pv 0 a0 := putK_congr l 0 V pv a0 fun i o hi hd => by
   rw [Nat.zero_add];exact hj.1 i (hall i (List.getElem?_eq_some_iff.1 hi).1)
  rw [hp];exact he w' hj.2
end
end
end Go.Proofs.YtgdmlmhpineibaaGreat
