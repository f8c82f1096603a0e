/- Walk of codewrightref31.Same. -/
import Derived.Deep.CutRange
import Derived.Test.YtgdmlmhpineibaaGreatZe16
import Derived.Test.YtgdmlmhpineibaaGreatZe19
import Derived.Test.YtgdmlmhpineibaaGreatZe29
import Derived.Test.YtgdmlmhpineibaaGreatZe34
import Derived.Test.YtgdmlmhpineibaaGreatZe36
import Derived.Test.YtgdmlmhpineibaaGreatZe38
import Derived.Test.YtgdmlmhpineibaaGreatZe41
namespace Go.Proofs.YtgdmlmhpineibaaGreat
set_option linter.unusedVariables false
set_option linter.unusedSimpArgs false
set_option maxRecDepth 100000
set_option maxHeartbeats 4000000
section
open Go.RowKit
def BolR (P : Prop) (r : Ending) : Prop := ∃ b : Bool,r = .returned (.bool b) ∧ (b = true ↔ P)
theorem bolR_no {P : Prop} (h : ¬ P) : BolR P (.returned (.bool false)) := ⟨false,rfl,⟨fun h => (by cases h),fun k => absurd k h⟩⟩
theorem bolR_yes {P : Prop} (h : P) : BolR P (.returned (.bool true)) := ⟨true,rfl,⟨fun _ => h,fun _ => rfl⟩⟩
theorem rfs_eq {L K : List Rf} (h : L.length = K.length) (hall : ∀ i,i < L.length → L.getD i dRf = K.getD i dRf) : L = K := by
 refine List.ext_getElem h fun i h1 h2 => ?_;have := hall i h1;rw [List.getD_eq_getElem?_getD,List.getElem?_eq_getElem h1,List.getD_eq_getElem?_getD,List.getElem?_eq_getElem h2] at this;exact this
theorem rSameR_any (w : World) (L K : List Rf) (lv kv : Value) (hL : RSl w lv L) (hK : RSl w kv K) :
  Calls Tryz.prog 33 #[.agg #[lv],.agg #[kv]] w fun r w' => BolR (L = K) r ∧ Ex w w' := by
 have b0 := boxRf w lv;have f0 := boxRf (w.alloc (.cells #[lv] 54)) kv;have e0 := e_al w (.cells #[lv] 54);have e1 := e_al (w.alloc (.cells #[lv] 54)) (.cells #[kv] 54);have b0 := e1.cell b0;have hsz : (w.alloc (.cells #[lv] 54)).heap.size = w.heap.size + 1 := by simp
 rw [hsz] at f0;obtain ⟨za,zc,rfl,z1,z2,z3⟩ := rsl_open (hL.ex (e0.trans e1));obtain ⟨ya,yc,rfl,y1,y2,y3⟩ := rsl_open (hK.ex (e0.trans e1));unfold maxLen at z1 y1;have Z3 := hid_ z3;have Y3 := hid_ y3;have HE0 := hid_ (e0.trans e1);clear z3 y3 hL hK e0 e1 hsz;by_cases hlen : L.length = K.length
 ·have hlb : ((L.length : Int) != (K.length : Int)) = false := by simp;omega
  have HLN := hid_ hlen;clear hlen;go_enter Tryz.func33,Tryz.ntmps33
  go_wp2_with fail
  obtain ⟨q,hq⟩ : ∃ q,w.heap.size = q := ⟨_,rfl⟩;rw [hq] at b0 f0
  try simp only [hq]
  clear hq;generalize (w.alloc (.cells #[.slice za L.length zc] 54)).alloc (.cells #[.slice ya K.length yc] 54) = w1 at *;have B1 := hid_ b0;have F1 := hid_ f0;clear b0 f0
  go_loopw [5] (fun j' wr => ∃ (j : Nat),j ≤ L.length ∧ j' = .int .i64 j ∧ Hid (∀ i,i < j → L.getD i dRf = K.getD i dRf) ∧ Hid (Ex w1 wr)) (fun j' _ => L.length - (intOf j').toNat)
  case atStart => exact ⟨0,by omega,rfl,hid_ (fun i h => by omega),hid_ (Ex.refl _)⟩
  case round =>
   obtain ⟨j,hj,rfl,hall,hex⟩ := hrel;have b1 := hex.out.cell B1.out;have f1 := hex.out.cell F1.out;by_cases hjl : j < L.length
   ·have hjk : j < K.length := by have := HLN.out;omega
    obtain ⟨zb,zo,rfl,hzc⟩ := Z3.out (by omega);obtain ⟨yb,yo,rfl,hyc⟩ := Y3.out (by omega);obtain ⟨mv,c0,c1,c2,c3,hm⟩ := hzc j hjl;obtain ⟨nv,g0,g1,g2,g3,hn⟩ := hyc j hjk;have c0 := hex.out.cell c0;have c1 := hex.out.cell c1;have c2 := hex.out.cell c2;have c3 := hex.out.cell c3;have g0 := hex.out.cell g0;have g1 := hex.out.cell g1;have g2 := hex.out.cell g2;have g3 := hex.out.cell g3;obtain ⟨l,hl⟩ : ∃ l,L.getD j dRf = l := ⟨_,rfl⟩;obtain ⟨k,hk⟩ : ∃ k,K.getD j dRf = k := ⟨_,rfl⟩;rw [hl] at c0 c1 c2 hm;rw [hk] at g0 g1 g2 hn;obtain ⟨oa,oc,rfl,_,_,_⟩ := hm.open;obtain ⟨pa,pc,rfl,_,_,_⟩ := hn.open;have i1 : (0 : Int) ≤ (j : Int) := by omega
    have i2 : (j : Int) < (L.length : Int) := by omega
    have i3 : (j : Int) < (K.length : Int) := by omega
    have HU := hid_ (hm.ex hex.out);have HV := hid_ (hn.ex hex.out);have HLJ := hid_ hl;have HKJ := hid_ hk;have HNO := hid_ (show (l ≠ k) → ¬ (L = K) from fun h e => h (by rw [← hl,← hk,e]));clear hl hk hm hn hzc hyc;obtain ⟨lt,ls,ld,lm⟩ := l;obtain ⟨kt,ks,kd,km⟩ := k;have b1x := fun o => ((Ex.refl wr).alloc o).cell b1;have b1y := fun o o2 => (((Ex.refl wr).alloc o).alloc o2).cell b1;have f1x := fun o => ((Ex.refl wr).alloc o).cell f1;have f1y := fun o o2 => (((Ex.refl wr).alloc o).alloc o2).cell f1;have c0x := fun o => ((Ex.refl wr).alloc o).cell c0;have c0y := fun o o2 => (((Ex.refl wr).alloc o).alloc o2).cell c0;have c1x := fun o => ((Ex.refl wr).alloc o).cell c1;have c1y := fun o o2 => (((Ex.refl wr).alloc o).alloc o2).cell c1;have c2x := fun o => ((Ex.refl wr).alloc o).cell c2;have c2y := fun o o2 => (((Ex.refl wr).alloc o).alloc o2).cell c2;have c3x := fun o => ((Ex.refl wr).alloc o).cell c3;have c3y := fun o o2 => (((Ex.refl wr).alloc o).alloc o2).cell c3;have g0x := fun o => ((Ex.refl wr).alloc o).cell g0;have g0y := fun o o2 => (((Ex.refl wr).alloc o).alloc o2).cell g0;have g1x := fun o => ((Ex.refl wr).alloc o).cell g1;have g1y := fun o o2 => (((Ex.refl wr).alloc o).alloc o2).cell g1;have g2x := fun o => ((Ex.refl wr).alloc o).cell g2;have g2y := fun o o2 => (((Ex.refl wr).alloc o).alloc o2).cell g2;have g3x := fun o => ((Ex.refl wr).alloc o).cell g3;have g3y := fun o o2 => (((Ex.refl wr).alloc o).alloc o2).cell g3;go_upto_region 6 with fail
    go_cut [6,7] from 22 to 58 (fun s6 s7 wx => ∃ B1 B2 : Nat,s6 = .pointer (some ⟨B1,0,none⟩) ∧ s7 = .pointer (some ⟨B2,0,none⟩) ∧ Hid (wx.cell? ⟨B1,0,none⟩ = some (.int .i64 lt) ∧ wx.cell? ⟨B1,1,none⟩ = some (.int .i64 ls) ∧ wx.cell? ⟨B1,2,none⟩ = some (.int .i64 ld) ∧ wx.cell? ⟨B1,3,none⟩ = some (.slice oa lm.length oc)) ∧ Hid (wx.cell? ⟨B2,0,none⟩ = some (.int .i64 kt) ∧ wx.cell? ⟨B2,1,none⟩ = some (.int .i64 ks) ∧ wx.cell? ⟨B2,2,none⟩ = some (.int .i64 kd) ∧ wx.cell? ⟨B2,3,none⟩ = some (.slice pa km.length pc)) ∧ Hid (Ex wr wx))
    case first =>
     go_region
     all_goals go_wp2_with fail
     all_goals go_meet
     all_goals exact ⟨_,_,rfl,rfl,hid_ ⟨by simp,by simp,by simp,by simp⟩,hid_ ⟨by simp,by simp,by simp,by simp⟩,hid_ (((Ex.refl wr).alloc _).alloc _).drew⟩
    case rest =>
     obtain ⟨B1,B2,rfl,rfl,hA,hB,hxc⟩ := hcut;clear b1 f1 c0 c1 c2 c3 g0 g1 g2 g3 b1x b1y f1x f1y c0x c0y c1x c1y c2x c2y c3x c3y g0x g0y g1x g1y g2x g2y g3x g3y;obtain ⟨a0,a1,a2,a3⟩ := hA.out;obtain ⟨g0,g1,g2,g3⟩ := hB.out;by_cases h1 : lt = kt
     ·subst h1;have hpb : (lt != lt) = false := by simp
      by_cases h2 : ls = ks
      ·subst h2;have hpc : (ls != ls) = false := by simp
       by_cases h3 : ld = kd
       ·subst h3;have hpd : (ld != ld) = false := by simp
        have hE1 := SameInts_any wc lm km _ _ (HU.out.ex hxc.out) (HV.out.ex hxc.out);by_cases h4 : lm = km
        ·rw [decide_eq_true h4] at hE1;have HE1 := hid_ hE1;have HALL := hid_ (show ∀ i,i < j + 1 → L.getD i dRf = K.getD i dRf from fun i hi => by
          by_cases e : i = j
          ·subst e;rw [HLJ.out,HKJ.out,h4]
          ·exact hall.out i (by omega))
         clear hE1 h4 hall;go_wp2_with (go_at_call 19;refine HE1.out.mono ?_;rintro e w6 ⟨rfl,n6,hw6⟩;have HX6 := hid_ (show Ex wc w6 from by rw [hw6];exact (Ex.refl _).drewN n6);clear hw6)
         go_roundw
         case rel => exact ⟨j + 1,by omega,by go_num,HALL,hid_ (hex.out.trans (hxc.out.trans HX6.out))⟩
         case measure => simp [intOf];omega
        ·have HN := hid_ (HNO.out (fun e => h4 (by injection e)));rw [decide_eq_false h4] at hE1;have HE1 := hid_ hE1;clear hE1 h4 hall;go_wp2_with (go_at_call 19;refine HE1.out.mono ?_;rintro e w6 ⟨rfl,n6,hw6⟩;have HX6 := hid_ (show Ex wc w6 from by rw [hw6];exact (Ex.refl _).drewN n6);clear hw6)
         go_ret;exact ⟨bolR_no HN.out,HE0.out.trans (hex.out.trans (hxc.out.trans HX6.out))⟩
       ·have hpd : (ld != kd) = true := by simpa using h3
        have HN := hid_ (HNO.out (fun e => h3 (by injection e)));clear h3;go_wp2_with fail
        go_ret;exact ⟨bolR_no HN.out,HE0.out.trans (hex.out.trans hxc.out)⟩
      ·have hpc : (ls != ks) = true := by simpa using h2
       have HN := hid_ (HNO.out (fun e => h2 (by injection e)));clear h2;go_wp2_with fail
       go_ret;exact ⟨bolR_no HN.out,HE0.out.trans (hex.out.trans hxc.out)⟩
     ·have hpb : (lt != kt) = true := by simpa using h1
      have HN := hid_ (HNO.out (fun e => h1 (by injection e)));clear h1;go_wp2_with fail
      go_ret;exact ⟨bolR_no HN.out,HE0.out.trans (hex.out.trans hxc.out)⟩
   ·obtain rfl : j = L.length := by omega
    have HR := hid_ (show L = K from rfs_eq HLN.out hall.out);go_wp2_with fail
    go_ret;exact ⟨bolR_yes HR.out,HE0.out.trans hex.out⟩
 ·have hlb : ((L.length : Int) != (K.length : Int)) = true := by simp;omega
  have HN := hid_ (show ¬ L = K from fun e => hlen (by rw [e]));clear hlen;go_enter Tryz.func33,Tryz.ntmps33
  go_wp2_with fail
  go_ret;exact ⟨bolR_no HN.out,HE0.out⟩
end
section
open Go.RowKit
def samC (c d : CdV) : Bool := samF c.p c.m c.ml d.p d.m d.ml && (decide (c.n = d.n) && decide (c.rows = d.rows))
theorem samC_iff {c d : CdV} : samC c d = true ↔ c = d := by
 obtain ⟨p,m,ml,n,rows⟩ := c;obtain ⟨p',m',ml',n',rows'⟩ := d;simp only [samC,Bool.and_eq_true,decide_eq_true_eq,samF_iff,CdV.mk.injEq];constructor
 ·rintro ⟨⟨h1,h2,h3⟩,h4,h5⟩;exact ⟨h1,h2,h3,h4,h5⟩
 ·rintro ⟨h1,h2,h3,h4,h5⟩;exact ⟨⟨h1,h2,h3⟩,h4,h5⟩
theorem rCSame_any (w : World) (c d : CdV) (m1 m2 v1 v2 : Value) (hc : c.at w m1 v1) (hd : d.at w m2 v2) :
  Calls Tryz.prog 39 #[c.arg m1 v1,d.arg m2 v2] w fun r w' => r = .returned (.bool (samC c d)) ∧ Ex w w' := by
 obtain ⟨c0,c1,c2,c3,c4⟩ := boxC5 w c m1 v1;obtain ⟨d0,d1,d2,d3,d4⟩ := boxC5 (w.alloc (c.obj m1 v1)) d m2 v2;have hz1 : (w.alloc (c.obj m1 v1)).heap.size = w.heap.size + 1 := by simp
 have e1 := e_al w (c.obj m1 v1);have e2 := e_al (w.alloc (c.obj m1 v1)) (d.obj m2 v2);rw [hz1] at d0 d1 d2 d3 d4;replace c0 := e2.cell c0;replace c1 := e2.cell c1;replace c2 := e2.cell c2;replace c3 := e2.cell c3;replace c4 := e2.cell c4;have hxw := e1.trans e2;have HSF := hid_ (rFSame_any _ c.p c.m c.ml m1 ((hc.ex hxw).m) d.p d.m d.ml m2 ((hd.ex hxw).m));have HSR := hid_ (fun (w' : World) (h : Ex ((w.alloc (c.obj m1 v1)).alloc (d.obj m2 v2)) w') => SameRows_any w' c.rows d.rows v1 v2 ((hc.ex (hxw.trans h)).g) ((hd.ex (hxw.trans h)).g));obtain ⟨x1,y1,rfl,-,z1,-⟩ := hc.g.open;obtain ⟨x2,y2,rfl,-,z2,-⟩ := hd.g.open;obtain ⟨x3,y3,rfl,-,z3,-⟩ := hc.m.open;obtain ⟨x4,y4,rfl,-,z4,-⟩ := hd.m.open;have HX := hid_ hxw;obtain ⟨p,m,ml,n,rows⟩ := c;obtain ⟨p',m',ml',n',rows'⟩ := d;obtain ⟨B,hB⟩ : ∃ B,w.heap.size = B := ⟨_,rfl⟩;rw [hB] at c0 c1 c2 c3 c4 d0 d1 d2 d3 d4;obtain ⟨F,hF⟩ : ∃ F,samF p m ml p' m' ml' = F := ⟨_,rfl⟩;have HSM := hid_ (show samC ⟨p,m,ml,n,rows⟩ ⟨p',m',ml',n',rows'⟩ = (F && (decide (n = n') && decide (rows = rows'))) from by rw [← hF];rfl);rw [HSM.out];clear HSM;dsimp only [CdV.arg,CdV.obj] at *;rw [hF] at HSF;clear hF;clear hc hd e1 e2 hxw hz1 z1 z2 z3 z4;go_enter Tryz.func39,Tryz.ntmps39
 go_upto_region 1 with fail
 try simp only [hB]
 clear hB;generalize (w.alloc (.cells #[.int .i64 p,.int .i64 m,.slice x3 ml.length y3,.int .i64 n,.slice x1 rows.length y1] 47)).alloc (.cells #[.int .i64 p',.int .i64 m',.slice x4 ml'.length y4,.int .i64 n',.slice x2 rows'.length y2] 47) = wB at *;have HALL := hid_ (fun w' (h : Ex wB w') => (⟨h.cell c3,h.cell c4,h.cell d3,h.cell d4⟩ : _ ∧ _ ∧ _ ∧ _))
 cases F with
 | false =>
  go_wp2_with fail
  refine HSF.out.mono ?_;rintro e w2 ⟨rfl,hx2⟩;have HX2 := hid_ (HX.out.trans hx2);clear c0 c1 c2 c3 c4 d0 d1 d2 d3 d4 hx2;go_wp2_with fail
  go_ret;exact ⟨rfl,HX2.out⟩
 | true =>
  go_wp2_with fail
  refine HSF.out.mono ?_;rintro e w2 ⟨rfl,hx2⟩;have HX2 := hid_ hx2;clear c0 c1 c2 c3 c4 d0 d1 d2 d3 d4 hx2;obtain ⟨c3,c4,d3,d4⟩ := HALL.out w2 HX2.out;by_cases hn : n = n'
  ·subst hn;have k1 : (n == n) = true := by simp
   have HR := hid_ (HSR.out w2 HX2.out);obtain ⟨D,hD⟩ : ∃ D,decide (rows = rows') = D := ⟨_,rfl⟩;rw [hD] at HR;have HD := hid_ hD;clear hD;go_wp2_with fail
   refine HR.out.mono ?_;rintro e w3 ⟨rfl,n3,rfl⟩;have HX3 := hid_ ((Ex.refl w2).drewN n3);go_wp2_with fail
   go_ret;refine ⟨?_,HX.out.trans (HX2.out.trans HX3.out)⟩;have := HD.out;simp [this]
  ·have k1 : (n == n') = false := by simpa using hn
   have HN := hid_ hn;clear hn;go_wp2_with fail
   go_ret;refine ⟨?_,HX.out.trans HX2.out⟩;have := HN.out;simp [this]
end
section
open Go.RowKit
def FewC (c : CdV) : Prop := fewM 0 c.rows 80 = true ∧ (c.n ≤ 8 ∨ 64 < c.n) ∧ ordS c.p c.m ≤ 16
theorem few31_any (w : World) (c : CdV) (m1 v1 : Value) (hc : c.at w m1 v1) :
  Calls Tryz.prog 27 #[c.arg m1 v1] w fun r w' => BolR (FewC c) r ∧ Ex w w' := by
 obtain ⟨c0,c1,c2,c3,c4⟩ := boxC5 w c m1 v1;have HX := hid_ (e_al w (c.obj m1 v1));have HFW := hid_ (fun (w' : World) (h : Ex w w') => rFew12_any w' c.p c.m m1 c.n c.rows v1 (hc.ex h).g 80 (by decide) (by decide));have HOR := hid_ (fun w' => rOrder_any c.p c.m m1 w');obtain ⟨x1,y1,rfl,-,z1,-⟩ := hc.g.open;obtain ⟨x3,y3,rfl,-,z3,-⟩ := hc.m.open;obtain ⟨p,m,ml,n,rows⟩ := c;have HSM := hid_ (show FewC ⟨p,m,ml,n,rows⟩ ↔ fewM 0 rows 80 = true ∧ (n ≤ 8 ∨ 64 < n) ∧ ordS p m ≤ 16 from Iff.rfl);obtain ⟨B,hB⟩ : ∃ B,w.heap.size = B := ⟨_,rfl⟩;rw [hB] at c0 c1 c2 c3 c4;dsimp only [CdV.arg,CdV.obj] at *;obtain ⟨P,hP⟩ : ∃ P,FewC ⟨p,m,ml,n,rows⟩ = P := ⟨_,rfl⟩;rw [hP] at HSM ⊢;obtain ⟨F,hF⟩ : ∃ F,fewM 0 rows 80 = F := ⟨_,rfl⟩;rw [hF] at HFW HSM;obtain ⟨Q,hQ⟩ : ∃ Q,ordS p m = Q := ⟨_,rfl⟩;rw [hQ] at HOR HSM;clear hc hF hP hQ z1 z3;go_enter Tryz.func27,Tryz.ntmps27
 go_upto_region 1 with fail
 try simp only [hB]
 clear hB;generalize w.alloc (.cells #[.int .i64 p,.int .i64 m,.slice x3 ml.length y3,.int .i64 n,.slice x1 rows.length y1] 47) = w1 at *;have HALL := hid_ (fun w' (h : Ex w1 w') => (⟨h.cell c0,h.cell c1,h.cell c2,h.cell c3,h.cell c4⟩ : _ ∧ _ ∧ _ ∧ _ ∧ _));go_wp2_with fail
 refine (HFW.out _ HX.out).mono ?_;rintro e w2 ⟨rfl,hx2⟩;have HX2 := hid_ hx2;clear hx2 c0 c1 c2 c3 c4;obtain ⟨c0,c1,c2,c3,c4⟩ := HALL.out w2 HX2.out
 cases F with
 | false =>
  have HN := hid_ (show ¬ P from fun h => by cases (HSM.out.1 h).1);go_wp2_with fail
  go_ret;exact ⟨bolR_no HN.out,HX.out.trans HX2.out⟩
 | true =>
  by_cases h1 : n ≤ 8
  ·have k1 : decide (n ≤ 8) = true := decide_eq_true h1;have H1 := hid_ h1;clear h1;go_wp2_with fail
   refine (HOR.out _).mono ?_;rintro e w3 ⟨rfl,hx3⟩;have HX3 := hid_ (HX2.out.trans hx3);clear hx3 c0 c1 c2 c3 c4;by_cases h2 : Q ≤ 16
   ·have k2 : decide (Q ≤ 16) = true := decide_eq_true h2;have HN := hid_ (show P from HSM.out.2 ⟨by first | rfl | trivial,.inl H1.out,h2⟩);clear h2;go_wp2_with fail
    go_ret;exact ⟨bolR_yes HN.out,HX.out.trans HX3.out⟩
   ·have k2 : decide (Q ≤ 16) = false := decide_eq_false h2;have HN := hid_ (show ¬ P from fun h => h2 (HSM.out.1 h).2.2);clear h2;go_wp2_with fail
    go_ret;exact ⟨bolR_no HN.out,HX.out.trans HX3.out⟩
  ·have k1 : decide (n ≤ 8) = false := decide_eq_false h1;have H1 := hid_ h1;clear h1;by_cases h3 : 64 < n
   ·have k3 : decide (64 < n) = true := decide_eq_true h3;have H3 := hid_ h3;clear h3;go_wp2_with fail
    refine (HOR.out _).mono ?_;rintro e w3 ⟨rfl,hx3⟩;have HX3 := hid_ (HX2.out.trans hx3);clear hx3 c0 c1 c2 c3 c4;by_cases h2 : Q ≤ 16
    ·have k2 : decide (Q ≤ 16) = true := decide_eq_true h2;have HN := hid_ (show P from HSM.out.2 ⟨by first | rfl | trivial,.inr H3.out,h2⟩);clear h2;go_wp2_with fail
     go_ret;exact ⟨bolR_yes HN.out,HX.out.trans HX3.out⟩
    ·have k2 : decide (Q ≤ 16) = false := decide_eq_false h2;have HN := hid_ (show ¬ P from fun h => h2 (HSM.out.1 h).2.2);clear h2;go_wp2_with fail
     go_ret;exact ⟨bolR_no HN.out,HX.out.trans HX3.out⟩
   ·have k3 : decide (64 < n) = false := decide_eq_false h3;have HN := hid_ (show ¬ P from fun h => by rcases (HSM.out.1 h).2.1 with h | h;exact H1.out h;exact h3 h);clear h3;go_wp2_with fail
    go_ret;exact ⟨bolR_no HN.out,HX.out.trans HX2.out⟩
def FewRf (es : List Rf) : Prop := es.length ≤ 4000 ∧ ∀ i,i < es.length → (es.getD i dRf).msg.length ≤ 100
theorem rFewRf_any (w : World) (es : List Rf) (ev : Value) (hr : RSl w ev es) :
  Calls Tryz.prog 35 #[.agg #[ev]] w fun r w' => BolR (FewRf es) r ∧ Ex w w' := by
 have b0 := boxRf w ev;have e0 := e_al w (.cells #[ev] 54);obtain ⟨za,zc,rfl,z1,z2,z3⟩ := rsl_open (hr.ex e0);unfold maxLen at z1;have Z3 := hid_ z3;have HE0 := hid_ e0;obtain ⟨P,hP⟩ : ∃ P,FewRf es = P := ⟨_,rfl⟩;have HP := hid_ (show P ↔ es.length ≤ 4000 ∧ ∀ i,i < es.length → (es.getD i dRf).msg.length ≤ 100 from by rw [← hP];exact Iff.rfl);rw [hP];clear z3 hr e0 hP;by_cases h4 : 4000 < es.length
 ·have k4 : decide ((4000 : Int) < (es.length : Int)) = true := by simp;omega
  have j4 : (4000 : Int) < (es.length : Int) := by omega
  have HN := hid_ (show ¬ P from fun h => by have := (HP.out.1 h).1;omega);clear h4;go_enter Tryz.func35,Tryz.ntmps35
  go_wp2_with fail
  go_ret;exact ⟨bolR_no HN.out,HE0.out⟩
 ·have k4 : decide ((4000 : Int) < (es.length : Int)) = false := by simp;omega
  have j4 : ¬ (4000 : Int) < (es.length : Int) := by omega
  have H4 := hid_ (show es.length ≤ 4000 from by omega);clear h4;go_enter Tryz.func35,Tryz.ntmps35
  go_wp2_with fail
  obtain ⟨q,hq⟩ : ∃ q,w.heap.size = q := ⟨_,rfl⟩;rw [hq] at b0
  try simp only [hq]
  clear hq;generalize w.alloc (.cells #[.slice za es.length zc] 54) = w1 at *;have B1 := hid_ b0;clear b0
  go_loopw [4] (fun j' wr => ∃ (j : Nat),j ≤ es.length ∧ j' = .int .i64 j ∧ Hid (∀ i,i < j → (es.getD i dRf).msg.length ≤ 100) ∧ Hid (Ex w1 wr)) (fun j' _ => es.length - (intOf j').toNat)
  case atStart => exact ⟨0,by omega,rfl,hid_ (fun i h => by omega),hid_ (Ex.refl _)⟩
  case round =>
   obtain ⟨j,hj,rfl,hall,hex⟩ := hrel;have b1 := hex.out.cell B1.out;by_cases hjl : j < es.length
   ·obtain ⟨zb,zo,rfl,hzc⟩ := Z3.out (by omega);obtain ⟨mv,c0,c1,c2,c3,hm⟩ := hzc j hjl;have c0 := hex.out.cell c0;have c1 := hex.out.cell c1;have c2 := hex.out.cell c2;have c3 := hex.out.cell c3;obtain ⟨l,hl⟩ : ∃ l,(es.getD j dRf).msg = l := ⟨_,rfl⟩;rw [hl] at hm;obtain ⟨oa,oc,rfl,_,o2,_⟩ := hm.open;unfold maxLen at o2;have i1 : (0 : Int) ≤ (j : Int) := by omega
    have i2 : (j : Int) < (es.length : Int) := by omega
    have HL := hid_ hl;have HJ := hid_ hjl;clear hl hm hzc;by_cases h1 : 100 < l.length
    ·have k1 : decide ((100 : Int) < (l.length : Int)) = true := by simp;omega
     have j1 : (100 : Int) < (l.length : Int) := by omega
     have HN := hid_ (show ¬ P from fun h => by have := (HP.out.1 h).2 j HJ.out;rw [HL.out] at this;omega);clear h1;go_wp2_with fail
     go_ret;exact ⟨bolR_no HN.out,HE0.out.trans hex.out⟩
    ·have k1 : decide ((100 : Int) < (l.length : Int)) = false := by simp;omega
     have j1 : ¬ (100 : Int) < (l.length : Int) := by omega
     have HA := hid_ (show ∀ i,i < j + 1 → (es.getD i dRf).msg.length ≤ 100 from fun i hi => by
      by_cases e : i = j
      ·rw [e,HL.out];omega
      ·exact hall.out i (by omega))
     clear h1;go_wp2_with fail
     go_roundw
     case rel => first | exact ⟨j + 1,by omega,by go_num,HA,hex⟩ | ((repeat apply Exists.intro);exact ⟨⟨j + 1,by omega,by go_num,HA,hex⟩,rfl⟩)
     case measure => simp [intOf];omega
   ·have HN := hid_ (show P from HP.out.2 ⟨H4.out,fun i hi => hall.out i (by omega)⟩);obtain rfl : j = es.length := by omega
    go_wp2_with fail
    go_ret;exact ⟨bolR_yes HN.out,HE0.out.trans hex.out⟩
end
section
open Go.RowKit
theorem slot_at' {w : World} {v : Value} {l : List Int} (h : ISl w v l) {i : Nat} (hi : i < l.length) : ∃ b o,(∃ c,v = .slice (some ⟨b,o,none⟩) l.length c) ∧ w.cell? ⟨b,o + i,none⟩ = some (.int .i64 (l.getD i 0)) := by
 obtain ⟨a,c,rfl,-,-,h3⟩ := h.open;obtain ⟨b,o,rfl,h4⟩ := h3 (by omega);exact ⟨b,o,⟨c,rfl⟩,h4 i _ (get_getD hi)⟩
theorem rMapped_any {p m : Nat} {ml : List Int} {mv : Value} (w : World) (hf : FSh p m ml) (hmv : ISl w mv ml) (tl sl x : List Int) (tv sv xv : Value) (ht : ISl w tv tl) (hs : ISl w sv sl) (hx : ISl w xv x) (hsl : sl.length = tl.length) (hxl : tl.length ≤ x.length) (N : Nat) (hN : tl.length = N) (hN2 : N ≤ 64) :
  Calls Tryz.prog 147 #[.agg #[.int .i64 p,.int .i64 m,mv],.agg #[tv,sv],xv] w fun r w' => ∃ g,r = .returned (.slice (some ⟨g,0,none⟩) N N) ∧ Own w' w.heap.size 3 g N (iv (mpF p m ml sl (fun j => x.getD j 0))) ∧ Ex w w' := by
 obtain ⟨a0,a1,a2,ea,asz⟩ := box_facts w p m mv;obtain ⟨b0,b1,eb,bsz⟩ := boxP_facts (w.alloc (.cells #[.int .i64 p,.int .i64 m,mv] 24)) tv sv;rw [asz] at b0 b1 bsz;replace a0 := eb.cell a0;replace a1 := eb.cell a1;replace a2 := eb.cell a2;have HE0 := hid_ (ea.trans eb);have HMU := hid_ (fun (w' : World) (h : Ex w w') (c y : Int) => rMul_any w' hf (hmv.ex h) c y);have HSA := hid_ (fun (w' : World) (h : Ex w w') (i : Nat) (hi : i < N) => slot_at' (hs.ex h) (i := i) (by omega));have HXA := hid_ (fun (w' : World) (h : Ex w w') (i : Nat) (hi : i < N) => slot_at' (hx.ex h) (i := i) (by omega));obtain ⟨ma,mc,rfl,-,-,-⟩ := hmv.open;obtain ⟨ta,tc,rfl,t1,t2,-⟩ := ht.open;obtain ⟨sa,sc,rfl,s1,s2,-⟩ := hs.open;obtain ⟨xa,xc,rfl,x1,x2,-⟩ := hx.open;unfold maxLen at t2 s2 x2;have HL := hid_ (show sl.length = N ∧ N ≤ x.length from ⟨by omega,by omega⟩);obtain ⟨B,hB⟩ : ∃ B,w.heap.size = B := ⟨_,rfl⟩;rw [hB] at a0 a1 a2 b0 b1 bsz;rw [hN] at a0 a1 a2 b0 b1 bsz HE0 ⊢;clear hf hmv ht hs hx ea eb asz hsl hxl hN t1 s1 x1;obtain ⟨M,hM⟩ : ∃ M,mpF p m ml sl (fun j => x.getD j 0) = M := ⟨_,rfl⟩;rw [hM];have HMM := hid_ (fun i : Nat => show M i = ((kmul p m (lw ml) (kin (p ^ m) (sl.getD i 0)) (kin (p ^ m) (x.getD i 0)) : Nat) : Int) from by rw [← hM];rfl);clear hM;go_enter Tryz.func147,Tryz.ntmps147
 go_upto_region 1 with fail
 try simp only [hB]
 have HBW := hid_ hB;clear hB;generalize (w.alloc (.cells #[.int .i64 p,.int .i64 m,.slice ma ml.length mc] 24)).alloc (.cells #[.slice ta N tc,.slice sa sl.length sc] 49) = w1 at *;go_wp2_with (at_make;refine wpList_make_arr _ rfl _ _ 22 rfl 3 (.int .i64 0) 8 Tryz.underlying22 infoInt rfl _ N rfl rfl rfl (by omega) (by unfold maxLen;omega) ?_)
 intro w3 hown hx3
 try simp only [bsz] at hown ⊢
 obtain ⟨g,hgg⟩ : ∃ g,B + 1 + 1 = g := ⟨_,rfl⟩;have HO3 := hid_ (show Own w3 g 3 g N (iv fun j => if j < 0 then M j else 0) from by rw [← hgg];exact hown.icongr (fun j _ => by simp))
 try simp only [hgg]
 have HX3 := hid_ hx3;have HGE := hid_ (show w1.heap.size = g from by rw [← hgg];exact bsz);have HC := hid_ (fun w' (h : Ex w1 w') => (⟨h.cell a0,h.cell a1,h.cell a2,h.cell b0,h.cell b1⟩ : _ ∧ _ ∧ _ ∧ _ ∧ _));clear hown hx3 a0 a1 a2 b0 b1 hgg bsz;obtain ⟨a0,a1,a2,b0,b1⟩ := HC.out w3 HX3.out;go_wp2_with fail
 clear a0 a1 a2 b0 b1
 go_loopw [8] (fun i' wr => ∃ (i : Nat),i ≤ N ∧ i' = .int .i64 i ∧ Hid (Own wr g 3 g N (iv fun j => if j < i then M j else 0)) ∧ Hid (Ex w1 wr)) (fun i' _ => N - (intOf i').toNat)
 case atStart => exact ⟨0,by omega,rfl,HO3,HX3⟩
 case round =>
  clear HO3 HX3;obtain ⟨i,hi,rfl,hown,hex⟩ := hrel;obtain ⟨a0,a1,a2,b0,b1⟩ := HC.out wr hex.out;by_cases hin : i < N
  ·have EXW := hid_ (HE0.out.trans hex.out);obtain ⟨sb,so,⟨c1,hs1⟩,hs2⟩ := HSA.out wr EXW.out i hin;obtain ⟨xb,xo,⟨c2,hx1⟩,hx2⟩ := HXA.out wr EXW.out i hin;injection hs1 with hs1 z1 z2;clear z1 z2;injection hx1 with hx1 z1 z2;clear z1 z2;subst hs1 hx1;obtain ⟨z,hz⟩ : ∃ z,sl.getD i 0 = z := ⟨_,rfl⟩;obtain ⟨y,hy⟩ : ∃ z,x.getD i 0 = z := ⟨_,rfl⟩;rw [hz] at hs2;rw [hy] at hx2;have i1 : (0 : Int) ≤ (i : Int) := by omega
   have i2 : (i : Int) < (N : Int) := by omega
   have i3 : (i : Int) < (sl.length : Int) := by have := HL.out.1;omega
   have i4 : (i : Int) < (x.length : Int) := by have := HL.out.2;omega
   have HMW := hid_ (fun (w5 : World) (h5 : Ex wr w5) => HMU.out w5 (EXW.out.trans h5) z y);obtain ⟨u,hu⟩ : ∃ u,kmul p m (lw ml) (kin (p ^ m) z) (kin (p ^ m) y) = u := ⟨_,rfl⟩;rw [hu] at HMW;have HMI := hid_ (show M i = (u : Int) from by rw [HMM.out i,hz,hy,hu]);have HOW := hid_ hown.out;have HEX := hid_ hex.out;have HIN := hid_ hin;have HOS := hid_ (fun (w5 : World) (h5 : Ex wr w5) => show Own (w5.setCell ⟨g,i,none⟩ (.int .i64 (u : Int))) g 3 g N (iv fun j => if j < i + 1 then M j else 0) from by
    refine ((HOW.out.ex h5).set i (.int .i64 (u : Int))).congr fun j hj => ?_;by_cases e : j = i
    ·subst e;rw [upd_same];show Value.int .i64 (u : Int) = .int .i64 (if j < j + 1 then M j else 0)
     rw [if_pos (by omega),HMI.out]
    ·rw [upd_ne _ _ e];show Value.int .i64 (if j < i then M j else 0) = .int .i64 (if j < i + 1 then M j else 0)
     by_cases h : j < i
     ·rw [if_pos h,if_pos (by omega)]
     ·rw [if_neg h,if_neg (by omega)])
   have HXS := hid_ (fun (w5 : World) (h5 : Ex wr w5) => (HOW.out.ex h5).exSet (a := w1) (Nat.le_of_eq HGE.out) (HEX.out.trans h5) i (.int .i64 (u : Int)));have HSC := hid_ hs2;have HXC := hid_ hx2;have HCW := hid_ (fun w' (h : Ex w1 w') => (⟨(HC.out w' h).1,(HC.out w' h).2.1,(HC.out w' h).2.2.1,(HC.out w' h).2.2.2.2⟩ : w'.cell? ⟨B,0,none⟩ = some (.int .i64 (p : Int)) ∧ w'.cell? ⟨B,1,none⟩ = some (.int .i64 (m : Int)) ∧ w'.cell? ⟨B,2,none⟩ = some (.slice ma ml.length mc) ∧ w'.cell? ⟨B + 1,1,none⟩ = some (.slice (some ⟨sb,so,none⟩) sl.length sc)));have HSW := hid_ (fun (w5 : World) (h5 : Ex w w5) => (⟨(HSA.out w5 h5 i HIN.out),(HXA.out w5 h5 i HIN.out)⟩ : _ ∧ _));have HALL := hid_ (fun (w5 : World) (h5 : Ex wr w5) => (⟨HCW.out w5 (HEX.out.trans h5),h5.cell HSC.out,h5.cell HXC.out⟩ : (w5.cell? ⟨B,0,none⟩ = some (.int .i64 (p : Int)) ∧ w5.cell? ⟨B,1,none⟩ = some (.int .i64 (m : Int)) ∧ w5.cell? ⟨B,2,none⟩ = some (.slice ma ml.length mc) ∧ w5.cell? ⟨B + 1,1,none⟩ = some (.slice (some ⟨sb,so,none⟩) sl.length sc)) ∧ w5.cell? ⟨sb,so + i,none⟩ = some (.int .i64 z) ∧ w5.cell? ⟨xb,xo + i,none⟩ = some (.int .i64 y)));have HALS := hid_ (fun (w5 : World) (h5 : Ex wr w5) => show ((w5.setCell ⟨g,i,none⟩ (.int .i64 (u : Int))).cell? ⟨B,0,none⟩ = some (.int .i64 (p : Int)) ∧ (w5.setCell ⟨g,i,none⟩ (.int .i64 (u : Int))).cell? ⟨B,1,none⟩ = some (.int .i64 (m : Int)) ∧ (w5.setCell ⟨g,i,none⟩ (.int .i64 (u : Int))).cell? ⟨B,2,none⟩ = some (.slice ma ml.length mc) ∧ (w5.setCell ⟨g,i,none⟩ (.int .i64 (u : Int))).cell? ⟨B + 1,1,none⟩ = some (.slice (some ⟨sb,so,none⟩) sl.length sc)) ∧ (w5.setCell ⟨g,i,none⟩ (.int .i64 (u : Int))).cell? ⟨sb,so + i,none⟩ = some (.int .i64 z) ∧ (w5.setCell ⟨g,i,none⟩ (.int .i64 (u : Int))).cell? ⟨xb,xo + i,none⟩ = some (.int .i64 y) from by
    have hx9 := HXS.out w5 h5;refine ⟨HCW.out _ hx9,?_,?_⟩
    ·obtain ⟨b',o',⟨c',e'⟩,h'⟩ := (HSW.out _ (HE0.out.trans hx9)).1;injection e' with e' _ _;injection e' with e';injection e' with e1 e2 _;rw [e1,e2,h',hz]
    ·obtain ⟨b',o',⟨c',e'⟩,h'⟩ := (HSW.out _ (HE0.out.trans hx9)).2;injection e' with e' _ _;injection e' with e';injection e' with e1 e2 _;rw [e1,e2,h',hy])
   clear hs2 hx2 hz hy hu hown hex;go_wp2_with fail
   have G0 : Ex wr wr.drew := (Ex.refl wr).drew
   go_region_held3 (fun w' => (w'.cell? ⟨B,0,none⟩ = some (.int .i64 (p : Int)) ∧ w'.cell? ⟨B,1,none⟩ = some (.int .i64 (m : Int)) ∧ w'.cell? ⟨B,2,none⟩ = some (.slice ma ml.length mc) ∧ w'.cell? ⟨B + 1,1,none⟩ = some (.slice (some ⟨sb,so,none⟩) sl.length sc)) ∧ w'.cell? ⟨sb,so + i,none⟩ = some (.int .i64 z) ∧ w'.cell? ⟨xb,xo + i,none⟩ = some (.int .i64 y))
    (first | with_reducible exact HALL.out _ G0 | with_reducible exact HALL.out _ X6 | with_reducible exact HALS.out _ X6)
    ((go_at_call 60;(with_reducible refine (HMW.out _ G0).mono ?_);rintro e w6 ⟨rfl,h6⟩;have X6 := G0.trans h6;clear h6;have co6 := (HOW.out.ex X6).cell HIN.out;have cf6 := (HOW.out.ex X6).frz i))
   go_wp2_with fail
   go_roundw
   case rel => first | exact ⟨i + 1,by omega,by go_num,hid_ (HOS.out _ X6),hid_ (HXS.out _ X6)⟩ | ((repeat apply Exists.intro);exact ⟨⟨i + 1,by omega,by go_num,hid_ (HOS.out _ X6),hid_ (HXS.out _ X6)⟩,rfl⟩)
   case measure => simp [intOf];omega
  ·obtain rfl : N = i := by omega
   have HO := hid_ (show Own wr g 3 g N (iv M) from hown.out.icongr fun j hj => by rw [if_pos hj]);go_wp2_with fail
   go_ret;exact ⟨g,rfl,HO.out.mono (by have := HGE.out;have := HBW.out;have := HE0.out.size;omega),HE0.out.trans hex.out⟩
end
section
open Go.RowKit
def pckF (f s : List Int) (j : Nat) : Int := f.getD (s.getD j 0).toNat 0
theorem rPick_any (w : World) (f s : List Int) (v sv : Value) (hv : ISl w v f) (hs : ISl w sv s) (hl : s.length ≤ 1000) (hin : ∀ x ∈ s,0 ≤ x ∧ x < (f.length : Int)) :
  Calls Tryz.prog 149 #[v,sv] w fun r w' => ∃ g,r = .returned (.slice (some ⟨g,0,none⟩) s.length s.length) ∧ Own w' w.heap.size 3 g s.length (iv (pckF f s)) ∧ Ex w w' := by
 obtain ⟨va,vc,rfl,v1,v2,v3⟩ := hv.open;obtain ⟨sa,sc,rfl,s1,s2,s3⟩ := hs.open;have V3 := hid_ v3;have S3 := hid_ s3;have HIN := hid_ hin;unfold maxLen at v2 s2;clear hv hs v3 s3 hin;obtain ⟨B,hB⟩ : ∃ B,w.heap.size = B := ⟨_,rfl⟩;go_enter Tryz.func149,Tryz.ntmps149
 go_wp2_with (at_make;refine wpList_make_arr _ rfl _ _ 22 rfl 3 (.int .i64 0) 8 Tryz.underlying22 infoInt rfl _ s.length rfl rfl rfl (by omega) (by unfold maxLen;omega) ?_)
 intro w3 hown hx3
 try simp only [hB] at hown hx3 ⊢
 have HBW := hid_ hB;clear hB;have HO := hid_ (show Own w3 B 3 B s.length (iv fun j => if j < 0 then pckF f s j else 0) from hown.icongr (fun j _ => by simp));have HX := hid_ hx3;clear hown hx3;go_wp2_with fail
 go_loopw [6] (fun i' wr => ∃ i : Nat,i ≤ s.length ∧ i' = .int .i64 i ∧ Hid (Own wr B 3 B s.length (iv fun j => if j < i then pckF f s j else 0)) ∧ Hid (Ex w wr)) (fun i' _ => s.length - (intOf i').toNat)
 case atStart => exact ⟨0,by omega,rfl,HO,HX⟩
 case round =>
  obtain ⟨i,hi,rfl,hO,hX⟩ := hrel;by_cases hik : i < s.length
  ·obtain ⟨sb,so,rfl,hsj⟩ := S3.out (by omega);obtain ⟨h1,h2⟩ := HIN.out (s.getD i 0) (List.mem_of_getElem? (lget_D hik));obtain ⟨c,hc⟩ : ∃ c : Nat,s.getD i 0 = c := ⟨(s.getD i 0).toNat,by omega⟩;have hcf : c < f.length := by omega
   obtain ⟨vb,vo,rfl,hvj⟩ := V3.out (by omega);have cs := hX.out.cell (hsj i _ (lget_D hik));have cv := hX.out.cell (hvj c _ (lget_D hcf));rw [hc] at cs;obtain ⟨y,hy⟩ : ∃ y,f.getD c 0 = y := ⟨_,rfl⟩;rw [hy] at cv;have HO2 := hid_ (show Own (wr.setCell ⟨B,i,none⟩ (.int .i64 y)) B 3 B s.length (iv fun j => if j < i + 1 then pckF f s j else 0) from (hO.out.set i (.int .i64 y)).congr (fun j hj => by
    by_cases e : j = i
    ·subst e;rw [upd_same];show _ = Value.int IntKind.i64 (if j < j + 1 then pckF f s j else 0)
     rw [if_pos (by omega)];unfold pckF;rw [hc,← hy];rfl
    ·rw [upd_ne _ _ e];show Value.int IntKind.i64 _ = Value.int IntKind.i64 _
     congr 1
     show (if j < i then pckF f s j else 0) = (if j < i + 1 then pckF f s j else 0)
     by_cases e2 : j < i
     ·rw [if_pos e2,if_pos (by omega)]
     ·rw [if_neg e2,if_neg (by omega)]))
   have co := hO.out.cell hik;have fo := hO.out.frz i;have HXS := hid_ (hO.out.exSet (show w.heap.size ≤ B from by rw [HBW.out];exact Nat.le_refl _) hX.out i (.int .i64 y));have i1 : (0 : Int) ≤ (i : Int) := by omega
   have i2 : (i : Int) < (s.length : Int) := by omega
   have i3 : (0 : Int) ≤ (c : Int) := by omega
   have i4 : (c : Int) < (f.length : Int) := by omega
   have b1 : decide (i < s.length) = true := by simpa using hik
   clear hO hX HO HX hsj hvj hc hy h1 h2;go_wp2_with fail
   go_roundw
   case rel => first | exact ⟨i + 1,by omega,by go_num,HO2,HXS⟩ | ((repeat apply Exists.intro);exact ⟨⟨i + 1,by omega,by go_num,HO2,HXS⟩,rfl⟩)
   case measure => simp [intOf];omega
  ·obtain rfl : i = s.length := by omega
   have b1 : decide (s.length < s.length) = false := by simp
   have HO4 := hid_ (hO.out.icongr (h := pckF f s) (fun j hj => by rw [if_pos hj]));clear hO HO HX;go_wp2_with fail
   go_ret;exact ⟨_,rfl,by rw [HBW.out];exact HO4.out,hX.out⟩
end
end Go.Proofs.YtgdmlmhpineibaaGreat
