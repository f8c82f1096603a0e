/- slices.Equal at ints, slices.EqualFunc at rows (as in Perm's PmS, PmPb); space.open, space.Check. -/
import Derived.BigQuiet
import Derived.Test.YtgdmlmhpineibaaGreatZe09
import Derived.Test.YtgdmlmhpineibaaGreatZe11
import Derived.Test.YtgdmlmhpineibaaGreatZe20
namespace Go.Proofs.YtgdmlmhpineibaaGreat
set_option linter.unusedVariables false
set_option linter.unusedSimpArgs false
set_option maxRecDepth 100000
set_option maxHeartbeats 8000000
section
open Go.RowKit
theorem Equal_any (w : World) (l k : List Int) (v u : Value) (hl : ISl w v l) (hk : ISl w u k) :
  Calls Tryz.prog 162 #[v,u] w fun r w' => r = .returned (.bool (decide (l = k))) ∧ ∃ n,w' = w.drewN n := by
 obtain ⟨a,cap,rfl,s1,s2,s3⟩ := hl.open;obtain ⟨c,cc,rfl,t1,t2,t3⟩ := hk.open;have S3 := hid_ s3;have T3 := hid_ t3;unfold maxLen at s2 t2;clear hl hk s3 t3;by_cases hlk : l.length = k.length
 ·have hb : ((l.length : Int) != (k.length : Int)) = false := by simp;omega
  have HLK := hid_ hlk;clear hlk;go_enter Tryz.func162,Tryz.ntmps162
  go_wp2_with fail
  go_loopw [13] (fun i' wr => ∃ i n : Nat,i ≤ l.length ∧ i' = .int .i64 i ∧ wr = w.drewN n ∧ Hid (∀ j,j < i → l[j]? = k[j]?)) (fun i' _ => l.length - (intOf i').toNat)
  case atStart => exact ⟨0,0,by omega,rfl,rfl,hid_ (fun j hj => by omega)⟩
  case round =>
   obtain ⟨i,n,hi,rfl,rfl,hall⟩ := hrel;by_cases hlt : i < l.length
   ·obtain ⟨x,hx⟩ : ∃ x,l[i]? = some x := ⟨_,List.getElem?_eq_getElem hlt⟩;have hik : i < k.length := by have := HLK.out;omega
    obtain ⟨y,hy⟩ : ∃ y,k[i]? = some y := ⟨_,List.getElem?_eq_getElem hik⟩;obtain ⟨b,o,rfl,hc⟩ := S3.out (by omega);obtain ⟨b2,o2,rfl,hc2⟩ := T3.out (by omega);have c1 := ((Ex.refl w).drewN n).cell (hc i x hx);have c2 := ((Ex.refl w).drewN n).cell (hc2 i y hy);have i1 : (0 : Int) ≤ (i : Int) := by omega
    have i2 : (i : Int) < (l.length : Int) := by omega
    have i3 : (i : Int) < (k.length : Int) := by omega
    obtain ⟨W,hW⟩ : ∃ W,w.drewN n = W := ⟨_,rfl⟩;rw [hW] at c1 c2 ⊢;have HWE := hid_ hW;clear hW;by_cases hxy : x = y
    ·have HA := hid_ (show ∀ j,j < i + 1 → l[j]? = k[j]? from fun j hj => by
      by_cases e : j = i
      ·subst e;rw [hx,hy,hxy]
      ·exact hall.out j (by omega))
     have hbb : (x != y) = false := by simpa using hxy
     clear hc hc2 hx hy hxy;go_wp2_with fail
     go_quiet (fail)
     go_wp2_with fail
     go_roundw
     case rel => exact ⟨i + 1,_,by omega,by go_num,by rw [← HWE.out,World.drewN_drewN],HA⟩
     case measure => simp [intOf];omega
    ·have HN := hid_ (show ¬ l = k from fun e => hxy (by rw [e,hy] at hx;injection hx with hx;exact hx.symm));have hbb : (x != y) = true := by simpa using hxy
     clear hc hc2 hx hy hxy;go_wp2_with fail
     go_quiet (fail)
     go_wp2_with fail
     go_ret;exact ⟨ret_bool (decide_eq_false HN.out).symm,_,by rw [← HWE.out,World.drewN_drewN]⟩
   ·obtain rfl : i = l.length := by omega
    have HE := hid_ (eq_of_get HLK.out hall.out);go_wp2_with fail
    go_ret;exact ⟨ret_bool (decide_eq_true HE.out).symm,n,rfl⟩
 ·have hb : ((l.length : Int) != (k.length : Int)) = true := by simp;omega
  have HN := hid_ (show ¬ l = k from fun e => hlk (by rw [e]));clear hlk;go_enter Tryz.func162,Tryz.ntmps162
  go_wp2_with fail
  go_ret;exact ⟨ret_bool (decide_eq_false HN.out).symm,0,rfl⟩
theorem EqualFunc_any (w : World) (l k : List (List Int)) (v u : Value) (hl : MSl w v l) (hk : MSl w u k) :
  Calls Tryz.prog 161 #[v,u,.func (.func 162) #[] #[]] w fun r w' => r = .returned (.bool (decide (l = k))) ∧ ∃ n,w' = w.drewN n := by
 obtain ⟨a,cap,rfl,s1,s2,s3⟩ := hl.open;obtain ⟨c,cc,rfl,t1,t2,t3⟩ := hk.open;have S3 := hid_ s3;have T3 := hid_ t3;unfold maxLen at s2 t2;clear hl hk s3 t3;by_cases hlk : l.length = k.length
 ·have hb : ((l.length : Int) != (k.length : Int)) = false := by simp;omega
  have HLK := hid_ hlk;clear hlk;go_enter Tryz.func161,Tryz.ntmps161
  go_wp2_with fail
  go_loopw [17] (fun i' wr => ∃ i n : Nat,i ≤ l.length ∧ i' = .int .i64 i ∧ wr = w.drewN n ∧ Hid (∀ j,j < i → l[j]? = k[j]?)) (fun i' _ => l.length - (intOf i').toNat)
  case atStart => exact ⟨0,0,by omega,rfl,rfl,hid_ (fun j hj => by omega)⟩
  case round =>
   obtain ⟨i,n,hi,rfl,rfl,hall⟩ := hrel;by_cases hlt : i < l.length
   ·obtain ⟨x,hx⟩ : ∃ x,l[i]? = some x := ⟨_,List.getElem?_eq_getElem hlt⟩;have hik : i < k.length := by have := HLK.out;omega
    obtain ⟨y,hy⟩ : ∃ y,k[i]? = some y := ⟨_,List.getElem?_eq_getElem hik⟩;obtain ⟨b,o,rfl,hc⟩ := S3.out (by omega);obtain ⟨b2,o2,rfl,hc2⟩ := T3.out (by omega);obtain ⟨u1,e1,hu1⟩ := hc i x hx;obtain ⟨u2,e2,hu2⟩ := hc2 i y hy;have c1 := ((Ex.refl w).drewN n).cell e1;have c2 := ((Ex.refl w).drewN n).cell e2;have hv1 := hu1.ex ((Ex.refl w).drewN n);have hv2 := hu2.ex ((Ex.refl w).drewN n);have i1 : (0 : Int) ≤ (i : Int) := by omega
    have i2 : (i : Int) < (l.length : Int) := by omega
    have i3 : (i : Int) < (k.length : Int) := by omega
    obtain ⟨W,hW⟩ : ∃ W,w.drewN n = W := ⟨_,rfl⟩;rw [hW] at c1 c2 hv1 hv2 ⊢;have HWE := hid_ hW;have HSI := hid_ (Equal_any W x y u1 u2 hv1 hv2);obtain ⟨ua,uc,rfl,_,_,_⟩ := hv1.open;obtain ⟨va,vc,rfl,_,_,_⟩ := hv2.open;by_cases hxy : x = y
    ·have HA := hid_ (show ∀ j,j < i + 1 → l[j]? = k[j]? from fun j hj => by
      by_cases e : j = i
      ·subst e;rw [hx,hy,hxy]
      ·exact hall.out j (by omega))
     rw [decide_eq_true hxy] at HSI;clear hc hc2 hx hy hxy hW hu1 hu2 e1 e2 hv1 hv2;go_wp2_with (go_at_call 162;refine HSI.out.mono ?_;rintro e w5 ⟨rfl,n5,rfl⟩)
     go_roundw
     case rel => exact ⟨i + 1,_,by omega,by go_num,by rw [← HWE.out,World.drewN_drewN],HA⟩
     case measure => simp [intOf];omega
    ·have HN := hid_ (show ¬ l = k from fun e => hxy (by rw [e,hy] at hx;injection hx with hx;exact hx.symm));rw [decide_eq_false hxy] at HSI;clear hc hc2 hx hy hxy hW hu1 hu2 e1 e2 hv1 hv2;go_wp2_with (go_at_call 162;refine HSI.out.mono ?_;rintro e w5 ⟨rfl,n5,rfl⟩)
     go_ret;exact ⟨ret_bool (decide_eq_false HN.out).symm,_,by rw [← HWE.out,World.drewN_drewN]⟩
   ·obtain rfl : i = l.length := by omega
    have HE := hid_ (rows_eq_of_get HLK.out hall.out);go_wp2_with fail
    go_ret;exact ⟨ret_bool (decide_eq_true HE.out).symm,n,rfl⟩
 ·have hb : ((l.length : Int) != (k.length : Int)) = true := by simp;omega
  have HN := hid_ (show ¬ l = k from fun e => hlk (by rw [e]));clear hlk;go_enter Tryz.func161,Tryz.ntmps161
  go_wp2_with fail
  go_ret;exact ⟨ret_bool (decide_eq_false HN.out).symm,0,rfl⟩
theorem boxM2_facts (w : World) (c : Int) (v : Value) : (w.alloc (.cells #[.int .i64 c,v] 113)).cell? ⟨w.heap.size,0,none⟩ = some (.int .i64 c) ∧ (w.alloc (.cells #[.int .i64 c,v] 113)).cell? ⟨w.heap.size,1,none⟩ = some v ∧ Ex w (w.alloc (.cells #[.int .i64 c,v] 113)) := ⟨by simp,by simp,(Ex.refl _).alloc _⟩
def SpcO (p m : Int) (ml : List Int) (cols : Int) (rows : List (List Int)) (e : Int) : Prop :=
 (canE p m ml cols rows ≠ 0 ∧ e = canE p m ml cols rows) ∨
 (canE p m ml cols rows = 0 ∧ ∃ (pn mn N : Nat) (piv : List Nat) (a' : Nat → Nat → Int),p = pn ∧ m = mn ∧ cols = N ∧ FldB p m ml ∧ mchkS (pn ^ mn) N rows = 0 ∧ ElO pn mn ml N rows.length (rowsF rows) a' piv ∧ e = if rowsL N piv.length a' = rows then 0 else 5)
structure BxV (w : World) (b : Nat) : Prop where
 c0 : w.cell? ⟨b,0,none⟩ = some (.pointer none)
 c1 : w.cell? ⟨b,1,none⟩ = some (.int .i64 0)
 c2 : w.cell? ⟨b,2,none⟩ = some (.slice none 0 0)
 c3 : w.cell? ⟨b,3,none⟩ = some (.slice none 0 0)
 f0 : w.frozen? ⟨b,0,none⟩ = false
 f1 : w.frozen? ⟨b,1,none⟩ = false
 f2 : w.frozen? ⟨b,2,none⟩ = false
 f3 : w.frozen? ⟨b,3,none⟩ = false
theorem BxV.new (w : World) : BxV (w.alloc (.cells #[.pointer none,.int .i64 0,.slice none 0 0,.slice none 0 0] 166)) w.heap.size := ⟨by simp,by simp,by simp,by simp,by simp,by simp,by simp,by simp⟩
theorem BxV.ex {w w' : World} {b : Nat} (h : BxV w b) (hx : Ex w w') : BxV w' b := ⟨hx.cell h.c0,hx.cell h.c1,hx.cell h.c2,hx.cell h.c3,hx.frz h.c0 h.f0,hx.frz h.c1 h.f1,hx.frz h.c2 h.f2,hx.frz h.c3 h.f3⟩
theorem set4_ex {w0 w : World} {q : Nat} (hx : Ex w0 w) (hq : w0.heap.size ≤ q) (u v z y : Value) : Ex w0 ((((w.setCell ⟨q,0,none⟩ u).setCell ⟨q,1,none⟩ v).setCell ⟨q,2,none⟩ z).setCell ⟨q,3,none⟩ y) :=
 (((hx.setCell (p := ⟨q,0,none⟩) hq _).setCell (p := ⟨q,1,none⟩) hq _).setCell (p := ⟨q,2,none⟩) hq _).setCell (p := ⟨q,3,none⟩) hq _
theorem spaceOpen_any (w : World) (p m : Int) (ml : List Int) (mv : Value) (hmv : ISl w mv ml) (cols : Int) (rows : List (List Int)) (v : Value) (hv : MSl w v rows) (h0 : canE p m ml cols rows = 0 → 1 ≤ cols) :
  Calls Tryz.prog 132 #[.agg #[.int .i64 p,.int .i64 m,mv],.agg #[.int .i64 cols,v]] w fun r w' => (∃ (g : Option Addr) (c : Int) (a1 a2 : Option Addr) (n1 k1 n2 k2 : Nat) (e : Int),r = .returned (.tuple #[.agg #[.pointer g,.int .i64 c,.slice a1 n1 k1,.slice a2 n2 k2],.int .i64 e]) ∧ SpcO p m ml cols rows e) ∧ Ex w w' := by
 obtain ⟨g0,g1,g2,e0,gsz⟩ := box_facts w p m mv;have HCN := hid_ (fun (w' : World) (h : Ex w w') => Canonical_any w' p m ml mv (hmv.ex h) cols rows v (hv.ex h) h0);have HNW := hid_ (fun (w' : World) (h : Ex w w') => New_any p m ml mv w' (hmv.ex h));have HV := hid_ hv;obtain ⟨za,zc,rfl,z1,z2,z3⟩ := hv.open;clear z1 z3;unfold maxLen at z2;obtain ⟨ma,mc,rfl,-,m2,-⟩ := hmv.open;unfold maxLen at m2;obtain ⟨xb,hxb⟩ : ∃ xb,w.heap.size = xb := ⟨_,rfl⟩;rw [hxb] at g0 g1 g2 gsz;clear hmv hv h0;go_enter Tryz.func132,Tryz.ntmps132
 go_wp2_with fail
 generalize w.alloc (.cells #[.int .i64 p,.int .i64 m,.slice ma ml.length mc] 24) = wA at *;obtain ⟨a0,a1,ea⟩ := boxM2_facts wA cols (.slice za rows.length zc);have asz : (wA.alloc (.cells #[.int .i64 cols,.slice za rows.length zc] 113)).heap.size = xb + 1 + 1 := by simp [gsz]
 rw [gsz] at a0 a1;generalize wA.alloc (.cells #[.int .i64 cols,.slice za rows.length zc] 113) = wB at *;have bq := BxV.new wB;rw [asz] at bq;have eb : Ex wB _ := (Ex.refl wB).alloc (.cells #[.pointer none,.int .i64 0,.slice none 0 0,.slice none 0 0] 166);have A0 := hid_ (eb.cell a0);have A1 := hid_ (eb.cell a1);have G0 := hid_ ((ea.trans eb).cell g0);have G1 := hid_ ((ea.trans eb).cell g1);have G2 := hid_ ((ea.trans eb).cell g2);have BQ := hid_ bq;have HE := hid_ ((e0.trans ea).trans eb);generalize wB.alloc (.cells #[.pointer none,.int .i64 0,.slice none 0 0,.slice none 0 0] 166) = wC at *;refine (HCN.out wC HE.out).mono ?_;clear g0 g1 g2 a0 a1 bq e0 ea eb asz gsz;rintro e w2 ⟨hc,hx2⟩;have HX2 := hid_ (HE.out.trans hx2);have BQ2 := hid_ (BQ.out.ex hx2);have A0 := hid_ (hx2.cell A0.out);have A1 := hid_ (hx2.cell A1.out);have G0 := hid_ (hx2.cell G0.out);have G1 := hid_ (hx2.cell G1.out);have G2 := hid_ (hx2.cell G2.out);have HXB := hid_ (show w.heap.size ≤ xb + 1 + 1 from by omega);clear hx2 BQ HE HCN;rcases hc with ⟨hce,pn,mn,N,piv,a',rv,pv,rfl,rfl,rfl,hfb,hmk,rfl,hel,hrv,hpv,-⟩ | ⟨hce,rfl⟩
 ·have HRV := hid_ hrv;have HSP := hid_ (fun e (h : e = if rowsL N piv.length a' = rows then 0 else 5) => show SpcO pn mn ml N rows e from .inr ⟨hce,pn,mn,N,piv,a',rfl,rfl,rfl,hfb,hmk,hel,h⟩);have HFB := hid_ hfb;obtain ⟨ra,rc,rfl,-,r2,-⟩ := hrv.open;obtain ⟨pa,pc,rfl,-,p2,-⟩ := hpv.open;unfold maxLen at r2 p2;obtain ⟨L,hL⟩ : ∃ L,rowsL N piv.length a' = L := ⟨_,rfl⟩;obtain ⟨PL,hPL⟩ : ∃ PL,pI piv = PL := ⟨_,rfl⟩;rw [hL] at HRV HSP ⊢;rw [hPL];clear hce hfb hmk hel hrv hpv hL hPL;have HX3 := hid_ ((Ex.refl w2).alloc (.cells #[.int .i64 N,.slice ra L.length rc] 113));have l0 : (w2.alloc (.cells #[.int .i64 N,.slice ra L.length rc] 113)).cell? ⟨w2.heap.size,1,none⟩ = some (.slice ra L.length rc) := by simp
  have a1' := HX3.out.cell A1.out;have HEQ := hid_ (EqualFunc_any (w2.alloc (.cells #[.int .i64 N,.slice ra L.length rc] 113)) L rows _ _ (HRV.out.ex HX3.out) (HV.out.ex (HX2.out.trans HX3.out)));by_cases hLR : L = rows
  ·rw [decide_eq_true hLR] at HEQ;have HSP2 := hid_ (HSP.out 0 (by rw [if_pos hLR]));clear hLR;go_wp2_with fail
   refine HEQ.out.mono ?_;rintro e w3 ⟨rfl,n3,hw3⟩;have hx3 : Ex (w2.alloc (.cells #[.int .i64 N,.slice ra L.length rc] 113)) w3 := by rw [hw3];exact (Ex.refl _).drewN n3
   have HX23 := hid_ (HX3.out.trans hx3);have g0 := HX23.out.cell G0.out;have g1 := HX23.out.cell G1.out;have g2 := HX23.out.cell G2.out;clear hx3 hw3 l0 a1';go_wp2_with fail
   refine (HNW.out w3 (HX2.out.trans HX23.out)).mono ?_;rintro e w4 ⟨hno,hx4⟩;rcases hno with ⟨pn',mn',x,b,e1,e2,rfl,hg,-,-⟩ | ⟨hno,_⟩
   ·have X4 := hid_ (HX23.out.trans hx4);have a0 := X4.out.cell A0.out;have a1 := X4.out.cell A1.out;obtain ⟨q0,q1,q2,q3,qf0,qf1,qf2,qf3⟩ := BQ2.out.ex X4.out;clear e1 e2 hg hx4 g0 g1 g2;go_wp2_with fail
    exact bodyPost_ret (v := .tuple #[.agg #[.pointer (some ⟨b,0,none⟩),.int .i64 N,.slice za rows.length zc,.slice pa PL.length pc],.int .i64 0]) (by simp [results,Tryz.results132,go_sem,q0,q1,q2,q3]) rfl ⟨⟨_,_,_,_,_,_,_,_,_,rfl,HSP2.out⟩,set4_ex (HX2.out.trans X4.out) HXB.out _ _ _ _⟩
   ·exact absurd HFB.out hno
  ·rw [decide_eq_false hLR] at HEQ;have HSP2 := hid_ (HSP.out 5 (by rw [if_neg hLR]));clear hLR;go_wp2_with fail
   refine HEQ.out.mono ?_;rintro e w3 ⟨rfl,n3,hw3⟩;have hx3 : Ex (w2.alloc (.cells #[.int .i64 N,.slice ra L.length rc] 113)) w3 := by rw [hw3];exact (Ex.refl _).drewN n3
   have HX23 := hid_ (HX3.out.trans hx3);obtain ⟨q0,q1,q2,q3,qf0,qf1,qf2,qf3⟩ := BQ2.out.ex HX23.out;clear hx3 hw3 l0 a1';go_wp2_with fail
   exact bodyPost_ret (v := .tuple #[.agg #[.pointer none,.int .i64 0,.slice none 0 0,.slice none 0 0],.int .i64 5]) (by simp [results,Tryz.results132,go_sem,q0,q1,q2,q3]) rfl ⟨⟨_,_,_,_,_,_,_,_,_,rfl,HSP2.out⟩,set4_ex (HX2.out.trans HX23.out) HXB.out _ _ _ _⟩
 ·have HSP := hid_ (show SpcO p m ml cols rows (canE p m ml cols rows) from .inl ⟨hce,rfl⟩);obtain ⟨E,hE⟩ : ∃ E,canE p m ml cols rows = E := ⟨_,rfl⟩;rw [hE] at HSP hce ⊢;have hb : (E != 0) = true := by simpa using hce
  obtain ⟨q0,q1,q2,q3,qf0,qf1,qf2,qf3⟩ := BQ2.out.ex ((Ex.refl w2).alloc (.cells #[.int .i64 0,.slice none 0 0] 113));have HXL := hid_ (HX2.out.alloc (.cells #[.int .i64 0,.slice none 0 0] 113));clear hE hce;go_wp2_with fail
  exact bodyPost_ret (v := .tuple #[.agg #[.pointer none,.int .i64 0,.slice none 0 0,.slice none 0 0],.int .i64 E]) (by simp [results,Tryz.results132,go_sem,q0,q1,q2,q3]) rfl ⟨⟨_,_,_,_,_,_,_,_,_,rfl,HSP.out⟩,set4_ex HXL.out HXB.out _ _ _ _⟩
end
section
open Go.RowKit
theorem chk_one {p m : Int} {ml : List Int} (h : ¬ FldB p m ml) : chkS p m ml = 1 := by
 have h1 : chkS p m ml ≠ 0 := fun e => h ((chk_iff p m ml).1 e);unfold chkS at h1 ⊢;split
 ·rename_i h2;rw [if_pos h2] at h1;exact absurd rfl h1
 ·rfl
theorem FCheck_any (w : World) (p m : Int) (ml : List Int) (mv : Value) (hmv : ISl w mv ml) :
  Calls Tryz.prog 118 #[.agg #[.int .i64 p,.int .i64 m,mv]] w fun r w' => r = .returned (.int .i64 (chkS p m ml)) ∧ Ex w w' := by
 obtain ⟨a0,a1,a2,ea,-⟩ := box_facts w p m mv;have HE := hid_ ea;have HMV := hid_ (hmv.ex ea);have HSH := hid_ (fun w' (h : ISl w' mv ml) => shape_any p m ml mv w' h);have hord := order_any p m;obtain ⟨R,hR⟩ : ∃ R,chkS p m ml = R := ⟨_,rfl⟩;rw [hR];by_cases hs : shB p m ml = true
 ·obtain ⟨pn,mn,rfl,rfl,hf,hpr,ho⟩ := shB_FSh hs;rw [ho] at hord;rw [hs] at HSH;have HOR := hid_ hord;have HGN := hid_ (fun w' (h : ISl w' mv ml) => generator_any pn mn ml mv w' hf h);obtain ⟨B,hB⟩ : ∃ B : Bool,(B = true ↔ R = 1) ∧ (B = false ↔ R = 0) ∧ ∀ w' v,GenOut pn mn ml w' v → ∃ ga gn gc,v = .slice ga gn gc ∧ ga.isNone = B := by
   by_cases hF : IsF pn mn (lw ml)
   ·have h0 := (chk_iff _ _ _).2 ⟨pn,mn,rfl,rfl,hf,hpr,hF⟩;rw [hR] at h0;subst h0;refine ⟨false,by simp,by simp,fun w' v h => ?_⟩;rcases h with ⟨x,x1,x2,hgx,hgv⟩ | ⟨hno,rfl⟩
    ·obtain ⟨ga,gc,rfl,g1,g2,g3⟩ := hgv.open;obtain ⟨gb,gof,rfl,g4⟩ := g3 (by rw [il_length];have := one_lt_q hf.p2 hf.m1;omega);exact ⟨_,_,_,rfl,rfl⟩
    ·exact absurd hF hno
   ·have h0 : chkS pn mn ml = 1 := chk_one fun ⟨a,b,e1,e2,_,_,h⟩ => by
     have e1' : pn = a := by omega
     have e2' : mn = b := by omega
     subst e1';subst e2';exact hF h
    rw [hR] at h0;subst h0;refine ⟨true,by simp,by simp,fun w' v h => ?_⟩;rcases h with ⟨x,x1,x2,hgx,hgv⟩ | ⟨hno,rfl⟩
    ·exact absurd ⟨x,x1,x2,hgx⟩ hF
    ·exact ⟨_,_,_,rfl,rfl⟩
  have HB := hid_ hB;have hE := fun w (a : Option Addr) (l c : Nat) => run_eql_slice_nil (P := Tryz.prog) w 22 3 a l c Tryz.underlying22;clear hord hf hpr ho hs hB hR hmv ea;obtain ⟨q,hqq⟩ : ∃ q,pn ^ mn = q := ⟨_,rfl⟩;rw [hqq] at HOR HGN;clear hqq;go_enter Tryz.func118,Tryz.ntmps118
  go_wp2_with fail
  obtain ⟨xb,hxb⟩ : ∃ xb,w.heap.size = xb := ⟨_,rfl⟩;rw [hxb] at a0 a1 a2
  try simp only [hxb]
  clear hxb;generalize w.alloc (.cells #[.int .i64 pn,.int .i64 mn,mv] 24) = w1 at *;have G0 : Ex w1 w1.drew := (Ex.refl w1).drew;have A0 := hid_ a0;have A1 := hid_ a1;have A2 := hid_ a2
  first | go_region_with ((first
        | (go_at_call 135;(with_reducible refine (HSH.out _ (HMV.out.ex G0)).mono ?_);rintro e w2 ⟨rfl,h2⟩;have X2 := G0.trans h2;have b0 := X2.cell A0.out;have b1 := X2.cell A1.out;have b2 := X2.cell A2.out;clear h2)
        | (go_at_call 136;(with_reducible refine (HOR.out _).mono ?_);rintro e w3 ⟨rfl,rfl⟩)
        | (go_at_call 137;(with_reducible refine (HGN.out _ (HMV.out.ex X2)).mono ?_);rintro e w3 ⟨gv,rfl,hgo,hx3⟩;have X3 := X2.trans hx3;obtain ⟨ga,gn,gc,rfl,hgb⟩ := HB.out.2.2 _ _ hgo;have hE' := fun w => hE w ga gn gc;rw [hgb] at hE';clear hgo hx3))) | fail
  all_goals
   cases B with
   | true =>
    obtain rfl := HB.out.1.1 rfl;go_wp2_with fail
    go_ret;exact ⟨rfl,HE.out.trans X3⟩
   | false =>
    obtain rfl := HB.out.2.1.1 rfl;go_wp2_with fail
    go_ret;exact ⟨rfl,HE.out.trans X3⟩
 ·have hs : shB p m ml = false := by simpa using hs
  rw [hs] at HSH;have hr := chk_bad (p := p) (m := m) hs;rw [hR] at hr;subst hr;clear hs hord hR hmv ea;go_enter Tryz.func118,Tryz.ntmps118
  go_wp2_with fail
  obtain ⟨xb,hxb⟩ : ∃ xb,w.heap.size = xb := ⟨_,rfl⟩;rw [hxb] at a0 a1 a2
  try simp only [hxb]
  clear hxb;generalize w.alloc (.cells #[.int .i64 p,.int .i64 m,mv] 24) = w1 at *;have G0 : Ex w1 w1.drew := (Ex.refl w1).drew
  first | go_region_with ((go_at_call 135;(with_reducible refine (HSH.out _ (HMV.out.ex G0)).mono ?_);rintro e w2 ⟨rfl,h2⟩;have X2 := G0.trans h2;clear h2)) | fail
  all_goals
   go_wp2_with fail
   go_ret;exact ⟨rfl,HE.out.trans X2⟩
end
section
open Go.RowKit
theorem rChkM_any (p m : Int) (ml : List Int) (mv : Value) (w : World) (hmv : ISl w mv ml) (cols : Int) (rows : List (List Int)) (v : Value) (hv : MSl w v rows) :
  Calls Tryz.prog 122 #[.agg #[.int .i64 p,.int .i64 m,mv],.agg #[.int .i64 cols,v]] w fun r w' => ∃ e,r = .returned (.int .i64 e) ∧ ChkOut p m ml cols rows e ∧ Ex w w' := by
 obtain ⟨g0,g1,g2,e0,gsz⟩ := box_facts w p m mv;have HMV := hid_ hmv;have HV := hid_ hv;obtain ⟨za,zc,rfl,z1,z2,z3⟩ := hv.open;have Z3 := hid_ z3;unfold maxLen at z2;obtain ⟨xb,hxb⟩ : ∃ xb,w.heap.size = xb := ⟨_,rfl⟩;rw [hxb] at g0 g1 g2 gsz;have HCH := hid_ (fun w' h => rCheck_any p m ml mv w' h);have HCI := hid_ (chk_iff p m ml);have HC01 := hid_ (show chkS p m ml = 0 ∨ chkS p m ml = 1 by unfold chkS;split <;> simp);clear hmv hv z3;go_enter Tryz.func122,Tryz.ntmps122
 go_wp2_with fail
 try simp only [hxb]
 generalize w.alloc (.cells #[.int .i64 p,.int .i64 m,mv] 24) = wA at *;have a0 : (wA.alloc (.cells #[.int .i64 cols,.slice za rows.length zc] 113)).cell? ⟨xb + 1,0,none⟩ = some (.int .i64 cols) := by rw [← gsz];simp
 have a1 : (wA.alloc (.cells #[.int .i64 cols,.slice za rows.length zc] 113)).cell? ⟨xb + 1,1,none⟩ = some (.slice za rows.length zc) := by rw [← gsz];simp
 have eA : Ex wA (wA.alloc (.cells #[.int .i64 cols,.slice za rows.length zc] 113)) := (Ex.refl _).alloc _;generalize wA.alloc (.cells #[.int .i64 cols,.slice za rows.length zc] 113) = wB at *;have b0 := eA.cell g0;have b1 := eA.cell g1;have b2 := eA.cell g2;have eB := e0.trans eA;clear g0 g1 g2 e0 eA gsz hxb wA;refine (HCH.out wB (HMV.out.ex eB)).mono ?_;rintro r w4 ⟨rfl,hx4⟩;have c0 := hx4.cell b0;have c1 := hx4.cell b1;have c2 := hx4.cell b2;have c3 := hx4.cell a0;have c4 := hx4.cell a1;have EX4 := hid_ (eB.trans hx4);clear b0 b1 b2 a0 a1 hx4 eB;by_cases h0 : chkS p m ml = 0
 ·obtain ⟨pn,mn,rfl,rfl,hsh,hpr,hif⟩ := HCI.out.1 h0;have HFL := hid_ (show FldB pn mn ml from ⟨pn,mn,rfl,rfl,hsh,hpr,hif⟩);have HEN := hid_ (fun w' l v (h : ISl w' v l) => rEntries_any (mv := mv) w' hsh l v h);have HOUT := hid_ (show ∀ e,e = mchkS (pn ^ mn) cols rows → ChkOut pn mn ml cols rows e from fun e h => .inl ⟨pn,mn,rfl,rfl,HFL.out,h⟩);have HE := hid_ (show mchkS (pn ^ mn) cols rows = if cols < 0 ∨ 256 < cols ∨ 256 < (rows.length : Int) then 3
 else if (rows.all fun r => decide ((r.length : Int) = cols)) = true then (if (rows.all fun r => entS (pn ^ mn) r == 0) = true then 0 else 2) else 3 from rfl)
  rw [h0];clear h0 hsh hpr hif HCI HC01;by_cases h : cols < 0 ∨ 256 < cols ∨ 256 < (rows.length : Int)
  ·have HR := hid_ (HOUT.out 3 (by rw [HE.out,if_pos h]));have hc : cols < 0 ∨ (0 ≤ cols ∧ 256 < cols) ∨ (0 ≤ cols ∧ cols ≤ 256 ∧ 256 < (rows.length : Int)) := by omega
   clear h HE;rcases hc with hc | ⟨h1,h2⟩ | ⟨h1,h2,h3⟩
   all_goals
    go_wp2_with fail
    go_ret;exact ⟨_,rfl,HR.out,EX4.out⟩
  ·have h1 : 0 ≤ cols := by omega
   have h2 : cols ≤ 256 := by omega
   have h3 : (rows.length : Int) ≤ 256 := by omega
   have d1 : decide (cols < 0) = false := by simp;omega
   have d2 : decide (256 < cols) = false := by simp;omega
   have d3 : decide (256 < (rows.length : Int)) = false := by simp;omega
   have HE2 := hid_ (show mchkS (pn ^ mn) cols rows = if (rows.all fun r => decide ((r.length : Int) = cols)) = true then (if (rows.all fun r => entS (pn ^ mn) r == 0) = true then 0 else 2) else 3 by rw [HE.out,if_neg h]);have EXR : Ex w4 w4 := Ex.refl _;clear h HE;go_wp2_with fail
   go_loopw [6] (fun i' wr => ∃ i : Nat,i ≤ rows.length ∧ i' = .int .i64 i ∧ Hid (∀ (j : Nat) (r : List Int),j < i → rows[j]? = some r → (r.length : Int) = cols) ∧ Ex w4 wr) (fun i' _ => rows.length - (intOf i').toNat)
   case atStart => exact ⟨0,by omega,rfl,hid_ (fun j x h => by omega),EXR⟩
   case round =>
    clear EXR;obtain ⟨i,hi,rfl,hall,hx⟩ := hrel;have r0 := hx.cell c3;have r1 := hx.cell c4;by_cases hlt : i < rows.length
    ·obtain ⟨r,hr⟩ : ∃ r,rows[i]? = some r := ⟨_,List.getElem?_eq_getElem hlt⟩;obtain ⟨bb,o,rfl,hc⟩ := Z3.out (by omega);obtain ⟨u,e1,hu⟩ := hc i r hr;obtain ⟨ua,uc,rfl,u1,u2,u3⟩ := hu.open;have e2 := (EX4.out.trans hx).cell e1;have i1 : (0 : Int) ≤ (i : Int) := by omega
     have i2 : (i : Int) < (rows.length : Int) := by omega
     unfold maxLen at u2;by_cases hl : (r.length : Int) = cols
     ·have hb : ((r.length : Int) != cols) = false := by simpa using hl
      have HA := hid_ (show ∀ (j : Nat) (s : List Int),j < i + 1 → rows[j]? = some s → (s.length : Int) = cols from fun j s hj hs => by
       by_cases e : j = i
       ·subst e;rw [hr] at hs;injection hs with hs;subst hs;exact hl
       ·exact hall.out j s (by omega) hs)
      clear hl hc e1 hu u3 hr;go_wp2_with fail
      go_quiet (fail)
      go_wp2_with fail
      go_roundw
      case rel => exact ⟨i + 1,by omega,by go_num,HA,hx.drewN _⟩
      case measure => simp [intOf];omega
     ·have hb : ((r.length : Int) != cols) = true := by simpa using hl
      have HF := hid_ (HOUT.out 3 (by
       rw [HE2.out,if_neg];intro h;have := List.all_eq_true.1 h r (List.mem_of_getElem? hr);exact hl (by simpa using this)))
      clear hl hc e1 hu u3 hr;go_wp2_with fail
      go_quiet (fail)
      go_wp2_with fail
      go_ret;exact ⟨_,rfl,HF.out,(EX4.out.trans hx).drewN _⟩
    ·obtain rfl : i = rows.length := by omega
     have HE3 := hid_ (show mchkS (pn ^ mn) cols rows = if (rows.all fun r => entS (pn ^ mn) r == 0) = true then 0 else 2 by
      rw [HE2.out,if_pos];rw [List.all_eq_true];intro r hr;obtain ⟨j,hj,e⟩ := List.getElem_of_mem hr;exact decide_eq_true (hall.out j r hj (by rw [List.getElem?_eq_getElem hj,e])))
     clear hall;go_wp2_with fail
     obtain ⟨wo,rfl⟩ : ∃ wo : World,wo = wr := ⟨_,rfl⟩;clear r0 r1
     go_loopw [5,7] (fun e' i' wr => ∃ i : Nat,i ≤ rows.length ∧ i' = .int .i64 i ∧ e' = .int .i64 0 ∧ Hid (∀ (j : Nat) (r : List Int),j < i → rows[j]? = some r → entS (pn ^ mn) r = 0) ∧ Ex w4 wr) (fun _ i' _ => rows.length - (intOf i').toNat)
     case atStart => exact ⟨0,by omega,rfl,rfl,hid_ (fun j x h => by omega),hx⟩
     case round =>
      clear hx;obtain ⟨i,hi,rfl,rfl,hall,hx⟩ := hrel;have r0 := hx.cell c3;have r1 := hx.cell c4;have s0 := hx.cell c0;have s1 := hx.cell c1;have s2 := hx.cell c2;by_cases hlt : i < rows.length
      ·obtain ⟨r,hr⟩ : ∃ r,rows[i]? = some r := ⟨_,List.getElem?_eq_getElem hlt⟩;obtain ⟨bb,o,rfl,hc⟩ := Z3.out (by omega);obtain ⟨u,e1,hu⟩ := hc i r hr;have hu2 := hu.ex (EX4.out.trans hx);obtain ⟨ua,uc,rfl,u1,u2,u3⟩ := hu.open;have e2 := (EX4.out.trans hx).cell e1;have i1 : (0 : Int) ≤ (i : Int) := by omega
       have i2 : (i : Int) < (rows.length : Int) := by omega
       have HEN2 := hid_ (HEN.out wr.drew r _ hu2);have hx' := hx.drew;unfold maxLen at u2;obtain ⟨ev,hev⟩ : ∃ ev,entS (pn ^ mn) r = ev := ⟨_,rfl⟩;have hev2 : ev = 0 ∨ ev = 2 := by rw [← hev];exact entS_ne
       rw [hev] at HEN2;have HA := hid_ (show ev = 0 → ∀ (j : Nat) (s : List Int),j < i + 1 → rows[j]? = some s → entS (pn ^ mn) s = 0 from fun h0 j s hj hs => by
        by_cases e : j = i
        ·subst e;rw [hr] at hs;injection hs with hs;subst hs;rw [hev,h0]
        ·exact hall.out j s (by omega) hs)
       have HF := hid_ (show ev ≠ 0 → ChkOut pn mn ml cols rows 2 from fun h0 => HOUT.out 2 (by
        rw [HE3.out,if_neg];intro h;have := List.all_eq_true.1 h r (List.mem_of_getElem? hr);rw [hev] at this;exact h0 (by simpa using this)))
       clear hc e1 hu hu2 u3 hr hev;go_wp2_with fail
       go_region_held3 (fun w' => w'.cell? ⟨xb,0,none⟩ = some (.int .i64 pn) ∧ w'.cell? ⟨xb,1,none⟩ = some (.int .i64 mn) ∧ w'.cell? ⟨xb,2,none⟩ = some mv ∧ w'.cell? ⟨xb + 1,1,none⟩ = some (.slice (some ⟨bb,o,none⟩) rows.length zc) ∧ w'.cell? ⟨bb,o + i,none⟩ = some (.slice ua r.length uc))
        (first | exact ⟨s0,s1,s2,r1,e2⟩ | exact ⟨hx5.cell s0,hx5.cell s1,hx5.cell s2,hx5.cell r1,hx5.cell e2⟩)
        ((go_at_call 61;refine HEN2.out.mono ?_;rintro e w5 ⟨rfl,hx5⟩))
       rcases hev2 with h0 | h0
       ·subst h0;have HA2 := hid_ (HA.out rfl);go_wp2_with fail
        go_roundw
        case rel => exact ⟨i + 1,by omega,by go_num,rfl,HA2,hx'.trans hx5⟩
        case measure => simp [intOf];omega
       ·subst h0;have HF2 := hid_ (HF.out (by omega));go_wp2_with fail
        go_ret;exact ⟨_,rfl,HF2.out,EX4.out.trans (hx'.trans hx5)⟩
      ·obtain rfl : i = rows.length := by omega
       have HF := hid_ (HOUT.out 0 (by
        rw [HE3.out,if_pos];rw [List.all_eq_true];intro r hr;obtain ⟨j,hj,e⟩ := List.getElem_of_mem hr;rw [hall.out j r hj (by rw [List.getElem?_eq_getElem hj,e])];rfl))
       go_wp2_with fail
       go_ret;exact ⟨_,rfl,HF.out,EX4.out.trans hx⟩
 ·have h1 : chkS p m ml = 1 := by rcases HC01.out with h | h;exact absurd h h0;exact h
  have HN := hid_ (show ChkOut p m ml cols rows 1 from .inr ⟨fun h => h0 (HCI.out.2 h),rfl⟩);rw [h1];clear h0 h1 HCI HC01 HCH;go_wp2_with fail
  go_ret;exact ⟨_,rfl,HN.out,EX4.out⟩
end
section
open Go.RowKit
def sizM (rows : List (List Int)) : Nat := rows.length + (rows.map List.length).sum
def fewM (cols : Int) (rows : List (List Int)) (lim : Int) : Bool := decide (cols ≤ 260 ∧ (sizM rows : Int) ≤ lim)
theorem sum_take_le : ∀ (l : List Nat) (i : Nat),(l.take i).sum ≤ l.sum
 | [],i => by simp
 | x :: l,0 => by simp
 | x :: l,i + 1 => by have := sum_take_le l i;simp;omega
theorem rFewM_any (w : World) (cols : Int) (rows : List (List Int)) (v : Value) (hv : MSl w v rows) (lim : Int) (hl0 : 0 ≤ lim) (hl1 : lim ≤ 100000) :
  Calls Tryz.prog 101 #[.agg #[.int .i64 cols,v],.int .i64 lim] w fun r w' => r = .returned (.bool (fewM cols rows lim)) ∧ Ex w w' := by
 obtain ⟨d0,d1,e0⟩ := boxM2_facts w cols v;obtain ⟨za,zc,rfl,z1,z2,z3⟩ := (hv.ex e0).open;have Z3 := hid_ z3;unfold maxLen at z2;have HE := hid_ e0;clear hv z3 e0;obtain ⟨F,hF⟩ : ∃ F,fewM cols rows lim = F := ⟨_,rfl⟩;have HF := hid_ (show F = decide (cols ≤ 260 ∧ (sizM rows : Int) ≤ lim) from hF.symm);rw [hF];clear hF;by_cases h1 : 260 < cols
 ·have hF : F = false := by rw [HF.out];exact decide_eq_false (by omega)
  subst hF;clear HF;go_enter Tryz.func101,Tryz.ntmps101
  go_wp2_with fail
  go_ret;exact ⟨rfl,HE.out⟩
 ·have h1' : cols ≤ 260 := by omega
  clear h1;by_cases h2 : lim < (rows.length : Int)
  ·have hF : F = false := by rw [HF.out];exact decide_eq_false (by unfold sizM;omega)
   subst hF;clear HF;go_enter Tryz.func101,Tryz.ntmps101
   go_wp2_with fail
   go_ret;exact ⟨rfl,HE.out⟩
  ·have h2' : (rows.length : Int) ≤ lim := by omega
   have b1 : decide (260 < cols) = false := by simp;omega
   have b2 : decide (lim < (rows.length : Int)) = false := by simp;omega
   clear h2;go_enter Tryz.func101,Tryz.ntmps101
   go_wp2_with fail
   generalize w.alloc (.cells #[.int .i64 cols,.slice za rows.length zc] 113) = w1 at *
   go_loopw [5,6] (fun l' i' wr => ∃ (i : Nat) (l : Int),i ≤ rows.length ∧ i' = .int .i64 i ∧ l' = .int .i64 l ∧ 0 ≤ l ∧ l ≤ 100000 ∧ Hid (l = lim - rows.length - (((rows.map List.length).take i).sum : Nat)) ∧ wr = w1) (fun _ i' _ => rows.length - (intOf i').toNat)
   case atStart => exact ⟨0,lim - rows.length,by omega,rfl,by go_num,by omega,by omega,hid_ (by simp),rfl⟩
   case round =>
    obtain ⟨i,l,hi,rfl,rfl,l1,l2,hl,rfl⟩ := hrel;by_cases hlt : i < rows.length
    ·obtain ⟨r,hr⟩ : ∃ r,rows[i]? = some r := ⟨_,List.getElem?_eq_getElem hlt⟩;have HS := hid_ (show ((rows.map List.length).take (i + 1)).sum = ((rows.map List.length).take i).sum + r.length from by
      rw [List.take_add_one,List.getElem?_map,hr];simp)
     have HT := hid_ (sum_take_le (rows.map List.length) (i + 1));obtain ⟨bb,o,rfl,hc⟩ := Z3.out (by omega);obtain ⟨u,c1,hu⟩ := hc i r hr;obtain ⟨ua,uc,rfl,u1,u2,u3⟩ := hu.open;unfold maxLen at u2;clear hc hu u3 hr;by_cases h3 : l < (r.length : Int)
     ·have hF : F = false := by
       rw [HF.out];have s1 := hl.out;have s2 := HS.out;have s3 := HT.out;exact decide_eq_false (by unfold sizM;omega)
      subst hF;clear HF HS HT hl;go_wp2_with fail
      go_ret;exact ⟨rfl,HE.out⟩
     ·have h3' : (r.length : Int) ≤ l := by omega
      have HL := hid_ (show l - r.length = lim - rows.length - (((rows.map List.length).take (i + 1)).sum : Nat) from by
       have s1 := hl.out;have s2 := HS.out;omega)
      clear h3 HS HT hl;go_wp2_with fail
      go_roundw
      case rel => exact ⟨i + 1,_,by omega,by go_num,(by first | rfl | trivial),by omega,by omega,HL,(by first | rfl | trivial)⟩
      case measure => simp [intOf];omega
    ·obtain rfl : i = rows.length := by omega
     have hF : F = true := by
      rw [HF.out];have s1 := hl.out;rw [List.take_of_length_le (by simp)] at s1;exact decide_eq_true ⟨h1',by unfold sizM;omega⟩
     subst hF;clear hl HF;go_wp2_with fail
     go_ret;exact ⟨rfl,HE.out⟩
end
end Go.Proofs.YtgdmlmhpineibaaGreat
