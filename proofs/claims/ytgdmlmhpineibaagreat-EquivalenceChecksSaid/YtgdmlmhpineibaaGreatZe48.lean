/- Walks of chapter 31's short, EquivalenceMaps and EquivalenceComposes. -/
import Derived.Test.YtgdmlmhpineibaaGreatZe15
import Derived.Test.YtgdmlmhpineibaaGreatZe20
import Derived.Test.YtgdmlmhpineibaaGreatZe21
import Derived.Test.YtgdmlmhpineibaaGreatZe22
import Derived.Test.YtgdmlmhpineibaaGreatZe24
import Derived.Test.YtgdmlmhpineibaaGreatZe35
import Derived.Test.YtgdmlmhpineibaaGreatZe37
import Derived.Test.YtgdmlmhpineibaaGreatZe39
import Derived.Test.YtgdmlmhpineibaaGreatZe41
import Derived.Test.YtgdmlmhpineibaaGreatZe42
import Derived.Test.YtgdmlmhpineibaaGreatZe44
import Derived.Test.YtgdmlmhpineibaaGreatZe46
import Derived.Test.YtgdmlmhpineibaaGreatZe47
namespace Go.Proofs.YtgdmlmhpineibaaGreat
set_option linter.unusedVariables false
set_option linter.unusedSimpArgs false
set_option maxRecDepth 100000
set_option maxHeartbeats 4000000
section
open Go.RowKit
end
section
open Go.RowKit
theorem PV.cut {p m R N c : Nat} {a : Nat → Nat → Int} {piv : List Nat} (h : PV p m R N a piv c) : PV p m piv.length N a piv c :=
 ⟨Nat.le_refl _,fun i hi => h.rng i (by have := h.le;omega),h.lt,h.one,fun j q i hq hi => h.zer j q i hq (by have := h.le;omega),fun i j h1 h2 _ => absurd h2 (by omega),h.lead,h.asc⟩
end
section
open Go.RowKit
section
variable {p m : Nat} {ml : List Int}
theorem elO_cl {N R : Nat} {a a' : Nat → Nat → Int} {piv : List Nat} (hp : 2 ≤ p) (h : ElO p m ml N R a a' piv) (f : Nat → Int) : Cl p m ml N piv.length a' f ↔ Cl p m ml N R a f := by
 obtain ⟨c,hc,hP,hend,hS⟩ := h;have hsol : ∀ x,Sol p m ml N piv.length a' x ↔ Sol p m ml N R a x := fun x => by
  rw [← hS x];exact ⟨fun h i hi => by
   by_cases hip : i < piv.length
   ·exact h i hip
   ·refine dt_zero hp fun j hj => ?_;rcases hend with h1 | h1
    ·omega
    ·exact hP.tail i j (by omega) hi (by omega),fun h i hi => h i (by have := hP.le;omega)⟩
 exact ⟨fun hcl x hx => hcl x ((hsol x).2 hx),fun hcl x hx => hcl x ((hsol x).1 hx)⟩
theorem rInS_any {mv : Value} (w : World) (hf : FSh p m ml) (hmv : ISl w mv ml) (K : Nat) (hK : K ≤ 64) {R : Nat} {a aa : Nat → Nat → Int} {pa : List Nat} (hR : R ≤ 256) (hel : ElO p m ml K R a aa pa) (rv : Value) (hr : MSl w rv (rowsL K pa.length aa)) (f : Nat → Int) (hfr : EntR p m K f) (v : Value) (hv : ISl w v (il K f)) :
  Calls Tryz.prog 146 #[.agg #[.int .i64 p,.int .i64 m,mv],rv,v] w fun r w' => BolR (Cl p m ml K R a f) r ∧ Ex w w' := by
 have hcl := elO_cl hf.p2 hel f;obtain ⟨c,hc,hP,hend,hS⟩ := hel;have hle := hP.le;have hk0 : 1 ≤ K ∨ pa.length = 0 := by
  by_cases h : pa.length = 0
  ·exact .inr h
  ·left;have := hP.lt 0 (pa[0]'(by omega)) (List.getElem?_eq_getElem _);omega
 refine (rHasR_any w hf hmv K pa.length hk0 (by omega) (by omega) aa (fun i => pa.getD i 0) (fun i hi => hP.fz hc hi) rv hr f v hv).mono ?_;rintro r w' ⟨rfl,hx⟩;refine ⟨⟨_,rfl,?_⟩,hx⟩;rw [rst_cl hf.p2 hf.m1 hP.cut hc rfl hfr,hcl]
theorem cmb_cmbK (hp : 2 ≤ p) (msg : List Int) (rows : List (List Int)) : ∀ k,cmb p m ml (rowsF rows) (fun i => msg.getD i 0) k = cmbK p m ml msg rows k
 | 0 => rfl
 | k + 1 => by
  rw [cmbK_succ hp];show (if msg.getD k 0 = 0 then _ else _) = _
  rw [cmb_cmbK hp msg rows k];split
  ·rename_i h0;funext j;rw [h0,kin_zero];unfold addF;split
   ·rfl
   ·obtain ⟨r1,r2⟩ := cmbK_rng (m := m) (ml := ml) hp msg rows k j;rw [kmul_zero (by omega),kadd_zero (by omega) (kin_lt (Nat.pow_pos (by omega)) _),kin_code r1 r2]
  ·rfl
theorem lis_iff (hf : FSh p m ml) (msg : List Int) (R : Nat) : lisG p m msg R = 0 ↔ ¬ (msg.length ≠ R ∨ (msg.any fun x => !isB (p ^ m) x) = true) := by
 unfold lisG;rw [entG_entS hf,ent_any];by_cases h1 : msg.length = R
 ·rw [if_neg (by omega)]
  cases h2 : (msg.any fun y => !isB (p ^ m) y) with
  | true => simp
  | false => simp [h1]
 ·rw [if_pos (by omega)];simp [h1]
theorem lis_val (hf : FSh p m ml) (msg : List Int) (R : Nat) : lisG p m msg R = 0 ∨ lisG p m msg R = 4 ∨ lisG p m msg R = 2 := by
 unfold lisG;rw [entG_entS hf,ent_any];split
 ·simp
 ·split <;> simp
variable {l1 l2 : List (List Int)} {n : Nat} {tl sc : List Int}
theorem Two.shw0 (h : Two p m ml n l1 l2) (hf : FSh p m ml) (hr : rngB tl n = true) (msg : List Int) : shwB p m ml l1 l2 tl sc 0 msg = true ↔ lisG p m msg l1.length = 0 ∧ ¬ Cl p m ml tl.length l2.length (fun i => seF tl (rowsF l2 i)) (mpF p m ml sc (cmbK p m ml msg l1 l1.length)) := by
 have m0 := misI_neg (p := p) (m := m) (ml := ml) h.hp h.hm (h.spR hr) (n := 1) (l := fun _ => mpF p m ml sc (cmbK p m ml msg l1 l1.length)) fun i _ => mpF_rng h.hp _ _ _;have e : shwB p m ml l1 l2 tl sc 0 msg = if msg.length ≠ l1.length ∨ (msg.any fun x => !isB (p ^ m) x) = true then false else decide (0 ≤ misI p m ml tl.length (spn p m ml tl.length (fun i => seF tl (rowsF l2 i)) l2.length) (fun _ => mpF p m ml sc (cmbK p m ml msg l1 l1.length)) 1) := by
  unfold shwB;simp
 rw [e,lis_iff hf];split
 ·rename_i h0;exact ⟨fun h => (by cases h),fun h => absurd h0 h.1⟩
 ·rename_i h0;rw [decide_eq_true_iff];exact ⟨fun h1 => ⟨h0,fun hc => by have := m0.2 fun _ _ => hc;omega⟩,fun h1 => Int.not_lt.1 fun h2 => h1.2 (m0.1 h2 0 (by omega))⟩
theorem Two.shw1 (h : Two p m ml n l1 l2) (hf : FSh p m ml) (hr : rngB tl n = true) (msg : List Int) : shwB p m ml l1 l2 tl sc 1 msg = true ↔ lisG p m msg l2.length = 0 ∧ ¬ Cl p m ml tl.length l1.length (fun i => mpF p m ml sc (rowsF l1 i)) (seF tl (cmbK p m ml msg l2 l2.length)) := by
 have m0 := misI_neg (p := p) (m := m) (ml := ml) h.hp h.hm (h.spL tl.length sc) (n := 1) (l := fun _ => seF tl (cmbK p m ml msg l2 l2.length)) fun i _ => seF_rng hr fun j _ => cmbK_rng h.hp _ _ _ _;have e : shwB p m ml l1 l2 tl sc 1 msg = if msg.length ≠ l2.length ∨ (msg.any fun x => !isB (p ^ m) x) = true then false else decide (0 ≤ misI p m ml tl.length (spn p m ml tl.length (fun i => mpF p m ml sc (rowsF l1 i)) l1.length) (fun _ => seF tl (cmbK p m ml msg l2 l2.length)) 1) := by
  unfold shwB;simp
 rw [e,lis_iff hf];split
 ·rename_i h0;exact ⟨fun h => (by cases h),fun h => absurd h0 h.1⟩
 ·rename_i h0;rw [decide_eq_true_iff];exact ⟨fun h1 => ⟨h0,fun hc => by have := m0.2 fun _ _ => hc;omega⟩,fun h1 => Int.not_lt.1 fun h2 => h1.2 (m0.1 h2 0 (by omega))⟩
end
end
section
open Go.RowKit
theorem chk_can {p m : Int} {ml : List Int} {cols : Int} {rows : List (List Int)} {e : Int} (h : ChkOut p m ml cols rows e) : canE p m ml cols rows = e := by
 unfold canE;rcases h with ⟨pn,mn,rfl,rfl,h3,h4⟩ | ⟨h1,h2⟩
 ·rw [if_neg (fun h => h ((chk_iff _ _ _).2 h3)),h4];rfl
 ·rw [if_pos (fun h => h1 ((chk_iff _ _ _).1 h)),h2]
theorem rowsL_rowsF {N : Nat} {rows : List (List Int)} (h : ∀ r ∈ rows,r.length = N) : rowsL N rows.length (rowsF rows) = rows := by
 apply List.ext_getElem?;intro i;by_cases hi : i < rows.length
 ·rw [rowsL_get hi,List.getElem?_eq_getElem hi,rowsF_il (List.getElem?_eq_getElem hi) (h _ (List.getElem_mem hi))]
 ·rw [List.getElem?_eq_none (by rw [rowsL_len];omega),List.getElem?_eq_none (by omega)]
theorem rowsF_rng {p m N : Nat} {rows : List (List Int)} (h : ∀ r ∈ rows,r.length = N ∧ entS (p ^ m) r = 0) : Rng p m rows.length N (rowsF rows) := fun i hi j hj => by
 have hrr : rows[i]? = some rows[i] := List.getElem?_eq_getElem hi;obtain ⟨h1,h2⟩ := h _ (List.getElem_mem hi);have e : rowsF rows i j = rows[i].getD j 0 := by unfold rowsF;rw [List.getD_eq_getElem?_getD (l := rows),hrr];rfl
 rw [e];refine entS_rng h2 _ ?_;rw [List.getD_eq_getElem?_getD,List.getElem?_eq_getElem (by omega)];exact List.getElem_mem _
theorem rChk10_any (p m : Int) (ml : List Int) (mv : Value) (w : World) (hmv : ISl w mv ml) (cols : Int) (rows : List (List Int)) (v : Value) (hv : MSl w v rows) :
  Calls Tryz.prog 78 #[.agg #[.int .i64 p,.int .i64 m,mv],.agg #[.int .i64 cols,v]] w fun r w' => (∃ e : Int,r = .returned (.int .i64 e) ∧ SpcO p m ml cols rows e) ∧ Ex w w' := by
 obtain ⟨g0,g1,g2,e0,gsz⟩ := box_facts w p m mv;have HCH := hid_ (fun (w' : World) (h : Ex w w') => rChkM_any p m ml mv w' (hmv.ex h) cols rows v (hv.ex h));have HMV := hid_ hmv;have HV := hid_ hv;obtain ⟨za,zc,rfl,z1,z2,z3⟩ := hv.open;clear z1 z3;unfold maxLen at z2;obtain ⟨ma,mc,rfl,-,m2,-⟩ := hmv.open;unfold maxLen at m2;obtain ⟨xb,hxb⟩ : ∃ xb,w.heap.size = xb := ⟨_,rfl⟩;rw [hxb] at g0 g1 g2 gsz;clear hmv hv;go_enter Tryz.func78,Tryz.ntmps78
 go_wp2_with fail
 generalize w.alloc (.cells #[.int .i64 p,.int .i64 m,.slice ma ml.length mc] 24) = wA at *;obtain ⟨a0,a1,ea⟩ := boxM2_facts wA cols (.slice za rows.length zc);rw [gsz] at a0 a1;generalize wA.alloc (.cells #[.int .i64 cols,.slice za rows.length zc] 113) = wB at *;have A0 := hid_ a0;have A1 := hid_ a1;have G0 := hid_ (ea.cell g0);have G1 := hid_ (ea.cell g1);have G2 := hid_ (ea.cell g2);have HE := hid_ (e0.trans ea);clear g0 g1 g2 a0 a1 e0 ea gsz;refine (HCH.out wB HE.out).mono ?_;rintro e w2 ⟨e,rfl,hc,hx2⟩;have HX2 := hid_ (HE.out.trans hx2);have A0 := hid_ (hx2.cell A0.out);have A1 := hid_ (hx2.cell A1.out);have G0 := hid_ (hx2.cell G0.out);have G1 := hid_ (hx2.cell G1.out);have G2 := hid_ (hx2.cell G2.out);clear hx2 HE HCH;have hce := chk_can hc;by_cases he : e = 0
 ·subst he;rcases hc with ⟨pn,mn,rfl,rfl,hfb,hmk⟩ | ⟨_,h⟩
  ·obtain ⟨s1,s2,s3,s4⟩ := mchk_shape hmk.symm;obtain ⟨N,rfl⟩ : ∃ N : Nat,cols = N := ⟨cols.toNat,by omega⟩;have hrows : ∀ r ∈ rows,r.length = N ∧ entS (pn ^ mn) r = 0 := fun r hr => by obtain ⟨h1,h2⟩ := s4 r hr;exact ⟨by omega,h2⟩
   have hsh : FSh pn mn ml ∧ IsF pn mn (lw ml) := by
    obtain ⟨pn',mn',e1,e2,h3,h4,h5⟩ := hfb;obtain rfl : pn' = pn := by omega
    obtain rfl : mn' = mn := by omega
    exact ⟨h3,h5⟩
   have HCN := hid_ (rCanon_any (mv := .slice ma ml.length mc) w2 hsh.1 hsh.2 (HMV.out.ex HX2.out) N rows.length (by omega) s3 (rowsF rows) (rowsF_rng hrows) _ (by rw [rowsL_rowsF fun r hr => (hrows r hr).1];exact HV.out.ex HX2.out));have HSP := hid_ (fun piv a' e (hel : ElO pn mn ml N rows.length (rowsF rows) a' piv) (h : e = if rowsL N piv.length a' = rows then 0 else 5) => show SpcO pn mn ml N rows e from .inr ⟨hce,pn,mn,N,piv,a',rfl,rfl,rfl,hfb,hmk.symm,hel,h⟩);have c0 := A0.out;have c1 := A1.out;have c2 := G0.out;have c3 := G1.out;have c4 := G2.out;clear hce hfb hmk s1 s2 s3 s4 hrows hsh;go_wp2_with fail
   refine HCN.out.mono ?_;rintro e w3 ⟨piv,pv,rv,a',rfl,hel,hrv,hpv,hx3⟩;have HX3 := hid_ (HX2.out.trans hx3);have c1 := hx3.cell A1.out;obtain ⟨L,hL⟩ : ∃ L,rowsL N piv.length a' = L := ⟨_,rfl⟩;have HSR := hid_ (SameRows_any w3 L rows _ _ (by rw [← hL];exact hrv) (HV.out.ex HX3.out));have HS2 := hid_ (fun e => HSP.out piv a' e hel);rw [hL] at HS2;obtain ⟨ra,rc,hre,-,r2,-⟩ := hrv.open;rw [hL] at hre;subst hre;obtain ⟨pa,pc,rfl,-,p2,-⟩ := hpv.open;clear hel hrv hpv hx3 hL r2 p2 HCN HSP;by_cases hLR : L = rows
   ·rw [decide_eq_true hLR] at HSR;have HSP2 := hid_ (HS2.out 0 (by rw [if_pos hLR]));clear hLR HS2;go_wp2_with (go_at_call 77;refine HSR.out.mono ?_;rintro e w4 ⟨rfl,n3,hw3⟩;subst hw3)
    have HX4 := hid_ (HX3.out.drewN n3);go_wp2_with fail
    go_ret;exact ⟨⟨_,rfl,HSP2.out⟩,HX4.out⟩
   ·rw [decide_eq_false hLR] at HSR;have HSP2 := hid_ (HS2.out 5 (by rw [if_neg hLR]));clear hLR HS2;go_wp2_with (go_at_call 77;refine HSR.out.mono ?_;rintro e w4 ⟨rfl,n3,hw3⟩;subst hw3)
    have HX4 := hid_ (HX3.out.drewN n3);go_wp2_with fail
    go_ret;exact ⟨⟨_,rfl,HSP2.out⟩,HX4.out⟩
  ·exact absurd h (by decide)
 ·have kb : (e != 0) = true := by simpa using he
  have HSP := hid_ (show SpcO p m ml cols rows e from .inl ⟨by rw [hce];exact he,hce.symm⟩);clear hc hce;go_wp2_with fail
  go_ret;exact ⟨⟨_,rfl,HSP.out⟩,HX2.out⟩
end
section
open Go.RowKit
section
variable {p m : Nat} {ml : List Int} {n : Nat} {l1 l2 : List (List Int)} {pl sl tl sc : List Int} {nd : Nd}
variable {step : Nat × List Nd → List Int → List Int → (Nat × List Nd) × Int} {b : Nat}
end
end
section
open Go.RowKit
theorem codO_two {p m n : Int} {ml : List Int} {rows : List (List Int)} (h : CodO p m ml n rows 0) : ∃ pn mn N : Nat,p = pn ∧ m = mn ∧ n = N ∧ FSh pn mn ml ∧ IsF pn mn (lw ml) ∧ 1 ≤ N ∧ N ≤ 64 ∧ rows.length ≤ 256 ∧ ∀ r ∈ rows,r.length = N ∧ entS (pn ^ mn) r = 0 := by
 obtain ⟨hF,hn1,hn2⟩ := codO_fld h;rcases h with ⟨_,h⟩ | ⟨_,h1,h2⟩ | ⟨h1,h2,h3⟩
 ·cases h
 ·exact absurd h2.symm h1
 ·rcases h3 with ⟨h3,h4⟩ | ⟨_,pn,mn,N,piv,a',rfl,rfl,rfl,_,hm,_⟩
  ·exact absurd h4.symm h3
  ·obtain ⟨p1,m1,e1,e2,hsh,_,hI⟩ := hF;obtain rfl : pn = p1 := by omega
   obtain rfl : mn = m1 := by omega
   obtain ⟨_,_,s3,s4⟩ := mchk_shape hm;exact ⟨pn,mn,N,rfl,rfl,rfl,hsh,hI,by omega,by omega,s3,fun r hr => ⟨by have := (s4 r hr).1;omega,(s4 r hr).2⟩⟩
end
section
open Go.RowKit
section
variable {p m : Nat} {ml : List Int} {n : Nat} {l1 l2 : List (List Int)} {pl sl : List Int}
end
theorem ordS_nat {p m : Nat} {ml : List Int} (h : FSh p m ml) : ordS p m = ((p ^ m : Nat) : Int) := by
 unfold ordS;have h1 : ((p : Int) ^ (m : Int).toNat) = ((p ^ m : Nat) : Int) := by simp
 have h2 := h.p2;have h3 := h.m1;have h4 := h.m8;have h5 := h.q;rw [h1,if_pos (by omega)]
end
section
open Go.RowKit
theorem rChk12_any (w : World) (p m : Int) (ml : List Int) (mv : Value) (hmv : ISl w mv ml) (n : Int) (rows : List (List Int)) (v : Value) (hv : MSl w v rows) :
  Calls Tryz.prog 40 #[.agg #[.int .i64 p,.int .i64 m,mv,.int .i64 n,v]] w fun r w' => (∃ e : Int,r = .returned (.int .i64 e) ∧ CodO p m ml n rows e) ∧ Ex w w' := by
 obtain ⟨a0,a1,a2,a3,a4,ea⟩ := boxC_facts w p m mv n v;have HFC := hid_ (fun (w' : World) (h : Ex w w') => rCheck_any p m ml mv w' (hmv.ex h));have HSC := hid_ (fun (w' : World) (h : Ex w w') => rChk10_any p m ml mv w' (hmv.ex h) n rows v (hv.ex h));obtain ⟨za,zc,rfl,-,z2,-⟩ := hv.open;unfold maxLen at z2;obtain ⟨ma,mc,rfl,-,m2,-⟩ := hmv.open;unfold maxLen at m2;have HE := hid_ ea;obtain ⟨F,hF⟩ : ∃ F,chkS p m ml = F := ⟨_,rfl⟩;have hF1 : F = 0 ∨ F = 1 := by
  rw [← hF];unfold chkS;split <;> omega
 have HCO := hid_ (show ∀ e,((F ≠ 0 ∧ e = 1) ∨ (F = 0 ∧ lenE n ≠ 0 ∧ e = lenE n) ∨ (F = 0 ∧ lenE n = 0 ∧ SpcO p m ml n rows e)) → CodO p m ml n rows e from fun e h => by unfold CodO;rw [hF];exact h);rw [hF] at HFC;clear hmv hv ea hF;go_enter Tryz.func40,Tryz.ntmps40
 go_wp2_with fail
 obtain ⟨xb,hxb⟩ : ∃ xb,w.heap.size = xb := ⟨_,rfl⟩;rw [hxb] at a0 a1 a2 a3 a4
 try simp only [hxb]
 clear hxb;generalize w.alloc (.cells #[.int .i64 p,.int .i64 m,.slice ma ml.length mc,.int .i64 n,.slice za rows.length zc] 47) = w1 at *;refine (HFC.out w1 HE.out).mono ?_;rintro e w2 ⟨rfl,hx2⟩;have A0 := hid_ (hx2.cell a0);have A1 := hid_ (hx2.cell a1);have A2 := hid_ (hx2.cell a2);have A3 := hid_ (hx2.cell a3);have A4 := hid_ (hx2.cell a4);have HX2 := hid_ (HE.out.trans hx2);clear a0 a1 a2 a3 a4 hx2 HFC HE;rcases hF1 with h1 | h1
 ·subst h1;have a3 := A3.out;by_cases h2 : n < 1
  ·have HR := hid_ (HCO.out 4 (.inr (.inl ⟨rfl,by unfold lenE;rw [if_pos (.inl h2)];decide,by unfold lenE;rw [if_pos (.inl h2)]⟩)));clear HSC HCO;go_wp2_with fail
   go_ret;exact ⟨⟨_,rfl,HR.out⟩,HX2.out⟩
  ·by_cases h3 : 64 < n
   ·have HR := hid_ (HCO.out 4 (.inr (.inl ⟨rfl,by unfold lenE;rw [if_pos (.inr h3)];decide,by unfold lenE;rw [if_pos (.inr h3)]⟩)));clear HSC HCO;have b1 : decide (n < 1) = false := by simp;omega
    go_wp2_with fail
    go_ret;exact ⟨⟨_,rfl,HR.out⟩,HX2.out⟩
   ·have HCO2 := hid_ (fun e h => HCO.out e (.inr (.inr ⟨rfl,by unfold lenE;rw [if_neg (by omega)],h⟩)));have b1 : decide (n < 1) = false := by simp;omega
    have b2 : decide (64 < n) = false := by simp;omega
    have a0 := A0.out;have a1 := A1.out;have a2 := A2.out;have a4 := A4.out;clear HCO;go_wp2_with fail
    refine (HSC.out w2 HX2.out).mono ?_;rintro e w3 ⟨⟨e,rfl,he⟩,hx3⟩;have HR := hid_ (HCO2.out e he);have HX3 := hid_ (HX2.out.trans hx3);clear he hx3;go_wp2_with fail
    go_ret;exact ⟨⟨_,rfl,HR.out⟩,HX3.out⟩
 ·subst h1;have HR := hid_ (HCO.out 1 (.inl ⟨by decide,rfl⟩));clear HSC HCO;go_wp2_with fail
  go_ret;exact ⟨⟨_,rfl,HR.out⟩,HX2.out⟩
end
section
open Go.RowKit
def FitO (p m : Int) (ml : List Int) (n : Int) (rows : List (List Int)) (p' m' : Int) (ml' : List Int) (n' : Int) (rows' : List (List Int)) (e : Int) : Prop :=
 (CodO p m ml n rows e ∧ e ≠ 0) ∨ (CodO p m ml n rows 0 ∧ CodO p' m' ml' n' rows' e ∧ e ≠ 0) ∨
 (CodO p m ml n rows 0 ∧ CodO p' m' ml' n' rows' 0 ∧ e = if samF p m ml p' m' ml' = true ∧ n = n' then 0 else 10)
theorem rFit_any (w : World) (p m : Int) (ml : List Int) (mv : Value) (hmv : ISl w mv ml) (n : Int) (rows : List (List Int)) (v : Value) (hv : MSl w v rows)
  (p' m' : Int) (ml' : List Int) (mv' : Value) (hmv' : ISl w mv' ml') (n' : Int) (rows' : List (List Int)) (v' : Value) (hv' : MSl w v' rows') :
  Calls Tryz.prog 105 #[.agg #[.int .i64 p,.int .i64 m,mv,.int .i64 n,v],.agg #[.int .i64 p',.int .i64 m',mv',.int .i64 n',v']] w fun r w' => (∃ e : Int,r = .returned (.int .i64 e) ∧ FitO p m ml n rows p' m' ml' n' rows' e) ∧ Ex w w' := by
 obtain ⟨a0,a1,a2,a3,a4,ea⟩ := boxC_facts w p m mv n v;have HC1 := hid_ (fun (w' : World) (h : Ex w w') => rChk12_any w' p m ml mv (hmv.ex h) n rows v (hv.ex h));have HC2 := hid_ (fun (w' : World) (h : Ex w w') => rChk12_any w' p' m' ml' mv' (hmv'.ex h) n' rows' v' (hv'.ex h));have HSM := hid_ (fun (w' : World) (h : Ex w w') => rFSame_any w' p m ml mv (hmv.ex h) p' m' ml' mv' (hmv'.ex h));obtain ⟨za,zc,rfl,-,-,-⟩ := hv.open;obtain ⟨ma,mc,rfl,-,-,-⟩ := hmv.open;obtain ⟨za',zc',rfl,-,-,-⟩ := hv'.open;obtain ⟨ma',mc',rfl,-,-,-⟩ := hmv'.open;have HF0 := hid_ (fun e => show (FitO p m ml n rows p' m' ml' n' rows' e ↔ _) from Iff.rfl);obtain ⟨S,hS⟩ : ∃ S,samF p m ml p' m' ml' = S := ⟨_,rfl⟩;have HF := hid_ (show ∀ e,((CodO p m ml n rows e ∧ e ≠ 0) ∨ (CodO p m ml n rows 0 ∧ CodO p' m' ml' n' rows' e ∧ e ≠ 0) ∨
  (CodO p m ml n rows 0 ∧ CodO p' m' ml' n' rows' 0 ∧ e = if S = true ∧ n = n' then 0 else 10)) → FitO p m ml n rows p' m' ml' n' rows' e from fun e h => by unfold FitO;rw [hS];exact h)
 rw [hS] at HSM;clear hmv hv hmv' hv' HF0 hS;obtain ⟨xb,hxb⟩ : ∃ xb,w.heap.size = xb := ⟨_,rfl⟩;have asz : (w.alloc (.cells #[.int .i64 p,.int .i64 m,.slice ma ml.length mc,.int .i64 n,.slice za rows.length zc] 47)).heap.size = xb + 1 := by simp [hxb]
 rw [hxb] at a0 a1 a2 a3 a4;go_enter Tryz.func105,Tryz.ntmps105
 go_wp2_with fail
 try simp only [hxb]
 have HXB := hid_ hxb;clear hxb;generalize w.alloc (.cells #[.int .i64 p,.int .i64 m,.slice ma ml.length mc,.int .i64 n,.slice za rows.length zc] 47) = wA at *;obtain ⟨b0,b1,b2,b3,b4,eb⟩ := boxC_facts wA p' m' (.slice ma' ml'.length mc') n' (.slice za' rows'.length zc');rw [asz] at b0 b1 b2 b3 b4
 try simp only [asz]
 generalize wA.alloc (.cells #[.int .i64 p',.int .i64 m',.slice ma' ml'.length mc',.int .i64 n',.slice za' rows'.length zc'] 47) = wB at *;have HE := hid_ (ea.trans eb);have HA := hid_ (And.intro (eb.cell a0) (And.intro (eb.cell a1) (And.intro (eb.cell a2) (And.intro (eb.cell a3) (eb.cell a4)))));have HB := hid_ (And.intro b0 (And.intro b1 (And.intro b2 (And.intro b3 b4))));clear a0 a1 a2 a3 a4 b0 b1 b2 b3 b4 ea eb asz;refine (HC1.out wB HE.out).mono ?_;rintro e w2 ⟨⟨e,rfl,he⟩,hx2⟩;have HO1 := hid_ he;have HX2 := hid_ (HE.out.trans hx2);obtain ⟨a0,a1,a2,a3,a4⟩ := HA.out;obtain ⟨b0,b1,b2,b3,b4⟩ := HB.out;have a0 := hx2.cell a0;have a1 := hx2.cell a1;have a2 := hx2.cell a2;have a3 := hx2.cell a3;have a4 := hx2.cell a4;have b0 := hx2.cell b0;have b1 := hx2.cell b1;have b2 := hx2.cell b2;have b3 := hx2.cell b3;have b4 := hx2.cell b4;have HA := hid_ (And.intro a0 (And.intro a1 (And.intro a2 (And.intro a3 a4))));have HB := hid_ (And.intro b0 (And.intro b1 (And.intro b2 (And.intro b3 b4))));clear he hx2 HC1 HE;by_cases h1 : e = 0
 ·subst h1;clear a0 a1 a2 a3 a4;go_wp2_with fail
  refine (HC2.out w2 HX2.out).mono ?_;rintro e w3 ⟨⟨e,rfl,he⟩,hx3⟩;have HO2 := hid_ he;have HX3 := hid_ (HX2.out.trans hx3);obtain ⟨a0,a1,a2,a3,a4⟩ := HA.out;have a0 := hx3.cell a0;have a1 := hx3.cell a1;have a2 := hx3.cell a2;have a3 := hx3.cell a3;have b0 := hx3.cell b0;have b1 := hx3.cell b1;have b2 := hx3.cell b2;have b3 := hx3.cell b3;have HN := hid_ (And.intro a3 b3);clear he hx3 HC2 b4 a4 HA HB a3 b3;by_cases h2 : e = 0
  ·subst h2;have HR := hid_ (fun e he => HF.out e (.inr (.inr ⟨HO1.out,HO2.out,he⟩)));clear HF HO1 HO2;go_wp2_with fail
   refine (HSM.out w3 HX3.out).mono ?_;rintro e w4 ⟨rfl,hx4⟩;have a3 := hx4.cell HN.out.1;have b3 := hx4.cell HN.out.2;have HX4 := hid_ (HX3.out.trans hx4);clear hx4 HSM;cases S
   ·have HR2 := hid_ (HR.out 10 (by simp));clear HR a0 a1 a2 b0 b1 b2;go_wp2_with fail
    go_ret;exact ⟨⟨_,rfl,HR2.out⟩,HX4.out⟩
   ·by_cases hn : n = n'
    ·have HR2 := hid_ (HR.out 0 (by simp [hn]));subst hn;have kb : (n != n) = false := by simp
     clear HR a0 a1 a2 b0 b1 b2;go_wp2_with fail
     go_ret;exact ⟨⟨_,rfl,HR2.out⟩,HX4.out⟩
    ·have HR2 := hid_ (HR.out 10 (by simp [hn]));have kb : (n != n') = true := by simpa using hn
     clear HR a0 a1 a2 b0 b1 b2;go_wp2_with fail
     go_ret;exact ⟨⟨_,rfl,HR2.out⟩,HX4.out⟩
  ·have HR := hid_ (HF.out e (.inr (.inl ⟨HO1.out,HO2.out,h2⟩)));have kb : (e == 0) = false := by simpa using h2
   clear HF HO1 HO2 HSM a0 a1 a2 b0 b1 b2;go_wp2_with fail
   go_ret;exact ⟨⟨_,rfl,HR.out⟩,HX3.out⟩
 ·have HR := hid_ (HF.out e (.inl ⟨HO1.out,h1⟩));have kb : (e == 0) = false := by simpa using h1
  clear HF HO1 HSM HC2 a0 a1 a2 a3 a4 b0 b1 b2 b3 b4;go_wp2_with fail
  go_ret;exact ⟨⟨_,rfl,HR.out⟩,HX2.out⟩
end
end Go.Proofs.YtgdmlmhpineibaaGreat
