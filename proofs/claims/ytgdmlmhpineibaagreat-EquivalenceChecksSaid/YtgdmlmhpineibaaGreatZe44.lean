/- Plain: the rows of a Code value are determined; the examples of chapter 31, computed. -/
import Derived.Deep.CutRange
import Derived.Deep.RegionHeld3
import Derived.Test.YtgdmlmhpineibaaGreatZe08
import Derived.Test.YtgdmlmhpineibaaGreatZe16
import Derived.Test.YtgdmlmhpineibaaGreatZe20
import Derived.Test.YtgdmlmhpineibaaGreatZe25
import Derived.Test.YtgdmlmhpineibaaGreatZe27
import Derived.Test.YtgdmlmhpineibaaGreatZe28
import Derived.Test.YtgdmlmhpineibaaGreatZe38
import Derived.Test.YtgdmlmhpineibaaGreatZe40
import Derived.Test.YtgdmlmhpineibaaGreatZe41
import Derived.Test.YtgdmlmhpineibaaGreatZe42
import Derived.Test.YtgdmlmhpineibaaGreatZe43
namespace Go.Proofs.YtgdmlmhpineibaaGreat
set_option linter.unusedVariables false
set_option linter.unusedSimpArgs false
set_option maxRecDepth 100000
set_option maxHeartbeats 4000000
section
open Go.RowKit
theorem elO_uniq {p m : Nat} {ml : List Int} {N R R2 : Nat} {a b a1 a2 : Nat → Nat → Int} {piv1 piv2 : List Nat} (hp : 2 ≤ p) (hm : 1 ≤ m) (hab : ∀ x,Sol p m ml N R a x ↔ Sol p m ml N R2 b x) (h1 : ElO p m ml N R a a1 piv1) (h2 : ElO p m ml N R2 b a2 piv2) : rowsL N piv1.length a1 = rowsL N piv2.length a2 ∧ piv1 = piv2 := by
 obtain ⟨c1,x1,y1,z1,s1⟩ := h1;obtain ⟨c2,x2,y2,z2,s2⟩ := h2;obtain ⟨e1,e2⟩ := rr_uniq (ml := ml) hp hm ⟨c1,x1,y1,z1⟩ ⟨c2,x2,y2,z2⟩ fun x => ((s1 x).trans (hab x)).trans (s2 x).symm;subst e1;refine ⟨List.map_congr_left fun i hi => List.map_congr_left fun j hj => e2 i (List.mem_range.1 hi) j (List.mem_range.1 hj),rfl⟩
theorem elO_self {p m : Nat} {ml : List Int} {N R : Nat} {a : Nat → Nat → Int} {piv : List Nat} {c : Nat} (h : PV p m R N a piv c) (hc : c ≤ N) (hr : piv.length = R) : ElO p m ml N R a a piv := ⟨c,hc,h,.inl hr,fun x => Iff.rfl⟩
theorem codO_uniq {p m n : Int} {ml : List Int} {rows : List (List Int)} {e e' : Int} (h : CodO p m ml n rows e) (h' : CodO p m ml n rows e') : e = e' := by
 rcases h with ⟨a,rfl⟩ | ⟨a,b,rfl⟩ | ⟨a,b,h⟩ <;> rcases h' with ⟨a',rfl⟩ | ⟨a',b',rfl⟩ | ⟨a',b',h'⟩ <;> first | rfl | contradiction | skip
 rcases h with ⟨c,rfl⟩ | ⟨c,pn,mn,N,piv,a1,rfl,rfl,rfl,hF,_,hE,rfl⟩ <;> rcases h' with ⟨c',rfl⟩ | ⟨c',pn',mn',N',piv',a1',e1,e2,e3,hF',_,hE',rfl⟩ <;> first | rfl | contradiction | skip
 obtain rfl : pn' = pn := by omega
 obtain rfl : mn' = mn := by omega
 obtain rfl : N' = N := by omega
 obtain ⟨p1,m1,e1,e2,hsh,_⟩ := hF;obtain rfl : p1 = pn' := by omega
 obtain rfl : m1 = mn' := by omega
 rw [(elO_uniq hsh.p2 hsh.m1 (fun _ => Iff.rfl) hE hE').1]
theorem pv_one {p m N q : Nat} {r : List Int} (hq : q < N) (h0 : ∀ j,j < N → 0 ≤ r.getD j 0 ∧ r.getD j 0 < ((p ^ m : Nat) : Int)) (h1 : r.getD q 0 = 1) (h2 : ∀ k,k < q → r.getD k 0 = 0) : PV p m 1 N (rowsF [r]) [q] (q + 1) where
 le := by simp
 rng := fun i hi j hj => by
  obtain rfl : i = 0 := by omega
  exact h0 j hj
 lt := fun j q' h => by
  rcases j with _ | j
  ·simp at h;omega
  ·simp at h
 one := fun j q' h => by
  rcases j with _ | j
  ·simp at h;subst h;exact h1
  ·simp at h
 zer := fun j q' i h hi hne => by
  rcases j with _ | j
  ·omega
  ·simp at h
 tail := fun i j h hi _ => by simp at h;omega
 lead := fun j q' k h hk => by
  rcases j with _ | j
  ·simp at h;subst h;exact h2 k hk
  ·simp at h
 asc := fun i j q' r' hij h h' => by
  rcases j with _ | j
  ·omega
  ·simp at h'
theorem il_row {N : Nat} {r : List Int} (h : r.length = N) : il N (rowsF [r] 0) = r := by
 subst h;refine List.ext_getElem? fun j => ?_;by_cases hj : j < r.length
 ·rw [il_get hj,List.getElem?_eq_getElem hj];show some (r.getD j 0) = _
  rw [List.getD_eq_getElem?_getD,List.getElem?_eq_getElem hj];rfl
 ·rw [List.getElem?_eq_none (by rw [il_len];omega),List.getElem?_eq_none (by omega)]
theorem codO_one {p m N q : Nat} {ml : List Int} {r : List Int} {e : Int} (hF : FldB p m ml) (hc : canE p m ml N [r] = 0) (hl : lenE N = 0) (hk : mchkS (p ^ m) N [r] = 0) (hr : r.length = N) (hv : PV p m 1 N (rowsF [r]) [q] (q + 1)) (hq : q < N) (h : CodO p m ml N [r] e) : e = 0 := by
 have hck : chkS p m ml = 0 := by
  apply Classical.byContradiction;intro h;unfold canE at hc;rw [if_pos h] at hc;cases hc
 refine codO_uniq h (.inr (.inr ⟨hck,hl,.inr ⟨hc,p,m,N,[q],rowsF [r],rfl,rfl,rfl,hF,hk,elO_self hv (by omega) rfl,?_⟩⟩));rw [if_pos];show [il N (rowsF [r] 0)] = [r]
 rw [il_row hr]
def eC : CdV := ⟨2,1,[],3,[[1,1,0]]⟩
def eD : CdV := ⟨2,1,[],3,[[0,1,1]]⟩
theorem e21 : FldB 2 1 [] := ⟨2,1,rfl,rfl,⟨by omega,by omega,by omega,by decide,rfl,by intro x hx;cases hx⟩,by decide,(field_iff (p := 2) (m := 1) (ml := []) ⟨by omega,by omega,by omega,by decide,rfl,by intro x hx;cases hx⟩ (by decide)).2 (.inl rfl)⟩
theorem eC_pv : PV 2 1 1 3 (rowsF [[1,1,0]]) [0] 1 := pv_one (by omega) (by decide) rfl (by decide)
theorem eD_pv : PV 2 1 1 3 (rowsF [[0,1,1]]) [1] 2 := pv_one (by omega) (by decide) rfl (by decide)
theorem eC_cod {e : Int} (h : CodO 2 1 [] 3 [[1,1,0]] e) : e = 0 := codO_one (p := 2) (m := 1) (N := 3) e21 (by decide +kernel) (by decide +kernel) (by decide +kernel) rfl eC_pv (by omega) h
theorem eD_cod {e : Int} (h : CodO 2 1 [] 3 [[0,1,1]] e) : e = 0 := codO_one (p := 2) (m := 1) (N := 3) e21 (by decide +kernel) (by decide +kernel) (by decide +kernel) rfl eD_pv (by omega) h
def rfT (x : Rf) : Int × Int × Int × List Int := (x.tp,x.sc,x.side,x.msg)
theorem rfT_inj {l l' : List Rf} (h : l.map rfT = l'.map rfT) : l = l' := by
 induction l generalizing l' with
 | nil => cases l' with
  | nil => rfl
  | cons y t => simp at h
 | cons x s ih => cases l' with
  | nil => simp at h
  | cons y t =>
   rw [List.map_cons,List.map_cons] at h;injection h with h1 h2;rw [ih h2];cases x;cases y
   simp only [rfT,Prod.mk.injEq] at h1;obtain ⟨rfl,rfl,rfl,rfl⟩ := h1;rfl
theorem e_st0 : stE 0 0 (samF eC.p eC.m eC.ml eD.p eD.m eD.ml) eC.n eD.n [] [] (eC.p.toNat ^ eC.m.toNat) = 0 := by decide +kernel
theorem e_st1 : stE 0 0 (samF eC.p eC.m eC.ml eD.p eD.m eD.ml) eC.n eD.n [0] [1] (eC.p.toNat ^ eC.m.toNat) = 0 := by decide +kernel
theorem e_st2 : stE 0 0 (samF eC.p eC.m eC.ml eC.p eC.m eC.ml) eC.n eC.n [0] [1] (eC.p.toNat ^ eC.m.toNat) = 0 := by decide +kernel
theorem e_find : fndE 0 (fndS eC eD [] []) = 0 ∧ (fndM 0 (fndS eC eD [] [])).perm = [1,2,0] ∧ (fndM 0 (fndS eC eD [] [])).scale = [1,1,1] ∧ (fndM 0 (fndS eC eD [] [])).frob = 0 := by decide +kernel
theorem e_find1 : fndE 0 (fndS eC eD [0] [1]) = 11 := by decide +kernel
theorem e_ref : rftE 0 (fndS eC eD [0] [1]) = 0 := by decide +kernel
theorem e_refL : rftL 0 (fndS eC eD [0] [1]) = [⟨0,0,0,[1]⟩] := rfT_inj (by decide +kernel)
theorem e_ref1 : rftE 0 (fndS eC eD [] []) = 11 := by decide +kernel
theorem e_wrd : wrdE 3 1 [] [1,0] [2,1] 0 [1,2] = 0 ∧ wrdL 3 1 [] [1,0] [2,1] 0 [1,2] = [2,2] := by decide +kernel
theorem e_inv : monS 3 1 [] 2 [1,0] [2,1] 0 = 0 ∧ (invM 3 1 [] [1,0] [2,1] 0).perm = [1,0] ∧ (invM 3 1 [] [1,0] [2,1] 0).scale = [1,2] ∧ (invM 3 1 [] [1,0] [2,1] 0).frob = 0 := by decide +kernel
theorem e_cmp : cmpE 3 1 [] [1,0] [2,1] 0 [1,0] [1,2] 0 = 0 ∧ (cmpM 3 1 [] [1,0] [2,1] 0 [1,0] [1,2] 0).perm = [0,1] ∧ (cmpM 3 1 [] [1,0] [2,1] 0 [1,0] [1,2] 0).scale = [1,1] ∧ (cmpM 3 1 [] [1,0] [2,1] 0 [1,0] [1,2] 0).frob = 0 := by decide +kernel
theorem e_app : monS 2 1 [] 3 [1,2,0] [1,1,1] 0 = 0 ∧ imA 2 1 [] [1,2,0] [1,1,1] 0 3 [[1,1,0]] = [[0,1,1]] := by decide +kernel
theorem e_chk : ckE 0 (flS eC eD [⟨0,0,0,[1]⟩] [0] [1]) [⟨0,0,0,[1]⟩] = 0 := by decide +kernel
theorem e_chk1 : ckE 0 (flS eC eC [⟨0,0,0,[1]⟩] [0] [1]) [⟨0,0,0,[1]⟩] = 13 := by decide +kernel
end
section
open Go.RowKit
def entG (p m : Int) (l : List Int) : Int := if (l.all fun x => isI p m x) = true then 0 else 2
theorem entG_entS {p m : Nat} {ml : List Int} (hf : FSh p m ml) (l : List Int) : entG p m l = entS (p ^ m) l := by
 unfold entG entS
 congr 1
 rw [show (fun x => isI (p : Int) (m : Int) x) = fun x => isB (p ^ m) x from funext fun x => isI_isB hf x]
section
variable {p m : Int} {mv : Value}
theorem rEntG_any (w : World) (l : List Int) (v : Value) (hl : ISl w v l) :
  Calls Tryz.prog 61 #[.agg #[.int .i64 p,.int .i64 m,mv],v] w fun r w' => r = .returned (.int .i64 (entG p m l)) ∧ Ex w w' := by
 obtain ⟨d0,d1,d2,e0,_⟩ := box_facts w p m mv;obtain ⟨a,cap,rfl,s1,s2,s3⟩ := (hl.ex e0).open;have S3 := hid_ s3;have HIS := hid_ (fun w' x => rIs_any p m x mv w');have HE := hid_ (show entG p m l = if (l.all fun x => isI p m x) = true then 0 else 2 from rfl);unfold maxLen at s2;clear hl s3;go_enter Tryz.func61,Tryz.ntmps61
 go_wp2_with fail
 obtain ⟨xb,hxb⟩ : ∃ xb,w.heap.size = xb := ⟨_,rfl⟩;rw [hxb] at d0 d1 d2
 try simp only [hxb]
 generalize w.alloc (.cells #[.int .i64 p,.int .i64 m,mv] 24) = w1 at *;clear hxb
 go_loopw [5] (fun i' wr => ∃ i : Nat,i ≤ l.length ∧ i' = .int .i64 i ∧ Hid (∀ (j : Nat) (x : Int),j < i → l[j]? = some x → isI p m x = true) ∧ Ex w1 wr) (fun i' _ => l.length - (intOf i').toNat)
 case atStart => exact ⟨0,by omega,rfl,hid_ (fun j x h => by omega),Ex.refl _⟩
 case round =>
  obtain ⟨i,hi,rfl,hall,hx⟩ := hrel;by_cases hlt : i < l.length
  ·obtain ⟨x,hxx⟩ : ∃ x,l[i]? = some x := ⟨_,List.getElem?_eq_getElem hlt⟩;obtain ⟨bb,o,rfl,hc⟩ := S3.out (by omega);have c1 := hx.cell (hc i x hxx);have r0 := hx.cell d0;have r1 := hx.cell d1;have r2 := hx.cell d2;have HI2 := hid_ (fun w' => HIS.out w' x);have HXX := hid_ hxx;obtain ⟨bo,hbo⟩ : ∃ bo,isI p m x = bo := ⟨_,rfl⟩;rw [hbo] at HI2;have HBO := hid_ hbo;clear hc hxx hbo;go_wp2_with fail
   go_region_held3 (fun w' => w'.cell? ⟨xb,0,none⟩ = some (.int .i64 p) ∧ w'.cell? ⟨xb,1,none⟩ = some (.int .i64 m) ∧ w'.cell? ⟨xb,2,none⟩ = some mv ∧ w'.cell? ⟨bb,o + i,none⟩ = some (.int .i64 x) ∧ Ex w1 w')
    (first | exact ⟨r0,r1,r2,c1,hx.drew⟩ | exact ⟨hx1.cell r0,hx1.cell r1,hx1.cell r2,hx1.cell c1,hx.drew.trans hx1⟩)
    ((go_at_call 100;refine (HI2.out _).mono ?_;rintro e w2 ⟨rfl,hx1⟩))
   have hE := (‹_ ∧ _ ∧ _ ∧ _ ∧ Ex w1 _›).2.2.2.2
   cases bo with
   | true =>
    have HA := hid_ (show ∀ (j : Nat) (y : Int),j < i + 1 → l[j]? = some y → isI p m y = true from fun j y hj hy => by
     by_cases e : j = i
     ·subst e;rw [HXX.out] at hy;injection hy with hy;subst hy;exact HBO.out
     ·exact hall.out j y (by omega) hy)
    go_wp2_with fail
    go_roundw
    case rel => exact ⟨i + 1,by omega,by go_num,HA,hE⟩
    case measure => simp [intOf];omega
   | false =>
    have HF := hid_ (show entG p m l = 2 by
     rw [HE.out,if_neg];intro h;have := List.all_eq_true.1 h x (List.mem_of_getElem? HXX.out);rw [HBO.out] at this;cases this)
    go_wp2_with fail
    go_ret;exact ⟨ret_int HF.out.symm,e0.trans hE⟩
  ·obtain rfl : i = l.length := by omega
   have HF := hid_ (show entG p m l = 0 by
    rw [HE.out,if_pos];rw [List.all_eq_true];intro y hy;obtain ⟨j,hj,e⟩ := List.getElem_of_mem hy;exact hall.out j y hj (by rw [List.getElem?_eq_getElem hj,e]))
   go_wp2_with fail
   go_ret;exact ⟨ret_int HF.out.symm,e0.trans hx⟩
end
def lisG (p m : Int) (l : List Int) (n : Int) : Int := if (l.length : Int) ≠ n then 4 else entG p m l
theorem rListG_any {p m : Int} {mv : Value} (w : World) (l : List Int) (v : Value) (hl : ISl w v l) (n : Int) :
  Calls Tryz.prog 25 #[.agg #[.int .i64 p,.int .i64 m,mv],v,.int .i64 n] w fun r w' => r = .returned (.int .i64 (lisG p m l n)) ∧ Ex w w' := by
 obtain ⟨a,cap,rfl,s1,s2,s3⟩ := hl.open;unfold maxLen at s2;obtain ⟨g0,g1,g2,e0,gsz⟩ := box_facts w p m mv;have HE := hid_ (fun w' (h : Ex w w') => rEntG_any (p := p) (m := m) (mv := mv) w' l _ (hl.ex h));obtain ⟨R,hR⟩ : ∃ R,lisG p m l n = R := ⟨_,rfl⟩;have HR := hid_ (show R = if (l.length : Int) ≠ n then 4 else entG p m l from hR.symm);rw [hR];clear s3 hl hR;go_enter Tryz.func25,Tryz.ntmps25
 by_cases hn : (l.length : Int) = n
 ·have hb : ((l.length : Int) != n) = false := by simp [hn]
  have HN := hid_ (show R = entG p m l from by rw [HR.out,if_neg (by simpa using hn)]);clear hn;go_wp2_with fail
  refine (HE.out _ e0).mono ?_;rintro e w1 ⟨rfl,hx1⟩;go_wp2_with fail
  go_ret;exact ⟨ret_int HN.out.symm,e0.trans hx1⟩
 ·have hb : ((l.length : Int) != n) = true := by simpa using hn
  have HN := hid_ (show R = 4 from by rw [HR.out,if_pos (by simpa using hn)]);go_wp2_with fail
  go_ret;exact ⟨ret_int HN.out.symm,e0⟩
theorem ent_any {q : Nat} {l : List Int} : entS q l = if (l.any fun y => !isB q y) = true then 2 else 0 := by
 unfold entS;have e : (l.any fun x => !isB q x) = !(l.all fun x => isB q x) := by rw [List.not_all_eq_any_not]
 rw [e];cases (l.all fun x => isB q x) <;> simp
end
section
open Go.RowKit
end
section
open Go.RowKit
end
section
open Go.RowKit
theorem rKeep_any (w : World) (rows : List (List Int)) (s : List Int) (v sv : Value) (hv : MSl w v rows) (hs : ISl w sv s) (hR : rows.length ≤ 1000) (hl : s.length ≤ 1000) (hin : ∀ r ∈ rows,∀ x ∈ s,0 ≤ x ∧ x < (r.length : Int)) :
  Calls Tryz.prog 169 #[v,sv] w fun r w' => ∃ cv vals,r = .returned cv ∧ MRows w' w.heap.size cv (rows.map fun r => il s.length (pckF r s)) vals ∧ Ex w w' := by
 obtain ⟨va,vc,rfl,v1,v2,v3⟩ := hv.open;have HSV := hid_ hs;obtain ⟨sa,sc,rfl,-,s2,-⟩ := hs.open;unfold maxLen at v2;have V3 := hid_ v3;have HN := hid_ hin;clear hv v3 hin hs;go_enter Tryz.func169,Tryz.ntmps169
 go_wp2_with fail
 go_loopw [5,6] (fun cv i' wr => ∃ (i : Nat) (M : List (List Int)) (vals : List Value),i ≤ rows.length ∧ i' = .int .i64 i ∧ Hid (M = (rows.map fun r => il s.length (pckF r s)).take i) ∧ Hid (MRows wr w.heap.size cv M vals) ∧ Hid (Ex w wr)) (fun _ i' _ => rows.length - (intOf i').toNat)
 case atStart => exact ⟨0,[],[],by omega,rfl,hid_ rfl,hid_ (MRows.nil _ _),hid_ (Ex.refl _)⟩
 case round =>
  obtain ⟨i,M,vals,hi,rfl,hM,hm,hx⟩ := hrel;obtain ⟨ca,cc,hcv⟩ := own_shape hm.out.cvo;subst hcv;have HTK := hid_ (show M.length = i from by rw [hM.out];simp;omega);by_cases hlt : i < rows.length
  ·obtain ⟨zb,zo,rfl,hzc⟩ := V3.out (by omega);obtain ⟨uv,huc,hui⟩ := hzc i _ (List.getElem?_eq_getElem hlt);have cu := hx.out.cell huc;have hru := HN.out _ (List.getElem_mem hlt);have HTS := hid_ (show M ++ [il s.length (pckF rows[i] s)] = (rows.map fun r => il s.length (pckF r s)).take (i + 1) from by rw [hM.out,List.take_add_one,List.getElem?_map,List.getElem?_eq_getElem hlt];rfl);have i1 : (0 : Int) ≤ (i : Int) := by omega
   have i2 : (i : Int) < (rows.length : Int) := by omega
   generalize rows[i] = r at *;have HPK := hid_ (rPick_any wr r s _ _ (hui.ex hx.out) (HSV.out.ex hx.out) hl hru);obtain ⟨ua,uc,rfl,-,u2,-⟩ := hui.open;have HM := hid_ hm.out;have HX := hid_ hx.out;have HSZ := hid_ hx.out.size;have HLN := hid_ (il_len s.length (pckF r s));obtain ⟨f,hf⟩ : ∃ f,pckF r s = f := ⟨_,rfl⟩;rw [hf] at HPK HTS HLN;clear hzc huc hui hm hx hru u2 hf;go_wp2_with (first
        | (go_at_call 149;refine HPK.out.mono ?_
           rintro e w5 ⟨g5,rfl,ho5,hx5⟩;have HM5 := hid_ (HM.out.ex hx5);have HXX := hid_ (HX.out.trans hx5);have HL := hid_ (show w5.ownsRow w.heap.size 3 1 (.slice (some ⟨g5,0,none⟩) s.length s.length) (il s.length f).length (ints (il s.length f)) from by
             rw [HLN.out,ints_il];exact ownsRow_mono ho5 HSZ.out)
           have HAL := hid_ (show Aprt (.slice (some ⟨g5,0,none⟩) s.length s.length) (.slice ca M.length cc) from by
             right;show some g5 ≠ _
             intro e2;have h1 := (HM.out.cvo.lt g5 e2.symm).2;have h2 := ho5.lt.1;omega)
           clear HM ho5 hx5 HPK cu)
        | (at_builtin;refine wpList_append1 _ rfl _ _ 45 rfl w.heap.size 22 (.slice none 0 0) 1 24 Tryz.underlying45 infoIntsL rfl (by decide) _ M.length _ rfl HM5.out.cvo [.slice (some ⟨g5,0,none⟩) s.length s.length] 22 _ rfl (by simp) rfl (by simp [Value.oneCell']) (by have := HTK.out;unfold maxLen;omega) (by have := HTK.out;omega) HXX.out.size ?_))
   intro v2 w6 happ;have HO := hid_ (HM5.out.app HL.out HAL.out happ);have HE := hid_ (happ.ex HXX.out (Nat.le_refl _));obtain ⟨va2,vc2,hv2⟩ := own_shape happ.own;subst hv2;clear happ HL HAL HM5;go_wp2_with fail
   go_roundw
   case rel => first | exact ⟨i + 1,_,_,by omega,by go_num,HTS,HO,HE⟩ | ((repeat apply Exists.intro);exact ⟨⟨i + 1,_,_,by omega,by go_num,HTS,HO,HE⟩,rfl⟩)
   case measure => simp [intOf];omega
  ·obtain rfl : i = rows.length := by omega
   have HM := hid_ (show MRows wr w.heap.size (.slice ca M.length cc) (rows.map fun r => il s.length (pckF r s)) vals from by have h := hM.out;rw [List.take_of_length_le (by simp)] at h;have := hm.out;rw [h] at this ⊢;exact this);have HX := hid_ hx.out;clear hm hx;go_wp2_with fail
   go_ret;exact ⟨_,_,rfl,HM.out,HX.out⟩
end
section
open Go.RowKit
theorem ElO.le {p m N R : Nat} {ml : List Int} {a a' : Nat → Nat → Int} {piv : List Nat} (h : ElO p m ml N R a a' piv) : piv.length ≤ R := by
 obtain ⟨c,_,h,_⟩ := h;exact h.le
theorem rCanonF_any {p m : Nat} {ml : List Int} {mv : Value} (w : World) (hf : FSh p m ml) (hF : IsF p m (lw ml)) (hmv : ISl w mv ml) (N R : Nat) (hN : N ≤ 256) (hR : R ≤ 256) (a : Nat → Nat → Int) (hrng : Rng p m R N a) (v : Value) (hv : MSl w v (rowsL N R a)) :
  Calls Tryz.prog 123 #[.agg #[.int .i64 p,.int .i64 m,mv],v,.int .i64 N] w fun r w' => ∃ piv pv rv a',r = .returned (.tuple #[rv,pv]) ∧ ElO p m ml N R a a' piv ∧ MSl w' rv (rowsL N piv.length a') ∧ ISl w' pv (pI piv) ∧ Ex w w' ∧ MSlF w.heap.size w' rv (rowsL N piv.length a') := by
 obtain ⟨a0,a1,a2,ea,asz⟩ := box_facts w p m mv;have HEL := hid_ (rElim_any (w.alloc (.cells #[.int .i64 p,.int .i64 m,mv] 24)) hf hF (hmv.ex ea) N R hN hR a hrng v (hv.ex ea));have HE := hid_ ea;obtain ⟨va,vc,hve,v1,v2,-⟩ := hv.open;rw [rowsL_len] at hve v1;subst hve;obtain ⟨ma,mc,rfl,-,-,-⟩ := hmv.open;clear hf hF hmv hv hrng ea;go_enter Tryz.func123,Tryz.ntmps123
 go_wp2_with fail
 refine HEL.out.mono ?_;rintro e w2 ⟨⟨piv,pa,pc,la,lc,a',rfl,hel,hpv,hlc,hms⟩,hx⟩;have hk := hel.le;have HELO := hid_ hel;have HMF := hid_ ((hms _ hk).mono (by have := HE.out.size;omega : w.heap.size ≤ _));have HMS := hid_ HMF.out.msl;have HPV := hid_ hpv;have HX := hid_ (HE.out.trans hx);have l2 : lc ≤ maxLen := by
  obtain ⟨l3,l4,hle,l1,l2,_⟩ := (hms _ (Nat.le_refl R)).msl.open;injection hle with _ _ h3;rw [h3];exact l2
 unfold maxLen at l2;have k1 : (0 : Int) ≤ (piv.length : Int) := by omega
 have k2 : (piv.length : Int) ≤ (lc : Int) := by omega
 clear hel hms hpv hx HEL HE a0 a1 a2 asz;go_wp2_with fail
 go_ret2;exact ⟨piv,_,_,a',rfl,HELO.out,HMS.out,HPV.out,HX.out,HMF.out⟩
theorem rCanon_any {p m : Nat} {ml : List Int} {mv : Value} (w : World) (hf : FSh p m ml) (hF : IsF p m (lw ml)) (hmv : ISl w mv ml) (N R : Nat) (hN : N ≤ 256) (hR : R ≤ 256) (a : Nat → Nat → Int) (hrng : Rng p m R N a) (v : Value) (hv : MSl w v (rowsL N R a)) :
  Calls Tryz.prog 123 #[.agg #[.int .i64 p,.int .i64 m,mv],v,.int .i64 N] w fun r w' => ∃ piv pv rv a',r = .returned (.tuple #[rv,pv]) ∧ ElO p m ml N R a a' piv ∧ MSl w' rv (rowsL N piv.length a') ∧ ISl w' pv (pI piv) ∧ Ex w w' :=
 (rCanonF_any w hf hF hmv N R hN hR a hrng v hv).mono fun r w' ⟨piv,pv,rv,a',h1,h2,h3,h4,h5,_⟩ => ⟨piv,pv,rv,a',h1,h2,h3,h4,h5⟩
end
section
open Go.RowKit
section
variable {p m : Nat} {low : Vc}
end
section
variable {p m : Nat} {ml pl sl : List Int} {fr N : Nat} {x : List Int}
end
section
variable {p m : Nat} {ml pl sl ql tl : List Int} {fr fs N : Nat} {x : List Int}
end
end
section
open Go.RowKit
section
variable {p m : Nat} {ml : List Int} {N : Nat}
theorem mpF_rng (hp : 2 ≤ p) (sc : List Int) (x : Nat → Int) (N : Nat) : EntR p m N (mpF p m ml sc x) := fun j _ => by
 have := kmul_lt (m := m) (low := lw ml) (show 1 ≤ p by omega) (kin (p ^ m) (sc.getD j 0)) (kin (p ^ m) (x j));unfold mpF;omega
theorem seF_rng {tl : List Int} {y : Nat → Int} {n : Nat} (hr : rngB tl n = true) (hy : EntR p m n y) : EntR p m tl.length (seF tl y) := fun j hj => by
 have := rngB_at hr hj;exact hy _ (by omega)
theorem rowsF_rng' {l : List (List Int)} {n : Nat} (hl : ∀ r ∈ l,r.length = n ∧ entS (p ^ m) r = 0) {i : Nat} (hi : i < l.length) : EntR p m n (rowsF l i) := fun j hj => by
 have h1 : l.getD i [] = l[i] := by rw [List.getD_eq_getElem?_getD,List.getElem?_eq_getElem hi];rfl
 obtain ⟨h2,h3⟩ := hl _ (List.getElem_mem hi);unfold rowsF;rw [h1];exact entS_rng h3 _ (by rw [List.getD_eq_getElem?_getD,List.getElem?_eq_getElem (by omega)];exact List.getElem_mem _)
structure Two (p m : Nat) (ml : List Int) (n : Nat) (l1 l2 : List (List Int)) : Prop where
 hp : 2 ≤ p
 hm : 1 ≤ m
 hF : IsF p m (lw ml)
 h1 : ∀ r ∈ l1,r.length = n ∧ entS (p ^ m) r = 0
 h2 : ∀ r ∈ l2,r.length = n ∧ entS (p ^ m) r = 0
variable {l1 l2 : List (List Int)} {n : Nat} {tl sc : List Int}
theorem Two.spL (h : Two p m ml n l1 l2) (t : Nat) (sc : List Int) : SpOK p m ml t l1.length (fun i => mpF p m ml sc (rowsF l1 i)) (spn p m ml t (fun i => mpF p m ml sc (rowsF l1 i)) l1.length) :=
 spn_ok h.hp h.hm h.hF (K := l1.length) (fun i _ => mpF_rng h.hp _ _ _) _ (Nat.le_refl _)
theorem Two.spR (h : Two p m ml n l1 l2) (hr : rngB tl n = true) : SpOK p m ml tl.length l2.length (fun i => seF tl (rowsF l2 i)) (spn p m ml tl.length (fun i => seF tl (rowsF l2 i)) l2.length) :=
 spn_ok h.hp h.hm h.hF (K := l2.length) (fun i hi => seF_rng hr (rowsF_rng' h.h2 hi)) _ (Nat.le_refl _)
theorem cmbK_rng (hp : 2 ≤ p) (msg : List Int) (rows : List (List Int)) : ∀ i j,0 ≤ cmbK p m ml msg rows i j ∧ cmbK p m ml msg rows i j < ((p ^ m : Nat) : Int)
 | 0,j => by
  have : 0 < p ^ m := Nat.pow_pos (by omega);show (0 : Int) ≤ 0 ∧ (0 : Int) < _
  omega
 | i + 1,j => by
  have := kadd_lt (m := m) (show 1 ≤ p by omega) (kin (p ^ m) (cmbK p m ml msg rows i j)) (kmul p m (lw ml) (kin (p ^ m) (msg.getD i 0)) (kin (p ^ m) (rowsF rows i j)));show 0 ≤ ((kadd p m _ _ : Nat) : Int) ∧ ((kadd p m _ _ : Nat) : Int) < _
  omega
theorem cmbK_succ (hp : 2 ≤ p) (msg : List Int) (rows : List (List Int)) (i : Nat) : cmbK p m ml msg rows (i + 1) = addF p m ml (cmbK p m ml msg rows i) (kin (p ^ m) (msg.getD i 0)) (rowsF rows i) := by
 funext j;have hq0 : 0 < p ^ m := Nat.pow_pos (by omega);obtain ⟨r1,r2⟩ := cmbK_rng (m := m) (ml := ml) hp msg rows i j;show ((kadd p m (kin (p ^ m) (cmbK p m ml msg rows i j)) (kmul p m (lw ml) (kin (p ^ m) (msg.getD i 0)) (kin (p ^ m) (rowsF rows i j))) : Nat) : Int) = _
 unfold addF;split
 ·rename_i h0;rw [h0,kin_zero,kmul_zero_r (by omega),kadd_zero (by omega) (kin_lt hq0 _),kin_code r1 r2]
 ·rfl
end
section
variable {p m : Nat} {ml : List Int} {n : Nat} {l1 l2 : List (List Int)} {pl sl : List Int}
end
section
variable {σ : Type} {step : σ → List Int → List Int → σ × Int} {tl sc : List Int}
end
section
variable {p m : Nat} {ml : List Int} {n : Nat} {l1 l2 : List (List Int)} {pl sl : List Int}
end
end
end Go.Proofs.YtgdmlmhpineibaaGreat
