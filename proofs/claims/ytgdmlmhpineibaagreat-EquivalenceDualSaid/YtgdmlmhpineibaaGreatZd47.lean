/- Plain: the rows of a Code value are determined; the examples of chapter 31, computed. -/
/- Walk of codewrightref12.Same. -/
/- Walks of the law's few and of codewrightref31's Few, Extends and Small. -/
/- Plain: what Apply hands back as a map of codes; the end of EquivalenceSound. -/
/- Plain: what is left of a word by canonical rows is zero exactly when the word lies in their space. -/
/- Arguments that are Code values, partial maps and cases of chapter 31: opened out of their readings. -/
import Derived.Test.YtgdmlmhpineibaaGreatZd16
import Derived.Test.YtgdmlmhpineibaaGreatZd33
import Derived.Test.YtgdmlmhpineibaaGreatZd38
import Derived.Test.YtgdmlmhpineibaaGreatZd44
import Derived.Test.YtgdmlmhpineibaaGreatZd45
import Derived.Test.YtgdmlmhpineibaaGreatZd46
namespace Go.Proofs.YtgdmlmhpineibaaGreat
set_option linter.unusedVariables false
set_option linter.unusedSimpArgs false
open Go.RowKit

theorem elO_uniq {p m : Nat} {ml : List Int} {N R R2 : Nat} {a b a1 a2 : Nat → Nat → Int} {piv1 piv2 : List Nat} (hp : 2 ≤ p) (hm : 1 ≤ m) (hab : ∀ x, Sol p m ml N R a x ↔ Sol p m ml N R2 b x) (h1 : ElO p m ml N R a a1 piv1) (h2 : ElO p m ml N R2 b a2 piv2) : rowsL N piv1.length a1 = rowsL N piv2.length a2 ∧ piv1 = piv2 := by
  obtain ⟨c1, x1, y1, z1, s1⟩ := h1
  obtain ⟨c2, x2, y2, z2, s2⟩ := h2
  obtain ⟨e1, e2⟩ := rr_uniq (ml := ml) hp hm ⟨c1, x1, y1, z1⟩ ⟨c2, x2, y2, z2⟩ fun x => ((s1 x).trans (hab x)).trans (s2 x).symm
  subst e1
  refine ⟨List.map_congr_left fun i hi => List.map_congr_left fun j hj => e2 i (List.mem_range.1 hi) j (List.mem_range.1 hj), rfl⟩
theorem elO_self {p m : Nat} {ml : List Int} {N R : Nat} {a : Nat → Nat → Int} {piv : List Nat} {c : Nat} (h : PV p m R N a piv c) (hc : c ≤ N) (hr : piv.length = R) : ElO p m ml N R a a piv := ⟨c, hc, h, .inl hr, fun x => Iff.rfl⟩
/-- Two answers about one Code value are the same. -/
theorem codO_uniq {p m n : Int} {ml : List Int} {rows : List (List Int)} {e e' : Int} (h : CodO p m ml n rows e) (h' : CodO p m ml n rows e') : e = e' := by
  rcases h with ⟨a, rfl⟩ | ⟨a, b, rfl⟩ | ⟨a, b, h⟩ <;> rcases h' with ⟨a', rfl⟩ | ⟨a', b', rfl⟩ | ⟨a', b', h'⟩ <;> first | rfl | contradiction | skip
  rcases h with ⟨c, rfl⟩ | ⟨c, pn, mn, N, piv, a1, rfl, rfl, rfl, hF, _, hE, rfl⟩ <;> rcases h' with ⟨c', rfl⟩ | ⟨c', pn', mn', N', piv', a1', e1, e2, e3, hF', _, hE', rfl⟩ <;> first | rfl | contradiction | skip
  obtain rfl : pn' = pn := by omega
  obtain rfl : mn' = mn := by omega
  obtain rfl : N' = N := by omega
  obtain ⟨p1, m1, e1, e2, hsh, _⟩ := hF
  obtain rfl : p1 = pn' := by omega
  obtain rfl : m1 = mn' := by omega
  rw [(elO_uniq hsh.p2 hsh.m1 (fun _ => Iff.rfl) hE hE').1]
/-- One row, reduced: its Code value passes. -/
theorem pv_one {p m N q : Nat} {r : List Int} (hq : q < N) (h0 : ∀ j, j < N → 0 ≤ r.getD j 0 ∧ r.getD j 0 < ((p ^ m : Nat) : Int)) (h1 : r.getD q 0 = 1) (h2 : ∀ k, k < q → r.getD k 0 = 0) : PV p m 1 N (rowsF [r]) [q] (q + 1) where
  le := by simp
  rng := fun i hi j hj => by
    obtain rfl : i = 0 := by omega
    exact h0 j hj
  lt := fun j q' h => by
    rcases j with _ | j
    · simp at h; omega
    · simp at h
  one := fun j q' h => by
    rcases j with _ | j
    · simp at h; subst h; exact h1
    · simp at h
  zer := fun j q' i h hi hne => by
    rcases j with _ | j
    · omega
    · simp at h
  tail := fun i j h hi _ => by simp at h; omega
  lead := fun j q' k h hk => by
    rcases j with _ | j
    · simp at h; subst h; exact h2 k hk
    · simp at h
  asc := fun i j q' r' hij h h' => by
    rcases j with _ | j
    · omega
    · simp at h'
theorem il_row {N : Nat} {r : List Int} (h : r.length = N) : il N (rowsF [r] 0) = r := by
  subst h
  refine List.ext_getElem? fun j => ?_
  by_cases hj : j < r.length
  · rw [il_get hj, List.getElem?_eq_getElem hj]
    show some (r.getD j 0) = _
    rw [List.getD_eq_getElem?_getD, List.getElem?_eq_getElem hj]; rfl
  · rw [List.getElem?_eq_none (by rw [il_len]; omega), List.getElem?_eq_none (by omega)]
theorem codO_one {p m N q : Nat} {ml : List Int} {r : List Int} {e : Int} (hF : FldB p m ml) (hc : canE p m ml N [r] = 0) (hl : lenE N = 0) (hk : mchkS (p ^ m) N [r] = 0) (hr : r.length = N) (hv : PV p m 1 N (rowsF [r]) [q] (q + 1)) (hq : q < N) (h : CodO p m ml N [r] e) : e = 0 := by
  have hck : chkS p m ml = 0 := by
    apply Classical.byContradiction; intro h; unfold canE at hc; rw [if_pos h] at hc; cases hc
  refine codO_uniq h (.inr (.inr ⟨hck, hl, .inr ⟨hc, p, m, N, [q], rowsF [r], rfl, rfl, rfl, hF, hk, elO_self hv (by omega) rfl, ?_⟩⟩))
  rw [if_pos]
  show [il N (rowsF [r] 0)] = [r]
  rw [il_row hr]
/-- The examples. -/
def eC : CdV := ⟨2, 1, [], 3, [[1, 1, 0]]⟩
def eD : CdV := ⟨2, 1, [], 3, [[0, 1, 1]]⟩
theorem e21 : FldB 2 1 [] := ⟨2, 1, rfl, rfl, ⟨by omega, by omega, by omega, by decide, rfl, by intro x hx; cases hx⟩, by decide, (field_iff (p := 2) (m := 1) (ml := []) ⟨by omega, by omega, by omega, by decide, rfl, by intro x hx; cases hx⟩ (by decide)).2 (.inl rfl)⟩
theorem eC_pv : PV 2 1 1 3 (rowsF [[1, 1, 0]]) [0] 1 := pv_one (by omega) (by decide) rfl (by decide)
theorem eD_pv : PV 2 1 1 3 (rowsF [[0, 1, 1]]) [1] 2 := pv_one (by omega) (by decide) rfl (by decide)
theorem eC_cod {e : Int} (h : CodO 2 1 [] 3 [[1, 1, 0]] e) : e = 0 := codO_one (p := 2) (m := 1) (N := 3) e21 (by decide +kernel) (by decide +kernel) (by decide +kernel) rfl eC_pv (by omega) h
theorem eD_cod {e : Int} (h : CodO 2 1 [] 3 [[0, 1, 1]] e) : e = 0 := codO_one (p := 2) (m := 1) (N := 3) e21 (by decide +kernel) (by decide +kernel) (by decide +kernel) rfl eD_pv (by omega) h
def rfT (x : Rf) : Int × Int × Int × List Int := (x.tp, x.sc, x.side, x.msg)
theorem rfT_inj {l l' : List Rf} (h : l.map rfT = l'.map rfT) : l = l' := by
  induction l generalizing l' with
  | nil => cases l' with
    | nil => rfl
    | cons y t => simp at h
  | cons x s ih => cases l' with
    | nil => simp at h
    | cons y t =>
      rw [List.map_cons, List.map_cons] at h
      injection h with h1 h2
      rw [ih h2]
      cases x; cases y
      simp only [rfT, Prod.mk.injEq] at h1
      obtain ⟨rfl, rfl, rfl, rfl⟩ := h1
      rfl
theorem e_st0 : stE 0 0 (samF eC.p eC.m eC.ml eD.p eD.m eD.ml) eC.n eD.n [] [] (eC.p.toNat ^ eC.m.toNat) = 0 := by decide +kernel
theorem e_st1 : stE 0 0 (samF eC.p eC.m eC.ml eD.p eD.m eD.ml) eC.n eD.n [0] [1] (eC.p.toNat ^ eC.m.toNat) = 0 := by decide +kernel
theorem e_st2 : stE 0 0 (samF eC.p eC.m eC.ml eC.p eC.m eC.ml) eC.n eC.n [0] [1] (eC.p.toNat ^ eC.m.toNat) = 0 := by decide +kernel
theorem e_find : fndE 0 (fndS eC eD [] []) = 0 ∧ (fndM 0 (fndS eC eD [] [])).perm = [1, 2, 0] ∧ (fndM 0 (fndS eC eD [] [])).scale = [1, 1, 1] ∧ (fndM 0 (fndS eC eD [] [])).frob = 0 := by decide +kernel
theorem e_find1 : fndE 0 (fndS eC eD [0] [1]) = 11 := by decide +kernel
theorem e_ref : rftE 0 (fndS eC eD [0] [1]) = 0 := by decide +kernel
theorem e_refL : rftL 0 (fndS eC eD [0] [1]) = [⟨0, 0, 0, [1]⟩] := rfT_inj (by decide +kernel)
theorem e_ref1 : rftE 0 (fndS eC eD [] []) = 11 := by decide +kernel
theorem e_wrd : wrdE 3 1 [] [1, 0] [2, 1] 0 [1, 2] = 0 ∧ wrdL 3 1 [] [1, 0] [2, 1] 0 [1, 2] = [2, 2] := by decide +kernel
theorem e_inv : monS 3 1 [] 2 [1, 0] [2, 1] 0 = 0 ∧ (invM 3 1 [] [1, 0] [2, 1] 0).perm = [1, 0] ∧ (invM 3 1 [] [1, 0] [2, 1] 0).scale = [1, 2] ∧ (invM 3 1 [] [1, 0] [2, 1] 0).frob = 0 := by decide +kernel
theorem e_cmp : cmpE 3 1 [] [1, 0] [2, 1] 0 [1, 0] [1, 2] 0 = 0 ∧ (cmpM 3 1 [] [1, 0] [2, 1] 0 [1, 0] [1, 2] 0).perm = [0, 1] ∧ (cmpM 3 1 [] [1, 0] [2, 1] 0 [1, 0] [1, 2] 0).scale = [1, 1] ∧ (cmpM 3 1 [] [1, 0] [2, 1] 0 [1, 0] [1, 2] 0).frob = 0 := by decide +kernel
theorem e_app : monS 2 1 [] 3 [1, 2, 0] [1, 1, 1] 0 = 0 ∧ imA 2 1 [] [1, 2, 0] [1, 1, 1] 0 3 [[1, 1, 0]] = [[0, 1, 1]] := by decide +kernel
theorem e_chk : ckE 0 (flS eC eD [⟨0, 0, 0, [1]⟩] [0] [1]) [⟨0, 0, 0, [1]⟩] = 0 := by decide +kernel
theorem e_chk1 : ckE 0 (flS eC eC [⟨0, 0, 0, [1]⟩] [0] [1]) [⟨0, 0, 0, [1]⟩] = 13 := by decide +kernel
end Go.Proofs.YtgdmlmhpineibaaGreat
namespace Go.Proofs.YtgdmlmhpineibaaGreat
set_option linter.unusedVariables false
set_option linter.unusedSimpArgs false
open Go.RowKit

/-- Two Code values are equal. -/
def samC (c d : CdV) : Bool := samF c.p c.m c.ml d.p d.m d.ml && (decide (c.n = d.n) && decide (c.rows = d.rows))
theorem samC_iff {c d : CdV} : samC c d = true ↔ c = d := by
  obtain ⟨p, m, ml, n, rows⟩ := c
  obtain ⟨p', m', ml', n', rows'⟩ := d
  simp only [samC, Bool.and_eq_true, decide_eq_true_eq, samF_iff, CdV.mk.injEq]
  constructor
  · rintro ⟨⟨h1, h2, h3⟩, h4, h5⟩; exact ⟨h1, h2, h3, h4, h5⟩
  · rintro ⟨h1, h2, h3, h4, h5⟩; exact ⟨⟨h1, h2, h3⟩, h4, h5⟩
set_option maxRecDepth 100000 in
set_option maxHeartbeats 4000000 in
theorem rCSame_any (w : World) (c d : CdV) (m1 m2 v1 v2 : Value) (hc : c.at w m1 v1) (hd : d.at w m2 v2) :
    Calls Tryz.prog 39 #[c.arg m1 v1, d.arg m2 v2] w fun r w' => r = .returned (.bool (samC c d)) ∧ Ex w w' := by
  obtain ⟨c0, c1, c2, c3, c4⟩ := boxC5 w c m1 v1
  obtain ⟨d0, d1, d2, d3, d4⟩ := boxC5 (w.alloc (c.obj m1 v1)) d m2 v2
  have hz1 : (w.alloc (c.obj m1 v1)).heap.size = w.heap.size + 1 := by simp
  have e1 := e_al w (c.obj m1 v1)
  have e2 := e_al (w.alloc (c.obj m1 v1)) (d.obj m2 v2)
  rw [hz1] at d0 d1 d2 d3 d4
  replace c0 := e2.cell c0
  replace c1 := e2.cell c1
  replace c2 := e2.cell c2
  replace c3 := e2.cell c3
  replace c4 := e2.cell c4
  have hxw := e1.trans e2
  have HSF := hid_ (rFSame_any _ c.p c.m c.ml m1 ((hc.ex hxw).m) d.p d.m d.ml m2 ((hd.ex hxw).m))
  have HSR := hid_ (fun (w' : World) (h : Ex ((w.alloc (c.obj m1 v1)).alloc (d.obj m2 v2)) w') => SameRows_any w' c.rows d.rows v1 v2 ((hc.ex (hxw.trans h)).g) ((hd.ex (hxw.trans h)).g))
  obtain ⟨x1, y1, rfl, -, z1, -⟩ := hc.g.open
  obtain ⟨x2, y2, rfl, -, z2, -⟩ := hd.g.open
  obtain ⟨x3, y3, rfl, -, z3, -⟩ := hc.m.open
  obtain ⟨x4, y4, rfl, -, z4, -⟩ := hd.m.open
  have HX := hid_ hxw
  obtain ⟨p, m, ml, n, rows⟩ := c
  obtain ⟨p', m', ml', n', rows'⟩ := d
  obtain ⟨B, hB⟩ : ∃ B, w.heap.size = B := ⟨_, rfl⟩
  rw [hB] at c0 c1 c2 c3 c4 d0 d1 d2 d3 d4
  obtain ⟨F, hF⟩ : ∃ F, samF p m ml p' m' ml' = F := ⟨_, rfl⟩
  have HSM := hid_ (show samC ⟨p, m, ml, n, rows⟩ ⟨p', m', ml', n', rows'⟩ = (F && (decide (n = n') && decide (rows = rows'))) from by rw [← hF]; rfl)
  rw [HSM.out]
  clear HSM
  dsimp only [CdV.arg, CdV.obj] at *
  rw [hF] at HSF
  clear hF
  clear hc hd e1 e2 hxw hz1 z1 z2 z3 z4
  go_enter Tryz.func39, Tryz.ntmps39
  go_upto_region 1 with fail
  try simp only [hB]
  clear hB
  generalize (w.alloc (.cells #[.int .i64 p, .int .i64 m, .slice x3 ml.length y3, .int .i64 n, .slice x1 rows.length y1] 47)).alloc (.cells #[.int .i64 p', .int .i64 m', .slice x4 ml'.length y4, .int .i64 n', .slice x2 rows'.length y2] 47) = wB at *
  have HALL := hid_ (fun w' (h : Ex wB w') => (⟨h.cell c3, h.cell c4, h.cell d3, h.cell d4⟩ : _ ∧ _ ∧ _ ∧ _))
  cases F with
  | false =>
    go_wp2_with fail
    refine HSF.out.mono ?_
    rintro e w2 ⟨rfl, hx2⟩
    have HX2 := hid_ (HX.out.trans hx2)
    clear c0 c1 c2 c3 c4 d0 d1 d2 d3 d4 hx2
    go_wp2_with fail
    go_ret
    exact ⟨rfl, HX2.out⟩
  | true =>
    go_wp2_with fail
    refine HSF.out.mono ?_
    rintro e w2 ⟨rfl, hx2⟩
    have HX2 := hid_ hx2
    clear c0 c1 c2 c3 c4 d0 d1 d2 d3 d4 hx2
    obtain ⟨c3, c4, d3, d4⟩ := HALL.out w2 HX2.out
    by_cases hn : n = n'
    · subst hn
      have k1 : (n == n) = true := by simp
      have HR := hid_ (HSR.out w2 HX2.out)
      obtain ⟨D, hD⟩ : ∃ D, decide (rows = rows') = D := ⟨_, rfl⟩
      rw [hD] at HR
      have HD := hid_ hD
      clear hD
      go_wp2_with fail
      refine HR.out.mono ?_
      rintro e w3 ⟨rfl, n3, rfl⟩
      have HX3 := hid_ ((Ex.refl w2).drewN n3)
      go_wp2_with fail
      go_ret
      refine ⟨?_, HX.out.trans (HX2.out.trans HX3.out)⟩
      have := HD.out
      simp [this]
    · have k1 : (n == n') = false := by simpa using hn
      have HN := hid_ hn
      clear hn
      go_wp2_with fail
      go_ret
      refine ⟨?_, HX.out.trans HX2.out⟩
      have := HN.out
      simp [this]
end Go.Proofs.YtgdmlmhpineibaaGreat
namespace Go.Proofs.YtgdmlmhpineibaaGreat
set_option linter.unusedVariables false
set_option linter.unusedSimpArgs false
open Go.RowKit

def FewC (c : CdV) : Prop := fewM 0 c.rows 80 = true ∧ (c.n ≤ 8 ∨ 64 < c.n) ∧ ordS c.p c.m ≤ 16
set_option maxRecDepth 100000 in
set_option maxHeartbeats 4000000 in
theorem few31_any (w : World) (c : CdV) (m1 v1 : Value) (hc : c.at w m1 v1) :
    Calls Tryz.prog 27 #[c.arg m1 v1] w fun r w' => BolR (FewC c) r ∧ Ex w w' := by
  obtain ⟨c0, c1, c2, c3, c4⟩ := boxC5 w c m1 v1
  have HX := hid_ (e_al w (c.obj m1 v1))
  have HFW := hid_ (fun (w' : World) (h : Ex w w') => rFew12_any w' c.p c.m m1 c.n c.rows v1 (hc.ex h).g 80 (by decide) (by decide))
  have HOR := hid_ (fun w' => rOrder_any c.p c.m m1 w')
  obtain ⟨x1, y1, rfl, -, z1, -⟩ := hc.g.open
  obtain ⟨x3, y3, rfl, -, z3, -⟩ := hc.m.open
  obtain ⟨p, m, ml, n, rows⟩ := c
  have HSM := hid_ (show FewC ⟨p, m, ml, n, rows⟩ ↔ fewM 0 rows 80 = true ∧ (n ≤ 8 ∨ 64 < n) ∧ ordS p m ≤ 16 from Iff.rfl)
  obtain ⟨B, hB⟩ : ∃ B, w.heap.size = B := ⟨_, rfl⟩
  rw [hB] at c0 c1 c2 c3 c4
  dsimp only [CdV.arg, CdV.obj] at *
  obtain ⟨P, hP⟩ : ∃ P, FewC ⟨p, m, ml, n, rows⟩ = P := ⟨_, rfl⟩
  rw [hP] at HSM ⊢
  obtain ⟨F, hF⟩ : ∃ F, fewM 0 rows 80 = F := ⟨_, rfl⟩
  rw [hF] at HFW HSM
  obtain ⟨Q, hQ⟩ : ∃ Q, ordS p m = Q := ⟨_, rfl⟩
  rw [hQ] at HOR HSM
  clear hc hF hP hQ z1 z3
  go_enter Tryz.func27, Tryz.ntmps27
  go_upto_region 1 with fail
  try simp only [hB]
  clear hB
  generalize w.alloc (.cells #[.int .i64 p, .int .i64 m, .slice x3 ml.length y3, .int .i64 n, .slice x1 rows.length y1] 47) = w1 at *
  have HALL := hid_ (fun w' (h : Ex w1 w') => (⟨h.cell c0, h.cell c1, h.cell c2, h.cell c3, h.cell c4⟩ : _ ∧ _ ∧ _ ∧ _ ∧ _))
  go_wp2_with fail
  refine (HFW.out _ HX.out).mono ?_
  rintro e w2 ⟨rfl, hx2⟩
  have HX2 := hid_ hx2
  clear hx2 c0 c1 c2 c3 c4
  obtain ⟨c0, c1, c2, c3, c4⟩ := HALL.out w2 HX2.out
  cases F with
  | false =>
    have HN := hid_ (show ¬ P from fun h => by cases (HSM.out.1 h).1)
    go_wp2_with fail
    go_ret
    exact ⟨bolR_no HN.out, HX.out.trans HX2.out⟩
  | true =>
    by_cases h1 : n ≤ 8
    · have k1 : decide (n ≤ 8) = true := decide_eq_true h1
      have H1 := hid_ h1
      clear h1
      go_wp2_with fail
      refine (HOR.out _).mono ?_
      rintro e w3 ⟨rfl, hx3⟩
      have HX3 := hid_ (HX2.out.trans hx3)
      clear hx3 c0 c1 c2 c3 c4
      by_cases h2 : Q ≤ 16
      · have k2 : decide (Q ≤ 16) = true := decide_eq_true h2
        have HN := hid_ (show P from HSM.out.2 ⟨by first | rfl | trivial, .inl H1.out, h2⟩)
        clear h2
        go_wp2_with fail
        go_ret
        exact ⟨bolR_yes HN.out, HX.out.trans HX3.out⟩
      · have k2 : decide (Q ≤ 16) = false := decide_eq_false h2
        have HN := hid_ (show ¬ P from fun h => h2 (HSM.out.1 h).2.2)
        clear h2
        go_wp2_with fail
        go_ret
        exact ⟨bolR_no HN.out, HX.out.trans HX3.out⟩
    · have k1 : decide (n ≤ 8) = false := decide_eq_false h1
      have H1 := hid_ h1
      clear h1
      by_cases h3 : 64 < n
      · have k3 : decide (64 < n) = true := decide_eq_true h3
        have H3 := hid_ h3
        clear h3
        go_wp2_with fail
        refine (HOR.out _).mono ?_
        rintro e w3 ⟨rfl, hx3⟩
        have HX3 := hid_ (HX2.out.trans hx3)
        clear hx3 c0 c1 c2 c3 c4
        by_cases h2 : Q ≤ 16
        · have k2 : decide (Q ≤ 16) = true := decide_eq_true h2
          have HN := hid_ (show P from HSM.out.2 ⟨by first | rfl | trivial, .inr H3.out, h2⟩)
          clear h2
          go_wp2_with fail
          go_ret
          exact ⟨bolR_yes HN.out, HX.out.trans HX3.out⟩
        · have k2 : decide (Q ≤ 16) = false := decide_eq_false h2
          have HN := hid_ (show ¬ P from fun h => h2 (HSM.out.1 h).2.2)
          clear h2
          go_wp2_with fail
          go_ret
          exact ⟨bolR_no HN.out, HX.out.trans HX3.out⟩
      · have k3 : decide (64 < n) = false := decide_eq_false h3
        have HN := hid_ (show ¬ P from fun h => by rcases (HSM.out.1 h).2.1 with h | h; exact H1.out h; exact h3 h)
        clear h3
        go_wp2_with fail
        go_ret
        exact ⟨bolR_no HN.out, HX.out.trans HX2.out⟩
end Go.Proofs.YtgdmlmhpineibaaGreat
namespace Go.Proofs.YtgdmlmhpineibaaGreat
set_option linter.unusedVariables false
set_option linter.unusedSimpArgs false
open Go.RowKit

theorem codO_two {p m n : Int} {ml : List Int} {rows : List (List Int)} (h : CodO p m ml n rows 0) : ∃ pn mn N : Nat, p = pn ∧ m = mn ∧ n = N ∧ FSh pn mn ml ∧ IsF pn mn (lw ml) ∧ 1 ≤ N ∧ N ≤ 64 ∧ rows.length ≤ 256 ∧ ∀ r ∈ rows, r.length = N ∧ entS (pn ^ mn) r = 0 := by
  obtain ⟨hF, hn1, hn2⟩ := codO_fld h
  rcases h with ⟨_, h⟩ | ⟨_, h1, h2⟩ | ⟨h1, h2, h3⟩
  · cases h
  · exact absurd h2.symm h1
  · rcases h3 with ⟨h3, h4⟩ | ⟨_, pn, mn, N, piv, a', rfl, rfl, rfl, _, hm, _⟩
    · exact absurd h4.symm h3
    · obtain ⟨p1, m1, e1, e2, hsh, _, hI⟩ := hF
      obtain rfl : pn = p1 := by omega
      obtain rfl : mn = m1 := by omega
      obtain ⟨_, _, s3, s4⟩ := mchk_shape hm
      exact ⟨pn, mn, N, rfl, rfl, rfl, hsh, hI, by omega, by omega, s3, fun r hr => ⟨by have := (s4 r hr).1; omega, (s4 r hr).2⟩⟩
theorem rowsF_rowsL {N k i j : Nat} {a : Nat → Nat → Int} (hi : i < k) (hj : j < N) : rowsF (rowsL N k a) i j = a i j := by
  unfold rowsF
  rw [List.getD_eq_getElem?_getD (l := rowsL N k a), rowsL_get hi]
  exact eil_getD hj _
/-- The canonical rows have the same orthogonal words. -/
theorem elO_sol {p m : Nat} {ml : List Int} {N R : Nat} {a a' : Nat → Nat → Int} {piv : List Nat} (hp : 2 ≤ p) (h : ElO p m ml N R a a' piv) (x : Nat → Int) : Sol p m ml N (rowsL N piv.length a').length (rowsF (rowsL N piv.length a')) x ↔ Sol p m ml N R a x := by
  obtain ⟨c, hc, hP, hend, hS⟩ := h
  rw [← hS x, rowsL_len]
  have e : ∀ i, i < piv.length → dt p m ml N (rowsF (rowsL N piv.length a') i) x = dt p m ml N (a' i) x := fun i hi => dt_congr (fun j hj => rowsF_rowsL hi hj) fun _ _ => rfl
  constructor
  · intro h i hi
    by_cases hip : i < piv.length
    · rw [← e i hip]; exact h i hip
    · refine dt_zero hp fun j hj => ?_
      rcases hend with h1 | h1
      · omega
      · exact hP.tail i j (by omega) hi (by omega)
  · intro h i hi
    rw [e i hi]
    exact h i (by have := hP.le; omega)
end Go.Proofs.YtgdmlmhpineibaaGreat
namespace Go.Proofs.YtgdmlmhpineibaaGreat
set_option linter.unusedVariables false
set_option linter.unusedSimpArgs false
section
variable {p m : Nat} {ml : List Int} {N k : Nat} {a : Nat → Nat → Int} {piv : List Nat} {c : Nat} {f : Nat → Int}

theorem rst_dt (hp : 2 ≤ p) (pl : Nat → Nat) {x : Nat → Int} (hx : Sol p m ml N k a x) : ∀ i, i ≤ k → dt p m ml N (rst p m ml a pl f i) x = dt p m ml N f x
  | 0, _ => rfl
  | i + 1, hi => by
    show dt p m ml N (addF p m ml (rst p m ml a pl f i) _ (a i)) x = _
    rw [dt_add hp, hx i (by omega), kmul_zero_r (by omega), kadd_zero (by omega) (dt_lt hp _ _)]
    exact rst_dt hp pl hx i (by omega)
theorem rst_rng (hp : 2 ≤ p) (pl : Nat → Nat) (hf : ∀ j, j < N → 0 ≤ f j ∧ f j < (p ^ m : Nat)) : ∀ i, ∀ j, j < N → 0 ≤ rst p m ml a pl f i j ∧ rst p m ml a pl f i j < (p ^ m : Nat)
  | 0 => hf
  | i + 1 => fun j hj => by
    show 0 ≤ addF p m ml (rst p m ml a pl f i) _ (a i) j ∧ addF p m ml (rst p m ml a pl f i) _ (a i) j < _
    unfold addF
    split
    · exact rst_rng hp pl hf i j hj
    · have h := kadd_lt (m := m) (show 1 ≤ p by omega) (kin (p ^ m) (rst p m ml a pl f i j)) (kmul p m (lw ml) (kneg p m (kin (p ^ m) (f (pl i)))) (kin (p ^ m) (a i j)))
      omega
theorem rst_piv (hp : 2 ≤ p) (hm : 1 ≤ m) (h : PV p m k N a piv c) (hk : piv.length = k) (hf : ∀ j, j < N → 0 ≤ f j ∧ f j < (p ^ m : Nat)) : ∀ i, i ≤ k → ∀ j, j < k → rst p m ml a (fun i => piv.getD i 0) f i (piv.getD j 0) = if j < i then 0 else f (piv.getD j 0)
  | 0, _, j, _ => by simp [rst]
  | i + 1, hi, j, hj => by
    have hg : ∀ j, j < k → piv[j]? = some (piv.getD j 0) := fun j hj => by rw [List.getD_eq_getElem?_getD, List.getElem?_eq_getElem (by omega)]; rfl
    have ih := rst_piv hp hm h hk hf i (by omega) j hj
    have hq0 : 0 < p ^ m := Nat.pow_pos (by omega)
    show addF p m ml (rst p m ml a _ f i) _ (a i) (piv.getD j 0) = _
    unfold addF
    by_cases e : j = i
    · subst e
      rw [h.one j _ (hg j hj), if_neg (by decide), if_pos (by omega), ih, if_neg (by omega), kin_one hp hm, kmul_one hp hm (kneg_lt (by omega) _), kadd_kneg (by omega)]
      rfl
    · rw [h.zer j _ i (hg j hj) (by omega) (fun e2 => e e2.symm), if_pos rfl, ih]
      by_cases e2 : j < i
      · rw [if_pos e2, if_pos (by omega)]
      · rw [if_neg e2, if_neg (by omega)]
theorem rst_cl (hp : 2 ≤ p) (hm : 1 ≤ m) (h : PV p m k N a piv c) (hc : c ≤ N) (hk : piv.length = k) (hf : ∀ j, j < N → 0 ≤ f j ∧ f j < (p ^ m : Nat)) : zerB (il N (rst p m ml a (fun i => piv.getD i 0) f k)) = true ↔ Cl p m ml N k a f := by
  have e : ∀ g : Nat → Int, ∀ j, j < N → (il N g).getD j 0 = g j := fun g j hj => by
    rw [List.getD_eq_getElem?_getD, il_get hj]; rfl
  rw [zerB_iff, il_len]
  constructor
  · intro hz x hx
    rw [← rst_dt hp (fun i => piv.getD i 0) hx k (Nat.le_refl _)]
    exact dt_zero hp fun j hj => (e _ j hj).symm.trans (hz j hj)
  · intro hcl j hj
    rw [e _ j hj]
    have hE : Ech N a (fun i => piv.getD i 0) k := hk ▸ RR.ech (R := k) ⟨c, hc, h, .inl hk⟩
    have h2 : Cl p m ml N k a (rst p m ml a (fun i => piv.getD i 0) f k) := fun x hx => by
      rw [rst_dt hp _ hx k (Nat.le_refl _)]; exact hcl x hx
    have h3 := hE.zero (ml := ml) hp hm (r := rst p m ml a (fun i => piv.getD i 0) f k) (fun i hi => by
      rw [rst_piv hp hm h hk hf k (Nat.le_refl _) i hi, if_pos hi]) h2 hj
    have h4 := rst_rng (ml := ml) (a := a) hp (fun i => piv.getD i 0) hf k j hj
    have h5 := kin_code h4.1 h4.2
    omega
end
end Go.Proofs.YtgdmlmhpineibaaGreat
namespace Go.Proofs.YtgdmlmhpineibaaGreat
set_option linter.unusedVariables false
set_option linter.unusedSimpArgs false
open Go.RowKit Go.ChangeShapes Go.WideShapes Go.ChangeAt

theorem rfC_get : ∀ (es : List Rf) (mvs : List Value), mvs.length = es.length → ∀ i, i < es.length → ∀ j, j < 4 → (rfC es mvs)[i * 4 + j]? = (((es.getD i dRf).cells (mvs.getD i undef)))[j]? := fun es => by
  induction es with
  | nil => intro mvs _ i hi; simp at hi
  | cons e es ih =>
    intro mvs hm i hi j hj
    cases mvs with
    | nil => simp at hm
    | cons u mvs =>
      show (e.cells u ++ rfC es mvs)[i * 4 + j]? = _
      cases i with
      | zero => rw [List.getElem?_append_left (by simp [Rf.cells]; omega)]; simp
      | succ i =>
        rw [List.getElem?_append_right (by simp [Rf.cells]; omega)]
        have := ih mvs (by simpa using hm) i (by simpa using hi) j hj
        rw [show (i + 1) * 4 + j - (e.cells u).length = i * 4 + j from by simp [Rf.cells]; omega, this]
        simp
section
variable {H : Type} {enc : TypeId × Value → H} {W : World} {held : Bool}
set_option maxRecDepth 100000 in
theorem rsl_trod {fuel : Nat} {v : Value} {y : DataW H × List MemPlace} (h : DataW.trod enc Tryz.prog W 0 (fun _ => true) held fuel 52 [v] = some y) : ∃ es, RSl W v es := by
  rcases Go.Deep.open_slice Tryz.underlying52 h with ⟨hcs, _⟩ | ⟨x, len, cap, m, n, D, Pl, hcs, _, hl, hm, hmm, _, hr⟩
  · simp at hcs; subst hcs
    exact ⟨[], RSl.nil W⟩
  · simp at hcs; subst hcs
    simp only [if_true] at hmm
    subst hmm
    rw [show Tryz.prog.cellsOf 78 = 4 by kernel_rfl] at hr
    have key : ∀ i, i < len → ∃ q : Rf × Value, W.cell? (x.add (i * 4)) = some (.int .i64 q.1.tp) ∧ W.cell? (x.add (i * 4 + 1)) = some (.int .i64 q.1.sc) ∧ W.cell? (x.add (i * 4 + 2)) = some (.int .i64 q.1.side) ∧ W.cell? (x.add (i * 4 + 3)) = some q.2 ∧ ISl W q.2 q.1.msg := fun i hi => by
      obtain ⟨cs', h1, h2⟩ := hr i (by omega)
      obtain ⟨_, hlen, hcell⟩ := World.cells?_some h1
      obtain ⟨xs, k, _, _, _, hxl, hf⟩ := DataW.trod_struct Tryz.underlying78 h2
      match xs, hxl, cs', hlen with
      | [y0, y1, y2, y3], _, [v0, v1, v2, v3], _ =>
        have g0 := hf 0 _ rfl
        have g1 := hf 1 _ rfl
        have g2 := hf 2 _ rfl
        have g3 := hf 3 _ rfl
        simp [show Tryz.prog.cellsOf 3 = 1 by kernel_rfl, show Tryz.prog.cellsOf 22 = 1 by kernel_rfl] at g0 g1 g2 g3
        have e0 := hcell 0 (by omega)
        have e1 := hcell 1 (by omega)
        have e2 := hcell 2 (by omega)
        have e3 := hcell 3 (by omega)
        rw [Go.Deep.add_add] at e0 e1 e2 e3
        obtain ⟨p0, ep0, _, _⟩ := DataW.trod_int Tryz.underlying3 g0
        obtain ⟨p1, ep1, _, _⟩ := DataW.trod_int Tryz.underlying3 g1
        obtain ⟨p2, ep2, _, _⟩ := DataW.trod_int Tryz.underlying3 g2
        simp at ep0 ep1 ep2
        subst ep0 ep1 ep2
        obtain ⟨l, hl⟩ := isl_trod g3
        exact ⟨(⟨p0, p1, p2, l⟩, v3), by simpa using e0, by simpa using e1, by simpa using e2, by simpa using e3, hl⟩
    haveI : Inhabited (Rf × Value) := ⟨(dRf, .bool false)⟩
    obtain ⟨q, hq⟩ := Go.Deep.choose_lt key
    have hL : ((List.range len).map fun i => (q i).1).length = len := by simp
    have hO : ((List.range len).map fun i => (q i).2).length = len := by simp
    have hgL : ∀ i, i < len → ((List.range len).map fun i => (q i).1).getD i dRf = (q i).1 := fun i hi => by
      rw [List.getD_eq_getElem?_getD]; simp [hi]
    have hgO : ∀ i, i < len → ((List.range len).map fun i => (q i).2).getD i undef = (q i).2 := fun i hi => by
      rw [List.getD_eq_getElem?_getD]; simp [hi]
    have hlen : (rfC ((List.range len).map fun i => (q i).1) ((List.range len).map fun i => (q i).2)).length = len * 4 := by
      rw [rfC_len _ _ (by rw [hL, hO]), hL]
    refine ⟨(List.range len).map fun i => (q i).1, (List.range len).map fun i => (q i).2, by rw [hL, hO], ⟨by rw [hlen, hL], some x, m, by rw [hL], by rw [hL]; exact hl, hm, fun hn => ?_⟩, fun i e mv h1 h2 => ?_⟩
    · rw [hL] at hn
      have h0 := (hq 0 hn).1
      have hx := spot_none h0 (.inl ⟨_, _, rfl⟩)
      have hx0 : (x.add (0 * 4)) = x := by simp [Addr.add]
      rw [hx0] at hx
      refine ⟨x.block, x.off, congrArg some hx, fun j u hu => ?_⟩
      have hj : j < len * 4 := by
        have := (List.getElem?_eq_some_iff.1 hu).1
        rw [hlen] at this
        exact this
      obtain ⟨i, r, hr3, rfl⟩ : ∃ i r, r < 4 ∧ j = i * 4 + r := ⟨j / 4, j % 4, Nat.mod_lt _ (by omega), by omega⟩
      have hi : i < len := by omega
      obtain ⟨k0, k1, k2, k3, _⟩ := hq i hi
      rw [hx, add_off] at k0 k1 k2 k3
      rw [rfC_get _ _ (by rw [hL, hO]) i (by rw [hL]; exact hi) r hr3, hgL i hi, hgO i hi] at hu
      match r, hr3 with
      | 0, _ => simp [Rf.cells] at hu; rw [Nat.add_zero, ← hu]; exact k0
      | 1, _ => simp [Rf.cells] at hu; rw [← hu]; exact k1
      | 2, _ => simp [Rf.cells] at hu; rw [← hu]; exact k2
      | 3, _ => simp [Rf.cells] at hu; rw [← hu]; exact k3
    · have hi : i < len := by have := (List.getElem?_eq_some_iff.1 h1).1; simpa using this
      simp [hi] at h1 h2
      subst h1 h2
      exact (hq i hi).2.2.2.2
theorem c_code : Tryz.prog.cellsOf 47 = 5 := by kernel_rfl
theorem c_part : Tryz.prog.cellsOf 49 = 2 := by kernel_rfl
theorem c_refu : Tryz.prog.cellsOf 54 = 1 := by kernel_rfl
theorem c_entr : Tryz.prog.cellsOf 52 = 1 := by kernel_rfl
theorem c_case : Tryz.prog.cellsOf 61 = 6 := by kernel_rfl
set_option maxRecDepth 100000 in
theorem open_code {r : Reach} {b0 : Nat} {v : Value} {d : DataW H} {p : List MemPlace} (hv : Value.okWide Tryz.prog W r b0 47 v) (h : DataW.Trod enc Tryz.prog W 0 (fun _ => true) held 47 v d p) :
    ∃ (c : CdV) (mv gv : Value), v = c.arg mv gv ∧ c.at W mv gv := by
  obtain ⟨cs, rfl, hsz⟩ := okWide_agg Tryz.underlying47 hv
  obtain ⟨c0, c1, c2, c3, c4, rfl⟩ := array5 (hsz.trans c_code)
  obtain ⟨fuel, hf⟩ := h
  obtain ⟨xs, k, _, _, _, hxl, hff⟩ := DataW.trod_struct Tryz.underlying47 hf
  have g0 := hff 0 _ rfl
  have g1 := hff 1 _ rfl
  have g2 := hff 2 _ rfl
  match xs, hxl with
  | [y0, y1, y2], _ =>
    simp [c_int, c_fld, c_rows, Value.cells] at g0 g1 g2
    obtain ⟨P, M, ml, rfl, rfl, hm⟩ := fld_cells g0
    obtain ⟨N, e0, _, _⟩ := DataW.trod_int Tryz.underlying3 g1
    obtain ⟨rows, hr⟩ := msl_trod g2
    simp at e0
    subst e0
    exact ⟨⟨P, M, ml, N, rows⟩, _, _, rfl, hm, hr⟩
theorem part_cells {fuel : Nat} {c0 c1 : Value} {y : DataW H × List MemPlace} (h : DataW.trod enc Tryz.prog W 0 (fun _ => true) held fuel 49 [c0, c1] = some y) :
    ∃ (tl sl : List Int), ISl W c0 tl ∧ ISl W c1 sl := by
  obtain ⟨xs, k, _, _, _, hxl, hf⟩ := DataW.trod_struct Tryz.underlying49 h
  have g0 := hf 0 _ rfl
  have g1 := hf 1 _ rfl
  match xs, hxl with
  | [y0, y1], _ =>
    simp [c_ints] at g0 g1
    obtain ⟨l, hl⟩ := isl_trod g0
    obtain ⟨l', hl'⟩ := isl_trod g1
    exact ⟨l, l', hl, hl'⟩
theorem array2' {α : Type} {cs : Array α} (h : cs.size = 2) : ∃ c0 c1, cs = #[c0, c1] := by
  obtain ⟨l⟩ := cs
  match l, h with
  | [c0, c1], _ => exact ⟨c0, c1, rfl⟩
set_option maxRecDepth 100000 in
theorem open_part {r : Reach} {b0 : Nat} {v : Value} {d : DataW H} {p : List MemPlace} (hv : Value.okWide Tryz.prog W r b0 49 v) (h : DataW.Trod enc Tryz.prog W 0 (fun _ => true) held 49 v d p) :
    ∃ (tv sv : Value) (tl sl : List Int), v = .agg #[tv, sv] ∧ ISl W tv tl ∧ ISl W sv sl := by
  obtain ⟨cs, rfl, hsz⟩ := okWide_agg Tryz.underlying49 hv
  obtain ⟨c0, c1, rfl⟩ := array2' (hsz.trans c_part)
  obtain ⟨fuel, hf⟩ := h
  obtain ⟨tl, sl, h1, h2⟩ := part_cells (by simpa [Value.cells] using hf)
  exact ⟨_, _, tl, sl, rfl, h1, h2⟩
theorem refu_cells {fuel : Nat} {c0 : Value} {y : DataW H × List MemPlace} (h : DataW.trod enc Tryz.prog W 0 (fun _ => true) held fuel 54 [c0] = some y) : ∃ es, RSl W c0 es := by
  obtain ⟨xs, k, _, _, _, hxl, hf⟩ := DataW.trod_struct Tryz.underlying54 h
  have g0 := hf 0 _ rfl
  match xs, hxl with
  | [y0], _ =>
    simp [c_entr] at g0
    exact rsl_trod g0
set_option maxRecDepth 100000 in
theorem open_case {r : Reach} {b0 : Nat} {v : Value} {d : DataW H} {p : List MemPlace} (hv : Value.okWide Tryz.prog W r b0 61 v) (h : DataW.Trod enc Tryz.prog W 0 (fun _ => true) held 61 v d p) :
    ∃ (tv sv ev pv uv : Value) (tl sl : List Int) (es : List Rf) (pl ul : List Int) (fr : Int), v = .agg #[tv, sv, ev, pv, uv, .int .i64 fr] ∧ ISl W tv tl ∧ ISl W sv sl ∧ RSl W ev es ∧ ISl W pv pl ∧ ISl W uv ul := by
  obtain ⟨cs, rfl, hsz⟩ := okWide_agg Tryz.underlying61 hv
  obtain ⟨c0, c1, c2, c3, c4, c5, rfl⟩ := array6 (hsz.trans c_case)
  obtain ⟨fuel, hf⟩ := h
  obtain ⟨xs, k, _, _, _, hxl, hff⟩ := DataW.trod_struct Tryz.underlying61 hf
  have g0 := hff 0 _ rfl
  have g1 := hff 1 _ rfl
  have g2 := hff 2 _ rfl
  match xs, hxl with
  | [y0, y1, y2], _ =>
    simp [c_part, c_refu, c_mon, Value.cells] at g0 g1 g2
    obtain ⟨tl, sl, h1, h2⟩ := part_cells g0
    obtain ⟨es, h3⟩ := refu_cells g1
    obtain ⟨pl, ul, fr, h4, h5, rfl⟩ := mon_cells g2
    exact ⟨_, _, _, _, _, tl, sl, es, pl, ul, fr, rfl, h1, h2, h3, h4, h5⟩
end
end Go.Proofs.YtgdmlmhpineibaaGreat
