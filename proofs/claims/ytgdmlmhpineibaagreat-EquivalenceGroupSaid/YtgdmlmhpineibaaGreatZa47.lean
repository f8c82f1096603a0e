/- Plain: the rows of a Code value are determined; the examples of chapter 31, computed. -/
/- Walk of codewrightref12.Same. -/
/- Plain: monomial maps compose, have inverses, keep weights. -/
import Derived.Test.YtgdmlmhpineibaaGreatZa22
import Derived.Test.YtgdmlmhpineibaaGreatZa29
import Derived.Test.YtgdmlmhpineibaaGreatZa38
import Derived.Test.YtgdmlmhpineibaaGreatZa44
import Derived.Test.YtgdmlmhpineibaaGreatZa45
import Derived.Test.YtgdmlmhpineibaaGreatZa46
namespace Go.Proofs.YtgdmlmhpineibaaGreat
set_option linter.unusedVariables false
set_option linter.unusedSimpArgs false
open Go.RowKit

theorem elO_uniq {p m : Nat} {ml : List Int} {N R R2 : Nat} {a b a1 a2 : Nat → Nat → Int} {piv1 piv2 : List Nat} (hp : 2 ≤ p) (hm : 1 ≤ m) (hab : ∀ x, Sol p m ml N R a x ↔ Sol p m ml N R2 b x) (h1 : ElO p m ml N R a a1 piv1) (h2 : ElO p m ml N R2 b a2 piv2) : rowsL N piv1.length a1 = rowsL N piv2.length a2 ∧ piv1 = piv2 := by
  obtain ⟨c1, x1, y1, z1, s1⟩ := h1
  obtain ⟨c2, x2, y2, z2, s2⟩ := h2
  obtain ⟨e1, e2⟩ := rr_uniq (ml := ml) hp hm ⟨c1, x1, y1, z1⟩ ⟨c2, x2, y2, z2⟩ fun x => ((s1 x).trans (hab x)).trans (s2 x).symm
  subst e1
  refine ⟨List.map_congr_left fun i hi => List.map_congr_left fun j hj => e2 i (List.mem_range.1 hi) j (List.mem_range.1 hj), rfl⟩
theorem elO_self {p m : Nat} {ml : List Int} {N R : Nat} {a : Nat → Nat → Int} {piv : List Nat} {c : Nat} (h : PV p m R N a piv c) (hc : c ≤ N) (hr : piv.length = R) : ElO p m ml N R a a piv := ⟨c, hc, h, .inl hr, fun x => Iff.rfl⟩
/-- Two answers about one Code value are the same. -/
theorem codO_uniq {p m n : Int} {ml : List Int} {rows : List (List Int)} {e e' : Int} (h : CodO p m ml n rows e) (h' : CodO p m ml n rows e') : e = e' := by
  rcases h with ⟨a, rfl⟩ | ⟨a, b, rfl⟩ | ⟨a, b, h⟩ <;> rcases h' with ⟨a', rfl⟩ | ⟨a', b', rfl⟩ | ⟨a', b', h'⟩ <;> first | rfl | contradiction | skip
  rcases h with ⟨c, rfl⟩ | ⟨c, pn, mn, N, piv, a1, rfl, rfl, rfl, hF, _, hE, rfl⟩ <;> rcases h' with ⟨c', rfl⟩ | ⟨c', pn', mn', N', piv', a1', e1, e2, e3, hF', _, hE', rfl⟩ <;> first | rfl | contradiction | skip
  obtain rfl : pn' = pn := by omega
  obtain rfl : mn' = mn := by omega
  obtain rfl : N' = N := by omega
  obtain ⟨p1, m1, e1, e2, hsh, _⟩ := hF
  obtain rfl : p1 = pn' := by omega
  obtain rfl : m1 = mn' := by omega
  rw [(elO_uniq hsh.p2 hsh.m1 (fun _ => Iff.rfl) hE hE').1]
/-- One row, reduced: its Code value passes. -/
theorem pv_one {p m N q : Nat} {r : List Int} (hq : q < N) (h0 : ∀ j, j < N → 0 ≤ r.getD j 0 ∧ r.getD j 0 < ((p ^ m : Nat) : Int)) (h1 : r.getD q 0 = 1) (h2 : ∀ k, k < q → r.getD k 0 = 0) : PV p m 1 N (rowsF [r]) [q] (q + 1) where
  le := by simp
  rng := fun i hi j hj => by
    obtain rfl : i = 0 := by omega
    exact h0 j hj
  lt := fun j q' h => by
    rcases j with _ | j
    · simp at h; omega
    · simp at h
  one := fun j q' h => by
    rcases j with _ | j
    · simp at h; subst h; exact h1
    · simp at h
  zer := fun j q' i h hi hne => by
    rcases j with _ | j
    · omega
    · simp at h
  tail := fun i j h hi _ => by simp at h; omega
  lead := fun j q' k h hk => by
    rcases j with _ | j
    · simp at h; subst h; exact h2 k hk
    · simp at h
  asc := fun i j q' r' hij h h' => by
    rcases j with _ | j
    · omega
    · simp at h'
theorem il_row {N : Nat} {r : List Int} (h : r.length = N) : il N (rowsF [r] 0) = r := by
  subst h
  refine List.ext_getElem? fun j => ?_
  by_cases hj : j < r.length
  · rw [il_get hj, List.getElem?_eq_getElem hj]
    show some (r.getD j 0) = _
    rw [List.getD_eq_getElem?_getD, List.getElem?_eq_getElem hj]; rfl
  · rw [List.getElem?_eq_none (by rw [il_len]; omega), List.getElem?_eq_none (by omega)]
theorem codO_one {p m N q : Nat} {ml : List Int} {r : List Int} {e : Int} (hF : FldB p m ml) (hc : canE p m ml N [r] = 0) (hl : lenE N = 0) (hk : mchkS (p ^ m) N [r] = 0) (hr : r.length = N) (hv : PV p m 1 N (rowsF [r]) [q] (q + 1)) (hq : q < N) (h : CodO p m ml N [r] e) : e = 0 := by
  have hck : chkS p m ml = 0 := by
    apply Classical.byContradiction; intro h; unfold canE at hc; rw [if_pos h] at hc; cases hc
  refine codO_uniq h (.inr (.inr ⟨hck, hl, .inr ⟨hc, p, m, N, [q], rowsF [r], rfl, rfl, rfl, hF, hk, elO_self hv (by omega) rfl, ?_⟩⟩))
  rw [if_pos]
  show [il N (rowsF [r] 0)] = [r]
  rw [il_row hr]
/-- The examples. -/
def eC : CdV := ⟨2, 1, [], 3, [[1, 1, 0]]⟩
def eD : CdV := ⟨2, 1, [], 3, [[0, 1, 1]]⟩
theorem e21 : FldB 2 1 [] := ⟨2, 1, rfl, rfl, ⟨by omega, by omega, by omega, by decide, rfl, by intro x hx; cases hx⟩, by decide, (field_iff (p := 2) (m := 1) (ml := []) ⟨by omega, by omega, by omega, by decide, rfl, by intro x hx; cases hx⟩ (by decide)).2 (.inl rfl)⟩
theorem eC_pv : PV 2 1 1 3 (rowsF [[1, 1, 0]]) [0] 1 := pv_one (by omega) (by decide) rfl (by decide)
theorem eD_pv : PV 2 1 1 3 (rowsF [[0, 1, 1]]) [1] 2 := pv_one (by omega) (by decide) rfl (by decide)
theorem eC_cod {e : Int} (h : CodO 2 1 [] 3 [[1, 1, 0]] e) : e = 0 := codO_one (p := 2) (m := 1) (N := 3) e21 (by decide +kernel) (by decide +kernel) (by decide +kernel) rfl eC_pv (by omega) h
theorem eD_cod {e : Int} (h : CodO 2 1 [] 3 [[0, 1, 1]] e) : e = 0 := codO_one (p := 2) (m := 1) (N := 3) e21 (by decide +kernel) (by decide +kernel) (by decide +kernel) rfl eD_pv (by omega) h
def rfT (x : Rf) : Int × Int × Int × List Int := (x.tp, x.sc, x.side, x.msg)
theorem rfT_inj {l l' : List Rf} (h : l.map rfT = l'.map rfT) : l = l' := by
  induction l generalizing l' with
  | nil => cases l' with
    | nil => rfl
    | cons y t => simp at h
  | cons x s ih => cases l' with
    | nil => simp at h
    | cons y t =>
      rw [List.map_cons, List.map_cons] at h
      injection h with h1 h2
      rw [ih h2]
      cases x; cases y
      simp only [rfT, Prod.mk.injEq] at h1
      obtain ⟨rfl, rfl, rfl, rfl⟩ := h1
      rfl
theorem e_st0 : stE 0 0 (samF eC.p eC.m eC.ml eD.p eD.m eD.ml) eC.n eD.n [] [] (eC.p.toNat ^ eC.m.toNat) = 0 := by decide +kernel
theorem e_st1 : stE 0 0 (samF eC.p eC.m eC.ml eD.p eD.m eD.ml) eC.n eD.n [0] [1] (eC.p.toNat ^ eC.m.toNat) = 0 := by decide +kernel
theorem e_st2 : stE 0 0 (samF eC.p eC.m eC.ml eC.p eC.m eC.ml) eC.n eC.n [0] [1] (eC.p.toNat ^ eC.m.toNat) = 0 := by decide +kernel
theorem e_find : fndE 0 (fndS eC eD [] []) = 0 ∧ (fndM 0 (fndS eC eD [] [])).perm = [1, 2, 0] ∧ (fndM 0 (fndS eC eD [] [])).scale = [1, 1, 1] ∧ (fndM 0 (fndS eC eD [] [])).frob = 0 := by decide +kernel
theorem e_find1 : fndE 0 (fndS eC eD [0] [1]) = 11 := by decide +kernel
theorem e_ref : rftE 0 (fndS eC eD [0] [1]) = 0 := by decide +kernel
theorem e_refL : rftL 0 (fndS eC eD [0] [1]) = [⟨0, 0, 0, [1]⟩] := rfT_inj (by decide +kernel)
theorem e_ref1 : rftE 0 (fndS eC eD [] []) = 11 := by decide +kernel
theorem e_wrd : wrdE 3 1 [] [1, 0] [2, 1] 0 [1, 2] = 0 ∧ wrdL 3 1 [] [1, 0] [2, 1] 0 [1, 2] = [2, 2] := by decide +kernel
theorem e_inv : monS 3 1 [] 2 [1, 0] [2, 1] 0 = 0 ∧ (invM 3 1 [] [1, 0] [2, 1] 0).perm = [1, 0] ∧ (invM 3 1 [] [1, 0] [2, 1] 0).scale = [1, 2] ∧ (invM 3 1 [] [1, 0] [2, 1] 0).frob = 0 := by decide +kernel
theorem e_cmp : cmpE 3 1 [] [1, 0] [2, 1] 0 [1, 0] [1, 2] 0 = 0 ∧ (cmpM 3 1 [] [1, 0] [2, 1] 0 [1, 0] [1, 2] 0).perm = [0, 1] ∧ (cmpM 3 1 [] [1, 0] [2, 1] 0 [1, 0] [1, 2] 0).scale = [1, 1] ∧ (cmpM 3 1 [] [1, 0] [2, 1] 0 [1, 0] [1, 2] 0).frob = 0 := by decide +kernel
theorem e_app : monS 2 1 [] 3 [1, 2, 0] [1, 1, 1] 0 = 0 ∧ imA 2 1 [] [1, 2, 0] [1, 1, 1] 0 3 [[1, 1, 0]] = [[0, 1, 1]] := by decide +kernel
theorem e_chk : ckE 0 (flS eC eD [⟨0, 0, 0, [1]⟩] [0] [1]) [⟨0, 0, 0, [1]⟩] = 0 := by decide +kernel
theorem e_chk1 : ckE 0 (flS eC eC [⟨0, 0, 0, [1]⟩] [0] [1]) [⟨0, 0, 0, [1]⟩] = 13 := by decide +kernel
end Go.Proofs.YtgdmlmhpineibaaGreat
namespace Go.Proofs.YtgdmlmhpineibaaGreat
set_option linter.unusedVariables false
set_option linter.unusedSimpArgs false
open Go.RowKit

/-- Two Code values are equal. -/
def samC (c d : CdV) : Bool := samF c.p c.m c.ml d.p d.m d.ml && (decide (c.n = d.n) && decide (c.rows = d.rows))
theorem samC_iff {c d : CdV} : samC c d = true ↔ c = d := by
  obtain ⟨p, m, ml, n, rows⟩ := c
  obtain ⟨p', m', ml', n', rows'⟩ := d
  simp only [samC, Bool.and_eq_true, decide_eq_true_eq, samF_iff, CdV.mk.injEq]
  constructor
  · rintro ⟨⟨h1, h2, h3⟩, h4, h5⟩; exact ⟨h1, h2, h3, h4, h5⟩
  · rintro ⟨h1, h2, h3, h4, h5⟩; exact ⟨⟨h1, h2, h3⟩, h4, h5⟩
set_option maxRecDepth 100000 in
set_option maxHeartbeats 4000000 in
theorem rCSame_any (w : World) (c d : CdV) (m1 m2 v1 v2 : Value) (hc : c.at w m1 v1) (hd : d.at w m2 v2) :
    Calls Tryz.prog 39 #[c.arg m1 v1, d.arg m2 v2] w fun r w' => r = .returned (.bool (samC c d)) ∧ Ex w w' := by
  obtain ⟨c0, c1, c2, c3, c4⟩ := boxC5 w c m1 v1
  obtain ⟨d0, d1, d2, d3, d4⟩ := boxC5 (w.alloc (c.obj m1 v1)) d m2 v2
  have hz1 : (w.alloc (c.obj m1 v1)).heap.size = w.heap.size + 1 := by simp
  have e1 := e_al w (c.obj m1 v1)
  have e2 := e_al (w.alloc (c.obj m1 v1)) (d.obj m2 v2)
  rw [hz1] at d0 d1 d2 d3 d4
  replace c0 := e2.cell c0
  replace c1 := e2.cell c1
  replace c2 := e2.cell c2
  replace c3 := e2.cell c3
  replace c4 := e2.cell c4
  have hxw := e1.trans e2
  have HSF := hid_ (rFSame_any _ c.p c.m c.ml m1 ((hc.ex hxw).m) d.p d.m d.ml m2 ((hd.ex hxw).m))
  have HSR := hid_ (fun (w' : World) (h : Ex ((w.alloc (c.obj m1 v1)).alloc (d.obj m2 v2)) w') => SameRows_any w' c.rows d.rows v1 v2 ((hc.ex (hxw.trans h)).g) ((hd.ex (hxw.trans h)).g))
  obtain ⟨x1, y1, rfl, -, z1, -⟩ := hc.g.open
  obtain ⟨x2, y2, rfl, -, z2, -⟩ := hd.g.open
  obtain ⟨x3, y3, rfl, -, z3, -⟩ := hc.m.open
  obtain ⟨x4, y4, rfl, -, z4, -⟩ := hd.m.open
  have HX := hid_ hxw
  obtain ⟨p, m, ml, n, rows⟩ := c
  obtain ⟨p', m', ml', n', rows'⟩ := d
  obtain ⟨B, hB⟩ : ∃ B, w.heap.size = B := ⟨_, rfl⟩
  rw [hB] at c0 c1 c2 c3 c4 d0 d1 d2 d3 d4
  obtain ⟨F, hF⟩ : ∃ F, samF p m ml p' m' ml' = F := ⟨_, rfl⟩
  have HSM := hid_ (show samC ⟨p, m, ml, n, rows⟩ ⟨p', m', ml', n', rows'⟩ = (F && (decide (n = n') && decide (rows = rows'))) from by rw [← hF]; rfl)
  rw [HSM.out]
  clear HSM
  dsimp only [CdV.arg, CdV.obj] at *
  rw [hF] at HSF
  clear hF
  clear hc hd e1 e2 hxw hz1 z1 z2 z3 z4
  go_enter Tryz.func39, Tryz.ntmps39
  go_upto_region 1 with fail
  try simp only [hB]
  clear hB
  generalize (w.alloc (.cells #[.int .i64 p, .int .i64 m, .slice x3 ml.length y3, .int .i64 n, .slice x1 rows.length y1] 47)).alloc (.cells #[.int .i64 p', .int .i64 m', .slice x4 ml'.length y4, .int .i64 n', .slice x2 rows'.length y2] 47) = wB at *
  have HALL := hid_ (fun w' (h : Ex wB w') => (⟨h.cell c3, h.cell c4, h.cell d3, h.cell d4⟩ : _ ∧ _ ∧ _ ∧ _))
  cases F with
  | false =>
    go_wp2_with fail
    refine HSF.out.mono ?_
    rintro e w2 ⟨rfl, hx2⟩
    have HX2 := hid_ (HX.out.trans hx2)
    clear c0 c1 c2 c3 c4 d0 d1 d2 d3 d4 hx2
    go_wp2_with fail
    go_ret
    exact ⟨rfl, HX2.out⟩
  | true =>
    go_wp2_with fail
    refine HSF.out.mono ?_
    rintro e w2 ⟨rfl, hx2⟩
    have HX2 := hid_ hx2
    clear c0 c1 c2 c3 c4 d0 d1 d2 d3 d4 hx2
    obtain ⟨c3, c4, d3, d4⟩ := HALL.out w2 HX2.out
    by_cases hn : n = n'
    · subst hn
      have k1 : (n == n) = true := by simp
      have HR := hid_ (HSR.out w2 HX2.out)
      obtain ⟨D, hD⟩ : ∃ D, decide (rows = rows') = D := ⟨_, rfl⟩
      rw [hD] at HR
      have HD := hid_ hD
      clear hD
      go_wp2_with fail
      refine HR.out.mono ?_
      rintro e w3 ⟨rfl, n3, rfl⟩
      have HX3 := hid_ ((Ex.refl w2).drewN n3)
      go_wp2_with fail
      go_ret
      refine ⟨?_, HX.out.trans (HX2.out.trans HX3.out)⟩
      have := HD.out
      simp [this]
    · have k1 : (n == n') = false := by simpa using hn
      have HN := hid_ hn
      clear hn
      go_wp2_with fail
      go_ret
      refine ⟨?_, HX.out.trans HX2.out⟩
      have := HN.out
      simp [this]
end Go.Proofs.YtgdmlmhpineibaaGreat
namespace Go.Proofs.YtgdmlmhpineibaaGreat
set_option linter.unusedVariables false
set_option linter.unusedSimpArgs false
open Go.RowKit

section
variable {p m : Nat} {low : Vc}
theorem kpw_one_ (hp : 2 ≤ p) (hm : 1 ≤ m) {x : Nat} (hx : x < p ^ m) : kpw p m low x 1 = x := by
  show kmul p m low 1 x = x
  exact one_kmul hp hm hx
theorem kpw_mulx (hp : 2 ≤ p) (hm : 1 ≤ m) (x y : Nat) : ∀ e, kpw p m low (kmul p m low x y) e = kmul p m low (kpw p m low x e) (kpw p m low y e)
  | 0 => by
    show 1 = kmul p m low 1 1
    rw [one_kmul hp hm (one_lt_q hp hm)]
  | e + 1 => by
    show kmul p m low (kpw p m low (kmul p m low x y) e) (kmul p m low x y) = kmul p m low (kmul p m low (kpw p m low x e) x) (kmul p m low (kpw p m low y e) y)
    have h1 : 1 ≤ p := by omega
    rw [kpw_mulx hp hm x y e, kmul_assoc h1, ← kmul_assoc h1 (kpw p m low y e), kmul_comm (kpw p m low y e) x, kmul_assoc h1 x, ← kmul_assoc h1]
theorem kpw_q (hp : 2 ≤ p) (hm : 1 ≤ m) (hF : IsF p m low) {x : Nat} (hx : x < p ^ m) : kpw p m low x (p ^ m) = x := by
  have hq := one_lt_q hp hm
  by_cases h0 : x = 0
  · subst h0
    exact kpw_zero (by omega) _ (by omega)
  · have h := kpw_add (low := low) hp hm x (p ^ m - 1) 1
    rw [show p ^ m - 1 + 1 = p ^ m from by omega, ← kpw_mod hp hm hF (by omega) hx (p ^ m - 1), Nat.mod_self, kpw_one_ hp hm hx] at h
    rw [h]
    exact one_kmul hp hm hx
theorem frb_kpw (hp : 2 ≤ p) (hm : 1 ≤ m) {x : Nat} (hx : x < p ^ m) : ∀ k, frb p m low x k = kpw p m low x (p ^ k)
  | 0 => by rw [Nat.pow_zero, kpw_one_ hp hm hx]; rfl
  | k + 1 => by
    show kpw p m low (frb p m low x k) p = _
    rw [frb_kpw hp hm hx k, kpw_kpw hp hm, Nat.pow_succ]
theorem frb_add (x a : Nat) : ∀ b, frb p m low (frb p m low x a) b = frb p m low x (a + b)
  | 0 => rfl
  | b + 1 => by
    show kpw p m low (frb p m low (frb p m low x a) b) p = kpw p m low (frb p m low x (a + b)) p
    rw [frb_add x a b]
theorem frb_m (hp : 2 ≤ p) (hm : 1 ≤ m) (hF : IsF p m low) {x : Nat} (hx : x < p ^ m) : frb p m low x m = x := by
  rw [frb_kpw hp hm hx, kpw_q hp hm hF hx]
theorem frb_mod (hp : 2 ≤ p) (hm : 1 ≤ m) (hF : IsF p m low) {x : Nat} (hx : x < p ^ m) (k : Nat) : frb p m low x (k % m) = frb p m low x k := by
  have key : ∀ c r, frb p m low x (m * c + r) = frb p m low x r := fun c => by
    induction c with
    | zero => intro r; rw [Nat.mul_zero, Nat.zero_add]
    | succ c ih =>
      intro r
      rw [show m * (c + 1) + r = m + (m * c + r) from by rw [Nat.mul_succ]; omega, ← frb_add, frb_m hp hm hF hx, ih]
  have h := key (k / m) (k % m)
  rw [Nat.div_add_mod] at h
  exact h.symm
theorem frb_mul (hp : 2 ≤ p) (hm : 1 ≤ m) (x y : Nat) : ∀ k, frb p m low (kmul p m low x y) k = kmul p m low (frb p m low x k) (frb p m low y k)
  | 0 => rfl
  | k + 1 => by
    show kpw p m low (frb p m low (kmul p m low x y) k) p = _
    rw [frb_mul hp hm x y k, kpw_mulx hp hm]; rfl
theorem kpw_pos (hp : 2 ≤ p) (hm : 1 ≤ m) (hF : IsF p m low) {x : Nat} (h1 : 1 ≤ x) (hx : x < p ^ m) : ∀ e, 1 ≤ kpw p m low x e
  | 0 => Nat.le_refl _
  | e + 1 => hF.ne_zero hp hm (kpw_pos hp hm hF h1 hx e) (kpw_lt hp hm x e) h1 hx
theorem frb_pos (hp : 2 ≤ p) (hm : 1 ≤ m) (hF : IsF p m low) {x : Nat} (h1 : 1 ≤ x) (hx : x < p ^ m) (k : Nat) : 1 ≤ frb p m low x k := by
  rw [frb_kpw hp hm hx]; exact kpw_pos hp hm hF h1 hx _
theorem frb_zero (hp : 2 ≤ p) (hm : 1 ≤ m) (k : Nat) : frb p m low 0 k = 0 := by
  rw [frb_kpw hp hm (Nat.pow_pos (by omega))]; exact kpw_zero (by omega) _ (Nat.pow_pos (by omega))
theorem frb_one (hp : 2 ≤ p) (hm : 1 ≤ m) (k : Nat) : frb p m low 1 k = 1 := by
  rw [frb_kpw hp hm (one_lt_q hp hm)]
  generalize p ^ k = e
  induction e with
  | zero => rfl
  | succ e ih =>
    show kmul p m low (kpw p m low 1 e) 1 = 1
    rw [ih]; exact one_kmul hp hm (one_lt_q hp hm)
end

/-- A valid map. -/
structure MonOK (p m : Nat) (ml pl sl : List Int) (fr N : Nat) : Prop where
  hp : 2 ≤ p
  hm : 1 ≤ m
  hF : IsF p m (lw ml)
  n1 : 1 ≤ N
  n2 : N ≤ 64
  pll : pl.length = N
  sll : sl.length = N
  inj : InjN N (piF pl)
  sc : ∀ i, i < N → ∃ z : Nat, sl.getD i 0 = z ∧ 1 ≤ z ∧ z < p ^ m
  frm : fr < m
theorem injN_of {pl : List Int} {N : Nat} (hl : pl.length = N) (hr : rngB pl N = true) (hd : dupB pl = false) : InjN N (piF pl) := by
  refine ⟨fun i hi => ?_, fun i j hi hj e => Classical.byContradiction fun hij => ?_⟩
  · have := rngB_at hr (i := i) (by omega)
    unfold piF; omega
  · have h1 := rngB_at hr (i := i) (by omega)
    have h2 := rngB_at hr (i := j) (by omega)
    have : dupB pl = true := dupB_iff.2 (by
      unfold piF at e
      rcases Nat.lt_or_gt_of_ne hij with h | h
      · exact ⟨j, i, h, by omega, by omega⟩
      · exact ⟨i, j, h, by omega, by omega⟩)
    rw [hd] at this; cases this
theorem monOK_of {p m : Int} {ml : List Int} {n : Int} {pl sl : List Int} {fr : Int} (h : monS p m ml n pl sl fr = 0) :
    ∃ (pn mn N fn : Nat), p = pn ∧ m = mn ∧ n = N ∧ fr = fn ∧ FSh pn mn ml ∧ chkS p m ml = 0 ∧ MonOK pn mn ml pl sl fn N := by
  obtain ⟨n0, n1, n2, n3, n4, n5, n6, n7, n8, n9⟩ := mon_ok h
  obtain ⟨pn, mn, rfl, rfl, hf, hpr, hF⟩ := (chk_iff _ _ _).1 n0
  obtain ⟨fn, rfl⟩ : ∃ fn : Nat, fr = fn := ⟨fr.toNat, by omega⟩
  obtain ⟨N, rfl⟩ : ∃ N : Nat, n = N := ⟨n.toNat, by omega⟩
  exact ⟨pn, mn, N, fn, rfl, rfl, rfl, rfl, hf, n0, hf.p2, hf.m1, hF, by omega, by omega, by omega, by omega, injN_of (by omega) n5 n8, fun i hi => fac_at (by simpa only [Int.toNat_natCast] using n9) (by omega), by omega⟩
theorem facS_of {q : Nat} {l : List Int} (h : ∀ i, i < l.length → ∃ z : Nat, l.getD i 0 = z ∧ 1 ≤ z ∧ z < q) : facS q l = 0 := by
  unfold facS
  have key : ∀ x ∈ l, ∃ z : Nat, x = z ∧ 1 ≤ z ∧ z < q := fun x hx => by
    obtain ⟨i, hi, rfl⟩ := List.getElem_of_mem hx
    have := h i hi
    rw [List.getD_eq_getElem?_getD, List.getElem?_eq_getElem hi] at this
    exact this
  rw [if_neg, if_neg]
  · intro hc
    rw [List.contains_iff_mem] at hc
    obtain ⟨z, h1, h2, _⟩ := key 0 hc
    omega
  · intro hc
    obtain ⟨x, hx, h1⟩ := List.any_eq_true.1 hc
    obtain ⟨z, rfl, h2, h3⟩ := key x hx
    unfold isB at h1
    simp at h1
    omega
theorem dupB_of {pl : List Int} {N : Nat} (hl : pl.length = N) (h0 : ∀ i, i < N → 0 ≤ pl.getD i 0) (h : InjN N (piF pl)) : dupB pl = false := by
  cases hd : dupB pl with
  | false => rfl
  | true =>
    obtain ⟨i, j, h1, h2, h3⟩ := dupB_iff.1 hd
    have := h.inj i j (by omega) (by omega) (by unfold piF; rw [h3])
    omega
theorem mon_mk {p m : Nat} {ml pl sl : List Int} {fr N : Nat} (hc : chkS p m ml = 0) (h : MonOK p m ml pl sl fr N) (h0 : ∀ i, i < N → 0 ≤ pl.getD i 0) : monS p m ml N pl sl fr = 0 := by
  have h1 := h.n1
  have h2 := h.n2
  have h3 := h.pll
  have h4 := h.sll
  have h5 := h.frm
  have hr : rngB pl N = true := rngB_of fun j hj => by
    have := h.inj.1 j (by omega)
    have := h0 j (by omega)
    unfold piF at *
    omega
  unfold monS
  rw [if_neg (by rw [hc]; simp), if_neg (by omega), if_neg (by omega), if_neg, if_neg]
  · exact facS_of fun i hi => by simpa only [Int.toNat_natCast] using h.sc i (by omega)
  · rw [dupB_of h3 h0 h.inj]; decide
  · rw [hr]
    rintro (h | h | h)
    · cases h
    · omega
    · omega
section
variable {p m : Nat} {ml pl sl : List Int} {fr N : Nat} {x : List Int}
/-- The entry of the image at the place of i. -/
theorem MonOK.img (h : MonOK p m ml pl sl fr N) {i : Nat} (hi : i < N) : imgF p m ml pl sl fr x N (piF pl i) = vF p m ml sl fr x i := plc_at h.inj _ N (Nat.le_refl _) i hi
theorem eil_getD' {N j : Nat} (h : j < N) (f : Nat → Int) : (il N f).getD j 0 = f j := by
  rw [List.getD_eq_getElem?_getD, il_get h]; rfl
/-- An entry of the image, as a number. -/
theorem MonOK.imgE (h : MonOK p m ml pl sl fr N) {j : Nat} (hj : j < N) : ∃ z : Nat, imgF p m ml pl sl fr x N j = z ∧ z < p ^ m := by
  obtain ⟨i, hi, rfl⟩ := h.inj.surj hj
  rw [h.img hi]
  exact ⟨_, rfl, kmul_lt (by have := h.hp; omega) _ _⟩
theorem il_eq_of {f g : Nat → Int} {π : Nat → Nat} (hπ : InjN N π) (h : ∀ i, i < N → f (π i) = g (π i)) : il N f = il N g :=
  List.map_congr_left fun j hj => by
    obtain ⟨i, hi, rfl⟩ := hπ.surj (List.mem_range.1 hj)
    exact h i hi
end
/-- The weight, counted. -/
theorem wgt_cnt (l : List Int) : ∀ k, wgtK l k = (List.range k).countP fun i => decide (l.getD i 0 ≠ 0)
  | 0 => rfl
  | k + 1 => by
    rw [List.range_succ, List.countP_append, ← wgt_cnt l k]
    show wgtK l k + _ = _
    congr 1
    by_cases h : l.getD k 0 = 0
    · rw [if_neg (fun h2 => h2 h), List.countP_cons, List.countP_nil, if_neg (by rw [decide_eq_true_eq]; exact fun h2 => h2 h)]
    · rw [if_pos h, List.countP_cons, List.countP_nil, if_pos (by rw [decide_eq_true_eq]; exact h)]
theorem wgt_perm {N : Nat} {x y : List Int} {π : Nat → Nat} (hπ : InjN N π) (h : ∀ i, i < N → (y.getD (π i) 0 ≠ 0 ↔ x.getD i 0 ≠ 0)) : wgtK y N = wgtK x N := by
  rw [wgt_cnt, wgt_cnt, ← hπ.perm.countP_eq, List.countP_map]
  refine List.countP_congr fun i hi => ?_
  have := h i (List.mem_range.1 hi)
  simp only [Function.comp, decide_eq_true_eq]
  exact this
theorem cond_vF {p m : Nat} {ml pl sl : List Int} {fr N : Nat} {x : List Int} (h : MonOK p m ml pl sl fr N) (hx : ∀ i, i < N → ∃ z : Nat, x.getD i 0 = z ∧ z < p ^ m) {i : Nat} (hi : i < N) : vF p m ml sl fr x i ≠ 0 ↔ x.getD i 0 ≠ 0 := by
  obtain ⟨z, hz, hzq⟩ := hx i hi
  obtain ⟨s, hs, hs1, hsq⟩ := h.sc i hi
  unfold vF
  rw [hz, hs, kin_of hzq, kin_of hsq]
  by_cases h0 : z = 0
  · subst h0
    rw [frb_zero h.hp h.hm, kmul_comm, kmul_zero (by have := h.hp; omega)]
  · have h1 := frb_pos h.hp h.hm h.hF (show 1 ≤ z by omega) hzq fr
    have h2 := h.hF.ne_zero h.hp h.hm hs1 hsq h1 (frb_lt h.hp h.hm hzq fr)
    constructor
    · intro _; omega
    · intro _; omega
section
variable {p m : Nat} {ml pl sl ql tl : List Int} {fr fs N : Nat} {x : List Int}
theorem InjN.comp {π σ : Nat → Nat} (h : InjN N π) (k : InjN N σ) : InjN N (fun i => σ (π i)) :=
  ⟨fun i hi => k.lt _ (h.lt i hi), fun i j hi hj e => h.inj i j hi hj (k.inj _ _ (h.lt i hi) (h.lt j hj) e)⟩
theorem cmp_pi (h : MonOK p m ml pl sl fr N) {i : Nat} (hi : i < N) : piF (il N (cP pl ql)) i = piF ql (piF pl i) := by
  unfold piF
  rw [eil_getD' hi]; rfl
theorem cmp_ok (h : MonOK p m ml pl sl fr N) (k : MonOK p m ml ql tl fs N) : MonOK p m ml (il N (cP pl ql)) (il N (cS p m ml pl sl tl fs)) ((fr + fs) % m) N where
  hp := h.hp
  hm := h.hm
  hF := h.hF
  n1 := h.n1
  n2 := h.n2
  pll := il_length _ _
  sll := il_length _ _
  inj := by
    have hc := h.inj.comp k.inj
    exact ⟨fun i hi => by rw [cmp_pi h hi]; exact hc.lt i hi, fun i j hi hj e => by rw [cmp_pi h hi, cmp_pi h hj] at e; exact hc.inj i j hi hj e⟩
  sc := fun i hi => by
    rw [eil_getD' hi]
    obtain ⟨s, hs, hs1, hsq⟩ := h.sc i hi
    obtain ⟨t, ht, ht1, htq⟩ := k.sc _ (h.inj.lt i hi)
    refine ⟨_, rfl, ?_, kmul_lt (by have := h.hp; omega) _ _⟩
    rw [hs, ht, kin_of hsq, kin_of htq]
    exact h.hF.ne_zero h.hp h.hm ht1 htq (frb_pos h.hp h.hm h.hF hs1 hsq fs) (frb_lt h.hp h.hm hsq fs)
  frm := Nat.mod_lt _ (by have := h.hm; omega)
theorem cmp_img (h : MonOK p m ml pl sl fr N) (k : MonOK p m ml ql tl fs N) (hx : ∀ i, i < N → ∃ z : Nat, x.getD i 0 = z ∧ z < p ^ m) :
    il N (imgF p m ml (il N (cP pl ql)) (il N (cS p m ml pl sl tl fs)) ((fr + fs) % m) x N) = il N (imgF p m ml ql tl fs (il N (imgF p m ml pl sl fr x N)) N) := by
  have hc := cmp_ok h k
  have h1 : 1 ≤ p := by have := h.hp; omega
  refine il_eq_of hc.inj fun i hi => ?_
  rw [hc.img hi, cmp_pi h hi, k.img (h.inj.lt i hi)]
  unfold vF
  rw [eil_getD' hi, eil_getD' (h.inj.lt i hi), h.img hi]
  obtain ⟨z, hz, hzq⟩ := hx i hi
  obtain ⟨s, hs, hs1, hsq⟩ := h.sc i hi
  obtain ⟨t, ht, ht1, htq⟩ := k.sc _ (h.inj.lt i hi)
  unfold cS vF
  rw [hz, hs, ht, kin_of hzq, kin_of hsq, kin_of htq, kin_of (kmul_lt h1 _ _), kin_of (kmul_lt h1 _ _), frb_mod h.hp h.hm h.hF hzq, frb_mul h.hp h.hm, frb_add, ← kmul_assoc h1]
theorem inv_at (h : MonOK p m ml pl sl fr N) (v : Nat → Int) {i : Nat} (hi : i < N) : (il N (plc (piF pl) v N)).getD (piF pl i) 0 = v i := by
  rw [eil_getD' (h.inj.lt i hi)]
  exact plc_at h.inj v N (Nat.le_refl _) i hi
theorem kinv_ok (hp : 2 ≤ p) (hm : 1 ≤ m) (hF : IsF p m (lw ml)) {s : Nat} (h1 : 1 ≤ s) (hq : s < p ^ m) : 1 ≤ kinv p m ml s ∧ kinv p m ml s < p ^ m ∧ kmul p m (lw ml) s (kinv p m ml s) = 1 := by
  obtain ⟨z, a, b, c⟩ := hF.inv hp hm h1 hq
  rw [kinv_eq hp hm hF hq h1 b c]
  exact ⟨a, b, c⟩
theorem inv_pi (h : MonOK p m ml pl sl fr N) {i : Nat} (hi : i < N) : piF (il N (plc (piF pl) (fun i => (i : Int)) N)) (piF pl i) = i := by
  unfold piF
  have := inv_at h (fun i => (i : Int)) hi
  unfold piF at this
  rw [this]; rfl
theorem inv_ok (h : MonOK p m ml pl sl fr N) (bk : Nat) (hbk : bk < m) : MonOK p m ml (il N (plc (piF pl) (fun i => (i : Int)) N)) (il N (plc (piF pl) (ivS p m ml sl bk) N)) bk N where
  hp := h.hp
  hm := h.hm
  hF := h.hF
  n1 := h.n1
  n2 := h.n2
  pll := il_length _ _
  sll := il_length _ _
  inj := ⟨fun j hj => by
    obtain ⟨i, hi, rfl⟩ := h.inj.surj hj
    rw [inv_pi h hi]; exact hi, fun j j' hj hj' e => by
    obtain ⟨i, hi, rfl⟩ := h.inj.surj hj
    obtain ⟨i', hi', rfl⟩ := h.inj.surj hj'
    rw [inv_pi h hi, inv_pi h hi'] at e
    rw [e]⟩
  sc := fun j hj => by
    obtain ⟨i, hi, rfl⟩ := h.inj.surj hj
    rw [inv_at h _ hi]
    obtain ⟨s, hs, hs1, hsq⟩ := h.sc i hi
    obtain ⟨k1, k2, -⟩ := kinv_ok h.hp h.hm h.hF hs1 hsq
    refine ⟨_, rfl, ?_, frb_lt h.hp h.hm ?_ _⟩
    · rw [hs, kin_of hsq]
      exact frb_pos h.hp h.hm h.hF k1 k2 _
    · rw [hs, kin_of hsq]; exact k2
  frm := hbk
theorem inv_img (h : MonOK p m ml pl sl fr N) (hxl : x.length = N) (hx : ∀ i, i < N → ∃ z : Nat, x.getD i 0 = z ∧ z < p ^ m) :
    il N (imgF p m ml (il N (plc (piF pl) (fun i => (i : Int)) N)) (il N (plc (piF pl) (ivS p m ml sl (bckN m fr)) N)) (bckN m fr) (il N (imgF p m ml pl sl fr x N)) N) = x := by
  have hm0 := h.hm
  have hv := inv_ok h (bckN m fr) (Nat.mod_lt _ (by omega))
  have h1 : 1 ≤ p := by have := h.hp; omega
  have hxe : x = il N (fun i => x.getD i 0) := by
    refine List.ext_getElem? fun j => ?_
    by_cases hj : j < N
    · rw [il_get hj, List.getD_eq_getElem?_getD, List.getElem?_eq_getElem (by omega)]; rfl
    · rw [List.getElem?_eq_none (by omega), List.getElem?_eq_none (by rw [il_length]; omega)]
  refine Eq.trans (List.map_congr_left fun i hi => ?_) hxe.symm
  have hi := List.mem_range.1 hi
  have key := hv.img (x := il N (imgF p m ml pl sl fr x N)) (h.inj.lt i hi)
  rw [inv_pi h hi] at key
  rw [key]
  unfold vF
  rw [inv_at h _ hi, eil_getD' (h.inj.lt i hi), h.img hi]
  obtain ⟨z, hz, hzq⟩ := hx i hi
  obtain ⟨s, hs, hs1, hsq⟩ := h.sc i hi
  obtain ⟨k1, k2, k3⟩ := kinv_ok h.hp h.hm h.hF hs1 hsq
  unfold ivS vF
  rw [hz, hs, kin_of hzq, kin_of hsq, kin_of (kmul_lt h1 _ _), kin_of (frb_lt h.hp h.hm k2 _), frb_mul h.hp h.hm, frb_add, ← kmul_assoc h1, ← frb_mul h.hp h.hm, kmul_comm (kinv p m ml s) s, k3, frb_one h.hp h.hm]
  have e1 : frb p m (lw ml) z (fr + bckN m fr) = z := by
    rw [← frb_mod h.hp h.hm h.hF hzq]
    have : (fr + bckN m fr) % m = 0 := by
      have := h.frm
      unfold bckN
      rw [Nat.add_mod, Nat.mod_mod, ← Nat.add_mod, show fr + (m - fr) = m from by omega, Nat.mod_self]
    rw [this]; rfl
  rw [e1, one_kmul h.hp h.hm hzq]
theorem img_ent (h : MonOK p m ml pl sl fr N) : ∀ i, i < N → ∃ z : Nat, (il N (imgF p m ml pl sl fr x N)).getD i 0 = z ∧ z < p ^ m := fun i hi => by
  rw [eil_getD' hi]; exact h.imgE hi
theorem img_wgt (h : MonOK p m ml pl sl fr N) (hxl : x.length = N) (hx : ∀ i, i < N → ∃ z : Nat, x.getD i 0 = z ∧ z < p ^ m) : wgtK (il N (imgF p m ml pl sl fr x N)) (il N (imgF p m ml pl sl fr x N)).length = wgtK x x.length := by
  rw [il_length, hxl]
  refine wgt_perm h.inj fun i hi => ?_
  rw [eil_getD' (h.inj.lt i hi), h.img hi]
  exact cond_vF h hx hi
theorem any_of {q : Nat} {l : List Int} (h : ∀ i, i < l.length → ∃ z : Nat, l.getD i 0 = z ∧ z < q) : (l.any fun y => !isB q y) = false := by
  rw [List.any_eq_false]
  intro y hy
  obtain ⟨i, hi, rfl⟩ := List.getElem_of_mem hy
  obtain ⟨z, h1, h2⟩ := h i hi
  rw [List.getD_eq_getElem?_getD, List.getElem?_eq_getElem hi] at h1
  have h1 : l[i] = (z : Int) := h1
  rw [h1]
  unfold isB
  simp; omega
/-- Word at a valid map and word. -/
theorem wrd_ok (hc : chkS p m ml = 0) (h : MonOK p m ml pl sl fr N) (h0 : ∀ i, i < N → 0 ≤ pl.getD i 0) (hxl : x.length = N) (hx : ∀ i, i < N → ∃ z : Nat, x.getD i 0 = z ∧ z < p ^ m) :
    wrdE p m ml pl sl fr x = 0 ∧ wrdL p m ml pl sl fr x = il N (imgF p m ml pl sl fr x N) := by
  have hE : wrdE p m ml pl sl fr x = 0 := by
    unfold wrdE
    rw [h.pll, mon_mk hc h h0, if_neg (by simp), if_neg (by omega), if_neg]
    rw [show (p : Int).toNat ^ (m : Int).toNat = p ^ m from by simp, any_of (q := p ^ m) (l := x) fun i hi => hx i (by omega)]
    decide
  refine ⟨hE, ?_⟩
  unfold wrdL
  rw [hE, if_neg (by simp), hxl]
  simp
end
end Go.Proofs.YtgdmlmhpineibaaGreat
