/- Plain: the rows of a Code value are determined; the examples of chapter 31, computed. -/
/- Walk of codewrightref04.Same. -/
/- Walk of codewrightref12.Same. -/
/- The walk of codewrightref10.Check. -/
import Derived.BigQuiet
import Derived.Test.YtgdmlmhpineibaaGreatZc24
import Derived.Test.YtgdmlmhpineibaaGreatZc26
import Derived.Test.YtgdmlmhpineibaaGreatZc36
import Derived.Test.YtgdmlmhpineibaaGreatZc43
import Derived.Test.YtgdmlmhpineibaaGreatZc44
import Derived.Test.YtgdmlmhpineibaaGreatZc45
namespace Go.Proofs.YtgdmlmhpineibaaGreat
set_option linter.unusedVariables false
set_option linter.unusedSimpArgs false
open Go.RowKit

theorem elO_uniq {p m : Nat} {ml : List Int} {N R R2 : Nat} {a b a1 a2 : Nat → Nat → Int} {piv1 piv2 : List Nat} (hp : 2 ≤ p) (hm : 1 ≤ m) (hab : ∀ x, Sol p m ml N R a x ↔ Sol p m ml N R2 b x) (h1 : ElO p m ml N R a a1 piv1) (h2 : ElO p m ml N R2 b a2 piv2) : rowsL N piv1.length a1 = rowsL N piv2.length a2 ∧ piv1 = piv2 := by
  obtain ⟨c1, x1, y1, z1, s1⟩ := h1
  obtain ⟨c2, x2, y2, z2, s2⟩ := h2
  obtain ⟨e1, e2⟩ := rr_uniq (ml := ml) hp hm ⟨c1, x1, y1, z1⟩ ⟨c2, x2, y2, z2⟩ fun x => ((s1 x).trans (hab x)).trans (s2 x).symm
  subst e1
  refine ⟨List.map_congr_left fun i hi => List.map_congr_left fun j hj => e2 i (List.mem_range.1 hi) j (List.mem_range.1 hj), rfl⟩
theorem elO_self {p m : Nat} {ml : List Int} {N R : Nat} {a : Nat → Nat → Int} {piv : List Nat} {c : Nat} (h : PV p m R N a piv c) (hc : c ≤ N) (hr : piv.length = R) : ElO p m ml N R a a piv := ⟨c, hc, h, .inl hr, fun x => Iff.rfl⟩
/-- Two answers about one Code value are the same. -/
theorem codO_uniq {p m n : Int} {ml : List Int} {rows : List (List Int)} {e e' : Int} (h : CodO p m ml n rows e) (h' : CodO p m ml n rows e') : e = e' := by
  rcases h with ⟨a, rfl⟩ | ⟨a, b, rfl⟩ | ⟨a, b, h⟩ <;> rcases h' with ⟨a', rfl⟩ | ⟨a', b', rfl⟩ | ⟨a', b', h'⟩ <;> first | rfl | contradiction | skip
  rcases h with ⟨c, rfl⟩ | ⟨c, pn, mn, N, piv, a1, rfl, rfl, rfl, hF, _, hE, rfl⟩ <;> rcases h' with ⟨c', rfl⟩ | ⟨c', pn', mn', N', piv', a1', e1, e2, e3, hF', _, hE', rfl⟩ <;> first | rfl | contradiction | skip
  obtain rfl : pn' = pn := by omega
  obtain rfl : mn' = mn := by omega
  obtain rfl : N' = N := by omega
  obtain ⟨p1, m1, e1, e2, hsh, _⟩ := hF
  obtain rfl : p1 = pn' := by omega
  obtain rfl : m1 = mn' := by omega
  rw [(elO_uniq hsh.p2 hsh.m1 (fun _ => Iff.rfl) hE hE').1]
/-- One row, reduced: its Code value passes. -/
theorem pv_one {p m N q : Nat} {r : List Int} (hq : q < N) (h0 : ∀ j, j < N → 0 ≤ r.getD j 0 ∧ r.getD j 0 < ((p ^ m : Nat) : Int)) (h1 : r.getD q 0 = 1) (h2 : ∀ k, k < q → r.getD k 0 = 0) : PV p m 1 N (rowsF [r]) [q] (q + 1) where
  le := by simp
  rng := fun i hi j hj => by
    obtain rfl : i = 0 := by omega
    exact h0 j hj
  lt := fun j q' h => by
    rcases j with _ | j
    · simp at h; omega
    · simp at h
  one := fun j q' h => by
    rcases j with _ | j
    · simp at h; subst h; exact h1
    · simp at h
  zer := fun j q' i h hi hne => by
    rcases j with _ | j
    · omega
    · simp at h
  tail := fun i j h hi _ => by simp at h; omega
  lead := fun j q' k h hk => by
    rcases j with _ | j
    · simp at h; subst h; exact h2 k hk
    · simp at h
  asc := fun i j q' r' hij h h' => by
    rcases j with _ | j
    · omega
    · simp at h'
theorem il_row {N : Nat} {r : List Int} (h : r.length = N) : il N (rowsF [r] 0) = r := by
  subst h
  refine List.ext_getElem? fun j => ?_
  by_cases hj : j < r.length
  · rw [il_get hj, List.getElem?_eq_getElem hj]
    show some (r.getD j 0) = _
    rw [List.getD_eq_getElem?_getD, List.getElem?_eq_getElem hj]; rfl
  · rw [List.getElem?_eq_none (by rw [il_len]; omega), List.getElem?_eq_none (by omega)]
theorem codO_one {p m N q : Nat} {ml : List Int} {r : List Int} {e : Int} (hF : FldB p m ml) (hc : canE p m ml N [r] = 0) (hl : lenE N = 0) (hk : mchkS (p ^ m) N [r] = 0) (hr : r.length = N) (hv : PV p m 1 N (rowsF [r]) [q] (q + 1)) (hq : q < N) (h : CodO p m ml N [r] e) : e = 0 := by
  have hck : chkS p m ml = 0 := by
    apply Classical.byContradiction; intro h; unfold canE at hc; rw [if_pos h] at hc; cases hc
  refine codO_uniq h (.inr (.inr ⟨hck, hl, .inr ⟨hc, p, m, N, [q], rowsF [r], rfl, rfl, rfl, hF, hk, elO_self hv (by omega) rfl, ?_⟩⟩))
  rw [if_pos]
  show [il N (rowsF [r] 0)] = [r]
  rw [il_row hr]
/-- The examples. -/
def eC : CdV := ⟨2, 1, [], 3, [[1, 1, 0]]⟩
def eD : CdV := ⟨2, 1, [], 3, [[0, 1, 1]]⟩
theorem e21 : FldB 2 1 [] := ⟨2, 1, rfl, rfl, ⟨by omega, by omega, by omega, by decide, rfl, by intro x hx; cases hx⟩, by decide, (field_iff (p := 2) (m := 1) (ml := []) ⟨by omega, by omega, by omega, by decide, rfl, by intro x hx; cases hx⟩ (by decide)).2 (.inl rfl)⟩
theorem eC_pv : PV 2 1 1 3 (rowsF [[1, 1, 0]]) [0] 1 := pv_one (by omega) (by decide) rfl (by decide)
theorem eD_pv : PV 2 1 1 3 (rowsF [[0, 1, 1]]) [1] 2 := pv_one (by omega) (by decide) rfl (by decide)
theorem eC_cod {e : Int} (h : CodO 2 1 [] 3 [[1, 1, 0]] e) : e = 0 := codO_one (p := 2) (m := 1) (N := 3) e21 (by decide +kernel) (by decide +kernel) (by decide +kernel) rfl eC_pv (by omega) h
theorem eD_cod {e : Int} (h : CodO 2 1 [] 3 [[0, 1, 1]] e) : e = 0 := codO_one (p := 2) (m := 1) (N := 3) e21 (by decide +kernel) (by decide +kernel) (by decide +kernel) rfl eD_pv (by omega) h
def rfT (x : Rf) : Int × Int × Int × List Int := (x.tp, x.sc, x.side, x.msg)
theorem rfT_inj {l l' : List Rf} (h : l.map rfT = l'.map rfT) : l = l' := by
  induction l generalizing l' with
  | nil => cases l' with
    | nil => rfl
    | cons y t => simp at h
  | cons x s ih => cases l' with
    | nil => simp at h
    | cons y t =>
      rw [List.map_cons, List.map_cons] at h
      injection h with h1 h2
      rw [ih h2]
      cases x; cases y
      simp only [rfT, Prod.mk.injEq] at h1
      obtain ⟨rfl, rfl, rfl, rfl⟩ := h1
      rfl
theorem e_st0 : stE 0 0 (samF eC.p eC.m eC.ml eD.p eD.m eD.ml) eC.n eD.n [] [] (eC.p.toNat ^ eC.m.toNat) = 0 := by decide +kernel
theorem e_st1 : stE 0 0 (samF eC.p eC.m eC.ml eD.p eD.m eD.ml) eC.n eD.n [0] [1] (eC.p.toNat ^ eC.m.toNat) = 0 := by decide +kernel
theorem e_st2 : stE 0 0 (samF eC.p eC.m eC.ml eC.p eC.m eC.ml) eC.n eC.n [0] [1] (eC.p.toNat ^ eC.m.toNat) = 0 := by decide +kernel
theorem e_find : fndE 0 (fndS eC eD [] []) = 0 ∧ (fndM 0 (fndS eC eD [] [])).perm = [1, 2, 0] ∧ (fndM 0 (fndS eC eD [] [])).scale = [1, 1, 1] ∧ (fndM 0 (fndS eC eD [] [])).frob = 0 := by decide +kernel
theorem e_find1 : fndE 0 (fndS eC eD [0] [1]) = 11 := by decide +kernel
theorem e_ref : rftE 0 (fndS eC eD [0] [1]) = 0 := by decide +kernel
theorem e_refL : rftL 0 (fndS eC eD [0] [1]) = [⟨0, 0, 0, [1]⟩] := rfT_inj (by decide +kernel)
theorem e_ref1 : rftE 0 (fndS eC eD [] []) = 11 := by decide +kernel
theorem e_wrd : wrdE 3 1 [] [1, 0] [2, 1] 0 [1, 2] = 0 ∧ wrdL 3 1 [] [1, 0] [2, 1] 0 [1, 2] = [2, 2] := by decide +kernel
theorem e_inv : monS 3 1 [] 2 [1, 0] [2, 1] 0 = 0 ∧ (invM 3 1 [] [1, 0] [2, 1] 0).perm = [1, 0] ∧ (invM 3 1 [] [1, 0] [2, 1] 0).scale = [1, 2] ∧ (invM 3 1 [] [1, 0] [2, 1] 0).frob = 0 := by decide +kernel
theorem e_cmp : cmpE 3 1 [] [1, 0] [2, 1] 0 [1, 0] [1, 2] 0 = 0 ∧ (cmpM 3 1 [] [1, 0] [2, 1] 0 [1, 0] [1, 2] 0).perm = [0, 1] ∧ (cmpM 3 1 [] [1, 0] [2, 1] 0 [1, 0] [1, 2] 0).scale = [1, 1] ∧ (cmpM 3 1 [] [1, 0] [2, 1] 0 [1, 0] [1, 2] 0).frob = 0 := by decide +kernel
theorem e_app : monS 2 1 [] 3 [1, 2, 0] [1, 1, 1] 0 = 0 ∧ imA 2 1 [] [1, 2, 0] [1, 1, 1] 0 3 [[1, 1, 0]] = [[0, 1, 1]] := by decide +kernel
theorem e_chk : ckE 0 (flS eC eD [⟨0, 0, 0, [1]⟩] [0] [1]) [⟨0, 0, 0, [1]⟩] = 0 := by decide +kernel
theorem e_chk1 : ckE 0 (flS eC eC [⟨0, 0, 0, [1]⟩] [0] [1]) [⟨0, 0, 0, [1]⟩] = 13 := by decide +kernel
end Go.Proofs.YtgdmlmhpineibaaGreat
namespace Go.Proofs.YtgdmlmhpineibaaGreat
set_option linter.unusedVariables false
set_option linter.unusedSimpArgs false
open Go.RowKit

set_option maxRecDepth 100000 in
set_option maxHeartbeats 4000000 in
theorem rFSame_any (w : World) (p m : Int) (ml : List Int) (mv : Value) (hmv : ISl w mv ml) (p' m' : Int) (ml' : List Int) (mv' : Value) (hmv' : ISl w mv' ml') :
    Calls Tryz.prog 76 #[.agg #[.int .i64 p, .int .i64 m, mv], .agg #[.int .i64 p', .int .i64 m', mv']] w fun r w' => r = .returned (.bool (samF p m ml p' m' ml')) ∧ Ex w w' := by
  obtain ⟨a0, a1, a2, ea, -⟩ := box_facts w p m mv
  obtain ⟨b0, b1, b2, eb, -⟩ := box_facts (w.alloc (.cells #[.int .i64 p, .int .i64 m, mv] 24)) p' m' mv'
  replace a0 := eb.cell a0
  replace a1 := eb.cell a1
  replace a2 := eb.cell a2
  have hsz : (w.alloc (.cells #[.int .i64 p, .int .i64 m, mv] 24)).heap.size = w.heap.size + 1 := by simp
  rw [hsz] at b0 b1 b2
  have HE := hid_ (ea.trans eb)
  obtain ⟨ma, mc, rfl, m1', m2, m3⟩ := hmv.open
  obtain ⟨na, nc, rfl, -, n2, n3⟩ := hmv'.open
  unfold maxLen at m2 n2
  obtain ⟨R, hR⟩ : ∃ R, samF p m ml p' m' ml' = R := ⟨_, rfl⟩
  rw [hR]
  have M3 := hid_ m3
  have N3 := hid_ n3
  have HR := hid_ hR
  clear hmv hmv' hsz ea eb m3 n3 hR
  go_enter Tryz.func76, Tryz.ntmps76
  by_cases h1 : p = p'
  · have b1' : (p != p') = false := by simpa using h1
    by_cases h2 : m = m'
    · have b2' : (m != m') = false := by simpa using h2
      by_cases h3 : ml.length = ml'.length
      · have b3 : ((ml.length : Int) != (ml'.length : Int)) = false := by simp; omega
        subst h1
        subst h2
        have hn : ∃ n, ml.length = n := ⟨_, rfl⟩
        have HRB := hid_ (show R = true ↔ ml = ml' from by rw [← HR.out, samF_iff]; simp)
        have H3 := hid_ h3
        rw [← h3] at a0 a1 a2 b0 b1 b2 HE ⊢
        clear h3 b3 hn
        go_wp2_with fail
        generalize (w.alloc (.cells #[.int .i64 p, .int .i64 m, .slice ma ml.length mc] 24)).alloc (.cells #[.int .i64 p, .int .i64 m, .slice na ml.length nc] 24) = w1 at *
        have A2 := hid_ a2
        have B2 := hid_ b2
        go_loopw [5] (fun i' wr => ∃ (i : Nat), i ≤ ml.length ∧ i' = .int .i64 i ∧ (∀ j, j < i → ml.getD j 0 = ml'.getD j 0) ∧ Hid (Ex w1 wr)) (fun i' _ => ml.length - (intOf i').toNat)
        case atStart => exact ⟨0, by omega, rfl, fun j hj => by omega, hid_ (Ex.refl _)⟩
        case round =>
          obtain ⟨i, hi, rfl, hall, hex⟩ := hrel
          have HAL := hid_ hall
          clear hall a0 a1 b0 b1
          by_cases hin : i < ml.length
          · obtain ⟨mb, mo, rfl, hmc⟩ := M3.out (by omega)
            obtain ⟨nb, no, rfl, hnc⟩ := N3.out (by have := H3.out; omega)
            have c1 := hex.out.cell (HE.out.cell (hmc i _ (show ml[i]? = some (ml.getD i 0) from by rw [List.getD_eq_getElem?_getD, List.getElem?_eq_getElem hin]; rfl)))
            have c2 := hex.out.cell (HE.out.cell (hnc i _ (show ml'[i]? = some (ml'.getD i 0) from by rw [List.getD_eq_getElem?_getD, List.getElem?_eq_getElem (by have := H3.out; omega)]; rfl)))
            have f2 := hex.out.cell A2.out
            have g2 := hex.out.cell B2.out
            have j1 : (0 : Int) ≤ (i : Int) := by omega
            have j2 : (i : Int) < (ml.length : Int) := by omega
            have hmm : m2 = m2 := rfl
            obtain ⟨x, hx⟩ : ∃ x, ml.getD i 0 = x := ⟨_, rfl⟩
            obtain ⟨y, hy⟩ : ∃ y, ml'.getD i 0 = y := ⟨_, rfl⟩
            rw [hx] at c1
            rw [hy] at c2
            have HXY := hid_ (show x = ml.getD i 0 ∧ y = ml'.getD i 0 from ⟨hx.symm, hy.symm⟩)
            clear hx hy hmc hnc a2 b2 hmm
            by_cases hxy : x = y
            · have HA2 := hid_ (show ∀ j, j < i + 1 → ml.getD j 0 = ml'.getD j 0 from fun j hj => by
                by_cases e : j = i
                · subst e; rw [← HXY.out.1, ← HXY.out.2, hxy]
                · exact HAL.out j (by omega))
              have bb : (x != y) = false := by simp [hxy]
              have hyx : y = x := hxy.symm
              subst hyx
              clear hxy
              go_upto_region 6 with fail
              go_quiet (fail)
              go_wp2_with fail
              go_roundw
              case rel => exact ⟨i + 1, by omega, by go_num, HA2.out, hid_ (hex.out.drewN _)⟩
              case measure => simp [intOf]; omega
            · have bb : (x != y) = true := by simpa using hxy
              have hr : R = false := Bool.eq_false_iff.2 fun h => hxy (by rw [HXY.out.1, HXY.out.2, HRB.out.1 h])
              subst hr
              have hyx : ¬ y = x := fun h => hxy h.symm
              go_upto_region 6 with fail
              go_quiet (fail)
              go_wp2_with fail
              go_ret
              exact ⟨rfl, HE.out.trans (hex.out.drewN _)⟩
          · obtain rfl : i = ml.length := by omega
            have f2 := hex.out.cell A2.out
            have hr : R = true := HRB.out.2 (List.ext_getElem? fun j => by
              by_cases hj : j < ml.length
              · have := HAL.out j hj
                rw [List.getElem?_eq_getElem hj, List.getElem?_eq_getElem (by have := H3.out; omega)]
                rw [List.getD_eq_getElem?_getD, List.getElem?_eq_getElem hj, List.getD_eq_getElem?_getD, List.getElem?_eq_getElem (by have := H3.out; omega)] at this
                simpa using this
              · rw [List.getElem?_eq_none (by omega), List.getElem?_eq_none (by have := H3.out; omega)])
            subst hr
            go_wp2_with fail
            go_ret
            exact ⟨rfl, HE.out.trans hex.out⟩
      · have b3 : ((ml.length : Int) != (ml'.length : Int)) = true := by simp; omega
        have hr : R = false := by
          rw [← HR.out]
          exact Bool.eq_false_iff.2 fun h => h3 (by rw [(samF_iff.1 h).2.2])
        subst hr
        have h3' : ¬ ((ml.length : Int) = (ml'.length : Int)) := by omega
        clear h3 h1 h2
        go_wp2_with fail
        go_ret
        exact ⟨rfl, HE.out⟩
    · have b2' : (m != m') = true := by simpa using h2
      have hr : R = false := by
        rw [← HR.out]
        exact Bool.eq_false_iff.2 fun h => h2 (samF_iff.1 h).2.1
      subst hr
      clear h1 h2
      go_wp2_with fail
      go_ret
      exact ⟨rfl, HE.out⟩
  · have b1' : (p != p') = true := by simpa using h1
    have hr : R = false := by
      rw [← HR.out]
      exact Bool.eq_false_iff.2 fun h => h1 (samF_iff.1 h).1
    subst hr
    clear h1
    go_wp2_with fail
    go_ret
    exact ⟨rfl, HE.out⟩
end Go.Proofs.YtgdmlmhpineibaaGreat
namespace Go.Proofs.YtgdmlmhpineibaaGreat
set_option linter.unusedVariables false
set_option linter.unusedSimpArgs false
open Go.RowKit

/-- Two Code values are equal. -/
def samC (c d : CdV) : Bool := samF c.p c.m c.ml d.p d.m d.ml && (decide (c.n = d.n) && decide (c.rows = d.rows))
theorem samC_iff {c d : CdV} : samC c d = true ↔ c = d := by
  obtain ⟨p, m, ml, n, rows⟩ := c
  obtain ⟨p', m', ml', n', rows'⟩ := d
  simp only [samC, Bool.and_eq_true, decide_eq_true_eq, samF_iff, CdV.mk.injEq]
  constructor
  · rintro ⟨⟨h1, h2, h3⟩, h4, h5⟩; exact ⟨h1, h2, h3, h4, h5⟩
  · rintro ⟨h1, h2, h3, h4, h5⟩; exact ⟨⟨h1, h2, h3⟩, h4, h5⟩
set_option maxRecDepth 100000 in
set_option maxHeartbeats 4000000 in
theorem rCSame_any (w : World) (c d : CdV) (m1 m2 v1 v2 : Value) (hc : c.at w m1 v1) (hd : d.at w m2 v2) :
    Calls Tryz.prog 39 #[c.arg m1 v1, d.arg m2 v2] w fun r w' => r = .returned (.bool (samC c d)) ∧ Ex w w' := by
  obtain ⟨c0, c1, c2, c3, c4⟩ := boxC5 w c m1 v1
  obtain ⟨d0, d1, d2, d3, d4⟩ := boxC5 (w.alloc (c.obj m1 v1)) d m2 v2
  have hz1 : (w.alloc (c.obj m1 v1)).heap.size = w.heap.size + 1 := by simp
  have e1 := e_al w (c.obj m1 v1)
  have e2 := e_al (w.alloc (c.obj m1 v1)) (d.obj m2 v2)
  rw [hz1] at d0 d1 d2 d3 d4
  replace c0 := e2.cell c0
  replace c1 := e2.cell c1
  replace c2 := e2.cell c2
  replace c3 := e2.cell c3
  replace c4 := e2.cell c4
  have hxw := e1.trans e2
  have HSF := hid_ (rFSame_any _ c.p c.m c.ml m1 ((hc.ex hxw).m) d.p d.m d.ml m2 ((hd.ex hxw).m))
  have HSR := hid_ (fun (w' : World) (h : Ex ((w.alloc (c.obj m1 v1)).alloc (d.obj m2 v2)) w') => SameRows_any w' c.rows d.rows v1 v2 ((hc.ex (hxw.trans h)).g) ((hd.ex (hxw.trans h)).g))
  obtain ⟨x1, y1, rfl, -, z1, -⟩ := hc.g.open
  obtain ⟨x2, y2, rfl, -, z2, -⟩ := hd.g.open
  obtain ⟨x3, y3, rfl, -, z3, -⟩ := hc.m.open
  obtain ⟨x4, y4, rfl, -, z4, -⟩ := hd.m.open
  have HX := hid_ hxw
  obtain ⟨p, m, ml, n, rows⟩ := c
  obtain ⟨p', m', ml', n', rows'⟩ := d
  obtain ⟨B, hB⟩ : ∃ B, w.heap.size = B := ⟨_, rfl⟩
  rw [hB] at c0 c1 c2 c3 c4 d0 d1 d2 d3 d4
  obtain ⟨F, hF⟩ : ∃ F, samF p m ml p' m' ml' = F := ⟨_, rfl⟩
  have HSM := hid_ (show samC ⟨p, m, ml, n, rows⟩ ⟨p', m', ml', n', rows'⟩ = (F && (decide (n = n') && decide (rows = rows'))) from by rw [← hF]; rfl)
  rw [HSM.out]
  clear HSM
  dsimp only [CdV.arg, CdV.obj] at *
  rw [hF] at HSF
  clear hF
  clear hc hd e1 e2 hxw hz1 z1 z2 z3 z4
  go_enter Tryz.func39, Tryz.ntmps39
  go_upto_region 1 with fail
  try simp only [hB]
  clear hB
  generalize (w.alloc (.cells #[.int .i64 p, .int .i64 m, .slice x3 ml.length y3, .int .i64 n, .slice x1 rows.length y1] 47)).alloc (.cells #[.int .i64 p', .int .i64 m', .slice x4 ml'.length y4, .int .i64 n', .slice x2 rows'.length y2] 47) = wB at *
  have HALL := hid_ (fun w' (h : Ex wB w') => (⟨h.cell c3, h.cell c4, h.cell d3, h.cell d4⟩ : _ ∧ _ ∧ _ ∧ _))
  cases F with
  | false =>
    go_wp2_with fail
    refine HSF.out.mono ?_
    rintro e w2 ⟨rfl, hx2⟩
    have HX2 := hid_ (HX.out.trans hx2)
    clear c0 c1 c2 c3 c4 d0 d1 d2 d3 d4 hx2
    go_wp2_with fail
    go_ret
    exact ⟨rfl, HX2.out⟩
  | true =>
    go_wp2_with fail
    refine HSF.out.mono ?_
    rintro e w2 ⟨rfl, hx2⟩
    have HX2 := hid_ hx2
    clear c0 c1 c2 c3 c4 d0 d1 d2 d3 d4 hx2
    obtain ⟨c3, c4, d3, d4⟩ := HALL.out w2 HX2.out
    by_cases hn : n = n'
    · subst hn
      have k1 : (n == n) = true := by simp
      have HR := hid_ (HSR.out w2 HX2.out)
      obtain ⟨D, hD⟩ : ∃ D, decide (rows = rows') = D := ⟨_, rfl⟩
      rw [hD] at HR
      have HD := hid_ hD
      clear hD
      go_wp2_with fail
      refine HR.out.mono ?_
      rintro e w3 ⟨rfl, n3, rfl⟩
      have HX3 := hid_ ((Ex.refl w2).drewN n3)
      go_wp2_with fail
      go_ret
      refine ⟨?_, HX.out.trans (HX2.out.trans HX3.out)⟩
      have := HD.out
      simp [this]
    · have k1 : (n == n') = false := by simpa using hn
      have HN := hid_ hn
      clear hn
      go_wp2_with fail
      go_ret
      refine ⟨?_, HX.out.trans HX2.out⟩
      have := HN.out
      simp [this]
end Go.Proofs.YtgdmlmhpineibaaGreat
namespace Go.Proofs.YtgdmlmhpineibaaGreat
set_option linter.unusedVariables false
set_option linter.unusedSimpArgs false
open Go.RowKit

theorem chk_can {p m : Int} {ml : List Int} {cols : Int} {rows : List (List Int)} {e : Int} (h : ChkOut p m ml cols rows e) : canE p m ml cols rows = e := by
  unfold canE
  rcases h with ⟨pn, mn, rfl, rfl, h3, h4⟩ | ⟨h1, h2⟩
  · rw [if_neg (fun h => h ((chk_iff _ _ _).2 h3)), h4]; rfl
  · rw [if_pos (fun h => h1 ((chk_iff _ _ _).1 h)), h2]
theorem rowsL_rowsF {N : Nat} {rows : List (List Int)} (h : ∀ r ∈ rows, r.length = N) : rowsL N rows.length (rowsF rows) = rows := by
  apply List.ext_getElem?
  intro i
  by_cases hi : i < rows.length
  · rw [rowsL_get hi, List.getElem?_eq_getElem hi, rowsF_il (List.getElem?_eq_getElem hi) (h _ (List.getElem_mem hi))]
  · rw [List.getElem?_eq_none (by rw [rowsL_len]; omega), List.getElem?_eq_none (by omega)]
theorem rowsF_rng {p m N : Nat} {rows : List (List Int)} (h : ∀ r ∈ rows, r.length = N ∧ entS (p ^ m) r = 0) : Rng p m rows.length N (rowsF rows) := fun i hi j hj => by
  have hrr : rows[i]? = some rows[i] := List.getElem?_eq_getElem hi
  obtain ⟨h1, h2⟩ := h _ (List.getElem_mem hi)
  have e : rowsF rows i j = rows[i].getD j 0 := by unfold rowsF; rw [List.getD_eq_getElem?_getD (l := rows), hrr]; rfl
  rw [e]
  refine entS_rng h2 _ ?_
  rw [List.getD_eq_getElem?_getD, List.getElem?_eq_getElem (by omega)]; exact List.getElem_mem _
set_option maxRecDepth 100000 in
set_option maxHeartbeats 4000000 in
theorem rChk10_any (p m : Int) (ml : List Int) (mv : Value) (w : World) (hmv : ISl w mv ml) (cols : Int) (rows : List (List Int)) (v : Value) (hv : MSl w v rows) :
    Calls Tryz.prog 78 #[.agg #[.int .i64 p, .int .i64 m, mv], .agg #[.int .i64 cols, v]] w fun r w' => (∃ e : Int, r = .returned (.int .i64 e) ∧ SpcO p m ml cols rows e) ∧ Ex w w' := by
  obtain ⟨g0, g1, g2, e0, gsz⟩ := box_facts w p m mv
  have HCH := hid_ (fun (w' : World) (h : Ex w w') => rChkM_any p m ml mv w' (hmv.ex h) cols rows v (hv.ex h))
  have HMV := hid_ hmv
  have HV := hid_ hv
  obtain ⟨za, zc, rfl, z1, z2, z3⟩ := hv.open
  clear z1 z3
  unfold maxLen at z2
  obtain ⟨ma, mc, rfl, -, m2, -⟩ := hmv.open
  unfold maxLen at m2
  obtain ⟨xb, hxb⟩ : ∃ xb, w.heap.size = xb := ⟨_, rfl⟩
  rw [hxb] at g0 g1 g2 gsz
  clear hmv hv
  go_enter Tryz.func78, Tryz.ntmps78
  go_wp2_with fail
  generalize w.alloc (.cells #[.int .i64 p, .int .i64 m, .slice ma ml.length mc] 24) = wA at *
  obtain ⟨a0, a1, ea⟩ := boxM2_facts wA cols (.slice za rows.length zc)
  rw [gsz] at a0 a1
  generalize wA.alloc (.cells #[.int .i64 cols, .slice za rows.length zc] 113) = wB at *
  have A0 := hid_ a0
  have A1 := hid_ a1
  have G0 := hid_ (ea.cell g0)
  have G1 := hid_ (ea.cell g1)
  have G2 := hid_ (ea.cell g2)
  have HE := hid_ (e0.trans ea)
  clear g0 g1 g2 a0 a1 e0 ea gsz
  refine (HCH.out wB HE.out).mono ?_
  rintro e w2 ⟨e, rfl, hc, hx2⟩
  have HX2 := hid_ (HE.out.trans hx2)
  have A0 := hid_ (hx2.cell A0.out)
  have A1 := hid_ (hx2.cell A1.out)
  have G0 := hid_ (hx2.cell G0.out)
  have G1 := hid_ (hx2.cell G1.out)
  have G2 := hid_ (hx2.cell G2.out)
  clear hx2 HE HCH
  have hce := chk_can hc
  by_cases he : e = 0
  · subst he
    rcases hc with ⟨pn, mn, rfl, rfl, hfb, hmk⟩ | ⟨_, h⟩
    · obtain ⟨s1, s2, s3, s4⟩ := mchk_shape hmk.symm
      obtain ⟨N, rfl⟩ : ∃ N : Nat, cols = N := ⟨cols.toNat, by omega⟩
      have hrows : ∀ r ∈ rows, r.length = N ∧ entS (pn ^ mn) r = 0 := fun r hr => by obtain ⟨h1, h2⟩ := s4 r hr; exact ⟨by omega, h2⟩
      have hsh : FSh pn mn ml ∧ IsF pn mn (lw ml) := by
        obtain ⟨pn', mn', e1, e2, h3, h4, h5⟩ := hfb
        obtain rfl : pn' = pn := by omega
        obtain rfl : mn' = mn := by omega
        exact ⟨h3, h5⟩
      have HCN := hid_ (rCanon_any (mv := .slice ma ml.length mc) w2 hsh.1 hsh.2 (HMV.out.ex HX2.out) N rows.length (by omega) s3 (rowsF rows) (rowsF_rng hrows) _ (by rw [rowsL_rowsF fun r hr => (hrows r hr).1]; exact HV.out.ex HX2.out))
      have HSP := hid_ (fun piv a' e (hel : ElO pn mn ml N rows.length (rowsF rows) a' piv) (h : e = if rowsL N piv.length a' = rows then 0 else 5) => show SpcO pn mn ml N rows e from .inr ⟨hce, pn, mn, N, piv, a', rfl, rfl, rfl, hfb, hmk.symm, hel, h⟩)
      have c0 := A0.out
      have c1 := A1.out
      have c2 := G0.out
      have c3 := G1.out
      have c4 := G2.out
      clear hce hfb hmk s1 s2 s3 s4 hrows hsh
      go_wp2_with fail
      refine HCN.out.mono ?_
      rintro e w3 ⟨piv, pv, rv, a', rfl, hel, hrv, hpv, hx3⟩
      have HX3 := hid_ (HX2.out.trans hx3)
      have c1 := hx3.cell A1.out
      obtain ⟨L, hL⟩ : ∃ L, rowsL N piv.length a' = L := ⟨_, rfl⟩
      have HSR := hid_ (SameRows_any w3 L rows _ _ (by rw [← hL]; exact hrv) (HV.out.ex HX3.out))
      have HS2 := hid_ (fun e => HSP.out piv a' e hel)
      rw [hL] at HS2
      obtain ⟨ra, rc, hre, -, r2, -⟩ := hrv.open
      rw [hL] at hre
      subst hre
      obtain ⟨pa, pc, rfl, -, p2, -⟩ := hpv.open
      clear hel hrv hpv hx3 hL r2 p2 HCN HSP
      by_cases hLR : L = rows
      · rw [decide_eq_true hLR] at HSR
        have HSP2 := hid_ (HS2.out 0 (by rw [if_pos hLR]))
        clear hLR HS2
        go_wp2_with (go_at_call 77; refine HSR.out.mono ?_; rintro e w4 ⟨rfl, n3, hw3⟩; subst hw3)
        have HX4 := hid_ (HX3.out.drewN n3)
        go_wp2_with fail
        go_ret
        exact ⟨⟨_, rfl, HSP2.out⟩, HX4.out⟩
      · rw [decide_eq_false hLR] at HSR
        have HSP2 := hid_ (HS2.out 5 (by rw [if_neg hLR]))
        clear hLR HS2
        go_wp2_with (go_at_call 77; refine HSR.out.mono ?_; rintro e w4 ⟨rfl, n3, hw3⟩; subst hw3)
        have HX4 := hid_ (HX3.out.drewN n3)
        go_wp2_with fail
        go_ret
        exact ⟨⟨_, rfl, HSP2.out⟩, HX4.out⟩
    · exact absurd h (by decide)
  · have kb : (e != 0) = true := by simpa using he
    have HSP := hid_ (show SpcO p m ml cols rows e from .inl ⟨by rw [hce]; exact he, hce.symm⟩)
    clear hc hce
    go_wp2_with fail
    go_ret
    exact ⟨⟨_, rfl, HSP.out⟩, HX2.out⟩
end Go.Proofs.YtgdmlmhpineibaaGreat
