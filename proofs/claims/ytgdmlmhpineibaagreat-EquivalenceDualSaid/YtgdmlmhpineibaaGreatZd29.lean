/- Walks of space.Check, code.Check. -/
/- Walk of field.Same. -/
/- Walks of codewrightref31.distinct, twice, factors. -/
import Derived.BigQuiet
import Derived.Test.YtgdmlmhpineibaaGreatZd25
import Derived.Test.YtgdmlmhpineibaaGreatZd26
import Derived.Test.YtgdmlmhpineibaaGreatZd28
namespace Go.Proofs.YtgdmlmhpineibaaGreat
set_option linter.unusedVariables false
set_option linter.unusedSimpArgs false
open Go.RowKit

set_option maxRecDepth 100000 in
set_option maxHeartbeats 4000000 in
theorem spaceCheck_any (w : World) (p m : Int) (ml : List Int) (mv : Value) (hmv : ISl w mv ml) (cols : Int) (rows : List (List Int)) (v : Value) (hv : MSl w v rows) (h0 : canE p m ml cols rows = 0 → 1 ≤ cols) :
    Calls Tryz.prog 120 #[.agg #[.int .i64 p, .int .i64 m, mv], .agg #[.int .i64 cols, v]] w fun r w' => (∃ e : Int, r = .returned (.int .i64 e) ∧ SpcO p m ml cols rows e) ∧ Ex w w' := by
  obtain ⟨g0, g1, g2, e0, gsz⟩ := box_facts w p m mv
  have HOP := hid_ (fun (w' : World) (h : Ex w w') => spaceOpen_any w' p m ml mv (hmv.ex h) cols rows v (hv.ex h) h0)
  obtain ⟨za, zc, rfl, -, z2, -⟩ := hv.open
  unfold maxLen at z2
  obtain ⟨ma, mc, rfl, -, m2, -⟩ := hmv.open
  unfold maxLen at m2
  clear hmv hv h0
  go_enter Tryz.func120, Tryz.ntmps120
  go_wp2_with fail
  refine (HOP.out _ (e0.trans ((Ex.refl _).alloc _))).mono ?_
  rintro e w2 ⟨⟨g, c, a1, a2, n1, k1, n2, k2, e', rfl, hs⟩, hx⟩
  have HX := hid_ ((e0.trans ((Ex.refl _).alloc (.cells #[.int .i64 cols, .slice za rows.length zc] 113))).trans hx)
  clear hx g0 g1 g2 e0 gsz HOP
  go_wp2_with fail
  go_ret
  exact ⟨⟨e', rfl, hs⟩, HX.out.alloc _⟩
/-- What code.Check says of a Code value. -/
def CodO (p m : Int) (ml : List Int) (n : Int) (rows : List (List Int)) (e : Int) : Prop :=
  (chkS p m ml ≠ 0 ∧ e = 1) ∨ (chkS p m ml = 0 ∧ lenE n ≠ 0 ∧ e = lenE n) ∨ (chkS p m ml = 0 ∧ lenE n = 0 ∧ SpcO p m ml n rows e)
set_option maxRecDepth 100000 in
set_option maxHeartbeats 4000000 in
theorem codeCheck_any (w : World) (p m : Int) (ml : List Int) (mv : Value) (hmv : ISl w mv ml) (n : Int) (rows : List (List Int)) (v : Value) (hv : MSl w v rows) :
    Calls Tryz.prog 74 #[.agg #[.int .i64 p, .int .i64 m, mv, .int .i64 n, v]] w fun r w' => (∃ e : Int, r = .returned (.int .i64 e) ∧ CodO p m ml n rows e) ∧ Ex w w' := by
  obtain ⟨a0, a1, a2, a3, a4, ea⟩ := boxC_facts w p m mv n v
  have HFC := hid_ (fun (w' : World) (h : Ex w w') => FCheck_any w' p m ml mv (hmv.ex h))
  have HGN := hid_ (fun (w' : World) (h : Ex w w') => gen_any w' p m mv n rows v (hv.ex h))
  have HSC := hid_ (fun (h1 : lenE n = 0) (w' : World) (h : Ex w w') => spaceCheck_any w' p m ml mv (hmv.ex h) n rows v (hv.ex h) fun _ => by
    unfold lenE at h1
    split at h1
    · cases h1
    · omega)
  have HLN := hid_ (fun (w' : World) => length_any w' n)
  obtain ⟨za, zc, rfl, -, z2, -⟩ := hv.open
  unfold maxLen at z2
  obtain ⟨ma, mc, rfl, -, m2, -⟩ := hmv.open
  unfold maxLen at m2
  have HE := hid_ ea
  obtain ⟨F, hF⟩ : ∃ F, chkS p m ml = F := ⟨_, rfl⟩
  obtain ⟨L, hL⟩ : ∃ L, lenE n = L := ⟨_, rfl⟩
  have HCO := hid_ (show ∀ e, ((F ≠ 0 ∧ e = 1) ∨ (F = 0 ∧ L ≠ 0 ∧ e = L) ∨ (F = 0 ∧ L = 0 ∧ SpcO p m ml n rows e)) → CodO p m ml n rows e from fun e h => by unfold CodO; rw [hF, hL]; exact h)
  rw [hF] at HFC
  rw [hL] at HSC HLN
  clear hmv hv ea hF hL
  go_enter Tryz.func74, Tryz.ntmps74
  go_wp2_with fail
  obtain ⟨xb, hxb⟩ : ∃ xb, w.heap.size = xb := ⟨_, rfl⟩
  rw [hxb] at a0 a1 a2 a3 a4
  try simp only [hxb]
  clear hxb
  generalize w.alloc (.cells #[.int .i64 p, .int .i64 m, .slice ma ml.length mc, .int .i64 n, .slice za rows.length zc] 47) = w1 at *
  refine (HFC.out w1 HE.out).mono ?_
  rintro e w2 ⟨rfl, hx2⟩
  have A0 := hid_ (hx2.cell a0)
  have A1 := hid_ (hx2.cell a1)
  have A2 := hid_ (hx2.cell a2)
  have A3 := hid_ (hx2.cell a3)
  have A4 := hid_ (hx2.cell a4)
  have HX2 := hid_ (HE.out.trans hx2)
  clear a0 a1 a2 a3 a4 hx2 HFC HE
  by_cases h1 : F = 0
  · subst h1
    have a3 := A3.out
    go_wp2_with fail
    refine (HLN.out w2).mono ?_
    rintro e w3 ⟨rfl, rfl⟩
    by_cases h2 : L = 0
    · subst h2
      have HSC2 := hid_ (HSC.out rfl)
      have HCO2 := hid_ (fun e h => HCO.out e (.inr (.inr ⟨by trivial, by trivial, h⟩)))
      go_wp2_with fail
      have HALL := hid_ (fun (w' : World) (h' : Ex w3 w') => (⟨h'.cell A0.out, h'.cell A1.out, h'.cell A2.out, h'.cell A3.out, h'.cell A4.out⟩ : w'.cell? ⟨xb, 0, none⟩ = some (.int .i64 p) ∧ w'.cell? ⟨xb, 1, none⟩ = some (.int .i64 m) ∧ w'.cell? ⟨xb, 2, none⟩ = some (.slice ma ml.length mc) ∧ w'.cell? ⟨xb, 3, none⟩ = some (.int .i64 n) ∧ w'.cell? ⟨xb, 4, none⟩ = some (.slice za rows.length zc)))
      have G0 : Ex w3 w3.drew := (Ex.refl w3).drew
      clear a3
      go_region_held3 (fun w' => w'.cell? ⟨xb, 0, none⟩ = some (.int .i64 p) ∧ w'.cell? ⟨xb, 1, none⟩ = some (.int .i64 m) ∧ w'.cell? ⟨xb, 2, none⟩ = some (.slice ma ml.length mc) ∧ w'.cell? ⟨xb, 3, none⟩ = some (.int .i64 n) ∧ w'.cell? ⟨xb, 4, none⟩ = some (.slice za rows.length zc))
        (first | with_reducible exact HALL.out _ X4 | with_reducible exact HALL.out _ X3 | with_reducible exact HALL.out _ G0)
        (first | (go_at_call 80; (with_reducible refine (HGN.out _ (HX2.out.trans G0)).mono ?_); rintro e w5 ⟨rfl, h3⟩; have X3 := G0.trans h3; clear h3) | (go_at_call 120; (with_reducible refine (HSC2.out _ (HX2.out.trans X3)).mono ?_); rintro e w4 ⟨⟨e4, rfl, hs4⟩, h4⟩; have X4 := X3.trans h4; clear h4))
      go_wp2_with fail
      go_ret
      exact ⟨⟨_, rfl, HCO2.out _ hs4⟩, HX2.out.trans X4⟩
    · have hb : (L != 0) = true := by simpa using h2
      have HCO2 := hid_ (HCO.out L (.inr (.inl ⟨by trivial, h2, rfl⟩)))
      clear h2 a3
      go_wp2_with fail
      go_ret
      exact ⟨⟨_, rfl, HCO2.out⟩, HX2.out⟩
  · have hb : (F != 0) = true := by simpa using h1
    have HCO2 := hid_ (HCO.out 1 (.inl ⟨h1, rfl⟩))
    clear h1
    go_wp2_with fail
    go_ret
    exact ⟨⟨_, rfl, HCO2.out⟩, HX2.out⟩
end Go.Proofs.YtgdmlmhpineibaaGreat
namespace Go.Proofs.YtgdmlmhpineibaaGreat
set_option linter.unusedVariables false
set_option linter.unusedSimpArgs false
open Go.RowKit

def samF (p m : Int) (ml : List Int) (p' m' : Int) (ml' : List Int) : Bool := p == p' && m == m' && ml == ml'
theorem samF_iff {p m : Int} {ml : List Int} {p' m' : Int} {ml' : List Int} : samF p m ml p' m' ml' = true ↔ p = p' ∧ m = m' ∧ ml = ml' := by
  unfold samF
  simp [and_assoc]
set_option maxRecDepth 100000 in
set_option maxHeartbeats 4000000 in
theorem FSame_any (w : World) (p m : Int) (ml : List Int) (mv : Value) (hmv : ISl w mv ml) (p' m' : Int) (ml' : List Int) (mv' : Value) (hmv' : ISl w mv' ml') :
    Calls Tryz.prog 102 #[.agg #[.int .i64 p, .int .i64 m, mv], .agg #[.int .i64 p', .int .i64 m', mv']] w fun r w' => r = .returned (.bool (samF p m ml p' m' ml')) ∧ Ex w w' := by
  obtain ⟨a0, a1, a2, ea, -⟩ := box_facts w p m mv
  obtain ⟨b0, b1, b2, eb, -⟩ := box_facts (w.alloc (.cells #[.int .i64 p, .int .i64 m, mv] 24)) p' m' mv'
  replace a0 := eb.cell a0
  replace a1 := eb.cell a1
  replace a2 := eb.cell a2
  have hsz : (w.alloc (.cells #[.int .i64 p, .int .i64 m, mv] 24)).heap.size = w.heap.size + 1 := by simp
  rw [hsz] at b0 b1 b2
  have HE := hid_ (ea.trans eb)
  obtain ⟨ma, mc, rfl, m1', m2, m3⟩ := hmv.open
  obtain ⟨na, nc, rfl, -, n2, n3⟩ := hmv'.open
  unfold maxLen at m2 n2
  obtain ⟨R, hR⟩ : ∃ R, samF p m ml p' m' ml' = R := ⟨_, rfl⟩
  rw [hR]
  have M3 := hid_ m3
  have N3 := hid_ n3
  have HR := hid_ hR
  clear hmv hmv' hsz ea eb m3 n3 hR
  go_enter Tryz.func102, Tryz.ntmps102
  by_cases h1 : p = p'
  · have b1' : (p != p') = false := by simpa using h1
    by_cases h2 : m = m'
    · have b2' : (m != m') = false := by simpa using h2
      by_cases h3 : ml.length = ml'.length
      · have b3 : ((ml.length : Int) != (ml'.length : Int)) = false := by simp; omega
        subst h1
        subst h2
        have hn : ∃ n, ml.length = n := ⟨_, rfl⟩
        have HRB := hid_ (show R = true ↔ ml = ml' from by rw [← HR.out, samF_iff]; simp)
        have H3 := hid_ h3
        rw [← h3] at a0 a1 a2 b0 b1 b2 HE ⊢
        clear h3 b3 hn
        go_wp2_with fail
        generalize (w.alloc (.cells #[.int .i64 p, .int .i64 m, .slice ma ml.length mc] 24)).alloc (.cells #[.int .i64 p, .int .i64 m, .slice na ml.length nc] 24) = w1 at *
        have A2 := hid_ a2
        have B2 := hid_ b2
        go_loopw [31] (fun i' wr => ∃ (i : Nat), i ≤ ml.length ∧ i' = .int .i64 i ∧ (∀ j, j < i → ml.getD j 0 = ml'.getD j 0) ∧ Hid (Ex w1 wr)) (fun i' _ => ml.length - (intOf i').toNat)
        case atStart => exact ⟨0, by omega, rfl, fun j hj => by omega, hid_ (Ex.refl _)⟩
        case round =>
          obtain ⟨i, hi, rfl, hall, hex⟩ := hrel
          have HAL := hid_ hall
          clear hall a0 a1 b0 b1
          by_cases hin : i < ml.length
          · obtain ⟨mb, mo, rfl, hmc⟩ := M3.out (by omega)
            obtain ⟨nb, no, rfl, hnc⟩ := N3.out (by have := H3.out; omega)
            have c1 := hex.out.cell (HE.out.cell (hmc i _ (show ml[i]? = some (ml.getD i 0) from by rw [List.getD_eq_getElem?_getD, List.getElem?_eq_getElem hin]; rfl)))
            have c2 := hex.out.cell (HE.out.cell (hnc i _ (show ml'[i]? = some (ml'.getD i 0) from by rw [List.getD_eq_getElem?_getD, List.getElem?_eq_getElem (by have := H3.out; omega)]; rfl)))
            have f2 := hex.out.cell A2.out
            have g2 := hex.out.cell B2.out
            have j1 : (0 : Int) ≤ (i : Int) := by omega
            have j2 : (i : Int) < (ml.length : Int) := by omega
            have hmm : m2 = m2 := rfl
            obtain ⟨x, hx⟩ : ∃ x, ml.getD i 0 = x := ⟨_, rfl⟩
            obtain ⟨y, hy⟩ : ∃ y, ml'.getD i 0 = y := ⟨_, rfl⟩
            rw [hx] at c1
            rw [hy] at c2
            have HXY := hid_ (show x = ml.getD i 0 ∧ y = ml'.getD i 0 from ⟨hx.symm, hy.symm⟩)
            clear hx hy hmc hnc a2 b2 hmm
            by_cases hxy : x = y
            · have HA2 := hid_ (show ∀ j, j < i + 1 → ml.getD j 0 = ml'.getD j 0 from fun j hj => by
                by_cases e : j = i
                · subst e; rw [← HXY.out.1, ← HXY.out.2, hxy]
                · exact HAL.out j (by omega))
              have bb : (y != x) = false := by simp [hxy]
              have hyx : y = x := hxy.symm
              subst hyx
              clear hxy
              go_wp2_with fail
              go_roundw
              case rel => first | exact ⟨i + 1, by omega, by go_num, HA2.out, hex⟩ | ((repeat apply Exists.intro); exact ⟨⟨i + 1, by omega, by go_num, HA2.out, hex⟩, rfl⟩)
              case measure => simp [intOf]; omega
            · have bb : (y != x) = true := by simpa using fun h => hxy h.symm
              have hr : R = false := Bool.eq_false_iff.2 fun h => hxy (by rw [HXY.out.1, HXY.out.2, HRB.out.1 h])
              subst hr
              have hyx : ¬ y = x := fun h => hxy h.symm
              clear hxy
              go_wp2_with fail
              go_ret
              exact ⟨rfl, HE.out.trans hex.out⟩
          · obtain rfl : i = ml.length := by omega
            have hr : R = true := HRB.out.2 (List.ext_getElem? fun j => by
              by_cases hj : j < ml.length
              · have := HAL.out j hj
                rw [List.getElem?_eq_getElem hj, List.getElem?_eq_getElem (by have := H3.out; omega)]
                rw [List.getD_eq_getElem?_getD, List.getElem?_eq_getElem hj, List.getD_eq_getElem?_getD, List.getElem?_eq_getElem (by have := H3.out; omega)] at this
                simpa using this
              · rw [List.getElem?_eq_none (by omega), List.getElem?_eq_none (by have := H3.out; omega)])
            subst hr
            go_wp2_with fail
            go_ret
            exact ⟨rfl, HE.out.trans hex.out⟩
      · have b3 : ((ml.length : Int) != (ml'.length : Int)) = true := by simp; omega
        have hr : R = false := by
          rw [← HR.out]
          exact Bool.eq_false_iff.2 fun h => h3 (by rw [(samF_iff.1 h).2.2])
        subst hr
        have h3' : ¬ ((ml.length : Int) = (ml'.length : Int)) := by omega
        clear h3 h1 h2
        go_wp2_with fail
        go_ret
        exact ⟨rfl, HE.out⟩
    · have b2' : (m != m') = true := by simpa using h2
      have hr : R = false := by
        rw [← HR.out]
        exact Bool.eq_false_iff.2 fun h => h2 (samF_iff.1 h).2.1
      subst hr
      clear h1 h2
      go_wp2_with fail
      go_ret
      exact ⟨rfl, HE.out⟩
  · have b1' : (p != p') = true := by simpa using h1
    have hr : R = false := by
      rw [← HR.out]
      exact Bool.eq_false_iff.2 fun h => h1 (samF_iff.1 h).1
    subst hr
    clear h1
    go_wp2_with fail
    go_ret
    exact ⟨rfl, HE.out⟩
end Go.Proofs.YtgdmlmhpineibaaGreat
namespace Go.Proofs.YtgdmlmhpineibaaGreat
set_option linter.unusedVariables false
set_option linter.unusedSimpArgs false
open Go.RowKit

def disS (l : List Int) (n : Int) : Int := if rngB l n = true then 0 else 6
theorem rngB_of {l : List Int} {n : Int} (h : ∀ j, j < l.length → 0 ≤ l.getD j 0 ∧ l.getD j 0 < n) : rngB l n = true := by
  unfold rngB
  refine List.all_eq_true.2 fun x hx => ?_
  obtain ⟨j, hj, rfl⟩ := List.getElem_of_mem hx
  have := h j hj
  rw [List.getD_eq_getElem?_getD, List.getElem?_eq_getElem hj] at this
  exact decide_eq_true this
set_option maxRecDepth 100000 in
set_option maxHeartbeats 1000000 in
theorem rDist_any (w : World) (l : List Int) (v : Value) (hl : ISl w v l) (n : Int) :
    Calls Tryz.prog 56 #[v, .int .i64 n] w fun r w' => r = .returned (.int .i64 (disS l n)) ∧ w = w' := by
  obtain ⟨a, cap, rfl, s1, s2, s3⟩ := hl.open
  unfold maxLen at s2
  have S3 := hid_ s3
  have HD := hid_ (show (∀ j, j < l.length → 0 ≤ l.getD j 0 ∧ l.getD j 0 < n) → disS l n = 0 from fun h => by unfold disS; rw [if_pos (rngB_of h)])
  have HN := hid_ (show ∀ j, j < l.length → ¬ (0 ≤ l.getD j 0 ∧ l.getD j 0 < n) → disS l n = 6 from fun j hj h => by
    unfold disS; rw [if_neg fun hr => h (rngB_at hr hj)])
  clear hl s3
  go_enter Tryz.func56, Tryz.ntmps56
  go_wp2_with fail
  go_loop [5] (fun i' => ∃ (i : Nat), i ≤ l.length ∧ i' = .int .i64 i ∧ Hid (∀ j, j < i → 0 ≤ l.getD j 0 ∧ l.getD j 0 < n)) (fun i' => l.length - (intOf i').toNat)
  case atStart => exact ⟨0, by omega, rfl, hid_ (fun j h => by omega)⟩
  case round =>
    obtain ⟨i, hi, rfl, hall⟩ := hrel
    by_cases hlt : i < l.length
    · obtain ⟨bb, o, rfl, hc⟩ := S3.out (by omega)
      have c1 := hc i _ (get_getD hlt)
      obtain ⟨x, hx⟩ : ∃ x, l.getD i 0 = x := ⟨_, rfl⟩
      rw [hx] at c1
      have HX := hid_ hx
      have HALL := hid_ (show (0 ≤ x ∧ x < n) → ∀ j, j < i + 1 → 0 ≤ l.getD j 0 ∧ l.getD j 0 < n from fun h j hj => by
        by_cases e : j = i
        · subst e; rw [hx]; exact h
        · exact hall.out j (by omega))
      have i1 : (0 : Int) ≤ (i : Int) := by omega
      have i2 : (i : Int) < (l.length : Int) := by omega
      clear hc hx
      by_cases h0 : x < 0
      · have HR := hid_ (HN.out i hlt (by rw [HX.out]; omega))
        have k0 : decide (x < 0) = true := by simpa using h0
        go_wp2_with fail
        go_ret
        exact ⟨ret_int HR.out.symm, rfl⟩
      · have k0 : decide (x < 0) = false := by simpa using h0
        by_cases h1 : n ≤ x
        · have HR := hid_ (HN.out i hlt (by rw [HX.out]; omega))
          have k1 : decide (n ≤ x) = true := by simpa using h1
          go_wp2_with fail
          go_ret
          exact ⟨ret_int HR.out.symm, rfl⟩
        · have HA := hid_ (HALL.out ⟨by omega, by omega⟩)
          have k1 : decide (n ≤ x) = false := by simpa using h1
          go_wp2_with fail
          go_round
          case rel => exact ⟨i + 1, by omega, by go_num, HA⟩
          case measure => simp [intOf]; omega
    · obtain rfl : i = l.length := by omega
      have HR := hid_ (HD.out hall.out)
      go_wp2_with fail
      go_ret
      exact ⟨ret_int HR.out.symm, rfl⟩
theorem dupB_iff {l : List Int} : dupB l = true ↔ ∃ i j, j < i ∧ i < l.length ∧ l.getD i 0 = l.getD j 0 := by
  unfold dupB dupK
  rw [List.any_eq_true]
  constructor
  · rintro ⟨i, hi, h⟩
    have hi := List.mem_range.1 hi
    rw [List.contains_iff_mem] at h
    obtain ⟨j, hj, e⟩ := List.getElem_of_mem h
    rw [List.length_take] at hj
    refine ⟨i, j, by omega, hi, ?_⟩
    rw [← e, List.getElem_take, List.getD_eq_getElem?_getD, List.getElem?_eq_getElem (show j < l.length by omega)]
    rfl
  · rintro ⟨i, j, h1, h2, h3⟩
    refine ⟨i, List.mem_range.2 h2, ?_⟩
    rw [List.contains_iff_mem, h3]
    have hj : j < (l.take i).length := by rw [List.length_take]; omega
    have := List.getElem_mem hj
    rw [List.getElem_take] at this
    rw [List.getD_eq_getElem?_getD, List.getElem?_eq_getElem (show j < l.length by omega)]
    exact this
set_option maxRecDepth 100000 in
set_option maxHeartbeats 2000000 in
theorem rTwice_any (w : World) (l : List Int) (v : Value) (hl : ISl w v l) :
    Calls Tryz.prog 57 #[v] w fun r w' => r = .returned (.bool (dupB l)) ∧ Ex w w' := by
  obtain ⟨a, cap, rfl, s1, s2, s3⟩ := hl.open
  unfold maxLen at s2
  have S3 := hid_ s3
  have HY := hid_ (show ∀ i j, j < i → i < l.length → l.getD i 0 = l.getD j 0 → dupB l = true from fun i j h1 h2 h3 => dupB_iff.2 ⟨i, j, h1, h2, h3⟩)
  have HN := hid_ (show (∀ i j, j < i → i < l.length → l.getD i 0 ≠ l.getD j 0) → dupB l = false from fun h => by
    cases hb : dupB l with
    | false => rfl
    | true => obtain ⟨i, j, h1, h2, h3⟩ := dupB_iff.1 hb; exact absurd h3 (h i j h1 h2))
  obtain ⟨D, hD⟩ : ∃ D, dupB l = D := ⟨_, rfl⟩
  rw [hD] at HY HN
  rw [hD]
  clear hl s3 hD
  go_enter Tryz.func57, Tryz.ntmps57
  go_wp2_with fail
  go_loopw [3, 4] (fun i' _ wr => ∃ (i : Nat), i ≤ l.length ∧ i' = .int .i64 i ∧ Hid (∀ k j, j < k → k < i → l.getD k 0 ≠ l.getD j 0) ∧ Hid (Ex w wr)) (fun i' _ _ => l.length - (intOf i').toNat)
  case atStart => exact ⟨0, by omega, rfl, hid_ (fun k j _ h => by omega), hid_ (Ex.refl _)⟩
  case round =>
    obtain ⟨i, hi, rfl, hall, hex⟩ := hrel
    by_cases hlt : i < l.length
    · obtain ⟨bb, o, rfl, hc⟩ := S3.out (by omega)
      have c1 := hc i _ (get_getD hlt)
      obtain ⟨x, hx⟩ : ∃ x, l.getD i 0 = x := ⟨_, rfl⟩
      rw [hx] at c1
      have HX := hid_ hx
      have HC := hid_ hc
      have C1 := hid_ c1
      have i1 : (0 : Int) ≤ (i : Int) := by omega
      have i2 : (i : Int) < (l.length : Int) := by omega
      clear hc hx c1
      obtain ⟨w8, h8⟩ : ∃ w8, w8 = wr := ⟨_, rfl⟩
      rw [← h8] at hex ⊢
      clear h8
      go_wp2_with fail
      go_loopw [4] (fun j' wr => ∃ (j : Nat), j ≤ i ∧ j' = .int .i64 j ∧ Hid (∀ k, k < j → x ≠ l.getD k 0) ∧ Hid (Ex w wr)) (fun j' _ => i - (intOf j').toNat)
      case atStart => exact ⟨0, by omega, rfl, hid_ (fun k h => by omega), hex⟩
      case round =>
        obtain ⟨j, hj, rfl, hal2, hex2⟩ := hrel
        have c1 := hex2.out.cell C1.out
        by_cases hji : j < i
        · have c2 := hex2.out.cell (HC.out j _ (get_getD (by omega)))
          obtain ⟨y, hy⟩ : ∃ y, l.getD j 0 = y := ⟨_, rfl⟩
          rw [hy] at c2
          have HYY := hid_ hy
          have j1 : (0 : Int) ≤ (j : Int) := by omega
          have j2 : (j : Int) < (l.length : Int) := by omega
          clear hy
          by_cases hxy : x = y
          · have hr : D = true := HY.out i j hji hlt (by rw [HX.out, HYY.out, hxy])
            subst hr
            have kb : (x == y) = true := by simpa using hxy
            clear hxy
            go_upto_region 7 with fail
            go_quiet (fail)
            go_wp2_with fail
            go_ret
            exact ⟨rfl, hex2.out.drewN _⟩
          · have kb : (x == y) = false := by simpa using hxy
            have HA := hid_ (show ∀ k, k < j + 1 → x ≠ l.getD k 0 from fun k hk => by
              by_cases e : k = j
              · subst e; rw [HYY.out]; exact hxy
              · exact hal2.out k (by omega))
            clear hxy
            go_upto_region 7 with fail
            go_quiet (fail)
            go_wp2_with fail
            go_roundw
            case rel => exact ⟨j + 1, by omega, by go_num, HA, hid_ (hex2.out.drewN _)⟩
            case measure => simp [intOf]; omega
        · obtain rfl : j = i := by omega
          have HA := hid_ (show ∀ k m, m < k → k < j + 1 → l.getD k 0 ≠ l.getD m 0 from fun k m hm hk => by
            by_cases e : k = j
            · subst e; rw [HX.out]; exact hal2.out m hm
            · exact hall.out k m hm (by omega))
          go_wp2_with fail
          go_roundw
          case rel => first | exact ⟨j + 1, by omega, by go_num, HA, hex2⟩ | ((repeat apply Exists.intro); exact ⟨⟨j + 1, by omega, by go_num, HA, hex2⟩, rfl⟩)
          case measure => simp [intOf]; omega
    · obtain rfl : i = l.length := by omega
      have hr : D = false := HN.out fun k j h1 h2 => hall.out k j h1 h2
      subst hr
      go_wp2_with fail
      go_ret
      exact ⟨rfl, hex.out⟩
section
variable {p m : Nat} {ml : List Int} {mv : Value}
theorem facS_ent {q : Nat} {l : List Int} : facS q l = if entS q l ≠ 0 then entS q l else if l.contains 0 = true then 7 else 0 := by
  unfold facS entS
  have e : (l.any fun x => !isB q x) = !(l.all fun x => isB q x) := by rw [List.not_all_eq_any_not]
  rw [e]
  cases (l.all fun x => isB q x) <;> simp
set_option maxRecDepth 100000 in
set_option maxHeartbeats 1000000 in
theorem rFac_any (w : World) (hf : FSh p m ml) (l : List Int) (v : Value) (hl : ISl w v l) :
    Calls Tryz.prog 58 #[.agg #[.int .i64 p, .int .i64 m, mv], v] w fun r w' => r = .returned (.int .i64 (facS (p ^ m) l)) ∧ Ex w w' := by
  obtain ⟨d0, d1, d2, e0, hsz⟩ := box_facts w p m mv
  have HE := hid_ (rEntries_any (mv := mv) _ hf l v (hl.ex e0))
  obtain ⟨a, cap, rfl, s1, s2, s3⟩ := hl.open
  unfold maxLen at s2
  have S3 := hid_ s3
  have HF := hid_ (facS_ent (q := p ^ m) (l := l))
  have HE0 := hid_ e0
  obtain ⟨F, hF⟩ : ∃ F, facS (p ^ m) l = F := ⟨_, rfl⟩
  obtain ⟨E, hE⟩ : ∃ E, entS (p ^ m) l = E := ⟨_, rfl⟩
  rw [hF, hE] at HF
  rw [hE] at HE
  rw [hF]
  clear hl s3 hf hF hE e0 hsz
  go_enter Tryz.func58, Tryz.ntmps58
  go_wp2_with fail
  generalize w.alloc (.cells #[.int .i64 p, .int .i64 m, mv] 24) = w1 at *
  refine HE.out.mono ?_
  rintro e w2 ⟨rfl, hx2⟩
  have HX2 := hid_ (HE0.out.trans hx2)
  clear d0 d1 d2
  by_cases he : E = 0
  · subst he
    have HF2 := hid_ (show F = if l.contains 0 = true then 7 else 0 from HF.out)
    clear hx2
    go_wp2_with fail
    go_loop [6] (fun i' => ∃ (i : Nat), i ≤ l.length ∧ i' = .int .i64 i ∧ Hid (∀ j, j < i → l.getD j 0 ≠ 0)) (fun i' => l.length - (intOf i').toNat)
    case atStart => exact ⟨0, by omega, rfl, hid_ (fun j h => by omega)⟩
    case round =>
      obtain ⟨i, hi, rfl, hall⟩ := hrel
      by_cases hlt : i < l.length
      · obtain ⟨bb, o, rfl, hc⟩ := S3.out (by omega)
        have c1 := HX2.out.cell (hc i _ (get_getD hlt))
        have i1 : (0 : Int) ≤ (i : Int) := by omega
        have i2 : (i : Int) < (l.length : Int) := by omega
        obtain ⟨x, hx⟩ : ∃ x, l.getD i 0 = x := ⟨_, rfl⟩
        rw [hx] at c1
        have HX := hid_ hx
        clear hc hx
        by_cases h0 : x = 0
        · subst h0
          have HR := hid_ (show F = 7 from by
            rw [HF2.out, if_pos]
            rw [List.contains_iff_mem, ← HX.out, List.getD_eq_getElem?_getD, List.getElem?_eq_getElem hlt]
            exact List.getElem_mem hlt)
          go_wp2_with fail
          go_ret
          exact ⟨ret_int HR.out.symm, HX2.out⟩
        · have kb : (x == 0) = false := by simpa using h0
          have HA := hid_ (show ∀ j, j < i + 1 → l.getD j 0 ≠ 0 from fun j hj => by
            by_cases e : j = i
            · subst e; rw [HX.out]; exact h0
            · exact hall.out j (by omega))
          clear h0
          go_wp2_with fail
          go_round
          case rel => exact ⟨i + 1, by omega, by go_num, HA⟩
          case measure => simp [intOf]; omega
      · obtain rfl : i = l.length := by omega
        have HR := hid_ (show F = 0 from by
          rw [HF2.out, if_neg]
          intro h
          rw [List.contains_iff_mem] at h
          obtain ⟨j, hj, e⟩ := List.getElem_of_mem h
          exact hall.out j hj (by rw [List.getD_eq_getElem?_getD, List.getElem?_eq_getElem hj]; exact e))
        go_wp2_with fail
        go_ret
        exact ⟨ret_int HR.out.symm, HX2.out⟩
  · have HR := hid_ (show F = E from by rw [HF.out, if_pos he])
    have kb : (E != 0) = true := by simpa using he
    clear hx2 he
    go_wp2_with fail
    go_ret
    exact ⟨ret_int HR.out.symm, HX2.out⟩
end
end Go.Proofs.YtgdmlmhpineibaaGreat
