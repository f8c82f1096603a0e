/- Walk of the pair's span. -/
import Derived.Deep.CutRange
import Derived.Test.YtgdmlmhpineibaaGreatZb31
namespace Go.Proofs.YtgdmlmhpineibaaGreat
set_option linter.unusedVariables false
set_option linter.unusedSimpArgs false
open Go.RowKit

theorem MRows.other {w w' : World} {base b2 : Nat} {e2 : TypeId} {s2 n : Nat} {cv pv pv' : Value} {M : List (List Int)} {vals xs news : List Value} (h : MRows w base cv M vals) (ha : Appd w w' b2 e2 s2 pv pv' n xs news) (hc : Aprt cv pv) (hv : ∀ u ∈ vals, Aprt u pv) :
    MRows w' base cv M vals ∧ Aprt cv pv' ∧ ∀ u ∈ vals, Aprt u pv' := by
  have hn := h.len
  have h0 := ha.row h.cvo hc
  refine ⟨⟨h0.1, fun i r u h1 h2 => (ha.row (h.row i r u h1 h2) (hv u (List.mem_of_getElem? h2))).1, h.apart⟩, h0.2, fun u hu => ?_⟩
  obtain ⟨i, hi, e⟩ := List.getElem_of_mem hu
  exact (ha.row (h.row i (M[i]'(by omega)) u (List.getElem?_eq_getElem _) (by rw [List.getElem?_eq_getElem hi, e])) (hv u hu)).2
/-- An echelon that grows, in the box E. -/
structure ESt (w1 wr : World) (E b : Nat) (M : List (List Int)) (P : List Int) (rv pv : Value) (vals : List Value) : Prop where
  c0 : wr.cell? ⟨E, 0, none⟩ = some (.pointer (some ⟨b, 0, none⟩))
  c1 : wr.cell? ⟨E, 1, none⟩ = some rv
  c2 : wr.cell? ⟨E, 2, none⟩ = some pv
  f1 : wr.frozen? ⟨E, 1, none⟩ = false
  f2 : wr.frozen? ⟨E, 2, none⟩ = false
  rows : MRows wr (E + 1) rv M vals
  plc : wr.ownsRow (E + 1) 3 1 pv P.length (ints P)
  ap : Aprt rv pv
  av : ∀ u ∈ vals, Aprt u pv
  lb : w1.heap.size ≤ E
  ex : Ex w1 wr
section
variable {w1 wr w' : World} {E b : Nat} {M : List (List Int)} {P : List Int} {rv pv v' l : Value} {vals : List Value} {L : List Int} {x : Int}
theorem ESt.later (h : ESt w1 wr E b M P rv pv vals) (hx : Ex wr w') : ESt w1 w' E b M P rv pv vals :=
  ⟨hx.cell h.c0, hx.cell h.c1, hx.cell h.c2, hx.frz h.c1 h.f1, hx.frz h.c2 h.f2, h.rows.ex hx, ownsRow_ex h.plc hx, h.ap, h.av, h.lb, h.ex.trans hx⟩
theorem est_ne {w : World} {e : TypeId} {s n : Nat} {v : Value} {xs : List Value} (h : w.ownsRow (E + 1) e s v n xs) : v.ownBlock ≠ some E := fun e => by
  have := (h.lt E e).1; omega
theorem ESt.at1 (h : ESt w1 wr E b M P rv pv vals) (ha : Appd wr w' (E + 1) 22 1 rv v' M.length vals [l]) : w'.cell? ⟨E, 1, none⟩ = some rv ∧ w'.frozen? ⟨E, 1, none⟩ = false :=
  ⟨ha.cell h.c1 (fun e => est_ne h.rows.cvo e.symm), ha.frz h.c1 h.f1 (fun e => est_ne h.rows.cvo e.symm)⟩
theorem ESt.app1 (h : ESt w1 wr E b M P rv pv vals) (hl : wr.ownsRow (E + 1) 3 1 l L.length (ints L)) (h1 : Aprt l rv) (h2 : Aprt l pv) (ha : Appd wr w' (E + 1) 22 1 rv v' M.length vals [l]) :
    ESt w1 (w'.setCell ⟨E, 1, none⟩ v') E b (M ++ [L]) P v' pv (vals ++ [l]) := by
  have hne : some E ≠ rv.ownBlock := fun e => est_ne h.rows.cvo e.symm
  have hm := h.rows.app hl h1 ha
  have hr := ha.row h.plc h.ap.symm
  refine ⟨?_, World.cell?_setCell_same _ _ _ (ha.cell h.c1 hne), ?_, ?_, ?_, hm.setNe (a := ⟨E, 1, none⟩) (by show E < E + 1; omega) v', ?_, hr.2.symm, ?_, h.lb, (ha.ex h.ex (by have := h.lb; omega)).setCell (p := ⟨E, 1, none⟩) h.lb _⟩
  · rw [cell_set_off (by decide)]; exact ha.cell h.c0 hne
  · rw [cell_set_off (by decide)]; exact ha.cell h.c2 hne
  · rw [efrz_set]; exact ha.frz h.c1 h.f1 hne
  · rw [efrz_set]; exact ha.frz h.c2 h.f2 hne
  · exact ownsRow_setCell_ne (a := ⟨E, 1, none⟩) hr.1 (est_ne h.plc) v'
  · intro u hu
    rcases List.mem_append.1 hu with hu | hu
    · exact h.av u hu
    · simp at hu; subst hu; exact h2
theorem ESt.at2 (h : ESt w1 wr E b M P rv pv vals) (ha : Appd wr w' (E + 1) 3 1 pv v' P.length (ints P) [.int .i64 x]) : w'.cell? ⟨E, 2, none⟩ = some pv ∧ w'.frozen? ⟨E, 2, none⟩ = false :=
  ⟨ha.cell h.c2 (fun e => est_ne h.plc e.symm), ha.frz h.c2 h.f2 (fun e => est_ne h.plc e.symm)⟩
theorem ESt.app2 (h : ESt w1 wr E b M P rv pv vals) (ha : Appd wr w' (E + 1) 3 1 pv v' P.length (ints P) [.int .i64 x]) :
    ESt w1 (w'.setCell ⟨E, 2, none⟩ v') E b M (P ++ [x]) rv v' vals := by
  have hne : some E ≠ pv.ownBlock := fun e => est_ne h.plc e.symm
  obtain ⟨hm, ha1, ha2⟩ := h.rows.other ha h.ap h.av
  have ho : w'.ownsRow (E + 1) 3 1 v' (P ++ [x]).length (ints (P ++ [x])) := by
    have := ha.own
    rw [List.length_append, show ints (P ++ [x]) = ints P ++ [.int .i64 x] from by unfold ints; simp]
    exact this
  refine ⟨?_, ?_, World.cell?_setCell_same _ _ _ (ha.cell h.c2 hne), ?_, ?_, hm.setNe (a := ⟨E, 2, none⟩) (by show E < E + 1; omega) v', ownsRow_setCell_ne (a := ⟨E, 2, none⟩) ho (est_ne ho) v', ha1, ha2, h.lb, (ha.ex h.ex (by have := h.lb; omega)).setCell (p := ⟨E, 2, none⟩) h.lb _⟩
  · rw [cell_set_off (by decide)]; exact ha.cell h.c0 hne
  · rw [cell_set_off (by decide)]; exact ha.cell h.c1 hne
  · rw [efrz_set]; exact ha.frz h.c1 h.f1 hne
  · rw [efrz_set]; exact ha.frz h.c2 h.f2 hne
theorem ESt.at {t : Nat} {e : EcS} (h : ESt w1 wr E b (rowsL t e.n e.a) (il e.n fun i => (e.pl i : Int)) rv pv vals) : EchAt wr E b t e rv pv :=
  ⟨h.c0, h.c1, h.c2, h.rows.msl, Sl.own h.plc⟩
end
theorem ESt.new (w1 : World) (b : Nat) : ESt w1 (w1.alloc (.cells #[.pointer (some ⟨b, 0, none⟩), .slice none 0 0, .slice none 0 0] 181)) w1.heap.size b [] [] (.slice none 0 0) (.slice none 0 0) [] where
  c0 := by simp
  c1 := by simp
  c2 := by simp
  f1 := by simp
  f2 := by simp
  rows := MRows.nil _ _
  plc := World.ownsRow_nil _ _ _ _
  ap := Aprt.nil _
  av := fun u h => (List.not_mem_nil h).elim
  lb := Nat.le_refl _
  ex := (Ex.refl _).alloc _
theorem e_al (w : World) (o : Obj) : Ex w (w.alloc o) := (Ex.refl w).alloc o
theorem e_appd {w w' : World} {o : Obj} {base : Nat} {e : TypeId} {size : Nat} {v v' : Value} {n : Nat} {xs news : List Value} (old : w.ownsRow base e size v n xs) (hown : w'.ownsRow base e size v' (n + 1) (xs ++ news))
    (hg : (w.alloc o).grownBy w' v.ownBlock) (ha : v'.ownBlock = v.ownBlock ∨ v'.ownBlock = some (w.alloc o).heap.size) : Appd w w' base e size v v' n xs news :=
  ⟨hown, ⟨o, hg⟩, by simpa using ha, old⟩
theorem spn_yes {p m : Nat} {ml : List Int} {t : Nat} {e : EcS} {r : Nat → Int} {k : Nat} (h : lzI t (e.red p m ml r) = k) :
    rowsL t (spnS p m ml t e r).n (spnS p m ml t e r).a = rowsL t e.n e.a ++ [il t (sclF p m ml (ivz p m ml (kin (p ^ m) (e.red p m ml r k))) (e.red p m ml r))] ∧ (il (spnS p m ml t e r).n fun i => ((spnS p m ml t e r).pl i : Int)) = (il e.n fun i => (e.pl i : Int)) ++ [(k : Int)] := by
  unfold spnS
  rw [if_pos (by omega), h]
  simp only [Int.toNat_natCast]
  constructor
  · unfold rowsL
    rw [List.range_succ, List.map_append]
    congr 1
    · exact List.map_congr_left fun i hi => by
        have := List.mem_range.1 hi
        rw [upd_ne _ _ (by omega)]
    · simp [upd_same]
  · unfold il
    rw [List.range_succ, List.map_append]
    congr 1
    · exact List.map_congr_left fun i hi => by
        have := List.mem_range.1 hi
        rw [upd_ne _ _ (by omega)]
    · simp [upd_same]
theorem spn_not {p m : Nat} {ml : List Int} {t : Nat} {e : EcS} {r : Nat → Int} (h : lzI t (e.red p m ml r) = -1) : spnS p m ml t e r = e := by
  unfold spnS
  rw [if_neg (by omega)]
section
variable {b p m x0 : Nat} {ml : List Int}
set_option maxRecDepth 100000 in
set_option maxHeartbeats 4000000 in
theorem span_any (w : World) (hg : GFat w b p m ml x0) (hx01 : 1 ≤ x0) (hx02 : x0 < p ^ m) (A : Nat) (hA : w.cell? ⟨A, 0, none⟩ = some (.pointer (some ⟨b, 0, none⟩))) (t R : Nat) (ht : t ≤ 1000) (hR : R ≤ 1000) (a : Nat → Nat → Int) (v : Value) (hv : MSl w v (rowsL t R a)) :
    Calls Tryz.prog 113 #[.pointer (some ⟨A, 0, none⟩), v] w fun r w' => ∃ E rv pv, r = .returned (.pointer (some ⟨E, 0, none⟩)) ∧ EchAt w' E b t (spn p m ml t a R) rv pv ∧ Ex w w' := by
  obtain ⟨ra, rc, rfl, r1, r2, r3⟩ := hv.open
  rw [rowsL_len] at r1 r3 ⊢
  unfold maxLen at r2
  have R3 := hid_ r3
  have HA := hid_ hA
  have HG := hid_ hg
  have HIN := hid_ (fun (w1 : World) (h1 : Ex w w1) (y : Int) => Inv_any w1 (hg.ex h1) hx01 hx02 y)
  have HSC := hid_ (fun (w1 : World) (h1 : Ex w w1) (c : Int) (f : Nat → Int) (uv : Value) (hu : ISl w1 uv (il t f)) => Scale_any w1 (hg.ex h1) t f c uv hu ht)
  have HRD := hid_ (fun (w1 : World) (h1 : Ex w w1) (E : Nat) (e : EcS) (rv pv : Value) (hE : EchAt w1 E b t e rv pv) (hpl : ∀ i, i < e.n → e.pl i < t) (f : Nat → Int) (vv : Value) (hu : ISl w1 vv (il t f)) => reduce_any w1 (hg.ex h1) E t ht e rv pv hE hpl f vv hu)
  have HQ := hid_ (show 1 ≤ p ^ m from by omega)
  clear hv r3 hg
  go_enter Tryz.func113, Tryz.ntmps113
  go_wp2_with fail
  obtain ⟨E, hE⟩ : ∃ E, w.heap.size = E := ⟨_, rfl⟩
  have HS0 := hid_ (ESt.new w b)
  try simp only [hE]
  rw [hE] at HS0
  have HEW := hid_ hE
  generalize w.alloc (.cells #[.pointer (some ⟨b, 0, none⟩), .slice none 0 0, .slice none 0 0] 181) = w2 at *
  clear hE
  go_loopw [20] (fun i' wr => ∃ (k : Nat) (rv pv : Value) (vals : List Value), k ≤ R ∧ i' = .int .i64 k ∧ Hid (ESt w wr E b (rowsL t (spn p m ml t a k).n (spn p m ml t a k).a) (il (spn p m ml t a k).n fun i => ((spn p m ml t a k).pl i : Int)) rv pv vals)) (fun i' _ => R - (intOf i').toNat)
  case atStart => exact ⟨0, _, _, _, by omega, rfl, HS0⟩
  case round =>
    clear HS0
    obtain ⟨k, rv, pv, vals, hk, rfl, hst⟩ := hrel
    by_cases hkR : k < R
    · obtain ⟨rb, ro, rfl, hrc⟩ := R3.out (by omega)
      obtain ⟨uv, huc, hui⟩ := hrc k _ (rowsL_get hkR)
      have cu := hst.out.ex.cell huc
      have i1 : (0 : Int) ≤ (k : Int) := by omega
      have i2 : (k : Int) < (R : Int) := by omega
      have HST := hid_ hst.out
      have HSX := hid_ (show spn p m ml t a (k + 1) = spnS p m ml t (spn p m ml t a k) (a k) from rfl)
      have HNK := hid_ (spn_n (p := p) (m := m) (ml := ml) t a k)
      have HRE := hid_ (HRD.out wr hst.out.ex E (spn p m ml t a k) rv pv hst.out.at (spn_lt t a k) (a k) uv (hui.ex hst.out.ex))
      obtain ⟨e, he⟩ : ∃ e, spn p m ml t a k = e := ⟨_, rfl⟩
      rw [he] at HST HSX HRE HNK
      obtain ⟨z, hz⟩ : ∃ z, lzI t (e.red p m ml (a k)) = z := ⟨_, rfl⟩
      have hzl := lzI_lt t (e.red p m ml (a k))
      rw [hz] at HRE hzl
      have HYES := hid_ (fun k' (h : z = (k' : Nat)) => spn_yes (p := p) (m := m) (ml := ml) (t := t) (e := e) (r := a k) (hz.trans h))
      have HNO := hid_ (fun (h : z = -1) => spn_not (p := p) (m := m) (ml := ml) (t := t) (e := e) (r := a k) (hz.trans h))
      obtain ⟨f, hf⟩ : ∃ f, e.red p m ml (a k) = f := ⟨_, rfl⟩
      rw [hf] at HRE HYES
      rw [← HSX.out] at HYES HNO
      clear hrc huc hui hst he hz hf HSX
      go_wp2_with fail
      refine HRE.out.mono ?_
      rintro e' w3 ⟨v3, rfl, hv3, hx3⟩
      have HV3 := hid_ hv3
      have HX3 := hid_ hx3
      clear hx3 HRE
      obtain ⟨va, vc, rfl, -, v2, v3⟩ := hv3.open
      rw [il_len] at v3 HV3 ⊢
      clear hv3
      by_cases hz0 : 0 ≤ z
      · obtain ⟨k', rfl⟩ := Int.eq_ofNat_of_zero_le hz0
        have hkt : k' < t := by omega
        obtain ⟨hy1, hy2⟩ := HYES.out k' rfl
        obtain ⟨vb, vo, rfl, hvc⟩ := v3 (by omega)
        have cv := hvc k' _ (il_get hkt f)
        have hb0 : decide ((0 : Int) ≤ (k' : Int)) = true := by simp
        have ca := (HST.out.ex.trans HX3.out).cell HA.out
        have j1 : (0 : Int) ≤ (k' : Int) := by omega
        have j2 : (k' : Int) < (t : Int) := by omega
        have HIX := hid_ (fun (w1 : World) (h1 : Ex w w1) => HIN.out w1 h1 (f k'))
        obtain ⟨IV, hIV, hIVl⟩ : ∃ c : Nat, (∃ e2, invR p m ml (kin (p ^ m) (f k')) = .tuple #[.int .i64 (c : Nat), e2]) ∧ kin (p ^ m) (c : Int) = ivz p m ml (kin (p ^ m) (f k')) := by
          unfold invR ivz
          by_cases h0 : kin (p ^ m) (f k') = 0
          · rw [if_pos h0, if_pos h0]; exact ⟨0, ⟨_, rfl⟩, kin_zero _⟩
          · rw [if_neg h0, if_neg h0]; exact ⟨_, ⟨_, rfl⟩, kin_of (kinv_lt HQ.out _)⟩
        obtain ⟨e2, hIV⟩ := hIV
        rw [hIV] at HIX
        have HY1 := hid_ hy1
        have HY2 := hid_ hy2
        rw [← hIVl] at HY1
        have HST3 := hid_ (HST.out.later HX3.out)
        have HCA := hid_ ca
        have HCV := hid_ cv
        clear hz0 hIV hIVl v3 hvc hzl hy1 hy2 HYES HNO HST HX3
        go_wp2_with fail
        go_region_held3 (fun w' => w'.cell? ⟨A, 0, none⟩ = some (.pointer (some ⟨b, 0, none⟩)) ∧ w'.cell? ⟨vb, vo + k', none⟩ = some (.int .i64 (f k')))
          (first | exact ⟨HCA.out, HCV.out⟩)
          (first | (go_at_call 52; (with_reducible refine (HIX.out _ HST3.out.ex.drew).mono ?_); rintro e w4 ⟨rfl, n4, rfl⟩))
        obtain ⟨w4, hw4⟩ : ∃ w4, w3.drewN (1 + n4) = w4 := ⟨_, rfl⟩
        have HX34 := hid_ (show Ex w3 w4 from by rw [← hw4]; exact (Ex.refl w3).drewN _)
        try simp only [hw4]
        clear hw4 ca cv HIX
        have HST4 := hid_ (HST3.out.later HX34.out)
        have HV4 := hid_ (HV3.out.ex HX34.out)
        have ca := (HST4.out.ex).cell HA.out
        have t1 := HST4.out.c1
        have T1F := hid_ HST4.out.f1
        obtain ⟨qa, qc, hqv⟩ := own_shape HST4.out.rows.cvo
        subst hqv
        have HSX := hid_ (fun (w1 : World) (h1 : Ex w4 w1) => HSC.out w1 (HST4.out.ex.trans h1) (IV : Int) f _ (by
          have := HV4.out.ex h1
          exact this))
        have G0 : Ex w4 w4.drew := (Ex.refl w4).drew
        have hnl : (rowsL t e.n e.a).length = e.n := rowsL_len _ _ _
        rw [hnl] at t1
        have HNL := hid_ hnl
        have HNK' := hid_ (show e.n ≤ k from HNK.out)
        have HTT := hid_ t1
        clear HST3 HV3 hnl
        go_upto_region 8 with fail
        go_cut [10] from 44 to 70 (fun s10 wx => ∃ qa' qc' vals', Hid (ESt w wx E b (rowsL t e.n e.a ++ [il t (sclF p m ml (kin (p ^ m) (IV : Int)) f)]) (il e.n fun i => (e.pl i : Int)) (.slice qa' (e.n + 1) qc') pv vals'))
        case first =>
          have HXG := hid_ G0
          go_region_law
            ((first
              | (refine step_append_sl (by rfl) _ _ _ (by rfl) (E + 1) 22 (.slice none 0 0) 1 24 Tryz.underlying45 infoIntsL rfl (by decide) (.slice qa e.n qc) e.n vals (by rfl) (by have h := ownsRow_ex HST4.out.rows.cvo ((HXG.out.trans hx5).trans (e_al w5 (.cells #[.slice (some ⟨g5, 0, none⟩) t t] 22))); rw [HNL.out] at h; exact h) _ 1 [.slice (some ⟨g5, 0, none⟩) t t] (by rfl) (Sl.own (own_lit1 w5 (.slice (some ⟨g5, 0, none⟩) t t) 22)) (by simp [Value.oneCell']) (by have := HNK'.out; unfold maxLen; omega) (by have := HNK'.out; omega) (by have := HS5.out; simp; omega) ?_; intro v8 w8 hown8 hg8 ha8; have HAP := hid_ (e_appd (by have h := ownsRow_ex HST4.out.rows.cvo (HXG.out.trans hx5); rw [HNL.out] at h; exact h) hown8 hg8 ha8); obtain ⟨t1y, t2y⟩ := (HST4.out.later (HXG.out.trans hx5)).at1 (by rw [HNL.out]; exact HAP.out); rw [HNL.out] at t1y; obtain ⟨va8, vc8, hv8⟩ := own_shape hown8; subst hv8)
              | (go_simp; refine (HSX.out _ HXG.out).mono ?_; rintro e w5 ⟨g5, rfl, ho5, hx5⟩; have t1 := hx5.cell (show w4.drew.cell? ⟨E, 1, none⟩ = some (.slice qa e.n qc) from HTT.out); have t1x := (e_al w5 (.cells #[.slice (some ⟨g5, 0, none⟩) t t] 22)).cell t1; have HS5 := hid_ (show E + 1 ≤ w5.heap.size from by have h1 := ho5.lt; have h2 := World.block_lt_of_cell? _ _ t1; exact h2); go_simp)))
          all_goals
            have hx5' := HXG.out.trans hx5
            have HS5' := HST4.out.later hx5'
            have hl5 : w5.ownsRow (E + 1) 3 1 (.slice (some ⟨g5, 0, none⟩) t t) (il t (sclF p m ml (kin (p ^ m) (IV : Int)) f)).length (ints (il t (sclF p m ml (kin (p ^ m) (IV : Int)) f))) := by
              rw [il_len, ints_il]
              exact ownsRow_mono ho5 (World.block_lt_of_cell? _ _ (HXG.out.cell HTT.out))
            have ha1 : ∀ v2 (e2 : TypeId) (n2 : Nat) xs2, w4.ownsRow (E + 1) e2 1 v2 n2 xs2 → Aprt (.slice (some ⟨g5, 0, none⟩) t t) v2 := fun v2 e2 n2 xs2 h => by
              right
              show some g5 ≠ _
              intro e
              have h1 := (h.lt g5 e.symm).2
              have h2 := ho5.lt.1
              have h3 := HXG.out.size
              omega
            have HS8 := hid_ (HS5'.app1 hl5 (ha1 _ _ _ _ HST4.out.rows.cvo) (ha1 _ _ _ _ HST4.out.plc) (by rw [HNL.out]; exact HAP.out))
            clear HS5' hl5 ha1 hx5' t1y t2y t1 t1x HAP hown8 hg8 ha8 ho5 hx5 HSX
            go_wp2_with fail
            go_meet
            exact ⟨_, _, _, HS8⟩
        case rest =>
          obtain ⟨qa', qc', vals', hc⟩ := hcut
          have t2 := hc.out.c2
          have T2F := hid_ hc.out.f2
          obtain ⟨pa, pc, hpv⟩ := own_shape hc.out.plc
          subst hpv
          rw [il_len] at t2
          have HSZ := hid_ (show E + 1 ≤ wc.heap.size from World.block_lt_of_cell? _ _ t2)
          have HC := hid_ hc.out
          have HIL := hid_ (il_len e.n fun i => (e.pl i : Int))
          have HOP := hid_ (show wc.ownsRow (E + 1) 3 1 (.slice pa e.n pc) e.n (ints (il e.n fun i => (e.pl i : Int))) from by
            have h := hc.out.plc
            rw [il_len] at h
            exact h)
          clear hc t1 ca G0 HTT HSX HST4
          go_wp2_with (at_builtin; refine wpList_append1 _ rfl _ _ 22 rfl (E + 1) 3 (.int .i64 0) 1 8 Tryz.underlying22 infoInt rfl (by decide) _ e.n _ rfl HOP.out [.int .i64 k'] 3 _ rfl (by simp) rfl (by simp [Value.oneCell']) (by have := HNK'.out; unfold maxLen; omega) (by have := HNK'.out; omega) HSZ.out ?_)
          intro v8 w8 happ
          have happ' : Appd wc w8 (E + 1) 3 1 (.slice pa (il e.n fun i => (e.pl i : Int)).length pc) v8 (il e.n fun i => (e.pl i : Int)).length (ints (il e.n fun i => (e.pl i : Int))) [.int .i64 k'] := by
            rw [HIL.out]; exact happ
          obtain ⟨t2y, t3y⟩ := HC.out.at2 happ'
          rw [HIL.out] at t2y
          have HS9 := hid_ (HC.out.app2 happ')
          rw [← HY1.out, ← HY2.out] at HS9
          obtain ⟨va8, vc8, hv8⟩ := own_shape happ.own
          subst hv8
          clear happ happ' HC HOP
          go_wp2_with fail
          go_roundw
          case rel => first | exact ⟨k + 1, _, _, _, by omega, by go_num, HS9⟩ | ((repeat apply Exists.intro); exact ⟨⟨k + 1, _, _, _, by omega, by go_num, HS9⟩, rfl⟩)
          case measure => simp [intOf]; omega
      · have hz1 : z = -1 := by omega
        have hb0 : decide ((0 : Int) ≤ z) = false := by simp; omega
        have hno := HNO.out hz1
        have HST3 := hid_ (HST.out.later HX3.out)
        rw [← hno] at HST3
        clear hz0 hz1 hzl hno HYES HNO HST HX3 v3
        go_wp2_with fail
        go_roundw
        case rel => exact ⟨k + 1, _, _, _, by omega, by go_num, HST3⟩
        case measure => simp [intOf]; omega
    · obtain rfl : k = R := by omega
      go_wp2_with fail
      go_ret
      exact ⟨E, rv, pv, rfl, hst.out.at, hst.out.ex⟩
end
end Go.Proofs.YtgdmlmhpineibaaGreat
