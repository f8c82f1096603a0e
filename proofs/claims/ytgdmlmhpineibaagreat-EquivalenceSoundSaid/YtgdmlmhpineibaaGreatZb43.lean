/- Walk of equivalence.CheckRefutation. -/
/- Plain: a span of the search holds exactly the words of its rows' space. -/
import Derived.Laws.EntriesVeiled
import Derived.Test.YtgdmlmhpineibaaGreatZb15
import Derived.Test.YtgdmlmhpineibaaGreatZb18
import Derived.Test.YtgdmlmhpineibaaGreatZb30
import Derived.Test.YtgdmlmhpineibaaGreatZb42
namespace Go.Proofs.YtgdmlmhpineibaaGreat
set_option linter.unusedVariables false
set_option linter.unusedSimpArgs false
open Go.RowKit

theorem boxRf (w : World) (ev : Value) : (w.alloc (.cells #[ev] 54)).cell? ⟨w.heap.size, 0, none⟩ = some ev := by simp
def flS (c d : CdV) (es : List Rf) (tl sl : List Int) : Nat × Int := flF c.p.toNat c.m.toNat c.ml c.rows d.rows c.n.toNat es (c.n.toNat - tl.length) 0 tl sl
def ckE (E : Int) (R : Nat × Int) (es : List Rf) : Int := if E ≠ 0 then E else if R.2 = 0 ∧ R.1 < es.length then 13 else R.2
set_option maxRecDepth 100000 in
set_option maxHeartbeats 8000000 in
theorem CheckRefutation_any (w : World) (c d : CdV) (m1 m2 v1 v2 : Value) (hc : c.at w m1 v1) (hd : d.at w m2 v2) (tl sl : List Int) (tv sv : Value) (ht : ISl w tv tl) (hs : ISl w sv sl) (es : List Rf) (ev : Value) (hr : RSl w ev es) :
    Calls Tryz.prog 34 #[c.arg m1 v1, d.arg m2 v2, .agg #[tv, sv], .agg #[ev]] w fun r w' => (∃ e1 e2 : Int, CodO c.p c.m c.ml c.n c.rows e1 ∧ (e1 = 0 → CodO d.p d.m d.ml d.n d.rows e2) ∧ r = .returned (.int .i64 (ckE (stE e1 e2 (samF c.p c.m c.ml d.p d.m d.ml) c.n d.n tl sl (c.p.toNat ^ c.m.toNat)) (flS c d es tl sl) es))) ∧ Ex w w' := by
  obtain ⟨c0, c1, c2, c3, c4⟩ := boxC5 w c m1 v1
  obtain ⟨d0, d1, d2, d3, d4⟩ := boxC5 (w.alloc (c.obj m1 v1)) d m2 v2
  obtain ⟨b0, b1, e3, hz3⟩ := boxP_facts ((w.alloc (c.obj m1 v1)).alloc (d.obj m2 v2)) tv sv
  have hbm := boxRf (((w.alloc (c.obj m1 v1)).alloc (d.obj m2 v2)).alloc (.cells #[tv, sv] 49)) ev
  have hz1 : (w.alloc (c.obj m1 v1)).heap.size = w.heap.size + 1 := by simp
  have hz2 : ((w.alloc (c.obj m1 v1)).alloc (d.obj m2 v2)).heap.size = w.heap.size + 1 + 1 := by simp
  have e1 := e_al w (c.obj m1 v1)
  have e2 := e_al (w.alloc (c.obj m1 v1)) (d.obj m2 v2)
  have e4 := e_al (((w.alloc (c.obj m1 v1)).alloc (d.obj m2 v2)).alloc (.cells #[tv, sv] 49)) (.cells #[ev] 54)
  rw [hz3, hz2] at hbm
  rw [hz1] at d0 d1 d2 d3 d4
  rw [hz2] at b0 b1
  have hxw := e1.trans (e2.trans (e3.trans e4))
  replace c0 := (e2.trans (e3.trans e4)).cell c0
  replace c1 := (e2.trans (e3.trans e4)).cell c1
  replace c2 := (e2.trans (e3.trans e4)).cell c2
  replace c3 := (e2.trans (e3.trans e4)).cell c3
  replace c4 := (e2.trans (e3.trans e4)).cell c4
  replace d0 := (e3.trans e4).cell d0
  replace d1 := (e3.trans e4).cell d1
  replace d2 := (e3.trans e4).cell d2
  replace d3 := (e3.trans e4).cell d3
  replace d4 := (e3.trans e4).cell d4
  replace b0 := e4.cell b0
  replace b1 := e4.cell b1
  obtain ⟨B, hB⟩ : ∃ B, w.heap.size = B := ⟨_, rfl⟩
  rw [hB] at c0 c1 c2 c3 c4 d0 d1 d2 d3 d4 b0 b1 hbm
  have HST := hid_ (start_any _ c d m1 m2 v1 v2 (hc.ex hxw) (hd.ex hxw) tl sl tv sv (ht.ex hxw) (hs.ex hxw))
  obtain ⟨ta, tc, rfl, -, t2, -⟩ := ht.open
  obtain ⟨sa, sc, rfl, -, s2, -⟩ := hs.open
  obtain ⟨x1, y1, rfl, -, z1, -⟩ := hc.g.open
  obtain ⟨x2, y2, rfl, -, z2, -⟩ := hd.g.open
  obtain ⟨x3, y3, rfl, -, z3, -⟩ := hc.m.open
  obtain ⟨x4, y4, rfl, -, z4, -⟩ := hd.m.open
  unfold maxLen at t2 s2 z1 z2 z3 z4
  have HX := hid_ hxw
  have HC := hid_ hc
  have HD := hid_ hd
  have HT := hid_ ht
  have HS := hid_ hs
  have HR := hid_ hr
  have HBM := hid_ hbm
  obtain ⟨ra, rc, rfl, hrc, -, -⟩ := rsl_open hr
  unfold maxLen at hrc
  have HWB := hid_ hB
  clear hc hd ht hs hr e1 e2 e3 e4 hz1 hz2 hz3 hxw hbm
  unfold CdV.arg at HST ⊢
  go_enter Tryz.func34, Tryz.ntmps34
  unfold CdV.obj at c0 c1 c2 c3 c4 d0 d1 d2 d3 d4 b0 b1 HX HBM HST
  go_upto_region 1 with fail
  try simp only [hB]
  clear hB
  generalize (((w.alloc (.cells #[.int .i64 c.p, .int .i64 c.m, .slice x3 c.ml.length y3, .int .i64 c.n, .slice x1 c.rows.length y1] 47)).alloc (.cells #[.int .i64 d.p, .int .i64 d.m, .slice x4 d.ml.length y4, .int .i64 d.n, .slice x2 d.rows.length y2] 47)).alloc (.cells #[.slice ta tl.length tc, .slice sa sl.length sc] 49)).alloc (.cells #[.slice ra es.length rc] 54) = w1 at *
  have B0 := hid_ b0
  have B1 := hid_ b1
  go_wp2_with fail
  refine HST.out.mono ?_
  rintro e w3 ⟨ho, hx3⟩
  have HX3 := hid_ hx3
  obtain ⟨e1, e2, ho1, ho2, ho⟩ := ho
  have HO1 := hid_ ho1
  have HO2 := hid_ ho2
  clear c0 c1 c2 c3 c4 d0 d1 d2 d3 d4 hx3 ho1 ho2 HST b0 b1
  obtain ⟨E, hE⟩ : ∃ E, stE e1 e2 (samF c.p c.m c.ml d.p d.m d.ml) c.n d.n tl sl (c.p.toNat ^ c.m.toNat) = E := ⟨_, rfl⟩
  rw [hE] at ho
  have HE := hid_ hE
  rcases ho with ⟨h0, ptr, rfl⟩ | ⟨h0, w2, A, b, x0, pn, mn, nn, hp, hm, hnn, rfl, hx2, hg, hx01, hx02, hA, hx23, hpr, h11, hf11⟩
  · have hb0 : (E != 0) = true := by simpa using h0
    have H0 := hid_ h0
    clear h0 hE
    go_wp2_with fail
    go_ret
    refine ⟨⟨e1, e2, HO1.out, HO2.out, ?_⟩, (HX.out.trans HX3.out).alloc _⟩
    rw [HE.out]
    unfold ckE
    rw [if_pos H0.out]; rfl
  · subst h0
    obtain ⟨k1, k2, k3, k4, k5, k6, k7, k8, k9⟩ := stE_ok hE
    subst k1
    have ho2 := HO2.out rfl
    subst k2
    obtain ⟨kl1, kr1⟩ := codO_rows HO1.out
    obtain ⟨kl2, kr2⟩ := codO_rows ho2
    obtain ⟨-, kn1, kn2⟩ := codO_fld HO1.out
    obtain ⟨SB, hSB⟩ : ∃ B, w3.heap.size = B := ⟨_, rfl⟩
    have hxw2 := HX.out.trans hx2
    have b0 := HX3.out.cell B0.out
    have b1 := HX3.out.cell B1.out
    have r0 := HX3.out.cell HBM.out
    have HK := hid_ (show c.n = d.n ∧ tl.length = sl.length ∧ (tl.length : Int) ≤ c.n ∧ rngB tl c.n = true from ⟨k4, k5, k6, k7⟩)
    have HPM := hid_ (show c.p = pn ∧ c.m = mn ∧ c.n = nn from ⟨hp, hm, hnn⟩)
    clear HBM hp hm hnn k3 k4 k5 k6 k7 k8 k9 hE
    go_upto_region 7 with fail
    have f1 := e_al w3 (.cells #[.pointer (some ⟨A, 0, none⟩)] 96)
    have f2 := e_al (w3.alloc (.cells #[.pointer (some ⟨A, 0, none⟩)] 96)) (.cells #[.int .i64 0] 3)
    have f3 := e_al ((w3.alloc (.cells #[.pointer (some ⟨A, 0, none⟩)] 96)).alloc (.cells #[.int .i64 0] 3)) (.cells #[folV (SB + 1) (B + 1 + 1 + 1) SB (SB + 1 + 1)] 105)
    have sb0 : (w3.alloc (.cells #[.pointer (some ⟨A, 0, none⟩)] 96)).cell? ⟨SB, 0, none⟩ = some (.pointer (some ⟨A, 0, none⟩)) := alloc1_cell _ _ _ hSB
    have hs4 : (w3.alloc (.cells #[.pointer (some ⟨A, 0, none⟩)] 96)).heap.size = SB + 1 := by simp [hSB]
    have ab0 : ((w3.alloc (.cells #[.pointer (some ⟨A, 0, none⟩)] 96)).alloc (.cells #[.int .i64 0] 3)).cell? ⟨SB + 1, 0, none⟩ = some (.int .i64 0) := alloc1_cell _ _ _ hs4
    have af0 : ((w3.alloc (.cells #[.pointer (some ⟨A, 0, none⟩)] 96)).alloc (.cells #[.int .i64 0] 3)).frozen? ⟨SB + 1, 0, none⟩ = false := alloc1_frz _ _ _ hs4
    have hs5 : ((w3.alloc (.cells #[.pointer (some ⟨A, 0, none⟩)] 96)).alloc (.cells #[.int .i64 0] 3)).heap.size = SB + 1 + 1 := by simp [hSB]
    have fb0 : (((w3.alloc (.cells #[.pointer (some ⟨A, 0, none⟩)] 96)).alloc (.cells #[.int .i64 0] 3)).alloc (.cells #[folV (SB + 1) (B + 1 + 1 + 1) SB (SB + 1 + 1)] 105)).cell? ⟨SB + 1 + 1, 0, none⟩ = some (folV (SB + 1) (B + 1 + 1 + 1) SB (SB + 1 + 1)) := alloc1_cell _ _ _ hs5
    have hxS := hx23.trans f1
    have HENV := hid_ (show CkE pn mn c.ml c.rows d.rows nn A b x0 (B + 1 + 1 + 1) SB (.slice x1 c.rows.length y1) (.slice x2 d.rows.length y2) (.slice ra es.length rc) es (w3.alloc (.cells #[.pointer (some ⟨A, 0, none⟩)] 96)) from
      { pr := hpr.ex f1, gf := hg.ex hxS, m1 := (HC.out.g.ex hxw2).ex hxS, m2 := (HD.out.g.ex hxw2).ex hxS, x1 := hx01, x2 := hx02, n64 := by have := HPM.out.2.2; omega, r1 := fun r hr => by have := kr1 r hr; have := HPM.out.2.2; omega, r2 := fun r hr => by have := kr2 r hr; have := HPM.out.2.2; have := HK.out.1; omega, k1 := kl1, k2 := kl2, rb := f1.cell r0, sb := sb0, rs := (HR.out.ex hxw2).ex hxS })
    have HCS := hid_ (show CSt (w3.alloc (.cells #[.pointer (some ⟨A, 0, none⟩)] 96)) (SB + 1) (SB + 1 + 1) (folV (SB + 1) (B + 1 + 1 + 1) SB (SB + 1 + 1)) es.length 0 (((w3.alloc (.cells #[.pointer (some ⟨A, 0, none⟩)] 96)).alloc (.cells #[.int .i64 0] 3)).alloc (.cells #[folV (SB + 1) (B + 1 + 1 + 1) SB (SB + 1 + 1)] 105)) from
      { ex := f2.trans f3, c := f3.cell ab0, f := f3.frz ab0 af0, fb := fb0, ne := by omega, lb := by rw [hs4]; omega, le := Nat.zero_le _ })
    have HP := hid_ (fun (v : Value) (l : List Int) (h : ISl w v l) => show PrS (DM1 (SB + 1)) (((w3.alloc (.cells #[.pointer (some ⟨A, 0, none⟩)] 96)).alloc (.cells #[.int .i64 0] 3)).alloc (.cells #[folV (SB + 1) (B + 1 + 1 + 1) SB (SB + 1 + 1)] 105)) v l from by
      refine ⟨h.ex (((hxw2.trans hx23).trans f1).trans (f2.trans f3)), fun hl X hX hd => ?_⟩
      have h2 := h.ex (hxw2.trans hx23)
      obtain ⟨a, cap, rfl, -, -, h5⟩ := h2.open
      obtain ⟨b', o, rfl, h6⟩ := h5 (List.length_pos_iff.2 hl)
      injection hX with hX
      have hX : b' = X := hX
      have := World.block_lt_of_cell? _ _ (h6 0 _ (get_getD (List.length_pos_iff.2 hl)))
      have hd : X = SB + 1 := hd
      simp only at this
      omega)
    have b0 := (f1.trans (f2.trans f3)).cell b0
    have b1 := (f1.trans (f2.trans f3)).cell b1
    have r0 := (f1.trans (f2.trans f3)).cell r0
    have HFO := hid_ (follow_any HENV.out (nn - tl.length) 0 _ tl sl (.slice ta tl.length tc) (.slice sa sl.length sc) (by have := HK.out.2.2.1; have := HPM.out.2.2; omega) HK.out.2.1.symm (by have := HK.out.2.2.2; rw [HPM.out.2.2] at this; exact this) (fun h => absurd rfl h) HCS.out (HP.out _ _ HT.out) (HP.out _ _ HS.out))
    have hR : flF pn mn c.ml c.rows d.rows nn es (nn - tl.length) 0 tl sl = flS c d es tl sl := by
      unfold flS
      rw [HPM.out.1, HPM.out.2.1, HPM.out.2.2]; rfl
    rw [hR] at HFO
    have fb1 := hid_ fb0
    unfold folV at b0 b1 r0 fb0 HFO HCS f3
    have HW3 := hid_ (hxw2.trans hxS)
    have r0w := HENV.out.rb
    clear hxS hxw2 hs4 hs5 sb0 ab0 af0 f1 f2 HP hx23 hpr hg hx01 hx02 hA h11 hf11 hx2 kl1 kl2 kr1 kr2 kn1 kn2 hR
    generalize ((w3.alloc (.cells #[.pointer (some ⟨A, 0, none⟩)] 96)).alloc (.cells #[.int .i64 0] 3)).alloc (.cells #[.func (.func 70) #[] #[.pointer (some ⟨SB + 1, 0, none⟩), .pointer (some ⟨B + 1 + 1 + 1, 0, none⟩), .pointer (some ⟨SB, 0, none⟩), .pointer (some ⟨SB + 1 + 1, 0, none⟩)]] 105) = w6 at *
    obtain ⟨R, hR⟩ : ∃ R, flS c d es tl sl = R := ⟨_, rfl⟩
    rw [hR] at HFO
    have HRE := hid_ hR
    try simp only [hSB]
    clear hR
    have hle7 : R.1 ≤ es.length ∨ True := Or.inr trivial
    clear hle7
    go_wp2_with (go_at_call 70; refine HFO.out.mono ?_; rintro e7 w7 ⟨rfl, hs7, -⟩; have HS7 := hid_ hs7; have a7 := hs7.c; have r7 := hs7.ex.cell r0w; have hl7 := hs7.le; clear hs7)
    all_goals
      go_ret
      refine ⟨⟨0, 0, HO1.out, fun _ => ho2, ?_⟩, HW3.out.trans HS7.out.ex⟩
      rw [HE.out, HRE.out]
      unfold ckE
      simp_all
end Go.Proofs.YtgdmlmhpineibaaGreat
namespace Go.Proofs.YtgdmlmhpineibaaGreat
set_option linter.unusedVariables false
set_option linter.unusedSimpArgs false
open Go.RowKit

/-- Entries are elements. -/
def EntR (p m N : Nat) (f : Nat → Int) : Prop := ∀ j, j < N → 0 ≤ f j ∧ f j < ((p ^ m : Nat) : Int)
section
variable {p m : Nat} {ml : List Int} {N : Nat}
theorem redJ_addF (hp : 1 ≤ p) (x : Int) (u r : Nat → Int) : redJ p m ml x u r = addF p m ml u (kneg p m (kin (p ^ m) x)) r := by
  funext j
  unfold redJ addF
  rw [kneg_mul' hp]
theorem redI_dt (hp : 2 ≤ p) {u r : Nat → Int} {pl : Nat} {x : Nat → Int} (hx : dt p m ml N r x = 0) : dt p m ml N (redI p m ml u pl r) x = dt p m ml N u x := by
  unfold redI
  split
  · rfl
  · rw [redJ_addF (by omega), dt_add hp, hx, kmul_zero_r (by omega), kadd_zero (by omega) (dt_lt hp _ _)]
theorem redI_rng (hp : 2 ≤ p) {u r : Nat → Int} {pl : Nat} (hu : EntR p m N u) : EntR p m N (redI p m ml u pl r) := by
  unfold redI
  split
  · exact hu
  · intro j hj
    unfold redJ
    split
    · exact hu j hj
    · have := kadd_lt (m := m) (show 1 ≤ p by omega) (kin (p ^ m) (u j)) (kneg p m (kmul p m (lw ml) (kin (p ^ m) (u pl)) (kin (p ^ m) (r j))))
      omega
theorem redK_dt (hp : 2 ≤ p) {a : Nat → Nat → Int} {pl : Nat → Nat} {v x : Nat → Int} : ∀ k, Sol p m ml N k a x → dt p m ml N (redK p m ml a pl v k) x = dt p m ml N v x
  | 0, _ => rfl
  | k + 1, h => by
    show dt p m ml N (redI p m ml (redK p m ml a pl v k) (pl k) (a k)) x = _
    rw [redI_dt hp (h k (by omega))]
    exact redK_dt hp k fun i hi => h i (by omega)
theorem redK_rng (hp : 2 ≤ p) {a : Nat → Nat → Int} {pl : Nat → Nat} {v : Nat → Int} (hv : EntR p m N v) : ∀ k, EntR p m N (redK p m ml a pl v k)
  | 0 => hv
  | k + 1 => redI_rng hp (redK_rng hp hv k)
theorem redK_zer (hp : 2 ≤ p) (hm : 1 ≤ m) {n : Nat} {a : Nat → Nat → Int} {pl : Nat → Nat} {v : Nat → Int} (h : Ech N a pl n) : ∀ k, k ≤ n → ∀ j, j < k → redK p m ml a pl v k (pl j) = 0
  | 0, _, j, hj => by omega
  | k + 1, hk, j, hj => by
    show redI p m ml (redK p m ml a pl v k) (pl k) (a k) (pl j) = 0
    unfold redI
    split
    · rename_i h0
      by_cases e : j = k
      · rw [e]; exact h0
      · exact redK_zer hp hm h k (by omega) j (by omega)
    · unfold redJ
      by_cases e : j = k
      · rw [e, h.one k (by omega), if_neg (by decide), kin_one hp hm, kmul_one hp hm (kin_lt (Nat.pow_pos (by omega)) _), kadd_kneg (by omega)]; rfl
      · rw [h.zer k j (by omega) (by omega), if_pos rfl]
        exact redK_zer hp hm h k (by omega) j (by omega)
theorem fstI_neg {pr : Nat → Bool} {n : Nat} : fstI pr n < 0 ↔ ∀ j, j < n → pr j = false := by
  have h := fstI_any pr n
  constructor
  · intro h0
    rw [decide_eq_false (by omega)] at h
    intro j hj
    cases e : pr j with
    | false => rfl
    | true =>
      have : (List.range n).any pr = true := List.any_eq_true.2 ⟨j, List.mem_range.2 hj, e⟩
      rw [h] at this; cases this
  · intro ha
    rw [fstI_miss ha]; decide
theorem fstI_at {pr : Nat → Bool} {n : Nat} (h : 0 ≤ fstI pr n) : (fstI pr n).toNat < n ∧ pr (fstI pr n).toNat = true ∧ ∀ j, j < (fstI pr n).toNat → pr j = false := by
  unfold fstI at h ⊢
  split
  · rename_i i hi
    rw [List.find?_range_eq_some] at hi
    refine ⟨by have := List.mem_range.1 hi.2.1; simpa using this, by simpa using hi.1, fun j hj => ?_⟩
    have := hi.2.2 j (by simpa using hj)
    simpa using this
  · rename_i hn
    rw [hn] at h; exact absurd h (by decide)
theorem lzI_neg {t : Nat} {v : Nat → Int} : lzI t v < 0 ↔ ∀ j, j < t → v j = 0 := by
  unfold lzI
  rw [fstI_neg]
  exact ⟨fun h j hj => by simpa using h j hj, fun h j hj => by simpa using h j hj⟩
theorem lzI_at {t : Nat} {v : Nat → Int} (h : 0 ≤ lzI t v) : (lzI t v).toNat < t ∧ v (lzI t v).toNat ≠ 0 := by
  obtain ⟨h1, h2, -⟩ := fstI_at h
  refine ⟨h1, ?_⟩
  have h3 : (v (lzI t v).toNat != 0) = true := h2
  simpa using h3
/-- What a span is. -/
structure SpOK (p m : Nat) (ml : List Int) (N k : Nat) (rows : Nat → Nat → Int) (e : EcS) : Prop where
  ech : Ech N e.a e.pl e.n
  sol : ∀ x, Sol p m ml N e.n e.a x ↔ Sol p m ml N k rows x
theorem Sol.succ_iff {k : Nat} {rows : Nat → Nat → Int} {x : Nat → Int} : Sol p m ml N (k + 1) rows x ↔ Sol p m ml N k rows x ∧ dt p m ml N (rows k) x = 0 :=
  ⟨fun h => ⟨fun i hi => h i (by omega), h k (by omega)⟩, fun h i hi => by
    by_cases e : i = k
    · rw [e]; exact h.2
    · exact h.1 i (by omega)⟩
theorem spnS_ok (hp : 2 ≤ p) (hm : 1 ≤ m) (hF : IsF p m (lw ml)) {k : Nat} {rows : Nat → Nat → Int} {e : EcS} (h : SpOK p m ml N k rows e) (hr : EntR p m N (rows k)) : SpOK p m ml N (k + 1) rows (spnS p m ml N e (rows k)) := by
  have hq0 : 0 < p ^ m := Nat.pow_pos (by omega)
  have hrng : EntR p m N (e.red p m ml (rows k)) := redK_rng hp hr _
  have hdt : ∀ x, Sol p m ml N e.n e.a x → dt p m ml N (e.red p m ml (rows k)) x = dt p m ml N (rows k) x := fun x hx => redK_dt hp _ hx
  unfold spnS
  split
  · rename_i hz
    obtain ⟨hz1, hz2⟩ := lzI_at hz
    generalize hZ : (lzI N (e.red p m ml (rows k))).toNat = z at hz1 hz2
    obtain ⟨r1, r2⟩ := hrng z hz1
    have hk0 : ((kin (p ^ m) (e.red p m ml (rows k) z) : Nat) : Int) = e.red p m ml (rows k) z := kin_code r1 r2
    have hk1 : 1 ≤ kin (p ^ m) (e.red p m ml (rows k) z) := by omega
    have hkl : kin (p ^ m) (e.red p m ml (rows k) z) < p ^ m := kin_lt hq0 _
    obtain ⟨c, hc⟩ : ∃ c, ivz p m ml (kin (p ^ m) (e.red p m ml (rows k) z)) = c := ⟨_, rfl⟩
    have hcm : kmul p m (lw ml) c (kin (p ^ m) (e.red p m ml (rows k) z)) = 1 := by
      rw [← hc]; unfold ivz
      rw [if_neg (by omega), kmul_comm]
      exact kinv_mul hp hm hF hk1 hkl
    rw [hc]
    have hzr : ∀ j, j < e.n → e.red p m ml (rows k) (e.pl j) = 0 := fun j hj => redK_zer hp hm h.ech _ (Nat.le_refl _) j hj
    have hpl : ∀ j, j < e.n → upd e.pl e.n z j = e.pl j := fun j hj => upd_ne _ _ (by omega)
    have hal : ∀ j, j < e.n → upd e.a e.n (sclF p m ml c (e.red p m ml (rows k))) j = e.a j := fun j hj => upd_ne _ _ (by omega)
    refine ⟨⟨fun i hi => ?_, fun i hi => ?_, fun i j hj hi => ?_⟩, fun x => ?_⟩
    · simp only at hi ⊢
      by_cases ei : i = e.n
      · rw [ei, upd_same]; exact hz1
      · rw [hpl i (by omega)]; exact h.ech.lt i (by omega)
    · simp only at hi ⊢
      by_cases ei : i = e.n
      · rw [ei, upd_same, upd_same]
        show ((kmul p m (lw ml) c (kin (p ^ m) (e.red p m ml (rows k) z)) : Nat) : Int) = 1
        rw [hcm]; rfl
      · rw [hpl i (by omega), hal i (by omega)]; exact h.ech.one i (by omega)
    · simp only at hi ⊢
      rw [hpl j (by omega)]
      by_cases ei : i = e.n
      · rw [ei, upd_same]
        show ((kmul p m (lw ml) c (kin (p ^ m) (e.red p m ml (rows k) (e.pl j))) : Nat) : Int) = 0
        rw [hzr j (by omega), kin_zero, kmul_zero_r (by omega)]; rfl
      · rw [hal i (by omega)]; exact h.ech.zer i j hj (by omega)
    · simp only
      rw [Sol.succ_iff (k := e.n), Sol.succ_iff (k := k), upd_same, dt_scl hp]
      have e1 : Sol p m ml N e.n (upd e.a e.n (sclF p m ml c (e.red p m ml (rows k)))) x ↔ Sol p m ml N e.n e.a x :=
        ⟨fun h i hi => by rw [← hal i hi]; exact h i hi, fun h i hi => by rw [hal i hi]; exact h i hi⟩
      rw [e1]
      constructor
      · rintro ⟨a1, a2⟩
        refine ⟨(h.sol x).1 a1, ?_⟩
        rw [← hdt x a1]
        apply Classical.byContradiction
        intro hne
        have hcl : c ≠ 0 := fun h0 => by
          rw [h0, kmul_zero (by omega)] at hcm; cases hcm
        have hcq : c < p ^ m := by
          apply Classical.byContradiction
          intro hge
          rw [← hc] at hge
          unfold ivz at hge
          rw [if_neg (by omega)] at hge
          exact hge (kinv_lt (by omega) _)
        have := hF.ne_zero hp hm (a := c) (b := dt p m ml N (e.red p m ml (rows k)) x) (by omega) hcq (by omega) (dt_lt hp _ _)
        omega
      · rintro ⟨a1, a2⟩
        have a3 := (h.sol x).2 a1
        exact ⟨a3, by rw [hdt x a3, a2, kmul_zero_r (by omega)]⟩
  · rename_i hz
    have h0 := lzI_neg.1 (Int.not_le.1 hz)
    refine ⟨h.ech, fun x => ?_⟩
    rw [Sol.succ_iff (k := k), h.sol x]
    refine ⟨fun a => ⟨a, ?_⟩, fun a => a.1⟩
    rw [← hdt x ((h.sol x).2 a)]
    exact dt_zero hp h0
theorem spn_ok (hp : 2 ≤ p) (hm : 1 ≤ m) (hF : IsF p m (lw ml)) {rows : Nat → Nat → Int} {K : Nat} (hr : ∀ i, i < K → EntR p m N (rows i)) : ∀ k, k ≤ K → SpOK p m ml N k rows (spn p m ml N rows k)
  | 0, _ => ⟨⟨fun i hi => absurd hi (Nat.not_lt_zero i), fun i hi => absurd hi (Nat.not_lt_zero i), fun i j _ hi => absurd hi (Nat.not_lt_zero i)⟩, fun x => ⟨fun _ i hi => absurd hi (Nat.not_lt_zero i), fun _ i hi => absurd hi (Nat.not_lt_zero i)⟩⟩
  | k + 1, hk => spnS_ok hp hm hF (spn_ok hp hm hF hr k (by omega)) (hr k (by omega))
/-- A word is left as zero exactly when it lies in the space of the rows. -/
theorem SpOK.red_iff (hp : 2 ≤ p) (hm : 1 ≤ m) {k : Nat} {rows : Nat → Nat → Int} {e : EcS} (h : SpOK p m ml N k rows e) {v : Nat → Int} (hv : EntR p m N v) : lzI N (e.red p m ml v) < 0 ↔ Cl p m ml N k rows v := by
  rw [lzI_neg]
  have hdt : ∀ x, Sol p m ml N e.n e.a x → dt p m ml N (e.red p m ml v) x = dt p m ml N v x := fun x hx => redK_dt hp _ hx
  constructor
  · intro h0 x hx
    rw [← hdt x ((h.sol x).2 hx)]
    exact dt_zero hp h0
  · intro hc j hj
    have := Ech.zero (ml := ml) hp hm h.ech (fun i hi => redK_zer hp hm h.ech _ (Nat.le_refl _) i hi) (fun x hx => by
      show dt p m ml N (e.red p m ml v) x = 0
      rw [hdt x hx]; exact hc x ((h.sol x).1 hx)) hj
    obtain ⟨r1, r2⟩ := redK_rng (ml := ml) (a := e.a) (pl := e.pl) hp hv e.n j hj
    have e2 := kin_code r1 r2
    rw [this] at e2
    exact e2.symm
theorem misI_neg (hp : 2 ≤ p) (hm : 1 ≤ m) {k n : Nat} {rows l : Nat → Nat → Int} {e : EcS} (h : SpOK p m ml N k rows e) (hl : ∀ i, i < n → EntR p m N (l i)) : misI p m ml N e l n < 0 ↔ ∀ i, i < n → Cl p m ml N k rows (l i) := by
  unfold misI
  rw [fstI_neg]
  constructor
  · intro h0 i hi
    have := h0 i hi
    rw [decide_eq_false_iff_not] at this
    exact (h.red_iff hp hm (hl i hi)).1 (by omega)
  · intro h0 i hi
    rw [decide_eq_false_iff_not]
    have := (h.red_iff hp hm (hl i hi)).2 (h0 i hi)
    omega
end
end Go.Proofs.YtgdmlmhpineibaaGreat
