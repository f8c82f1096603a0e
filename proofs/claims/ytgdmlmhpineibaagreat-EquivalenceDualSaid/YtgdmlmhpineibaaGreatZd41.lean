/- Walk of equivalence.Refute. -/
import Derived.Test.YtgdmlmhpineibaaGreatZd40
namespace Go.Proofs.YtgdmlmhpineibaaGreat
set_option linter.unusedVariables false
set_option linter.unusedSimpArgs false
open Go.RowKit

/-- The box of a refutation, new and empty. -/
structure BxR (w : World) (b : Nat) : Prop where
  c0 : w.cell? ⟨b, 0, none⟩ = some (.slice none 0 0)
  f0 : w.frozen? ⟨b, 0, none⟩ = false
theorem BxR.new (w : World) : BxR (w.alloc (.cells #[.slice none 0 0] 54)) w.heap.size := ⟨by simp, by simp⟩
theorem BxR.ex {w w' : World} {b : Nat} (h : BxR w b) (hx : Ex w w') : BxR w' b := ⟨hx.cell h.c0, hx.frz h.c0 h.f0⟩
def RfR (es : List Rf) (e : Int) (r : Ending) (w' : World) : Prop := ∃ ev, r = .returned (.tuple #[.agg #[ev], .int .i64 e]) ∧ RSl w' ev es
def rftE (E : Int) (R : (Nat × List Nd) × Int) : Int := if E ≠ 0 then E else if R.2 = 0 then 0 else if R.2 = 18 then 11 else R.2
def rftL (E : Int) (R : (Nat × List Nd) × Int) : List Rf := if E ≠ 0 then [] else if R.2 = 0 then rfOf R.1.2 else []
theorem rft_env {w2 : World} {p m n A NB RB b x0 : Nat} {ml : List Int} {l1 l2 : List (List Int)} {v1 v2 : Value} (hg : GFat w2 b p m ml x0) (x1 : 1 ≤ x0) (x2 : x0 < p ^ m) (h1 : MSl w2 v1 l1) (h2 : MSl w2 v2 l2) (hn : n ≤ 64) (r1 : ∀ r ∈ l1, r.length = n) (r2 : ∀ r ∈ l2, r.length = n) (k1 : l1.length ≤ 256) (k2 : l2.length ≤ 256) :
    SrE p m ml l1 l2 n A b x0 v1 v2 (RSt w2 A NB RB b n v1 v2) (DM3 A NB RB) where
  stt := RSt.stt
  pr := fun s w h => h.sw.pr
  gf := fun s w h => hg.ex h.sw.ex
  m1 := fun s w h => h1.ex h.sw.ex
  m2 := fun s w h => h2.ex h.sw.ex
  c11 := fun s w h => ⟨h.sw.c11, h.sw.f11⟩
  le := fun s w h => ⟨h.sw.l1, h.sw.l2⟩
  seen := fun s w h hs => h.seen hs
  x1 := x1
  x2 := x2
  n64 := hn
  r1 := r1
  r2 := r2
  k1 := k1
  k2 := k2
set_option maxRecDepth 100000 in
set_option maxHeartbeats 8000000 in
theorem Refute_any (w : World) (c d : CdV) (m1 m2 v1 v2 : Value) (hc : c.at w m1 v1) (hd : d.at w m2 v2) (tl sl : List Int) (tv sv : Value) (ht : ISl w tv tl) (hs : ISl w sv sl) :
    Calls Tryz.prog 31 #[c.arg m1 v1, d.arg m2 v2, .agg #[tv, sv]] w fun r w' => (∃ e1 e2 : Int, CodO c.p c.m c.ml c.n c.rows e1 ∧ (e1 = 0 → CodO d.p d.m d.ml d.n d.rows e2) ∧ RfR (rftL (stE e1 e2 (samF c.p c.m c.ml d.p d.m d.ml) c.n d.n tl sl (c.p.toNat ^ c.m.toNat)) (fndS c d tl sl)) (rftE (stE e1 e2 (samF c.p c.m c.ml d.p d.m d.ml) c.n d.n tl sl (c.p.toNat ^ c.m.toNat)) (fndS c d tl sl)) r w') ∧ Ex w w' := by
  obtain ⟨c0, c1, c2, c3, c4⟩ := boxC5 w c m1 v1
  obtain ⟨d0, d1, d2, d3, d4⟩ := boxC5 (w.alloc (c.obj m1 v1)) d m2 v2
  obtain ⟨b0, b1, e3, hz3⟩ := boxP_facts ((w.alloc (c.obj m1 v1)).alloc (d.obj m2 v2)) tv sv
  have hbm := BxR.new (((w.alloc (c.obj m1 v1)).alloc (d.obj m2 v2)).alloc (.cells #[tv, sv] 49))
  have hz1 : (w.alloc (c.obj m1 v1)).heap.size = w.heap.size + 1 := by simp
  have hz2 : ((w.alloc (c.obj m1 v1)).alloc (d.obj m2 v2)).heap.size = w.heap.size + 1 + 1 := by simp
  have e1 := e_al w (c.obj m1 v1)
  have e2 := e_al (w.alloc (c.obj m1 v1)) (d.obj m2 v2)
  have e4 := e_al (((w.alloc (c.obj m1 v1)).alloc (d.obj m2 v2)).alloc (.cells #[tv, sv] 49)) (.cells #[.slice none 0 0] 54)
  rw [hz3, hz2] at hbm
  rw [hz1] at d0 d1 d2 d3 d4
  rw [hz2] at b0 b1
  have hxw := e1.trans (e2.trans (e3.trans e4))
  replace c0 := (e2.trans (e3.trans e4)).cell c0
  replace c1 := (e2.trans (e3.trans e4)).cell c1
  replace c2 := (e2.trans (e3.trans e4)).cell c2
  replace c3 := (e2.trans (e3.trans e4)).cell c3
  replace c4 := (e2.trans (e3.trans e4)).cell c4
  replace d0 := (e3.trans e4).cell d0
  replace d1 := (e3.trans e4).cell d1
  replace d2 := (e3.trans e4).cell d2
  replace d3 := (e3.trans e4).cell d3
  replace d4 := (e3.trans e4).cell d4
  replace b0 := e4.cell b0
  replace b1 := e4.cell b1
  obtain ⟨B, hB⟩ : ∃ B, w.heap.size = B := ⟨_, rfl⟩
  rw [hB] at c0 c1 c2 c3 c4 d0 d1 d2 d3 d4 b0 b1 hbm
  have HST := hid_ (start_any _ c d m1 m2 v1 v2 (hc.ex hxw) (hd.ex hxw) tl sl tv sv (ht.ex hxw) (hs.ex hxw))
  obtain ⟨ta, tc, rfl, -, t2, -⟩ := ht.open
  obtain ⟨sa, sc, rfl, -, s2, -⟩ := hs.open
  obtain ⟨x1, y1, rfl, -, z1, -⟩ := hc.g.open
  obtain ⟨x2, y2, rfl, -, z2, -⟩ := hd.g.open
  obtain ⟨x3, y3, rfl, -, z3, -⟩ := hc.m.open
  obtain ⟨x4, y4, rfl, -, z4, -⟩ := hd.m.open
  unfold maxLen at t2 s2 z1 z2 z3 z4
  have HX := hid_ hxw
  have HC := hid_ hc
  have HD := hid_ hd
  have HT := hid_ ht
  have HS := hid_ hs
  have HBM := hid_ hbm
  have HWB := hid_ hB
  clear hc hd ht hs e1 e2 e3 e4 hz1 hz2 hz3 hxw hbm
  unfold CdV.arg at HST ⊢
  go_enter Tryz.func31, Tryz.ntmps31
  unfold CdV.obj at c0 c1 c2 c3 c4 d0 d1 d2 d3 d4 b0 b1 HX HBM HST
  go_upto_region 1 with fail
  try simp only [hB]
  clear hB
  generalize (((w.alloc (.cells #[.int .i64 c.p, .int .i64 c.m, .slice x3 c.ml.length y3, .int .i64 c.n, .slice x1 c.rows.length y1] 47)).alloc (.cells #[.int .i64 d.p, .int .i64 d.m, .slice x4 d.ml.length y4, .int .i64 d.n, .slice x2 d.rows.length y2] 47)).alloc (.cells #[.slice ta tl.length tc, .slice sa sl.length sc] 49)).alloc (.cells #[.slice none 0 0] 54) = w1 at *
  have B0 := hid_ b0
  have B1 := hid_ b1
  go_wp2_with fail
  refine HST.out.mono ?_
  rintro e w3 ⟨ho, hx3⟩
  have HX3 := hid_ hx3
  obtain ⟨e1, e2, ho1, ho2, ho⟩ := ho
  have HO1 := hid_ ho1
  have HO2 := hid_ ho2
  clear c0 c1 c2 c3 c4 d0 d1 d2 d3 d4 hx3 ho1 ho2 HST b0 b1
  obtain ⟨E, hE⟩ : ∃ E, stE e1 e2 (samF c.p c.m c.ml d.p d.m d.ml) c.n d.n tl sl (c.p.toNat ^ c.m.toNat) = E := ⟨_, rfl⟩
  rw [hE] at ho
  have HE := hid_ hE
  rcases ho with ⟨h0, ptr, rfl⟩ | ⟨h0, w2, A, b, x0, pn, mn, nn, hp, hm, hnn, rfl, hx2, hg, hx01, hx02, hA, hx23, hpr, h11, hf11⟩
  · have hb0 : (E != 0) = true := by simpa using h0
    obtain ⟨q0, qf0⟩ := HBM.out.ex HX3.out
    have H0 := hid_ h0
    clear h0 hE
    go_wp2_with fail
    refine bodyPost_ret (v := .tuple #[.agg #[.slice none 0 0], .int .i64 E]) (by simp [results, Tryz.results31, go_sem, q0]) rfl ⟨⟨e1, e2, HO1.out, HO2.out, ?_⟩, (HX.out.trans HX3.out).setCell (p := ⟨B + 1 + 1 + 1, 0, none⟩) (by rw [HWB.out]; show B ≤ B + 1 + 1 + 1; omega) _⟩
    rw [HE.out]
    unfold rftL rftE
    rw [if_pos H0.out, if_pos H0.out]
    exact ⟨_, rfl, RSl.nil _⟩
  · subst h0
    obtain ⟨k1, k2, k3, k4, k5, k6, k7, k8, k9⟩ := stE_ok hE
    subst k1
    have ho2 := HO2.out rfl
    subst k2
    obtain ⟨kl1, kr1⟩ := codO_rows HO1.out
    obtain ⟨kl2, kr2⟩ := codO_rows ho2
    obtain ⟨-, kn1, kn2⟩ := codO_fld HO1.out
    obtain ⟨NB, hNB⟩ : ∃ B, w3.heap.size = B := ⟨_, rfl⟩
    have hAlt : A < NB := by rw [← hNB]; exact World.block_lt_of_cell? _ _ h11
    have hxw2 := HX.out.trans hx2
    have e5 := e_al w3 (.cells #[.slice none 0 0] 54)
    have n0 : (w3.alloc (.cells #[.slice none 0 0] 54)).cell? ⟨NB, 0, none⟩ = some (.slice none 0 0) := by rw [← hNB]; simp
    have nf0 : (w3.alloc (.cells #[.slice none 0 0] 54)).frozen? ⟨NB, 0, none⟩ = false := by rw [← hNB]; simp
    have HENV := hid_ (rft_env (p := pn) (m := mn) (n := nn) (A := A) (NB := NB) (RB := B + 1 + 1 + 1) hg hx01 hx02 (HC.out.g.ex hxw2) (HD.out.g.ex hxw2) (by omega) (fun r hr => by have := kr1 r hr; omega) (fun r hr => by have := kr2 r hr; omega) kl1 kl2)
    have hRB : B + 1 + 1 + 1 < w2.heap.size := World.block_lt_of_cell? _ _ (HBM.out.ex hx2).c0
    have hst0 : RSt w2 A NB (B + 1 + 1 + 1) b nn (.slice x1 c.rows.length y1) (.slice x2 d.rows.length y2) (0, []) (w3.alloc (.cells #[.slice none 0 0] 54)) :=
      ⟨⟨hx23.trans e5, hpr.ex e5, e5.cell h11, e5.frz h11 hf11, by simp, by simp, hA⟩, hAlt, hRB, ⟨_, [], n0, World.ownsRow_nil _ _ _ _, rfl, fun i e mv h => by simp [rfOf] at h⟩, nf0⟩
    have HS0 := hid_ hst0
    have hw2s : w1.heap.size ≤ w2.heap.size := hx2.size
    have hold : ∀ (v : Value) (l : List Int) (_ : True), ISl w v l → ∀ X, 0 < l.length → v.ownBlock = some X → X < B := fun v l _ h X hl hX => by
      obtain ⟨a, cap, rfl, -, -, h5⟩ := h.open
      obtain ⟨b', o, rfl, h6⟩ := h5 hl
      injection hX with hX
      have hX : b' = X := hX
      subst hX
      have := World.block_lt_of_cell? _ _ (h6 0 _ (get_getD hl))
      have h2 := HWB.out
      simp only at this
      omega
    have hpr1 : ∀ (v : Value) (l : List Int), ISl w v l → PrS (DM3 A NB (B + 1 + 1 + 1)) (w3.alloc (.cells #[.slice none 0 0] 54)) v l := fun v l h => by
      have h2 := h.ex hxw2
      have hk : Keeps (fun _ X => w2.heap.size ≤ X) w2 (w3.alloc (.cells #[.slice none 0 0] 54)) := ⟨(hx23.trans e5).size, fun X hX hn => ⟨(hx23.trans e5).block X hX, hn⟩⟩
      refine ⟨(h.ex hxw2).ex (hx23.trans e5), fun hl X hX hd => ?_⟩
      obtain ⟨a, cap, rfl, -, -, h5⟩ := h2.open
      obtain ⟨b', o, rfl, h6⟩ := h5 (List.length_pos_iff.2 hl)
      injection hX with hX
      have hX : b' = X := hX
      subst hX
      obtain ⟨x, l', rfl⟩ := List.exists_cons_of_ne_nil hl
      have hlt : b' < w2.heap.size := World.block_lt_of_cell? _ _ (h6 0 x rfl)
      rcases hd with hd | hd | hd | ⟨ev, he1, he2⟩
      · omega
      · omega
      · have := hold _ _ trivial h
        have := this b' (List.length_pos_iff.2 hl) rfl
        omega
      · rw [n0] at he1
        injection he1 with he1
        subst he1
        cases he2
    have HSR := hid_ (search_rft HENV.out (.pointer (some ⟨NB, 0, none⟩)) (fun s w' tl' sl' tv' sv' side msg mv h hl ht' hs' hm' hsl' h64 hml hne => rft_note h hl ht' hs' hm' h64 hsl' hne) (nn - tl.length) (0, []) _ tl sl _ _ (by omega) (by omega) (by rw [← hnn]; exact k7) (fun h => absurd rfl h) hst0 (hpr1 _ _ HT.out) (hpr1 _ _ HS.out))
    have hR : srF pn mn c.ml c.rows d.rows nn (nn - tl.length) (0, []) tl sl = fndS c d tl sl := by
      unfold fndS
      rw [hp, hm, hnn]; rfl
    rw [hR] at HSR
    have q := HBM.out.ex (hx2.trans (hx23.trans e5))
    have HB2 := hid_ (HBM.out.ex hx2)
    have b0 := (hx2.trans (hx23.trans e5)).cell B0.out
    have b1 := (hx2.trans (hx23.trans e5)).cell B1.out
    have HW2 := hid_ hxw2
    have HS2 := hid_ (show B + 1 + 1 + 1 < w2.heap.size from World.block_lt_of_cell? _ _ HB2.out.c0)
    clear hRB hold hp hm hnn hx2 hg hx01 hx02 hA hx23 hpr h11 hf11 k3 k4 k5 k6 k7 k8 k9 ho2 kl1 kr1 kl2 kr2 kn1 kn2 hAlt hxw2 e5 n0 nf0 hst0 hw2s hpr1 hR HENV q hE
    obtain ⟨R, hR⟩ : ∃ R, fndS c d tl sl = R := ⟨_, rfl⟩
    rw [hR] at HSR
    have HRE := hid_ hR
    clear hR
    go_wp2_with fail
    try simp only [hNB]
    generalize w3.alloc (.cells #[.slice none 0 0] 54) = w4 at *
    clear hNB
    refine HSR.out.mono ?_
    rintro e w5 ⟨rfl, hs5, hk5⟩
    have HS5 := hid_ hs5
    have HX5 := hid_ hs5.sw.ex
    obtain ⟨q0, qf0⟩ := HB2.out.ex HX5.out
    have HMO := hid_ (show ∀ r w', RfR (rftL 0 R) (rftE 0 R) r w' → RfR (rftL (stE 0 0 (samF c.p c.m c.ml d.p d.m d.ml) c.n d.n tl sl (c.p.toNat ^ c.m.toNat)) (fndS c d tl sl)) (rftE (stE 0 0 (samF c.p c.m c.ml d.p d.m d.ml) c.n d.n tl sl (c.p.toNat ^ c.m.toNat)) (fndS c d tl sl)) r w' from fun r w' h => by rw [HE.out, HRE.out]; exact h)
    clear hs5 hk5 b0 b1 HSR HS0
    obtain ⟨E2, hE2⟩ : ∃ E, R.2 = E := ⟨_, rfl⟩
    have HE2 := hid_ hE2
    simp only [hE2]
    by_cases h0 : E2 = 0
    · subst h0
      obtain ⟨ev, mvs, n0, n1, n2, n3⟩ := HS5.out.en
      obtain ⟨ea, ec, rfl⟩ := own_shape n1
      have N1 := hid_ n1
      have N2 := hid_ n2
      have N3 := hid_ n3
      have HFM := hid_ (show rftL 0 R = rfOf R.1.2 ∧ rftE 0 R = 0 from by
        unfold rftL rftE
        rw [HE2.out]
        exact ⟨rfl, rfl⟩)
      clear hE2 n1 n2 n3
      go_wp2_with fail
      refine bodyPost_ret (v := .tuple #[.agg #[.slice ea R.1.2.length ec], .int .i64 0]) (by simp [results, Tryz.results31, go_sem, q0]) rfl ⟨⟨0, 0, HO1.out, fun _ => HO2.out trivial, HMO.out _ _ ?_⟩, (HW2.out.trans HX5.out).setCell (p := ⟨B + 1 + 1 + 1, 0, none⟩) (by rw [HWB.out]; show B ≤ B + 1 + 1 + 1; omega) _⟩
      rw [HFM.out.1, HFM.out.2]
      refine ⟨_, rfl, mvs, by rw [rfOf_len]; exact N2.out, ?_, fun i e mv h1 h2 => ?_⟩
      · rw [rfOf_len]
        exact Sl.own (ownsRow_setCell_ne (a := ⟨B + 1 + 1 + 1, 0, none⟩) N1.out (fun e => by have := (N1.out.lt _ e).1; have := HS5.out.ne; have := HS5.out.rb; have := HS5.out.sw.lb; simp only at *; omega) _)
      · have hp := N3.out i e mv h1 h2
        cases hm : e.msg with
        | nil =>
          rw [hm] at hp
          obtain ⟨g1, a, cap, g2, g3, g4, g5⟩ := hp.1
          exact ⟨g1, a, cap, g2, g3, g4, fun hn => absurd hn (by simp)⟩
        | cons y l =>
          rw [hm] at hp
          exact Sl.other hp.1 (fun X hX e2 => hp.2 (by simp) X hX (.inr (.inr (.inl e2)))) _
    · have k0 : (E2 == 0) = false := by simpa using h0
      by_cases h18 : E2 = 18
      · subst h18
        have HFM := hid_ (show rftL 0 R = [] ∧ rftE 0 R = 11 from by
          unfold rftL rftE
          rw [HE2.out]
          exact ⟨rfl, rfl⟩)
        clear hE2 h0
        go_wp2_with fail
        refine bodyPost_ret (v := .tuple #[.agg #[.slice none 0 0], .int .i64 11]) (by simp [results, Tryz.results31, go_sem, q0]) rfl ⟨⟨0, 0, HO1.out, fun _ => HO2.out trivial, HMO.out _ _ ?_⟩, (HW2.out.trans HX5.out).setCell (p := ⟨B + 1 + 1 + 1, 0, none⟩) (by rw [HWB.out]; show B ≤ B + 1 + 1 + 1; omega) _⟩
        rw [HFM.out.1, HFM.out.2]
        exact ⟨_, rfl, RSl.nil _⟩
      · have k18 : (E2 == 18) = false := by simpa using h18
        have HFM := hid_ (show rftL 0 R = [] ∧ rftE 0 R = E2 from by
          unfold rftL rftE
          rw [HE2.out]
          simp [h18, h0])
        clear hE2 h18 h0
        go_wp2_with fail
        refine bodyPost_ret (v := .tuple #[.agg #[.slice none 0 0], .int .i64 E2]) (by simp [results, Tryz.results31, go_sem, q0]) rfl ⟨⟨0, 0, HO1.out, fun _ => HO2.out trivial, HMO.out _ _ ?_⟩, (HW2.out.trans HX5.out).setCell (p := ⟨B + 1 + 1 + 1, 0, none⟩) (by rw [HWB.out]; show B ≤ B + 1 + 1 + 1; omega) _⟩
        rw [HFM.out.1, HFM.out.2]
        exact ⟨_, rfl, RSl.nil _⟩
end Go.Proofs.YtgdmlmhpineibaaGreat
