/- Plain: the search finds the first map. -/
/- Plain: what Apply hands back as a map of codes; the end of EquivalenceSound. -/
/- Arguments that are Code values, partial maps and cases of chapter 31: opened out of their readings. -/
import Derived.Test.YtgdmlmhpineibaaGreatZc36
import Derived.Test.YtgdmlmhpineibaaGreatZc37
import Derived.Test.YtgdmlmhpineibaaGreatZc42
import Derived.Test.YtgdmlmhpineibaaGreatZc45
import Derived.Test.YtgdmlmhpineibaaGreatZc46
import Derived.Test.YtgdmlmhpineibaaGreatZc49
import Derived.Test.YtgdmlmhpineibaaGreatZc50
namespace Go.Proofs.YtgdmlmhpineibaaGreat
set_option linter.unusedVariables false
set_option linter.unusedSimpArgs false
open Go.RowKit

/-- A bound of the partial maps that are seen. -/
def nbT (B : Nat) : Nat → Nat
  | 0 => 1
  | d + 1 => 1 + B * nbT B d
theorem nbT_mono1 (B : Nat) : ∀ d, nbT B d ≤ nbT B (d + 1)
  | 0 => by simp [nbT]
  | d + 1 => by
    show 1 + B * nbT B d ≤ 1 + B * nbT B (d + 1)
    have := Nat.mul_le_mul_left B (nbT_mono1 B d)
    omega
theorem nbT_mono (B : Nat) {d e : Nat} (h : d ≤ e) : nbT B d ≤ nbT B e := by
  obtain ⟨k, rfl⟩ := Nat.exists_eq_add_of_le h
  induction k with
  | zero => exact Nat.le_refl _
  | succ k ih => exact Nat.le_trans (ih (by omega)) (nbT_mono1 B _)
theorem gD_lt {l : List Int} {x : Int} {i : Nat} (h : i < l.length) : (l ++ [x]).getD i 0 = l.getD i 0 := by
  rw [List.getD_eq_getElem?_getD, List.getElem?_append_left h, ← List.getD_eq_getElem?_getD]
theorem gD_last {l : List Int} {x : Int} : (l ++ [x]).getD l.length 0 = x := by
  rw [List.getD_eq_getElem?_getD, List.getElem?_append_right (Nat.le_refl _)]; simp
structure Vld (q n : Nat) (tl sc : List Int) : Prop where
  len : sc.length = tl.length
  rng : ∀ i, i < tl.length → 0 ≤ tl.getD i 0 ∧ tl.getD i 0 < n
  inj : ∀ i j, i < tl.length → j < i → tl.getD j 0 ≠ tl.getD i 0
  sc : ∀ i, i < tl.length → ∃ z : Nat, sc.getD i 0 = z ∧ 1 ≤ z ∧ z < q
theorem Vld.snoc {q n : Nat} {tl sc : List Int} (h : Vld q n tl sc) {j a : Nat} (hj : j < n) (hc : tl.contains (j : Int) = false) (h1 : 1 ≤ a) (h2 : a < q) : Vld q n (tl ++ [(j : Int)]) (sc ++ [(a : Int)]) := by
  have hl : (tl ++ [(j : Int)]).length = tl.length + 1 := by simp
  refine ⟨by simp [h.len], fun i hi => ?_, fun i k hi hk => ?_, fun i hi => ?_⟩
  · rw [hl] at hi
    by_cases e : i = tl.length
    · rw [e, gD_last]; omega
    · rw [gD_lt (by omega)]; exact h.rng i (by omega)
  · rw [hl] at hi
    rw [gD_lt (l := tl) (i := k) (by omega)]
    by_cases e : i = tl.length
    · rw [e, gD_last]
      intro e2
      have : tl.contains (j : Int) = true := List.contains_iff_mem.2 (by
        rw [← e2, List.getD_eq_getElem?_getD, List.getElem?_eq_getElem (by omega)]; exact List.getElem_mem _)
      rw [hc] at this; cases this
    · rw [gD_lt (by omega)]; exact h.inj i k (by omega) hk
  · rw [hl] at hi
    by_cases e : i = tl.length
    · rw [e, ← h.len, gD_last]; exact ⟨a, rfl, h1, h2⟩
    · rw [gD_lt (by rw [h.len]; omega)]; exact h.sc i (by omega)
theorem Vld.rngB {q n : Nat} {tl sc : List Int} (h : Vld q n tl sc) : rngB tl n = true := by
  unfold Go.Proofs.YtgdmlmhpineibaaGreat.rngB
  refine List.all_eq_true.2 fun x hx => ?_
  obtain ⟨i, hi, rfl⟩ := List.getElem_of_mem hx
  have h1 := h.rng i hi
  have e : tl.getD i 0 = tl[i] := by rw [List.getD_eq_getElem?_getD, List.getElem?_eq_getElem hi]; rfl
  rw [e] at h1
  simp; omega
theorem Vld.injN {q n : Nat} {tl sc : List Int} (h : Vld q n tl sc) (hl : tl.length = n) : InjN n (piF tl) := by
  refine ⟨fun i hi => ?_, fun i j hi hj e => Classical.byContradiction fun hij => ?_⟩
  · have := h.rng i (by omega); unfold piF; omega
  · have h1 := h.rng i (by omega)
    have h2 := h.rng j (by omega)
    unfold piF at e
    rcases Nat.lt_or_gt_of_ne hij with g | g
    · exact h.inj j i (by omega) g (by omega)
    · exact h.inj i j (by omega) g (by omega)
/-- A found map that extends a partial one. -/
structure Fnd (p m : Nat) (ml : List Int) (l1 l2 : List (List Int)) (n : Nat) (nd : Nd) (tl sc : List Int) : Prop where
  v : Vld (p ^ m) n nd.tl nd.sc
  len : nd.tl.length = n
  t : nd.tl.take tl.length = tl
  s : nd.sc.take tl.length = sc
  c : Compat p m ml l1 l2 nd.tl nd.sc
def LexLe (n : Nat) (nd : Nd) (pl sl : List Int) : Prop :=
  ∃ i, i ≤ n ∧ (∀ k, k < i → nd.tl.getD k 0 = pl.getD k 0 ∧ nd.sc.getD k 0 = sl.getD k 0) ∧ (i = n ∨ nd.tl.getD i 0 < pl.getD i 0 ∨ (nd.tl.getD i 0 = pl.getD i 0 ∧ nd.sc.getD i 0 < sl.getD i 0))
theorem take_snoc {l t : List Int} {x : Int} (h : l.take (t.length + 1) = t ++ [x]) : l.take t.length = t ∧ l.getD t.length 0 = x := by
  constructor
  · have : (l.take (t.length + 1)).take t.length = (t ++ [x]).take t.length := by rw [h]
    rw [List.take_take, show min t.length (t.length + 1) = t.length from by omega, List.take_left] at this
    exact this
  · have h2 : (l.take (t.length + 1)).getD t.length 0 = l.getD t.length 0 := take_getD (by omega)
    rw [← h2, h, gD_last]
section
variable {p m : Nat} {ml : List Int} {n : Nat} {l1 l2 : List (List Int)} {pl sl tl sc : List Int} {nd : Nd}
theorem Fnd.back {j a : Int} (h : Fnd p m ml l1 l2 n nd (tl ++ [j]) (sc ++ [a])) (hl : sc.length = tl.length) : Fnd p m ml l1 l2 n nd tl sc ∧ nd.tl.getD tl.length 0 = j ∧ nd.sc.getD tl.length 0 = a := by
  have h1 := h.t
  have h2 := h.s
  rw [List.length_append] at h1 h2
  obtain ⟨a1, a2⟩ := take_snoc (t := tl) h1
  obtain ⟨b1, b2⟩ := take_snoc (t := sc) (by rw [hl]; exact h2)
  rw [hl] at b1 b2
  exact ⟨⟨h.v, h.len, a1, b1, h.c⟩, a2, b2⟩
theorem Fnd.lex {j a : Int} (h : Fnd p m ml l1 l2 n nd (tl ++ [j]) (sc ++ [a])) (hl : sc.length = tl.length) (hK : tl.length < n) (hp : pl.take tl.length = tl) (hs : sl.take tl.length = sc) (hlt : j < pl.getD tl.length 0 ∨ (j = pl.getD tl.length 0 ∧ a < sl.getD tl.length 0)) : LexLe n nd pl sl := by
  obtain ⟨h0, h1, h2⟩ := h.back hl
  refine ⟨tl.length, by omega, fun k hk => ?_, .inr (by rw [h1, h2]; exact hlt)⟩
  have e1 : nd.tl.getD k 0 = tl.getD k 0 := by rw [← take_getD (l := nd.tl) hk, h0.t]
  have e2 : nd.sc.getD k 0 = sc.getD k 0 := by rw [← take_getD (l := nd.sc) hk, h0.s]
  have e3 : pl.getD k 0 = tl.getD k 0 := by rw [← take_getD (l := pl) hk, hp]
  have e4 : sl.getD k 0 = sc.getD k 0 := by rw [← take_getD (l := sl) hk, hs]
  rw [e1, e2, e3, e4]; exact ⟨rfl, rfl⟩
/-- What the search of a partial map comes to. -/
structure SrOut (p m : Nat) (ml : List Int) (l1 l2 : List (List Int)) (n b s0 : Nat) (tl sc : List Int) (r : (Nat × List Nd) × Int) : Prop where
  cnt : r.1.1 ≤ s0 + b
  res : r.2 = 0 ∨ (r.2 = 18 ∧ Fnd p m ml l1 l2 n (lastN r.1.2) tl sc)
  fnd : ∀ pl sl, Takes p m ml n l1 l2 pl sl → pl.take tl.length = tl → sl.take tl.length = sc → r.2 = 18 ∧ LexLe n (lastN r.1.2) pl sl
variable {step : Nat × List Nd → List Int → List Int → (Nat × List Nd) × Int} {b : Nat}
theorem rnA_spec (hl : sc.length = tl.length) (hK : tl.length < n) {j : Nat} (hstep : ∀ (a : Nat) s, 1 ≤ a → a ≤ p ^ m - 1 → s.1 + b ≤ 65536 → SrOut p m ml l1 l2 n b s.1 (tl ++ [(j : Int)]) (sc ++ [(a : Int)]) (step s (tl ++ [(j : Int)]) (sc ++ [(a : Int)]))) :
    ∀ c, c ≤ p ^ m - 1 → ∀ s, s.1 + c * b ≤ 65536 → (rnA step tl sc j c s).1.1 ≤ s.1 + c * b ∧ ((rnA step tl sc j c s).2 = 0 ∨ ((rnA step tl sc j c s).2 = 18 ∧ ∃ a : Nat, 1 ≤ a ∧ a ≤ c ∧ Fnd p m ml l1 l2 n (lastN (rnA step tl sc j c s).1.2) (tl ++ [(j : Int)]) (sc ++ [(a : Int)]))) ∧
      ∀ pl sl, Takes p m ml n l1 l2 pl sl → pl.take tl.length = tl → sl.take tl.length = sc → pl.getD tl.length 0 = j → sl.getD tl.length 0 ≤ c → (rnA step tl sc j c s).2 = 18 ∧ LexLe n (lastN (rnA step tl sc j c s).1.2) pl sl
  | 0, _, s, _ => by
    refine ⟨by show s.1 ≤ _; omega, .inl rfl, fun pl sl hT h1 h2 h3 h4 => ?_⟩
    obtain ⟨z, hz, h5, _⟩ := hT.sc tl.length hK
    rw [hz] at h4; omega
  | c + 1, hc, s, hs => by
    have hm : (c + 1) * b = c * b + b := by rw [Nat.add_mul, Nat.one_mul]
    obtain ⟨i1, i2, i3⟩ := rnA_spec hl hK hstep c (by omega) s (by omega)
    by_cases h0 : (rnA step tl sc j c s).2 = 0
    · have e : rnA step tl sc j (c + 1) s = step (rnA step tl sc j c s).1 (tl ++ [(j : Int)]) (sc ++ [((c + 1 : Nat) : Int)]) := by
        show (if _ then _ else _) = _
        rw [if_neg (fun h => h h0)]
      rw [e]
      have ho := hstep (c + 1) (rnA step tl sc j c s).1 (by omega) hc (by omega)
      refine ⟨by have := ho.cnt; omega, ?_, fun pl sl hT h1 h2 h3 h4 => ?_⟩
      · rcases ho.res with h | ⟨h, hf⟩
        · exact .inl h
        · exact .inr ⟨h, c + 1, by omega, by omega, hf⟩
      · by_cases h5 : sl.getD tl.length 0 ≤ c
        · have := (i3 pl sl hT h1 h2 h3 h5).1
          rw [h0] at this; cases this
        · obtain ⟨a, a1, a2, b1, b2, _, _, c1, c2⟩ := hT.step hK
          have ea : a = c + 1 := by omega
          have ej : ((piF pl tl.length : Nat) : Int) = j := by rw [← b1, h3]
          refine ho.fnd pl sl hT ?_ ?_
          · rw [List.length_append]
            show pl.take (tl.length + 1) = _
            rw [c1, h1, ej]
          · rw [List.length_append]
            show sl.take (tl.length + 1) = _
            rw [c2, h2, ea]
    · have e : rnA step tl sc j (c + 1) s = rnA step tl sc j c s := by
        show (if _ then _ else _) = _
        rw [if_pos h0]
      rw [e]
      rcases i2 with h | ⟨h, a, a1, a2, hf⟩
      · exact absurd h h0
      · refine ⟨by omega, .inr ⟨h, a, a1, by omega, hf⟩, fun pl sl hT h1 h2 h3 h4 => ?_⟩
        by_cases h5 : sl.getD tl.length 0 ≤ c
        · exact i3 pl sl hT h1 h2 h3 h5
        · exact ⟨h, hf.lex hl hK h1 h2 (.inr ⟨h3.symm, by omega⟩)⟩
theorem rnJ_spec (hl : sc.length = tl.length) (hK : tl.length < n) (hstep : ∀ (j a : Nat) s, j < n → tl.contains (j : Int) = false → 1 ≤ a → a ≤ p ^ m - 1 → s.1 + b ≤ 65536 → SrOut p m ml l1 l2 n b s.1 (tl ++ [(j : Int)]) (sc ++ [(a : Int)]) (step s (tl ++ [(j : Int)]) (sc ++ [(a : Int)]))) :
    ∀ J, J ≤ n → ∀ s, s.1 + J * ((p ^ m - 1) * b) ≤ 65536 → (rnJ step (p ^ m) tl sc J s).1.1 ≤ s.1 + J * ((p ^ m - 1) * b) ∧ ((rnJ step (p ^ m) tl sc J s).2 = 0 ∨ ((rnJ step (p ^ m) tl sc J s).2 = 18 ∧ ∃ j a : Nat, j < J ∧ Fnd p m ml l1 l2 n (lastN (rnJ step (p ^ m) tl sc J s).1.2) (tl ++ [(j : Int)]) (sc ++ [(a : Int)]))) ∧
      ∀ pl sl, Takes p m ml n l1 l2 pl sl → pl.take tl.length = tl → sl.take tl.length = sc → pl.getD tl.length 0 < J → (rnJ step (p ^ m) tl sc J s).2 = 18 ∧ LexLe n (lastN (rnJ step (p ^ m) tl sc J s).1.2) pl sl
  | 0, _, s, _ => by
    refine ⟨by show s.1 ≤ _; omega, .inl rfl, fun pl sl hT h1 h2 h3 => ?_⟩
    have := hT.nn tl.length hK
    omega
  | J + 1, hJ, s, hs => by
    have hm : (J + 1) * ((p ^ m - 1) * b) = J * ((p ^ m - 1) * b) + (p ^ m - 1) * b := by rw [Nat.add_mul, Nat.one_mul]
    obtain ⟨i1, i2, i3⟩ := rnJ_spec hl hK hstep J (by omega) s (by omega)
    by_cases h0 : (rnJ step (p ^ m) tl sc J s).2 = 0
    · cases hc : tl.contains (J : Int) with
      | true =>
        have e : rnJ step (p ^ m) tl sc (J + 1) s = rnJ step (p ^ m) tl sc J s := by
          show (if _ then _ else if _ then _ else _) = _
          rw [if_neg (fun h => h h0), if_pos hc]
        rw [e]
        refine ⟨by omega, .inl h0, fun pl sl hT h1 h2 h3 => ?_⟩
        by_cases h5 : pl.getD tl.length 0 < J
        · exact i3 pl sl hT h1 h2 h5
        · obtain ⟨a, a1, a2, b1, b2, _, d1, c1, c2⟩ := hT.step hK
          have ej : ((piF pl tl.length : Nat) : Int) = J := by rw [← b1]; omega
          rw [h1, ej, hc] at d1; cases d1
      | false =>
        have e : rnJ step (p ^ m) tl sc (J + 1) s = rnA step tl sc J (p ^ m - 1) (rnJ step (p ^ m) tl sc J s).1 := by
          show (if _ then _ else if _ then _ else _) = _
          rw [if_neg (fun h => h h0), if_neg (by rw [hc]; decide)]
        rw [e]
        obtain ⟨k1, k2, k3⟩ := rnA_spec (p := p) (m := m) (ml := ml) (l1 := l1) (l2 := l2) (step := step) (b := b) hl hK (j := J) (fun a s h1 h2 h3 => hstep J a s (by omega) hc h1 h2 h3) (p ^ m - 1) (Nat.le_refl _) (rnJ step (p ^ m) tl sc J s).1 (by omega)
        refine ⟨by omega, ?_, fun pl sl hT h1 h2 h3 => ?_⟩
        · rcases k2 with h | ⟨h, a, a1, a2, hf⟩
          · exact .inl h
          · exact .inr ⟨h, J, a, by omega, hf⟩
        · by_cases h5 : pl.getD tl.length 0 < J
          · have := (i3 pl sl hT h1 h2 h5).1
            rw [h0] at this; cases this
          · obtain ⟨a, a1, a2, b1, b2, _, _, c1, c2⟩ := hT.step hK
            exact k3 pl sl hT h1 h2 (by omega) (by omega)
    · have e : rnJ step (p ^ m) tl sc (J + 1) s = rnJ step (p ^ m) tl sc J s := by
        show (if _ then _ else if _ then _ else _) = _
        rw [if_pos h0]
      rw [e]
      rcases i2 with h | ⟨h, j, a, hj, hf⟩
      · exact absurd h h0
      · refine ⟨by omega, .inr ⟨h, j, a, by omega, hf⟩, fun pl sl hT h1 h2 h3 => ?_⟩
        by_cases h5 : pl.getD tl.length 0 < J
        · exact i3 pl sl hT h1 h2 h5
        · exact ⟨h, hf.lex hl hK h1 h2 (.inl (by omega))⟩
/-- The search. -/
theorem sr_spec (hW : Two p m ml n l1 l2) : ∀ d tl sc s, Vld (p ^ m) n tl sc → tl.length + d = n → s.1 + nbT (n * (p ^ m - 1)) d ≤ 65536 → SrOut p m ml l1 l2 n (nbT (n * (p ^ m - 1)) d) s.1 tl sc (srF p m ml l1 l2 n d s tl sc)
  | d, tl, sc, s, hv, hd, hs => by
    have hb1 : 1 ≤ nbT (n * (p ^ m - 1)) d := by cases d <;> simp [nbT]
    have hwit := hW.wit (sc := sc) hv.rngB
    unfold srF
    rw [if_neg (by omega)]
    simp only
    by_cases h1 : 0 ≤ (witI p m ml l1 l2 tl sc).1
    · rw [if_pos h1]
      refine ⟨by show s.1 + 1 ≤ _; omega, .inl rfl, fun pl sl hT e1 e2 => ?_⟩
      have hc := hT.compat hW.hp (K := tl.length) (by omega)
      rw [e1, e2] at hc
      have := hwit.2 hc
      omega
    · have hc := hwit.1 (by omega)
      rw [if_neg h1]
      by_cases h2 : tl.length = n
      · rw [if_pos h2]
        refine ⟨by show s.1 + 1 ≤ _; omega, .inr ⟨rfl, ?_⟩, fun pl sl hT e1 e2 => ⟨rfl, ?_⟩⟩
        · simp only [lastN_app]
          exact ⟨hv, h2, List.take_length, by rw [← hv.len]; exact List.take_length, hc⟩
        · simp only [lastN_app]
          refine ⟨n, Nat.le_refl _, fun k hk => ⟨?_, ?_⟩, .inl rfl⟩
          · show tl.getD k 0 = _
            rw [← e1, take_getD (by omega)]
          · show sc.getD k 0 = _
            rw [← e2, take_getD (by omega)]
      · rw [if_neg h2]
        cases d with
        | zero => omega
        | succ d =>
          simp only
          have hB : nbT (n * (p ^ m - 1)) (d + 1) = 1 + n * ((p ^ m - 1) * nbT (n * (p ^ m - 1)) d) := by
            show 1 + n * (p ^ m - 1) * nbT (n * (p ^ m - 1)) d = _
            rw [Nat.mul_assoc]
          have hK : tl.length < n := by omega
          obtain ⟨k1, k2, k3⟩ := rnJ_spec (p := p) (m := m) (ml := ml) (l1 := l1) (l2 := l2) (n := n) (step := srF p m ml l1 l2 n d) (b := nbT (n * (p ^ m - 1)) d) hv.len hK (fun j a s hj hcj h1 h2 h3 => sr_spec hW d _ _ s (hv.snoc hj hcj h1 (by omega)) (by rw [List.length_append]; show tl.length + 1 + d = n; omega) h3) n (Nat.le_refl _) (s.1 + 1, s.2 ++ [⟨tl, sc, (witI p m ml l1 l2 tl sc).1, witL l1.length l2.length (witI p m ml l1 l2 tl sc)⟩]) (by show s.1 + 1 + _ ≤ _; omega)
          refine ⟨by rw [hB]; have k1' : _ ≤ s.1 + 1 + _ := k1; omega, ?_, fun pl sl hT e1 e2 => ?_⟩
          · rcases k2 with h | ⟨h, j, a, hj, hf⟩
            · exact .inl h
            · exact .inr ⟨h, (hf.back hv.len).1⟩
          · have := hT.inj.lt tl.length hK
            have hnn := hT.nn tl.length hK
            unfold piF at this
            exact k3 pl sl hT e1 e2 (by omega)
end
end Go.Proofs.YtgdmlmhpineibaaGreat
namespace Go.Proofs.YtgdmlmhpineibaaGreat
set_option linter.unusedVariables false
set_option linter.unusedSimpArgs false
open Go.RowKit

theorem codO_two {p m n : Int} {ml : List Int} {rows : List (List Int)} (h : CodO p m ml n rows 0) : ∃ pn mn N : Nat, p = pn ∧ m = mn ∧ n = N ∧ FSh pn mn ml ∧ IsF pn mn (lw ml) ∧ 1 ≤ N ∧ N ≤ 64 ∧ rows.length ≤ 256 ∧ ∀ r ∈ rows, r.length = N ∧ entS (pn ^ mn) r = 0 := by
  obtain ⟨hF, hn1, hn2⟩ := codO_fld h
  rcases h with ⟨_, h⟩ | ⟨_, h1, h2⟩ | ⟨h1, h2, h3⟩
  · cases h
  · exact absurd h2.symm h1
  · rcases h3 with ⟨h3, h4⟩ | ⟨_, pn, mn, N, piv, a', rfl, rfl, rfl, _, hm, _⟩
    · exact absurd h4.symm h3
    · obtain ⟨p1, m1, e1, e2, hsh, _, hI⟩ := hF
      obtain rfl : pn = p1 := by omega
      obtain rfl : mn = m1 := by omega
      obtain ⟨_, _, s3, s4⟩ := mchk_shape hm
      exact ⟨pn, mn, N, rfl, rfl, rfl, hsh, hI, by omega, by omega, s3, fun r hr => ⟨by have := (s4 r hr).1; omega, (s4 r hr).2⟩⟩
theorem rowsF_rowsL {N k i j : Nat} {a : Nat → Nat → Int} (hi : i < k) (hj : j < N) : rowsF (rowsL N k a) i j = a i j := by
  unfold rowsF
  rw [List.getD_eq_getElem?_getD (l := rowsL N k a), rowsL_get hi]
  exact eil_getD hj _
/-- The canonical rows have the same orthogonal words. -/
theorem elO_sol {p m : Nat} {ml : List Int} {N R : Nat} {a a' : Nat → Nat → Int} {piv : List Nat} (hp : 2 ≤ p) (h : ElO p m ml N R a a' piv) (x : Nat → Int) : Sol p m ml N (rowsL N piv.length a').length (rowsF (rowsL N piv.length a')) x ↔ Sol p m ml N R a x := by
  obtain ⟨c, hc, hP, hend, hS⟩ := h
  rw [← hS x, rowsL_len]
  have e : ∀ i, i < piv.length → dt p m ml N (rowsF (rowsL N piv.length a') i) x = dt p m ml N (a' i) x := fun i hi => dt_congr (fun j hj => rowsF_rowsL hi hj) fun _ _ => rfl
  constructor
  · intro h i hi
    by_cases hip : i < piv.length
    · rw [← e i hip]; exact h i hip
    · refine dt_zero hp fun j hj => ?_
      rcases hend with h1 | h1
      · omega
      · exact hP.tail i j (by omega) hi (by omega)
  · intro h i hi
    rw [e i hi]
    exact h i (by have := hP.le; omega)
theorem rowsF_imL {p m : Nat} {ml pl ul : List Int} {N : Nat} {l1 : List (List Int)} {i j : Nat} (hp : 2 ≤ p) (hm : 1 ≤ m) (hi : i < l1.length) (hj : j < N) : rowsF (imL p m ml pl ul 0 N l1 l1.length) i j = plc (piF pl) (mpF p m ml ul (rowsF l1 i)) N j := by
  have e : (imL p m ml pl ul 0 N l1 l1.length).getD i [] = il N (imgF p m ml pl ul 0 (l1.getD i []) N) := by
    unfold imL
    rw [List.getD_eq_getElem?_getD, List.getElem?_map, List.getElem?_take_of_lt hi, List.getElem?_eq_getElem hi, List.getD_eq_getElem?_getD, List.getElem?_eq_getElem hi]
    rfl
  show ((imL p m ml pl ul 0 N l1 l1.length).getD i []).getD j 0 = _
  rw [e, eil_getD hj]
  rfl
theorem sol_imL {p m : Nat} {ml pl ul : List Int} {N : Nat} {l1 : List (List Int)} (hp : 2 ≤ p) (hm : 1 ≤ m) (x : Nat → Int) : Sol p m ml N (imL p m ml pl ul 0 N l1 l1.length).length (rowsF (imL p m ml pl ul 0 N l1 l1.length)) x ↔ Sol p m ml N l1.length (fun i => plc (piF pl) (mpF p m ml ul (rowsF l1 i)) N) x := by
  rw [imL_len (Nat.le_refl _)]
  have e : ∀ i, i < l1.length → dt p m ml N (rowsF (imL p m ml pl ul 0 N l1 l1.length) i) x = dt p m ml N (plc (piF pl) (mpF p m ml ul (rowsF l1 i)) N) x := fun i hi => dt_congr (fun j hj => rowsF_imL hp hm hi hj) fun _ _ => rfl
  exact ⟨fun h i hi => by show dt p m ml N (plc _ _ N) x = 0; rw [← e i hi]; exact h i hi, fun h i hi => by rw [e i hi]; exact h i hi⟩
/-- A map whose image is the other code takes the one to the other. -/
theorem takes_of {p m : Nat} {ml pl ul : List Int} {N : Nat} {l1 l2 : List (List Int)} (h : MonOK p m ml pl ul 0 N) (h0 : ∀ i, i < N → 0 ≤ pl.getD i 0) {a' : Nat → Nat → Int} {piv : List Nat} (hel : ElO p m ml N (imL p m ml pl ul 0 N l1 l1.length).length (rowsF (imL p m ml pl ul 0 N l1 l1.length)) a' piv) (hd : rowsL N piv.length a' = l2) : Takes p m ml N l1 l2 pl ul := by
  refine ⟨h.pll, h.sll, h0, h.inj, h.sc, fun x => ?_⟩
  rw [← hd, elO_sol h.hp hel x]
  exact sol_imL h.hp h.hm x
end Go.Proofs.YtgdmlmhpineibaaGreat
namespace Go.Proofs.YtgdmlmhpineibaaGreat
set_option linter.unusedVariables false
set_option linter.unusedSimpArgs false
open Go.RowKit Go.ChangeShapes Go.WideShapes Go.ChangeAt

theorem rfC_get : ∀ (es : List Rf) (mvs : List Value), mvs.length = es.length → ∀ i, i < es.length → ∀ j, j < 4 → (rfC es mvs)[i * 4 + j]? = (((es.getD i dRf).cells (mvs.getD i undef)))[j]? := fun es => by
  induction es with
  | nil => intro mvs _ i hi; simp at hi
  | cons e es ih =>
    intro mvs hm i hi j hj
    cases mvs with
    | nil => simp at hm
    | cons u mvs =>
      show (e.cells u ++ rfC es mvs)[i * 4 + j]? = _
      cases i with
      | zero => rw [List.getElem?_append_left (by simp [Rf.cells]; omega)]; simp
      | succ i =>
        rw [List.getElem?_append_right (by simp [Rf.cells]; omega)]
        have := ih mvs (by simpa using hm) i (by simpa using hi) j hj
        rw [show (i + 1) * 4 + j - (e.cells u).length = i * 4 + j from by simp [Rf.cells]; omega, this]
        simp
section
variable {H : Type} {enc : TypeId × Value → H} {W : World} {held : Bool}
set_option maxRecDepth 100000 in
theorem rsl_trod {fuel : Nat} {v : Value} {y : DataW H × List MemPlace} (h : DataW.trod enc Tryz.prog W 0 (fun _ => true) held fuel 52 [v] = some y) : ∃ es, RSl W v es := by
  rcases Go.Deep.open_slice Tryz.underlying52 h with ⟨hcs, _⟩ | ⟨x, len, cap, m, n, D, Pl, hcs, _, hl, hm, hmm, _, hr⟩
  · simp at hcs; subst hcs
    exact ⟨[], RSl.nil W⟩
  · simp at hcs; subst hcs
    simp only [if_true] at hmm
    subst hmm
    rw [show Tryz.prog.cellsOf 78 = 4 by kernel_rfl] at hr
    have key : ∀ i, i < len → ∃ q : Rf × Value, W.cell? (x.add (i * 4)) = some (.int .i64 q.1.tp) ∧ W.cell? (x.add (i * 4 + 1)) = some (.int .i64 q.1.sc) ∧ W.cell? (x.add (i * 4 + 2)) = some (.int .i64 q.1.side) ∧ W.cell? (x.add (i * 4 + 3)) = some q.2 ∧ ISl W q.2 q.1.msg := fun i hi => by
      obtain ⟨cs', h1, h2⟩ := hr i (by omega)
      obtain ⟨_, hlen, hcell⟩ := World.cells?_some h1
      obtain ⟨xs, k, _, _, _, hxl, hf⟩ := DataW.trod_struct Tryz.underlying78 h2
      match xs, hxl, cs', hlen with
      | [y0, y1, y2, y3], _, [v0, v1, v2, v3], _ =>
        have g0 := hf 0 _ rfl
        have g1 := hf 1 _ rfl
        have g2 := hf 2 _ rfl
        have g3 := hf 3 _ rfl
        simp [show Tryz.prog.cellsOf 3 = 1 by kernel_rfl, show Tryz.prog.cellsOf 22 = 1 by kernel_rfl] at g0 g1 g2 g3
        have e0 := hcell 0 (by omega)
        have e1 := hcell 1 (by omega)
        have e2 := hcell 2 (by omega)
        have e3 := hcell 3 (by omega)
        rw [Go.Deep.add_add] at e0 e1 e2 e3
        obtain ⟨p0, ep0, _, _⟩ := DataW.trod_int Tryz.underlying3 g0
        obtain ⟨p1, ep1, _, _⟩ := DataW.trod_int Tryz.underlying3 g1
        obtain ⟨p2, ep2, _, _⟩ := DataW.trod_int Tryz.underlying3 g2
        simp at ep0 ep1 ep2
        subst ep0 ep1 ep2
        obtain ⟨l, hl⟩ := isl_trod g3
        exact ⟨(⟨p0, p1, p2, l⟩, v3), by simpa using e0, by simpa using e1, by simpa using e2, by simpa using e3, hl⟩
    haveI : Inhabited (Rf × Value) := ⟨(dRf, .bool false)⟩
    obtain ⟨q, hq⟩ := Go.Deep.choose_lt key
    have hL : ((List.range len).map fun i => (q i).1).length = len := by simp
    have hO : ((List.range len).map fun i => (q i).2).length = len := by simp
    have hgL : ∀ i, i < len → ((List.range len).map fun i => (q i).1).getD i dRf = (q i).1 := fun i hi => by
      rw [List.getD_eq_getElem?_getD]; simp [hi]
    have hgO : ∀ i, i < len → ((List.range len).map fun i => (q i).2).getD i undef = (q i).2 := fun i hi => by
      rw [List.getD_eq_getElem?_getD]; simp [hi]
    have hlen : (rfC ((List.range len).map fun i => (q i).1) ((List.range len).map fun i => (q i).2)).length = len * 4 := by
      rw [rfC_len _ _ (by rw [hL, hO]), hL]
    refine ⟨(List.range len).map fun i => (q i).1, (List.range len).map fun i => (q i).2, by rw [hL, hO], ⟨by rw [hlen, hL], some x, m, by rw [hL], by rw [hL]; exact hl, hm, fun hn => ?_⟩, fun i e mv h1 h2 => ?_⟩
    · rw [hL] at hn
      have h0 := (hq 0 hn).1
      have hx := spot_none h0 (.inl ⟨_, _, rfl⟩)
      have hx0 : (x.add (0 * 4)) = x := by simp [Addr.add]
      rw [hx0] at hx
      refine ⟨x.block, x.off, congrArg some hx, fun j u hu => ?_⟩
      have hj : j < len * 4 := by
        have := (List.getElem?_eq_some_iff.1 hu).1
        rw [hlen] at this
        exact this
      obtain ⟨i, r, hr3, rfl⟩ : ∃ i r, r < 4 ∧ j = i * 4 + r := ⟨j / 4, j % 4, Nat.mod_lt _ (by omega), by omega⟩
      have hi : i < len := by omega
      obtain ⟨k0, k1, k2, k3, _⟩ := hq i hi
      rw [hx, add_off] at k0 k1 k2 k3
      rw [rfC_get _ _ (by rw [hL, hO]) i (by rw [hL]; exact hi) r hr3, hgL i hi, hgO i hi] at hu
      match r, hr3 with
      | 0, _ => simp [Rf.cells] at hu; rw [Nat.add_zero, ← hu]; exact k0
      | 1, _ => simp [Rf.cells] at hu; rw [← hu]; exact k1
      | 2, _ => simp [Rf.cells] at hu; rw [← hu]; exact k2
      | 3, _ => simp [Rf.cells] at hu; rw [← hu]; exact k3
    · have hi : i < len := by have := (List.getElem?_eq_some_iff.1 h1).1; simpa using this
      simp [hi] at h1 h2
      subst h1 h2
      exact (hq i hi).2.2.2.2
theorem c_code : Tryz.prog.cellsOf 47 = 5 := by kernel_rfl
theorem c_part : Tryz.prog.cellsOf 49 = 2 := by kernel_rfl
theorem c_refu : Tryz.prog.cellsOf 54 = 1 := by kernel_rfl
theorem c_entr : Tryz.prog.cellsOf 52 = 1 := by kernel_rfl
theorem c_case : Tryz.prog.cellsOf 61 = 6 := by kernel_rfl
set_option maxRecDepth 100000 in
theorem open_code {r : Reach} {b0 : Nat} {v : Value} {d : DataW H} {p : List MemPlace} (hv : Value.okWide Tryz.prog W r b0 47 v) (h : DataW.Trod enc Tryz.prog W 0 (fun _ => true) held 47 v d p) :
    ∃ (c : CdV) (mv gv : Value), v = c.arg mv gv ∧ c.at W mv gv := by
  obtain ⟨cs, rfl, hsz⟩ := okWide_agg Tryz.underlying47 hv
  obtain ⟨c0, c1, c2, c3, c4, rfl⟩ := array5 (hsz.trans c_code)
  obtain ⟨fuel, hf⟩ := h
  obtain ⟨xs, k, _, _, _, hxl, hff⟩ := DataW.trod_struct Tryz.underlying47 hf
  have g0 := hff 0 _ rfl
  have g1 := hff 1 _ rfl
  have g2 := hff 2 _ rfl
  match xs, hxl with
  | [y0, y1, y2], _ =>
    simp [c_int, c_fld, c_rows, Value.cells] at g0 g1 g2
    obtain ⟨P, M, ml, rfl, rfl, hm⟩ := fld_cells g0
    obtain ⟨N, e0, _, _⟩ := DataW.trod_int Tryz.underlying3 g1
    obtain ⟨rows, hr⟩ := msl_trod g2
    simp at e0
    subst e0
    exact ⟨⟨P, M, ml, N, rows⟩, _, _, rfl, hm, hr⟩
theorem part_cells {fuel : Nat} {c0 c1 : Value} {y : DataW H × List MemPlace} (h : DataW.trod enc Tryz.prog W 0 (fun _ => true) held fuel 49 [c0, c1] = some y) :
    ∃ (tl sl : List Int), ISl W c0 tl ∧ ISl W c1 sl := by
  obtain ⟨xs, k, _, _, _, hxl, hf⟩ := DataW.trod_struct Tryz.underlying49 h
  have g0 := hf 0 _ rfl
  have g1 := hf 1 _ rfl
  match xs, hxl with
  | [y0, y1], _ =>
    simp [c_ints] at g0 g1
    obtain ⟨l, hl⟩ := isl_trod g0
    obtain ⟨l', hl'⟩ := isl_trod g1
    exact ⟨l, l', hl, hl'⟩
theorem array2' {α : Type} {cs : Array α} (h : cs.size = 2) : ∃ c0 c1, cs = #[c0, c1] := by
  obtain ⟨l⟩ := cs
  match l, h with
  | [c0, c1], _ => exact ⟨c0, c1, rfl⟩
set_option maxRecDepth 100000 in
theorem open_part {r : Reach} {b0 : Nat} {v : Value} {d : DataW H} {p : List MemPlace} (hv : Value.okWide Tryz.prog W r b0 49 v) (h : DataW.Trod enc Tryz.prog W 0 (fun _ => true) held 49 v d p) :
    ∃ (tv sv : Value) (tl sl : List Int), v = .agg #[tv, sv] ∧ ISl W tv tl ∧ ISl W sv sl := by
  obtain ⟨cs, rfl, hsz⟩ := okWide_agg Tryz.underlying49 hv
  obtain ⟨c0, c1, rfl⟩ := array2' (hsz.trans c_part)
  obtain ⟨fuel, hf⟩ := h
  obtain ⟨tl, sl, h1, h2⟩ := part_cells (by simpa [Value.cells] using hf)
  exact ⟨_, _, tl, sl, rfl, h1, h2⟩
theorem refu_cells {fuel : Nat} {c0 : Value} {y : DataW H × List MemPlace} (h : DataW.trod enc Tryz.prog W 0 (fun _ => true) held fuel 54 [c0] = some y) : ∃ es, RSl W c0 es := by
  obtain ⟨xs, k, _, _, _, hxl, hf⟩ := DataW.trod_struct Tryz.underlying54 h
  have g0 := hf 0 _ rfl
  match xs, hxl with
  | [y0], _ =>
    simp [c_entr] at g0
    exact rsl_trod g0
set_option maxRecDepth 100000 in
theorem open_case {r : Reach} {b0 : Nat} {v : Value} {d : DataW H} {p : List MemPlace} (hv : Value.okWide Tryz.prog W r b0 61 v) (h : DataW.Trod enc Tryz.prog W 0 (fun _ => true) held 61 v d p) :
    ∃ (tv sv ev pv uv : Value) (tl sl : List Int) (es : List Rf) (pl ul : List Int) (fr : Int), v = .agg #[tv, sv, ev, pv, uv, .int .i64 fr] ∧ ISl W tv tl ∧ ISl W sv sl ∧ RSl W ev es ∧ ISl W pv pl ∧ ISl W uv ul := by
  obtain ⟨cs, rfl, hsz⟩ := okWide_agg Tryz.underlying61 hv
  obtain ⟨c0, c1, c2, c3, c4, c5, rfl⟩ := array6 (hsz.trans c_case)
  obtain ⟨fuel, hf⟩ := h
  obtain ⟨xs, k, _, _, _, hxl, hff⟩ := DataW.trod_struct Tryz.underlying61 hf
  have g0 := hff 0 _ rfl
  have g1 := hff 1 _ rfl
  have g2 := hff 2 _ rfl
  match xs, hxl with
  | [y0, y1, y2], _ =>
    simp [c_part, c_refu, c_mon, Value.cells] at g0 g1 g2
    obtain ⟨tl, sl, h1, h2⟩ := part_cells g0
    obtain ⟨es, h3⟩ := refu_cells g1
    obtain ⟨pl, ul, fr, h4, h5, rfl⟩ := mon_cells g2
    exact ⟨_, _, _, _, _, tl, sl, es, pl, ul, fr, rfl, h1, h2, h3, h4, h5⟩
end
end Go.Proofs.YtgdmlmhpineibaaGreat
