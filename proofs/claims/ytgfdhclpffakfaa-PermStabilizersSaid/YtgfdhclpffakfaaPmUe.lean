/- The walk of PermStabilizers. -/
import Derived.Test.YtgfdhclpffakfaaPmUd
namespace Go.Proofs.Ytgfdhclpffakfaa
set_option linter.unusedVariables false
set_option linter.unusedSimpArgs false
open Go.RowKit

theorem LSl.tail1 {w : World} {a : Option Addr} {T : List Lv} (h : T.length = 0) : LSl w (.slice a T.length 0) T := by
  have : T = [] := List.eq_nil_of_length_eq_zero h
  subst this
  exact ⟨[], rfl, ⟨rfl, a, 0, rfl, Nat.le_refl _, by unfold maxLen; omega, fun hn => absurd hn (Nat.lt_irrefl _)⟩, fun i l o h => by simp at h⟩
/-- The first level's point: all points below are fixed. -/
theorem suf_first {n : Nat} {S : List (Nat → Nat)} (hS : ∀ s ∈ S, IsP n s) : ∀ {b : Nat} {bs : List Nat}, Suf n S b bs → (∀ f, Gn S f → FixP b f) →
    (bs = [] ∧ ∀ f, Gn S f → f = idP) ∨ ∃ b0 cs, bs = b0 :: cs ∧ b0 < n ∧ (∀ f, Gn S f → FixP b0 f) ∧ 1 < (orbM S b0 n).length ∧ Suf n S (b0 + 1) cs := by
  intro b bs h
  induction h with
  | nil => exact fun hf => .inl ⟨rfl, fun f hg => FixP.all (hg.isP hS) (hf f hg)⟩
  | skip h1 h2 _ ih => exact fun hf => ih fun f hg => orb_one h1 h2 hg (hg.isP hS) (hf f hg)
  | cons h1 h2 h3 _ => exact fun hf => .inr ⟨_, _, rfl, h1, hf, h2, h3⟩
theorem orbN_head {n : Nat} {S : List (Nat → Nat)} {i : Nat} (hi : i < n) (h : LstS S i) : (orbL n S i)[0]? = some (i : Int) := by
  have hm : i ∈ orbN n S i := mem_orbN.2 ⟨hi, RchS.refl S i⟩
  have ha := orbN_asc n S i
  unfold orbL
  match hq : orbN n S i with
  | [] => rw [hq] at hm; cases hm
  | y :: q =>
    rw [hq] at hm ha
    have hy : y ∈ orbN n S i := by rw [hq]; simp
    have h1 := h y (mem_orbN.1 hy).2
    rcases List.mem_cons.1 hm with e | e
    · rw [e]; rfl
    · have := (List.pairwise_cons.1 ha).1 i e
      omega
theorem orbL_fix {n : Nat} {S : List (Nat → Nat)} {i : Nat} (hi : i < n) (h : ∀ f, Gn S f → f i = i) : (orbL n S i).length = 1 := by
  have : orbN n S i = [i] := asc_uniq (orbN_asc n S i) (by simp) fun x => by
    rw [mem_orbN, List.mem_singleton]
    constructor
    · rintro ⟨_, f, hf, rfl⟩; exact h f hf
    · rintro rfl; exact ⟨hi, RchS.refl S x⟩
  unfold orbL
  rw [this]; rfl
open Classical in
theorem orbL_orbM {n : Nat} {S : List (Nat → Nat)} {b : Nat} (h : ∀ f, Gn S f → FixP b f) : orbL n S b = il' (orbM S b n) := by
  have : orbN n S b = orbM S b n := by
    unfold orbN orbM
    apply List.filter_congr
    intro x _
    rw [decide_eq_decide]
    constructor
    · rintro ⟨f, h1, h2⟩; exact ⟨f, h1, h f h1, h2⟩
    · rintro ⟨f, h1, _, h2⟩; exact ⟨f, h1, h2⟩
  unfold orbL il'
  rw [this]
open Classical in
theorem mem_orbsK {n : Nat} {S : List (Nat → Nat)} {o : List Int} : o ∈ orbsK n S n ↔ ∃ i, i < n ∧ LstS S i ∧ orbL n S i = o := by
  unfold orbsK
  rw [List.mem_map]
  constructor
  · rintro ⟨i, hi, rfl⟩
    obtain ⟨h1, h2⟩ := List.mem_filter.1 hi
    exact ⟨i, List.mem_range.1 h1, of_decide_eq_true h2, rfl⟩
  · rintro ⟨i, h1, h2, rfl⟩
    exact ⟨i, List.mem_filter.2 ⟨List.mem_range.2 h1, decide_eq_true h2⟩, rfl⟩
open Classical in
theorem orbsK_triv {n : Nat} {S : List (Nat → Nat)} (h : ∀ f, Gn S f → f = idP) : (orbsK n S n).length = n := by
  unfold orbsK
  rw [List.length_map]
  have : (List.range n).filter (fun i => decide (LstS S i)) = List.range n := List.filter_eq_self.2 fun i _ => decide_eq_true fun y hy => by
    obtain ⟨f, hf, rfl⟩ := hy
    rw [h f hf]; exact Nat.le_refl _
  rw [this, List.length_range]
/-- An orbit is one point, or begins behind the first level's point, or is its orbit. -/
theorem orb_class {n : Nat} {S : List (Nat → Nat)} {b0 : Nat} (hb : b0 < n) (hf : ∀ f, Gn S f → FixP b0 f) {o : List Int} (ho : o ∈ orbsK n S n) :
    o.length = 1 ∨ (∃ z : Nat, 1 < o.length ∧ o[0]? = some (z : Int) ∧ b0 < z) ∨ (1 < o.length ∧ o[0]? = some (b0 : Int) ∧ o = il' (orbM S b0 n)) := by
  obtain ⟨i, hi, hl, rfl⟩ := mem_orbsK.1 ho
  have h0 := orbN_head hi hl
  have hpos := (List.getElem?_eq_some_iff.1 h0).1
  by_cases h1 : (orbL n S i).length = 1
  · exact .inl h1
  · right
    have h2 : b0 ≤ i := by
      apply Classical.byContradiction
      intro hn
      exact h1 (orbL_fix hi fun f hg => hf f hg i (by omega))
    by_cases e : i = b0
    · subst e; exact .inr ⟨by omega, h0, orbL_orbM hf⟩
    · exact .inl ⟨i, by omega, h0, by omega⟩
theorem orb_there {n : Nat} {S : List (Nat → Nat)} (hS : ∀ s ∈ S, IsP n s) {b0 : Nat} (hb : b0 < n) (hf : ∀ f, Gn S f → FixP b0 f) : il' (orbM S b0 n) ∈ orbsK n S n := by
  refine mem_orbsK.2 ⟨b0, hb, fun y hy => ?_, orbL_orbM hf⟩
  obtain ⟨f, hg, rfl⟩ := hy
  exact FixP.ge (hg.isP hS) (hf f hg)
theorem foldl_mul (xs : List Nat) : ∀ a, xs.foldl (· * ·) a = a * xs.foldl (· * ·) 1 := by
  induction xs with
  | nil => intro a; simp
  | cons x xs ih => intro a; rw [List.foldl_cons, List.foldl_cons, ih (a * x), ih (1 * x), Nat.one_mul, Nat.mul_assoc]
theorem sizL_cons (l : Lv) (L : List Lv) : sizL (l :: L) = sizL L * l.orb.length := by
  unfold sizL prodL
  rw [List.map_cons, List.foldl_cons, foldl_mul, Nat.one_mul, Nat.mul_comm]
theorem orbS_li {n : Nat} {S : List (Nat → Nat)} (h1 : 1 ≤ n) (h2 : n ≤ 64) (hS : ∀ s ∈ S, IsP n s) : orbS n (S.map (li n)) = (orbsK n S n, 0) := by
  unfold orbS
  rw [gchk_li h1 h2 hS, if_neg (by decide), map_fnL hS]
  rfl
theorem Orbits_li (w : World) (n : Nat) (S : List (Nat → Nat)) (v : Value) (hv : MSl w v (S.map (li n))) (h1 : 1 ≤ n) (h2 : n ≤ 64) (hS : ∀ s ∈ S, IsP n s) (hl : S.length ≤ 1000) :
    Calls Try.prog 28 #[.int .i64 n, v] w fun r w' => ∃ a c, r = .returned (.tuple #[.slice a (orbsK n S n).length c, .int .i64 0]) ∧ MSl w' (.slice a (orbsK n S n).length c) (orbsK n S n) ∧ Ex w w' :=
  (Orbits_any sortOK w n _ v hv (by rw [List.length_map]; exact hl)).mono fun r w' ⟨⟨u, h3, h4⟩, h5⟩ => by
    rw [orbS_li h1 h2 hS] at h3 h4
    obtain ⟨a, c, rfl, _⟩ := h4.open
    exact ⟨a, c, h3, h4, h5⟩
theorem Size_ok (w : World) (d : Int) (L : List Lv) (lv : Value) (hL : LSl w lv L) (hg : (gensL L).length ≤ 1000) (hc : chkS d L = 0) :
    Calls Try.prog 35 #[.agg #[.int .i64 d, lv]] w fun r w' => ∃ a n c, r = .returned (.tuple #[.slice a n c, .int .i64 0]) ∧ NSl w' (.slice a n c) (sizL L) ∧ Ex w w' :=
  (Size_any w d L lv hL hg).mono fun r w' ⟨h1, h3⟩ => by
    rcases h1 with h1 | ⟨_, u, h1, h2⟩
    · exact absurd hc h1.1
    · obtain ⟨n, f, _, _, h4⟩ := id h2
      obtain ⟨a, c, rfl, _⟩ := h4.open
      exact ⟨a, n, c, h1, h2, h3⟩
theorem LSl.tail {w : World} {a : Option Addr} {l : Lv} {L : List Lv} {cap : Nat} (h : LSl w (.slice a (l :: L).length cap) (l :: L)) : ∃ b o, a = some ⟨b, o, none⟩ ∧ LSl w (.slice (some ⟨b, o + 3, none⟩) L.length (cap - 1)) L := by
  obtain ⟨os, h1, ⟨h2, a', cap', e, h4, h5, h6⟩, h7⟩ := h
  injection e with e1 _ e3
  subst e1 e3
  obtain ⟨b, o, rfl, h8⟩ := h6 (by simp)
  match os, h1 with
  | x :: os, h1 =>
    refine ⟨b, o, rfl, os, by simpa using h1, ⟨lvC_len L os (by simpa using h1), _, _, rfl, by simp at h4; omega, by omega, fun _ => ⟨_, _, rfl, fun j u hu => ?_⟩⟩, fun i l' o' a1 a2 => h7 (i + 1) l' o' (by simpa using a1) (by simpa using a2)⟩
    rw [Nat.add_assoc, Nat.add_comm 3 j]
    exact h8 (j + 3) u (by simpa [lvC] using hu)

set_option maxRecDepth 100000 in
set_option maxHeartbeats 8000000 in
theorem PermStabilizers_any (w : World) (b : Int) (hb0 : 0 ≤ b) (hb1 : b ≤ 255) (rows : List (List Int)) (rv : Value) (hr : MSl w rv rows) :
    Calls Try.prog 11 #[.int .u8 b, rv] w fun r w' => r = .returned (.bool true) ∧ Ex w w' := by
  obtain ⟨ra, rc, rfl, _, _, _⟩ := hr.open
  have HR := hid_ hr
  obtain ⟨B, rfl⟩ : ∃ B : Nat, b = B := ⟨b.toNat, by omega⟩
  have hw : IntKind.i64.wrap (B : Int) = (B : Int) := IntWalk.i64_in _ (by omega)
  obtain ⟨R, hR⟩ : ∃ R, B % 8 = R := ⟨_, rfl⟩
  have ht : (B : Int).tmod 8 = (R : Int) := by rw [Int.tmod_eq_emod_of_nonneg (Int.natCast_nonneg B), ← hR]; rfl
  have hR9 : R < 8 := by omega
  clear hr hb0 hb1 hR
  by_cases hok : rows.length ≤ 4
  · have g2 : ¬ (4 : Int) < (rows.length : Int) := by omega
    have g2b : decide ((4 : Int) < (rows.length : Int)) = false := decide_eq_false g2
    have HOK := hid_ hok
    clear hok
    go_enter Try.func11, Try.ntmps11
    go_wp2_with fail
    obtain ⟨D, hD⟩ : ∃ D : Nat, (1 : Int) + (R : Int) = (D : Int) := ⟨R + 1, by omega⟩
    simp only [hD]
    have hD1 : 1 ≤ D := by omega
    have hD2 : D ≤ 8 := by omega
    clear hD hR9 hw ht
    refine (awake_any w).mono ?_
    rintro e w1 ⟨rfl, hx⟩
    have EX := hid_ hx
    have HR := hid_ (HR.out.ex hx)
    clear hx
    go_wp2_with fail
    refine (valid_any _ D rows _ HR.out).mono ?_
    rintro e w2 ⟨⟨b, rfl, hb⟩, hx⟩
    have EX := hid_ (EX.out.trans hx)
    have HR := hid_ (HR.out.ex hx)
    clear hx
    cases b with
    | false =>
      clear hb
      go_wp2_with fail
      refine (awake_any w2).mono ?_
      rintro e w3 ⟨rfl, hx⟩
      have EX := hid_ (EX.out.trans hx)
      clear hx
      go_wp2_with fail
      go_ret
      exact ⟨rfl, EX.out⟩
    | true =>
    obtain ⟨S, hS, hSP⟩ := vld_open hD1 (by omega) (hb.1 rfl)
    have hSl : S.length = rows.length := by rw [hS, List.length_map]
    have HSP := hid_ hSP
    have hsl5 : S.length ≤ 4 := by have := HOK.out; omega
    rw [← hSl] at g2 g2b ⊢
    have hRR := HR.out
    rw [hS, List.length_map] at hRR
    have HR := hid_ hRR
    have HCAS := hid_ (suf_first hSP (suf_pts D S) (fun f _ i hi => by omega))
    clear hb hS hSP hRR HOK hSl
    go_wp2_with fail
    refine (Build_li w2 D S _ HR.out hD1 (by omega) HSP.out (by omega)).mono ?_
    rintro e w3 ⟨ca, cc, rfl, hc, hx⟩
    have hgl := gens_len D S
    have hck := chk_chn0 hD1 (by omega) HSP.out
    have hLP := chnK_pts D S
    obtain ⟨L, hL⟩ : ∃ L, chnK D S D = L := ⟨_, rfl⟩
    rw [hL] at hc hgl hck hLP ⊢
    have hDD := Nat.mul_le_mul hD2 hD2
    have HGL := hid_ (show (gensL L).length ≤ 1000 from by omega)
    have HCK := hid_ hck
    have HLP := hid_ hLP
    obtain ⟨c0, c1, ec⟩ := boxCh_facts w3 D (.slice ca L.length cc)
    have HC := hid_ (hc.ex ec)
    have EX := hid_ (EX.out.trans (hx.trans ec))
    have HR := hid_ (HR.out.ex (hx.trans ec))
    clear hx ec hc hL hgl hck hLP hDD
    go_wp2_with fail
    obtain ⟨Q, hQ⟩ : ∃ Q, w3.heap.size = Q := ⟨_, rfl⟩
    rw [hQ] at c0 c1
    try simp only [hQ]
    generalize w3.alloc (.cells #[.int .i64 D, .slice ca L.length cc] 46) = w4 at *
    clear hQ
    refine (Orbits_li w4 D S _ HR.out hD1 (by omega) HSP.out (by omega)).mono ?_
    rintro e w5 ⟨ka, kc, rfl, hk, hx⟩
    have HKT := hid_ (orbsK_triv (n := D) (S := S))
    have HKC := hid_ (fun b0 (hb : b0 < D) hf o ho => orb_class (S := S) hb hf (o := o) ho)
    have HKH := hid_ (fun b0 (hb : b0 < D) hf => orb_there HSP.out hb hf)
    have hkl := orbsK_len D S D
    obtain ⟨K, hK⟩ : ∃ K, orbsK D S D = K := ⟨_, rfl⟩
    rw [hK] at hk HKT HKC HKH hkl ⊢
    have HK := hid_ hk
    have c0 := hx.cell c0
    have c1 := hx.cell c1
    have HC := hid_ (HC.out.ex hx)
    have EX := hid_ (EX.out.trans hx)
    clear hx hk hK HR
    go_wp2_with fail
    refine (Size_ok w5 D L _ HC.out HGL.out HCK.out).mono ?_
    rintro e w6 ⟨sa, sn, sc, rfl, hs, hx⟩
    have HS := hid_ hs
    have c0 := hx.cell c0
    have c1 := hx.cell c1
    have HC := hid_ (HC.out.ex hx)
    have HK := hid_ (HK.out.ex hx)
    have EX := hid_ (EX.out.trans hx)
    clear hx hs
    rcases HCAS.out with ⟨hp, hid⟩ | ⟨b0, cs, hp, hbn, hfx, h1l, hsuf⟩
    · have hLe : L = [] := by have := HLP.out; rwa [hp] at this
      subst hLe
      have hKl := HKT.out hid
      have hKb : ((K.length : Int) == (D : Int)) = true := by simp; omega
      clear hKl hp hid
      go_wp2_with fail
      refine (rCmp_any _ (sizL []) 1 _ _ (HS.out.ex (Ex.al _ (.cells #[.int .u32 1] 72))) (show NSl (w6.alloc (.cells #[.int .u32 1] 72)) (.slice (some ⟨w6.heap.size, 0, none⟩) 1 1) 1 from ⟨1, _, cano_one, vS_one, NL.mk (Nat.le_refl _) (by unfold maxLen; omega) fun _ => ⟨_, 0, rfl, fun j hj => by
        obtain rfl : j = 0 := by omega
        simp⟩⟩) (smallN_of (by decide)) (smallN_of (by omega))).mono ?_
      rintro e w7 ⟨⟨z, rfl, hz⟩, rfl⟩
      obtain rfl : z = 0 := hz.2 rfl
      go_wp2_with fail
      go_ret
      exact ⟨rfl, EX.out.trans (Ex.al _ _)⟩
    · obtain ⟨l0, T, hLe, hpt0, hor0, hT⟩ : ∃ (l0 : Lv) (T : List Lv), L = l0 :: T ∧ l0.pt = (b0 : Int) ∧ l0.orb = il' (orbM S b0 D) ∧ T = cs.map (levB D S) := ⟨_, _, by have := HLP.out; rwa [hp] at this, rfl, rfl, rfl⟩
      have hsm : SmallN (sizL (l0 :: T)) ∧ SmallN (sizL T) := by
        have h64 : ∀ l ∈ l0 :: T, l.orb.length ≤ 64 := fun l hl => by
          have h1 := HLP.out
          rw [hLe] at h1
          rw [h1] at hl
          have := lev_orb_le hl
          omega
        have hlen : (l0 :: T).length ≤ 64 := by
          rw [← hLe, HLP.out, List.length_map]
          unfold ptsK
          have := List.length_filter_le (fun b => decide (1 < (orbM S b D).length)) (List.range D)
          rw [List.length_range] at this
          omega
        have k1 := sizL_small h64 64 (Nat.le_refl _)
        have k2 := sizL_small (L := T) (fun l hl => h64 l (List.mem_cons_of_mem _ hl)) 64 (Nat.le_refl _)
        rw [List.take_of_length_le hlen] at k1
        rw [List.take_of_length_le (by rw [List.length_cons] at hlen; omega)] at k2
        exact ⟨k1, k2⟩
      have HSM := hid_ hsm
      clear hsm
      subst hLe
      have HTK := hid_ (show chkS D T = 0 from by rw [hT]; exact chk_chn hD1 (by omega) HSP.out hsuf)
      have HTG := hid_ (show (gensL T).length ≤ 1000 from by
        have := HGL.out
        unfold gensL at this ⊢
        rw [List.flatMap_cons, List.length_append] at this
        omega)
      have HCL := hid_ (fun o ho => HKC.out b0 hbn hfx o ho)
      have HTH := hid_ (HKH.out b0 hbn hfx)
      have hQl : 1 < (il' (orbM S b0 D)).length := by rw [il'_len]; exact h1l
      have hQ2 : (il' (orbM S b0 D)).length ≤ D := by rw [il'_len]; exact orbM_len S b0 D
      have hO0 := orbN_head hbn (S := S) (n := D) (fun y hy => by
        obtain ⟨f, hg, rfl⟩ := hy
        exact FixP.ge (hg.isP HSP.out) (hfx f hg))
      rw [orbL_orbM hfx] at hO0
      rw [← hor0] at HCL HTH hQl hQ2 hO0
      have HSZ := hid_ (sizL_cons l0 T)
      obtain ⟨lb, lo, rfl, hlc⟩ : ∃ b o, ca = some ⟨b, o, none⟩ ∧ LSl w6 (.slice (some ⟨b, o + 3, none⟩) T.length (cc - 1)) T := LSl.tail HC.out
      have HTL := hid_ hlc
      obtain ⟨_, _, el, hl4, hl5, h3⟩ := HC.out.open3
      injection el with el1 el2 el3
      subst el1 el3
      obtain ⟨_, _, el, h4⟩ := h3 (by simp)
      injection el with el
      injection el with el1 el4
      subst el1 el4
      obtain ⟨u, r, f0, f1, f2, hu, hr⟩ := h4 0 l0 rfl
      rw [Nat.zero_mul, Nat.add_zero] at f0 f1 f2
      rw [hpt0] at f0
      obtain ⟨ua, uc, rfl, _, _, _⟩ := hu.open
      obtain ⟨va, vc, rfl, _, _, _⟩ := hr.open
      have HU := hid_ hu
      have hLb : (((l0 :: T).length : Int) == 0) = false := by simp; omega
      have hLn : (l0 :: T).length = T.length + 1 := rfl
      unfold maxLen at hl5
      obtain ⟨O, hO⟩ : ∃ O, l0.orb = O := ⟨_, rfl⟩
      rw [hO] at HCL HTH hQl hQ2 HSZ HU f1 hO0
      have HO0 := hid_ hO0
      have i0 : (0 : Int) < (T.length : Int) + 1 := by omega
      clear el2 h3 h4 hu hr hlc hp hfx h1l hsuf hpt0 hor0 hT HCAS HKT HKC HKH HLP hO hO0
      obtain ⟨q0, q1, q2, eq⟩ := boxLv_facts w6 (b0 : Int) (.slice ua O.length uc) (.slice va l0.reps.length vc)
      have c0 := eq.cell c0
      have c1 := eq.cell c1
      have HU := hid_ (HU.out.ex eq)
      have HK := hid_ (HK.out.ex eq)
      have HS := hid_ (HS.out.ex eq)
      have HTL := hid_ (HTL.out.ex eq)
      have EX := hid_ (EX.out.trans eq)
      clear eq
      go_wp2_with fail
      obtain ⟨Q1, hQ1⟩ : ∃ Q, w6.heap.size = Q := ⟨_, rfl⟩
      rw [hQ1] at q0 q1 q2
      try simp only [hQ1]
      generalize w6.alloc (.cells #[.int .i64 (b0 : Int), .slice ua O.length uc, .slice va l0.reps.length vc] 74) = w7 at *
      have Q0 := hid_ q0
      have Q1' := hid_ q1
      have C0 := hid_ c0
      have C1 := hid_ c1
      obtain ⟨_, _, ek, _, _, hk3⟩ := HK.out.open
      injection ek with ek1 ek2 ek3
      subst ek1 ek3
      clear ek2
      have HK3 := hid_ hk3
      clear hQ1 q0 q1 q2 c0 c1 f0 f1 f2 hk3
      go_loopw [13, 83] (fun f' j' wr => ∃ (j : Nat) (bb : Bool), j ≤ K.length ∧ f' = .bool bb ∧ j' = .int .i64 j ∧ Hid (∀ i, i < j → K[i]? = some O → bb = true) ∧ Hid (Ex w7 wr)) (fun _ j' _ => K.length - (intOf j').toNat)
      case atStart => exact ⟨0, false, by omega, rfl, rfl, hid_ (fun i h => by omega), hid_ (Ex.refl _)⟩
      case round =>
        obtain ⟨j, bb, hj, rfl, rfl, hall, hex⟩ := hrel
        have q0 := hex.out.cell Q0.out
        have q1 := hex.out.cell Q1'.out
        by_cases hjl : j < K.length
        · obtain ⟨o, ho⟩ : ∃ o, K[j]? = some o := ⟨_, List.getElem?_eq_getElem hjl⟩
          obtain ⟨kb, ko, rfl, hkc⟩ := HK3.out (by omega)
          obtain ⟨y, d1, hy⟩ := hkc j o ho
          have d1 := hex.out.cell d1
          have hy := hy.ex hex.out
          have hcl := HCL.out o (List.mem_of_getElem? ho)
          have HSI := hid_ (fun n' => SameInts_any (wr.drewN n') o O y _ (hy.ex ((Ex.refl wr).drewN n')) ((HU.out.ex hex.out).ex ((Ex.refl wr).drewN n')))
          obtain ⟨ya, yc, rfl, _, _, hy3⟩ := hy.open
          have i1 : (0 : Int) ≤ (j : Int) := by omega
          have i2 : (j : Int) < (K.length : Int) := by omega
          have HJL := hid_ hjl
          have HOJ := hid_ ho
          have HY3 := hid_ hy3
          have HNXT := hid_ (show o ≠ O → bb = false → ∀ i, i < j + 1 → K[i]? = some O → false = true from fun hne hb i hi hk => by
            by_cases e : i = j
            · subst e; rw [ho] at hk; injection hk with hk; exact absurd hk hne
            · have := hall.out i (by omega) hk; rw [hb] at this; exact this)
          clear hkc ho hy hy3 hall
          rcases hcl with hA | ⟨z, hz1, hz2, hz3⟩ | ⟨hz1, hz2, hz3⟩
          · have a1 : decide ((1 : Int) < (o.length : Int)) = false := decide_eq_false (by omega)
            have a2 : ¬ (1 : Int) < (o.length : Int) := by omega
            have HNE := hid_ (show o ≠ O from fun e => by rw [e] at hA; omega)
            clear hA
            cases bb with
            | true =>
              go_wp2_with fail
              go_quiet (fail)
              go_wp2_with fail
              generalize hW2 : wr.drewN _ = W2
              have X2 : Ex wr W2 := by rw [← hW2]; exact (Ex.refl wr).drewN _
              have q0 := X2.cell q0
              have X2 := hid_ X2
              clear hW2
              go_quiet (fail)
              go_wp2_with fail
              refine ⟨?_, ?_⟩
              · (repeat apply Exists.intro)
                refine ⟨⟨j + 1, true, HJL.out, rfl, ?_, hid_ (fun _ _ _ => rfl), hid_ (hex.out.trans (X2.out.trans ((Ex.refl W2).drewN _)))⟩, rfl⟩
                go_num
              · have hjl := HJL.out
                simp [intOf]
                omega
            | false =>
              have HNX := hid_ (HNXT.out HNE.out rfl)
              go_wp2_with fail
              go_quiet (fail)
              go_wp2_with fail
              generalize hW2 : wr.drewN _ = W2
              have X2 : Ex wr W2 := by rw [← hW2]; exact (Ex.refl wr).drewN _
              have q0 := X2.cell q0
              have X2 := hid_ X2
              clear hW2
              go_quiet (fail)
              go_wp2_with fail
              refine ⟨?_, ?_⟩
              · (repeat apply Exists.intro)
                refine ⟨⟨j + 1, false, HJL.out, rfl, ?_, HNX, hid_ (hex.out.trans (X2.out.trans ((Ex.refl W2).drewN _)))⟩, rfl⟩
                go_num
              · have hjl := HJL.out
                simp [intOf]
                omega
          · obtain ⟨yb, yo, rfl, hyc⟩ := HY3.out (by omega)
            have d2 := hyc 0 _ hz2
            rw [Nat.add_zero] at d2
            have a1 : decide ((1 : Int) < (o.length : Int)) = true := decide_eq_true (by omega)
            have a2 : (1 : Int) < (o.length : Int) := by omega
            have a0 : (0 : Int) < (o.length : Int) := by omega
            have a3 : ((z : Int) == (b0 : Int)) = false := by rw [beq_eq_false_iff_ne]; omega
            have a4 : decide ((z : Int) < (b0 : Int)) = false := decide_eq_false (by omega)
            have a5 : decide (z < b0) = false := decide_eq_false (by omega)
            have a6 : ¬ (z : Int) < (b0 : Int) := by omega
            have HNE := hid_ (show o ≠ O from fun e => by
              rw [e, HO0.out] at hz2
              injection hz2 with hz2
              omega)
            clear hyc hz2
            cases bb with
            | true =>
              go_wp2_with fail
              go_quiet (fail)
              go_wp2_with fail
              generalize hW2 : wr.drewN _ = W2
              have X2 : Ex wr W2 := by rw [← hW2]; exact (Ex.refl wr).drewN _
              have q0 := X2.cell q0
              have d2 := X2.cell d2
              have X2 := hid_ X2
              clear hW2
              go_quiet (fail)
              go_wp2_with fail
              refine ⟨?_, ?_⟩
              · (repeat apply Exists.intro)
                refine ⟨⟨j + 1, true, HJL.out, rfl, ?_, hid_ (fun _ _ _ => rfl), hid_ (hex.out.trans (X2.out.trans ((Ex.refl W2).drewN _)))⟩, rfl⟩
                go_num
              · have hjl := HJL.out
                simp [intOf]
                omega
            | false =>
              have HNX := hid_ (HNXT.out HNE.out rfl)
              go_wp2_with fail
              go_quiet (fail)
              go_wp2_with fail
              generalize hW2 : wr.drewN _ = W2
              have X2 : Ex wr W2 := by rw [← hW2]; exact (Ex.refl wr).drewN _
              have q0 := X2.cell q0
              have d2 := X2.cell d2
              have X2 := hid_ X2
              clear hW2
              go_quiet (fail)
              go_wp2_with fail
              refine ⟨?_, ?_⟩
              · (repeat apply Exists.intro)
                refine ⟨⟨j + 1, false, HJL.out, rfl, ?_, HNX, hid_ (hex.out.trans (X2.out.trans ((Ex.refl W2).drewN _)))⟩, rfl⟩
                go_num
              · have hjl := HJL.out
                simp [intOf]
                omega
          · obtain ⟨yb, yo, rfl, hyc⟩ := HY3.out (by omega)
            have d2 := hyc 0 _ hz2
            rw [Nat.add_zero] at d2
            have a1 : decide ((1 : Int) < (o.length : Int)) = true := decide_eq_true (by omega)
            have a2 : (1 : Int) < (o.length : Int) := by omega
            have a0 : (0 : Int) < (o.length : Int) := by omega
            have a3 : ((b0 : Int) == (b0 : Int)) = true := by simp
            have a4 : decide ((b0 : Int) < (b0 : Int)) = false := decide_eq_false (by omega)
            have a5 : decide (b0 < b0) = false := decide_eq_false (by omega)
            have a6 : ¬ (b0 : Int) < (b0 : Int) := by omega
            rw [decide_eq_true hz3] at HSI
            clear hyc hz2 hz3
            cases bb with
            | true =>
              go_wp2_with fail
              go_quiet (fail)
              go_wp2_with fail
              generalize hW2 : wr.drewN _ = W2
              have X2 : Ex wr W2 := by rw [← hW2]; exact (Ex.refl wr).drewN _
              have q0 := X2.cell q0
              have d2 := X2.cell d2
              have X2 := hid_ X2
              clear hW2
              go_quiet (fail)
              go_wp2_with fail
              refine ⟨?_, ?_⟩
              · (repeat apply Exists.intro)
                refine ⟨⟨j + 1, true, HJL.out, rfl, ?_, hid_ (fun _ _ _ => rfl), hid_ (hex.out.trans (X2.out.trans ((Ex.refl W2).drewN _)))⟩, rfl⟩
                go_num
              · have hjl := HJL.out
                simp [intOf]
                omega
            | false =>
              go_wp2_with fail
              go_quiet ((go_at_call 15; exact quiet_draw (HSI.out _)))
              go_wp2_with fail
              generalize hW2 : wr.drewN _ = W2
              have X2 : Ex wr W2 := by rw [← hW2]; exact (Ex.refl wr).drewN _
              have q0 := X2.cell q0
              have d2 := X2.cell d2
              have X2 := hid_ X2
              clear hW2
              go_quiet (fail)
              go_wp2_with fail
              refine ⟨?_, ?_⟩
              · (repeat apply Exists.intro)
                refine ⟨⟨j + 1, true, HJL.out, rfl, ?_, hid_ (fun _ _ _ => rfl), hid_ (hex.out.trans (X2.out.trans ((Ex.refl W2).drewN _)))⟩, rfl⟩
                go_num
              · have hjl := HJL.out
                simp [intOf]
                omega
        · obtain rfl : j = K.length := by omega
          obtain ⟨i, hi, e⟩ := List.getElem_of_mem HTH.out
          have hbt := hall.out i hi (by rw [List.getElem?_eq_getElem hi, e])
          subst hbt
          have c0 := hex.out.cell C0.out
          have c1 := hex.out.cell C1.out
          by_cases hcc : cc = 1
          · have HT0 := hid_ (show T.length = 0 from by simp at hl4; omega)
            obtain ⟨r0, r1, eb⟩ := boxCh_facts wr D (.slice (some ⟨lb, lo, none⟩) T.length 0)
            have HTW := hid_ ((LSl.tail1 (a := some ⟨lb, lo, none⟩) (w := wr) HT0.out).ex eb)
            have HSW := hid_ ((HS.out.ex hex.out).ex eb)
            have EX := hid_ (EX.out.trans (hex.out.trans eb))
            have q0 := eb.cell q0
            have q1 := eb.cell q1
            have i5 : (1 : Int) ≤ (T.length : Int) + 1 := by omega
            have e1 : IntKind.u64.wrap (O.length : Int) = (O.length : Int) := by rw [IntKind.wrap_u64]; omega
            clear eb hi e hall
            go_wp2_with fail
            generalize wr.alloc (.cells #[.int .i64 D, .slice (some ⟨lb, lo, none⟩) T.length 0] 46) = w8 at *
            refine (Size_ok w8 D T _ HTW.out HTG.out HTK.out).mono ?_
            rintro e w9 ⟨ta, tn, tc, rfl, ht, hx⟩
            have HT := hid_ ht
            have HSW := hid_ (HSW.out.ex hx)
            have EX := hid_ (EX.out.trans hx)
            have q0 := hx.cell q0
            have q1 := hx.cell q1
            clear ht hx
            go_wp2_with fail
            refine (Of_any w9 O.length (by omega)).mono ?_
            rintro e w10 ⟨⟨u, rfl, hu⟩, hx⟩
            obtain ⟨_, _, _, _, h5⟩ := id hu
            obtain ⟨oa, oc, rfl, _, _, _⟩ := h5.open
            have HM := hid_ (nMul2 (HT.out.ex hx) hu HSM.out.2 (smallN_of (by omega)) (by rw [← HSZ.out]; exact HSM.out.1) 53)
            have HSW := hid_ (HSW.out.ex hx)
            have EX := hid_ (EX.out.trans hx)
            clear hu hx h5
            go_wp2_with fail
            refine HM.out.mono ?_
            rintro e w11 ⟨⟨u, rfl, hu⟩, hx⟩
            obtain ⟨_, _, _, _, h5⟩ := id hu
            obtain ⟨pa, pc, rfl, _, _, _⟩ := h5.open
            have HP := hid_ hu
            have HSW := hid_ (HSW.out.ex hx)
            have EX := hid_ (EX.out.trans hx)
            clear hu hx h5
            go_wp2_with fail
            refine (rCmp_any w11 _ _ _ _ HP.out HSW.out (by rw [← HSZ.out]; exact HSM.out.1) HSM.out.1).mono ?_
            rintro e w12 ⟨⟨z, rfl, hz⟩, rfl⟩
            obtain rfl : z = 0 := hz.2 HSZ.out.symm
            go_wp2_with fail
            go_ret
            exact ⟨rfl, EX.out⟩
          · have hT0 : ¬ cc = 1 := hcc
            obtain ⟨r0, r1, eb⟩ := boxCh_facts wr D (.slice (some ⟨lb, lo + 3, none⟩) T.length (cc - 1))
            have HTW := hid_ ((HTL.out.ex hex.out).ex eb)
            have HSW := hid_ ((HS.out.ex hex.out).ex eb)
            have EX := hid_ (EX.out.trans (hex.out.trans eb))
            have q0 := eb.cell q0
            have q1 := eb.cell q1
            have i5 : (1 : Int) ≤ (T.length : Int) + 1 := by omega
            have e1 : IntKind.u64.wrap (O.length : Int) = (O.length : Int) := by rw [IntKind.wrap_u64]; omega
            clear eb hi e hall
            go_wp2_with fail
            generalize wr.alloc (.cells #[.int .i64 D, .slice (some ⟨lb, lo + 3, none⟩) T.length (cc - 1)] 46) = w8 at *
            refine (Size_ok w8 D T _ HTW.out HTG.out HTK.out).mono ?_
            rintro e w9 ⟨ta, tn, tc, rfl, ht, hx⟩
            have HT := hid_ ht
            have HSW := hid_ (HSW.out.ex hx)
            have EX := hid_ (EX.out.trans hx)
            have q0 := hx.cell q0
            have q1 := hx.cell q1
            clear ht hx
            go_wp2_with fail
            refine (Of_any w9 O.length (by omega)).mono ?_
            rintro e w10 ⟨⟨u, rfl, hu⟩, hx⟩
            obtain ⟨_, _, _, _, h5⟩ := id hu
            obtain ⟨oa, oc, rfl, _, _, _⟩ := h5.open
            have HM := hid_ (nMul2 (HT.out.ex hx) hu HSM.out.2 (smallN_of (by omega)) (by rw [← HSZ.out]; exact HSM.out.1) 53)
            have HSW := hid_ (HSW.out.ex hx)
            have EX := hid_ (EX.out.trans hx)
            clear hu hx h5
            go_wp2_with fail
            refine HM.out.mono ?_
            rintro e w11 ⟨⟨u, rfl, hu⟩, hx⟩
            obtain ⟨_, _, _, _, h5⟩ := id hu
            obtain ⟨pa, pc, rfl, _, _, _⟩ := h5.open
            have HP := hid_ hu
            have HSW := hid_ (HSW.out.ex hx)
            have EX := hid_ (EX.out.trans hx)
            clear hu hx h5
            go_wp2_with fail
            refine (rCmp_any w11 _ _ _ _ HP.out HSW.out (by rw [← HSZ.out]; exact HSM.out.1) HSM.out.1).mono ?_
            rintro e w12 ⟨⟨z, rfl, hz⟩, rfl⟩
            obtain rfl : z = 0 := hz.2 HSZ.out.symm
            go_wp2_with fail
            go_ret
            exact ⟨rfl, EX.out⟩
  · have h : (4 : Int) < (rows.length : Int) := by omega
    go_enter Try.func11, Try.ntmps11
    go_wp2_with fail
    refine (awake_any w).mono ?_
    rintro e w1 ⟨rfl, hx⟩
    have EX := hid_ hx
    clear hx
    go_wp2_with fail
    refine (awake_any w1).mono ?_
    rintro e w2 ⟨rfl, hx⟩
    have EX := hid_ (EX.out.trans hx)
    clear hx
    go_wp2_with fail
    go_ret
    exact ⟨rfl, EX.out⟩
end Go.Proofs.Ytgfdhclpffakfaa
