/- Plain: sums over a permutation; linear combinations; the image of a word under a monomial map. -/
/- Walk of field.Check. -/
/- Walks of the reference's ref9.Few and ref9.Check (turned from PeelT). -/
import Derived.Test.YtgdmlmhpineibaaGreatZc10
import Derived.Test.YtgdmlmhpineibaaGreatZc12
import Derived.Test.YtgdmlmhpineibaaGreatZc16
import Derived.Test.YtgdmlmhpineibaaGreatZc25
namespace Go.Proofs.YtgdmlmhpineibaaGreat
set_option linter.unusedVariables false
set_option linter.unusedSimpArgs false
open Go.RowKit

section
variable {p m : Nat} {ml : List Int} {N R : Nat}
/-- The sum of the first n values. -/
def ks (p m : Nat) (g : Nat → Nat) : Nat → Nat
  | 0 => 0
  | n + 1 => kadd p m (ks p m g n) (g n)
theorem ks_lt (hp : 1 ≤ p) (g : Nat → Nat) : ∀ n, ks p m g n < p ^ m
  | 0 => Nat.pow_pos (by omega)
  | n + 1 => kadd_lt hp _ _
theorem ks_congr {g h : Nat → Nat} : ∀ n, (∀ j, j < n → g j = h j) → ks p m g n = ks p m h n
  | 0, _ => rfl
  | n + 1, e => by
    show kadd p m _ _ = kadd p m _ _
    rw [ks_congr n fun j hj => e j (by omega), e n (by omega)]
theorem dt_ks (f x : Nat → Int) : dt p m ml N f x = ks p m (fun j => kmul p m (lw ml) (kin (p ^ m) (f j)) (kin (p ^ m) (x j))) N := by
  have key : ∀ n, n ≤ N → dtK p m ml N f x n = ks p m (fun j => kmul p m (lw ml) (kin (p ^ m) (f j)) (kin (p ^ m) (x j))) n := fun n => by
    induction n with
    | zero => intro _; rw [dtK_zero]; rfl
    | succ n ih =>
      intro hn
      rw [dtK_succ _ _ (by omega), ih (by omega)]
      rfl
  rw [← dtK_all, key N (Nat.le_refl _)]
/-- The sum over a list. -/
def ksL (p m : Nat) (g : Nat → Nat) (l : List Nat) : Nat := l.foldr (fun j s => kadd p m s (g j)) 0
theorem ksL_lt (hp : 1 ≤ p) (g : Nat → Nat) : ∀ l, ksL p m g l < p ^ m
  | [] => Nat.pow_pos (by omega)
  | j :: l => kadd_lt hp _ _
theorem ksL_app (hp : 1 ≤ p) (g : Nat → Nat) : ∀ l k, ksL p m g (l ++ k) = kadd p m (ksL p m g l) (ksL p m g k)
  | [], k => by
    show ksL p m g k = kadd p m 0 _
    rw [zero_kadd hp (ksL_lt hp g k)]
  | j :: l, k => by
    show kadd p m (ksL p m g (l ++ k)) (g j) = kadd p m (kadd p m (ksL p m g l) (g j)) _
    rw [ksL_app hp g l k, kadd_assoc hp, kadd_assoc hp, kadd_comm (ksL p m g k)]
theorem ksL_range (hp : 1 ≤ p) {g : Nat → Nat} (hg : ∀ j, g j < p ^ m) : ∀ n, ksL p m g (List.range n) = ks p m g n
  | 0 => rfl
  | n + 1 => by
    rw [List.range_succ, ksL_app hp, ksL_range hp hg n]
    show kadd p m _ (kadd p m 0 (g n)) = kadd p m _ _
    rw [zero_kadd hp (hg n)]
theorem ksL_perm (hp : 1 ≤ p) (g : Nat → Nat) {l k : List Nat} (h : l.Perm k) : ksL p m g l = ksL p m g k := by
  induction h with
  | nil => rfl
  | @cons x l1 l2 _ ih => show kadd p m (ksL p m g l1) (g x) = kadd p m (ksL p m g l2) (g x); rw [ih]
  | swap x y l =>
    show kadd p m (kadd p m (ksL p m g l) (g x)) (g y) = kadd p m (kadd p m (ksL p m g l) (g y)) (g x)
    rw [kadd_assoc hp, kadd_assoc hp, kadd_comm (g x)]
  | trans _ _ i1 i2 => rw [i1, i2]
theorem ksL_map (g : Nat → Nat) (f : Nat → Nat) : ∀ l : List Nat, ksL p m g (l.map f) = ksL p m (fun j => g (f j)) l
  | [] => rfl
  | j :: l => by show kadd p m (ksL p m g (l.map f)) (g (f j)) = kadd p m (ksL p m (fun j => g (f j)) l) (g (f j)); rw [ksL_map g f l]
/-- An injective map of the first N numbers. -/
structure InjN (N : Nat) (π : Nat → Nat) : Prop where
  lt : ∀ i, i < N → π i < N
  inj : ∀ i j, i < N → j < N → π i = π j → i = j
theorem InjN.perm {π : Nat → Nat} (h : InjN N π) : ((List.range N).map π).Perm (List.range N) := by
  have hnd : ((List.range N).map π).Nodup := nodup_range_map fun i j hj hij e => by
    have := h.inj i j (by omega) hj e; omega
  have hmem : ∀ x, x < N → x ∈ (List.range N).map π := fun x hx => by
    have := pigeon N (((List.range N).map π).map (· + 1)) (by
      rw [List.map_map]
      exact nodup_range_map fun i j hj hij e => by
        have e : π i + 1 = π j + 1 := e
        have := h.inj i j (by omega) hj (by omega); omega) (by simp) (fun y hy => by
      obtain ⟨z, hz, rfl⟩ := List.mem_map.1 hy
      obtain ⟨i, hi, rfl⟩ := List.mem_map.1 hz
      have := h.lt i (List.mem_range.1 hi)
      omega) (x + 1) (by omega) (by omega)
    obtain ⟨z, hz, e⟩ := List.mem_map.1 this
    have : z = x := by have e : z + 1 = x + 1 := e; omega
    rw [← this]; exact hz
  refine (List.perm_ext_iff_of_nodup hnd List.nodup_range).2 fun x => ⟨fun hx => ?_, fun hx => hmem x (List.mem_range.1 hx)⟩
  obtain ⟨i, hi, rfl⟩ := List.mem_map.1 hx
  exact List.mem_range.2 (h.lt i (List.mem_range.1 hi))
theorem InjN.surj {π : Nat → Nat} (h : InjN N π) {j : Nat} (hj : j < N) : ∃ i, i < N ∧ π i = j := by
  have := h.perm.mem_iff.2 (List.mem_range.2 hj)
  obtain ⟨i, hi, e⟩ := List.mem_map.1 this
  exact ⟨i, List.mem_range.1 hi, e⟩
theorem InjN.sum (hp : 1 ≤ p) {π : Nat → Nat} (h : InjN N π) {g : Nat → Nat} (hg : ∀ j, g j < p ^ m) : ks p m (fun i => g (π i)) N = ks p m g N := by
  rw [← ksL_range hp hg, ← ksL_range hp fun i => hg (π i), ← ksL_map, ksL_perm hp g h.perm]
/-- The word with the values at the images of the first k positions. -/
def plc (π : Nat → Nat) (v : Nat → Int) : Nat → Nat → Int
  | 0 => fun _ => 0
  | k + 1 => upd (plc π v k) (π k) (v k)
theorem plc_at {π : Nat → Nat} (h : InjN N π) (v : Nat → Int) : ∀ k, k ≤ N → ∀ i, i < k → plc π v k (π i) = v i
  | 0, _, i, hi => by omega
  | k + 1, hk, i, hi => by
    show upd (plc π v k) (π k) (v k) (π i) = v i
    by_cases e : i = k
    · subst e; exact upd_same _ _ _
    · rw [upd_ne _ _ fun e2 => e (h.inj i k (by omega) (by omega) e2)]
      exact plc_at h v k (by omega) i (by omega)
/-- The product of an image with a word: the product with the word pulled back. -/
theorem dt_plc (hp : 1 ≤ p) {π : Nat → Nat} (h : InjN N π) (v x : Nat → Int) : dt p m ml N (plc π v N) x = dt p m ml N v (fun i => x (π i)) := by
  rw [dt_ks, dt_ks, ← h.sum hp fun j => kmul_lt hp _ _]
  exact ks_congr N fun i hi => by rw [plc_at h v N (Nat.le_refl _) i hi]
end
end Go.Proofs.YtgdmlmhpineibaaGreat
namespace Go.Proofs.YtgdmlmhpineibaaGreat
set_option linter.unusedVariables false
set_option linter.unusedSimpArgs false
open Go.RowKit

theorem chk_one {p m : Int} {ml : List Int} (h : ¬ FldB p m ml) : chkS p m ml = 1 := by
  have h1 : chkS p m ml ≠ 0 := fun e => h ((chk_iff p m ml).1 e)
  unfold chkS at h1 ⊢
  split
  · rename_i h2; rw [if_pos h2] at h1; exact absurd rfl h1
  · rfl
set_option maxRecDepth 100000 in
set_option maxHeartbeats 4000000 in
theorem FCheck_any (w : World) (p m : Int) (ml : List Int) (mv : Value) (hmv : ISl w mv ml) :
    Calls Tryz.prog 118 #[.agg #[.int .i64 p, .int .i64 m, mv]] w fun r w' => r = .returned (.int .i64 (chkS p m ml)) ∧ Ex w w' := by
  obtain ⟨a0, a1, a2, ea, -⟩ := box_facts w p m mv
  have HE := hid_ ea
  have HMV := hid_ (hmv.ex ea)
  have HSH := hid_ (fun w' (h : ISl w' mv ml) => shape_any p m ml mv w' h)
  have hord := order_any p m
  obtain ⟨R, hR⟩ : ∃ R, chkS p m ml = R := ⟨_, rfl⟩
  rw [hR]
  by_cases hs : shB p m ml = true
  · obtain ⟨pn, mn, rfl, rfl, hf, hpr, ho⟩ := shB_FSh hs
    rw [ho] at hord
    rw [hs] at HSH
    have HOR := hid_ hord
    have HGN := hid_ (fun w' (h : ISl w' mv ml) => generator_any pn mn ml mv w' hf h)
    obtain ⟨B, hB⟩ : ∃ B : Bool, (B = true ↔ R = 1) ∧ (B = false ↔ R = 0) ∧ ∀ w' v, GenOut pn mn ml w' v → ∃ ga gn gc, v = .slice ga gn gc ∧ ga.isNone = B := by
      by_cases hF : IsF pn mn (lw ml)
      · have h0 := (chk_iff _ _ _).2 ⟨pn, mn, rfl, rfl, hf, hpr, hF⟩
        rw [hR] at h0
        subst h0
        refine ⟨false, by simp, by simp, fun w' v h => ?_⟩
        rcases h with ⟨x, x1, x2, hgx, hgv⟩ | ⟨hno, rfl⟩
        · obtain ⟨ga, gc, rfl, g1, g2, g3⟩ := hgv.open
          obtain ⟨gb, gof, rfl, g4⟩ := g3 (by rw [il_length]; have := one_lt_q hf.p2 hf.m1; omega)
          exact ⟨_, _, _, rfl, rfl⟩
        · exact absurd hF hno
      · have h0 : chkS pn mn ml = 1 := chk_one fun ⟨a, b, e1, e2, _, _, h⟩ => by
          have e1' : pn = a := by omega
          have e2' : mn = b := by omega
          subst e1'; subst e2'; exact hF h
        rw [hR] at h0
        subst h0
        refine ⟨true, by simp, by simp, fun w' v h => ?_⟩
        rcases h with ⟨x, x1, x2, hgx, hgv⟩ | ⟨hno, rfl⟩
        · exact absurd ⟨x, x1, x2, hgx⟩ hF
        · exact ⟨_, _, _, rfl, rfl⟩
    have HB := hid_ hB
    have hE := fun w (a : Option Addr) (l c : Nat) => run_eql_slice_nil (P := Tryz.prog) w 22 3 a l c Tryz.underlying22
    clear hord hf hpr ho hs hB hR hmv ea
    obtain ⟨q, hqq⟩ : ∃ q, pn ^ mn = q := ⟨_, rfl⟩
    rw [hqq] at HOR HGN
    clear hqq
    go_enter Tryz.func118, Tryz.ntmps118
    go_wp2_with fail
    obtain ⟨xb, hxb⟩ : ∃ xb, w.heap.size = xb := ⟨_, rfl⟩
    rw [hxb] at a0 a1 a2
    try simp only [hxb]
    clear hxb
    generalize w.alloc (.cells #[.int .i64 pn, .int .i64 mn, mv] 24) = w1 at *
    have G0 : Ex w1 w1.drew := (Ex.refl w1).drew
    have A0 := hid_ a0
    have A1 := hid_ a1
    have A2 := hid_ a2
    first | go_region_with ((first
        | (go_at_call 135; (with_reducible refine (HSH.out _ (HMV.out.ex G0)).mono ?_); rintro e w2 ⟨rfl, h2⟩; have X2 := G0.trans h2; have b0 := X2.cell A0.out; have b1 := X2.cell A1.out; have b2 := X2.cell A2.out; clear h2)
        | (go_at_call 136; (with_reducible refine (HOR.out _).mono ?_); rintro e w3 ⟨rfl, rfl⟩)
        | (go_at_call 137; (with_reducible refine (HGN.out _ (HMV.out.ex X2)).mono ?_); rintro e w3 ⟨gv, rfl, hgo, hx3⟩; have X3 := X2.trans hx3; obtain ⟨ga, gn, gc, rfl, hgb⟩ := HB.out.2.2 _ _ hgo; have hE' := fun w => hE w ga gn gc; rw [hgb] at hE'; clear hgo hx3))) | fail
    all_goals
      cases B with
      | true =>
        obtain rfl := HB.out.1.1 rfl
        go_wp2_with fail
        go_ret
        exact ⟨rfl, HE.out.trans X3⟩
      | false =>
        obtain rfl := HB.out.2.1.1 rfl
        go_wp2_with fail
        go_ret
        exact ⟨rfl, HE.out.trans X3⟩
  · have hs : shB p m ml = false := by simpa using hs
    rw [hs] at HSH
    have hr := chk_bad (p := p) (m := m) hs
    rw [hR] at hr
    subst hr
    clear hs hord hR hmv ea
    go_enter Tryz.func118, Tryz.ntmps118
    go_wp2_with fail
    obtain ⟨xb, hxb⟩ : ∃ xb, w.heap.size = xb := ⟨_, rfl⟩
    rw [hxb] at a0 a1 a2
    try simp only [hxb]
    clear hxb
    generalize w.alloc (.cells #[.int .i64 p, .int .i64 m, mv] 24) = w1 at *
    have G0 : Ex w1 w1.drew := (Ex.refl w1).drew
    first | go_region_with ((go_at_call 135; (with_reducible refine (HSH.out _ (HMV.out.ex G0)).mono ?_); rintro e w2 ⟨rfl, h2⟩; have X2 := G0.trans h2; clear h2)) | fail
    all_goals
      go_wp2_with fail
      go_ret
      exact ⟨rfl, HE.out.trans X2⟩
end Go.Proofs.YtgdmlmhpineibaaGreat
namespace Go.Proofs.YtgdmlmhpineibaaGreat
set_option linter.unusedVariables false
set_option linter.unusedSimpArgs false
open Go.RowKit

set_option maxRecDepth 100000 in
set_option maxHeartbeats 4000000 in
theorem rChkM_any (p m : Int) (ml : List Int) (mv : Value) (w : World) (hmv : ISl w mv ml) (cols : Int) (rows : List (List Int)) (v : Value) (hv : MSl w v rows) :
    Calls Tryz.prog 122 #[.agg #[.int .i64 p, .int .i64 m, mv], .agg #[.int .i64 cols, v]] w fun r w' => ∃ e, r = .returned (.int .i64 e) ∧ ChkOut p m ml cols rows e ∧ Ex w w' := by
  obtain ⟨g0, g1, g2, e0, gsz⟩ := box_facts w p m mv
  have HMV := hid_ hmv
  have HV := hid_ hv
  obtain ⟨za, zc, rfl, z1, z2, z3⟩ := hv.open
  have Z3 := hid_ z3
  unfold maxLen at z2
  obtain ⟨xb, hxb⟩ : ∃ xb, w.heap.size = xb := ⟨_, rfl⟩
  rw [hxb] at g0 g1 g2 gsz
  have HCH := hid_ (fun w' h => rCheck_any p m ml mv w' h)
  have HCI := hid_ (chk_iff p m ml)
  have HC01 := hid_ (show chkS p m ml = 0 ∨ chkS p m ml = 1 by unfold chkS; split <;> simp)
  clear hmv hv z3
  go_enter Tryz.func122, Tryz.ntmps122
  go_wp2_with fail
  try simp only [hxb]
  generalize w.alloc (.cells #[.int .i64 p, .int .i64 m, mv] 24) = wA at *
  have a0 : (wA.alloc (.cells #[.int .i64 cols, .slice za rows.length zc] 113)).cell? ⟨xb + 1, 0, none⟩ = some (.int .i64 cols) := by rw [← gsz]; simp
  have a1 : (wA.alloc (.cells #[.int .i64 cols, .slice za rows.length zc] 113)).cell? ⟨xb + 1, 1, none⟩ = some (.slice za rows.length zc) := by rw [← gsz]; simp
  have eA : Ex wA (wA.alloc (.cells #[.int .i64 cols, .slice za rows.length zc] 113)) := (Ex.refl _).alloc _
  generalize wA.alloc (.cells #[.int .i64 cols, .slice za rows.length zc] 113) = wB at *
  have b0 := eA.cell g0
  have b1 := eA.cell g1
  have b2 := eA.cell g2
  have eB := e0.trans eA
  clear g0 g1 g2 e0 eA gsz hxb wA
  refine (HCH.out wB (HMV.out.ex eB)).mono ?_
  rintro r w4 ⟨rfl, hx4⟩
  have c0 := hx4.cell b0
  have c1 := hx4.cell b1
  have c2 := hx4.cell b2
  have c3 := hx4.cell a0
  have c4 := hx4.cell a1
  have EX4 := hid_ (eB.trans hx4)
  clear b0 b1 b2 a0 a1 hx4 eB
  by_cases h0 : chkS p m ml = 0
  · obtain ⟨pn, mn, rfl, rfl, hsh, hpr, hif⟩ := HCI.out.1 h0
    have HFL := hid_ (show FldB pn mn ml from ⟨pn, mn, rfl, rfl, hsh, hpr, hif⟩)
    have HEN := hid_ (fun w' l v (h : ISl w' v l) => rEntries_any (mv := mv) w' hsh l v h)
    have HOUT := hid_ (show ∀ e, e = mchkS (pn ^ mn) cols rows → ChkOut pn mn ml cols rows e from fun e h => .inl ⟨pn, mn, rfl, rfl, HFL.out, h⟩)
    have HE := hid_ (show mchkS (pn ^ mn) cols rows = if cols < 0 ∨ 256 < cols ∨ 256 < (rows.length : Int) then 3
  else if (rows.all fun r => decide ((r.length : Int) = cols)) = true then (if (rows.all fun r => entS (pn ^ mn) r == 0) = true then 0 else 2) else 3 from rfl)
    rw [h0]
    clear h0 hsh hpr hif HCI HC01
    by_cases h : cols < 0 ∨ 256 < cols ∨ 256 < (rows.length : Int)
    · have HR := hid_ (HOUT.out 3 (by rw [HE.out, if_pos h]))
      have hc : cols < 0 ∨ (0 ≤ cols ∧ 256 < cols) ∨ (0 ≤ cols ∧ cols ≤ 256 ∧ 256 < (rows.length : Int)) := by omega
      clear h HE
      rcases hc with hc | ⟨h1, h2⟩ | ⟨h1, h2, h3⟩
      all_goals
        go_wp2_with fail
        go_ret
        exact ⟨_, rfl, HR.out, EX4.out⟩
    · have h1 : 0 ≤ cols := by omega
      have h2 : cols ≤ 256 := by omega
      have h3 : (rows.length : Int) ≤ 256 := by omega
      have d1 : decide (cols < 0) = false := by simp; omega
      have d2 : decide (256 < cols) = false := by simp; omega
      have d3 : decide (256 < (rows.length : Int)) = false := by simp; omega
      have HE2 := hid_ (show mchkS (pn ^ mn) cols rows = if (rows.all fun r => decide ((r.length : Int) = cols)) = true then (if (rows.all fun r => entS (pn ^ mn) r == 0) = true then 0 else 2) else 3 by rw [HE.out, if_neg h])
      have EXR : Ex w4 w4 := Ex.refl _
      clear h HE
      go_wp2_with fail
      go_loopw [6] (fun i' wr => ∃ i : Nat, i ≤ rows.length ∧ i' = .int .i64 i ∧ Hid (∀ (j : Nat) (r : List Int), j < i → rows[j]? = some r → (r.length : Int) = cols) ∧ Ex w4 wr) (fun i' _ => rows.length - (intOf i').toNat)
      case atStart => exact ⟨0, by omega, rfl, hid_ (fun j x h => by omega), EXR⟩
      case round =>
        clear EXR
        obtain ⟨i, hi, rfl, hall, hx⟩ := hrel
        have r0 := hx.cell c3
        have r1 := hx.cell c4
        by_cases hlt : i < rows.length
        · obtain ⟨r, hr⟩ : ∃ r, rows[i]? = some r := ⟨_, List.getElem?_eq_getElem hlt⟩
          obtain ⟨bb, o, rfl, hc⟩ := Z3.out (by omega)
          obtain ⟨u, e1, hu⟩ := hc i r hr
          obtain ⟨ua, uc, rfl, u1, u2, u3⟩ := hu.open
          have e2 := (EX4.out.trans hx).cell e1
          have i1 : (0 : Int) ≤ (i : Int) := by omega
          have i2 : (i : Int) < (rows.length : Int) := by omega
          unfold maxLen at u2
          by_cases hl : (r.length : Int) = cols
          · have hb : ((r.length : Int) != cols) = false := by simpa using hl
            have HA := hid_ (show ∀ (j : Nat) (s : List Int), j < i + 1 → rows[j]? = some s → (s.length : Int) = cols from fun j s hj hs => by
              by_cases e : j = i
              · subst e; rw [hr] at hs; injection hs with hs; subst hs; exact hl
              · exact hall.out j s (by omega) hs)
            clear hl hc e1 hu u3 hr
            go_wp2_with fail
            go_quiet (fail)
            go_wp2_with fail
            go_roundw
            case rel => exact ⟨i + 1, by omega, by go_num, HA, hx.drewN _⟩
            case measure => simp [intOf]; omega
          · have hb : ((r.length : Int) != cols) = true := by simpa using hl
            have HF := hid_ (HOUT.out 3 (by
              rw [HE2.out, if_neg]
              intro h
              have := List.all_eq_true.1 h r (List.mem_of_getElem? hr)
              exact hl (by simpa using this)))
            clear hl hc e1 hu u3 hr
            go_wp2_with fail
            go_quiet (fail)
            go_wp2_with fail
            go_ret
            exact ⟨_, rfl, HF.out, (EX4.out.trans hx).drewN _⟩
        · obtain rfl : i = rows.length := by omega
          have HE3 := hid_ (show mchkS (pn ^ mn) cols rows = if (rows.all fun r => entS (pn ^ mn) r == 0) = true then 0 else 2 by
            rw [HE2.out, if_pos]
            rw [List.all_eq_true]
            intro r hr
            obtain ⟨j, hj, e⟩ := List.getElem_of_mem hr
            exact decide_eq_true (hall.out j r hj (by rw [List.getElem?_eq_getElem hj, e])))
          clear hall
          go_wp2_with fail
          obtain ⟨wo, rfl⟩ : ∃ wo : World, wo = wr := ⟨_, rfl⟩
          clear r0 r1
          go_loopw [5, 7] (fun e' i' wr => ∃ i : Nat, i ≤ rows.length ∧ i' = .int .i64 i ∧ e' = .int .i64 0 ∧ Hid (∀ (j : Nat) (r : List Int), j < i → rows[j]? = some r → entS (pn ^ mn) r = 0) ∧ Ex w4 wr) (fun _ i' _ => rows.length - (intOf i').toNat)
          case atStart => exact ⟨0, by omega, rfl, rfl, hid_ (fun j x h => by omega), hx⟩
          case round =>
            clear hx
            obtain ⟨i, hi, rfl, rfl, hall, hx⟩ := hrel
            have r0 := hx.cell c3
            have r1 := hx.cell c4
            have s0 := hx.cell c0
            have s1 := hx.cell c1
            have s2 := hx.cell c2
            by_cases hlt : i < rows.length
            · obtain ⟨r, hr⟩ : ∃ r, rows[i]? = some r := ⟨_, List.getElem?_eq_getElem hlt⟩
              obtain ⟨bb, o, rfl, hc⟩ := Z3.out (by omega)
              obtain ⟨u, e1, hu⟩ := hc i r hr
              have hu2 := hu.ex (EX4.out.trans hx)
              obtain ⟨ua, uc, rfl, u1, u2, u3⟩ := hu.open
              have e2 := (EX4.out.trans hx).cell e1
              have i1 : (0 : Int) ≤ (i : Int) := by omega
              have i2 : (i : Int) < (rows.length : Int) := by omega
              have HEN2 := hid_ (HEN.out wr.drew r _ hu2)
              have hx' := hx.drew
              unfold maxLen at u2
              obtain ⟨ev, hev⟩ : ∃ ev, entS (pn ^ mn) r = ev := ⟨_, rfl⟩
              have hev2 : ev = 0 ∨ ev = 2 := by rw [← hev]; exact entS_ne
              rw [hev] at HEN2
              have HA := hid_ (show ev = 0 → ∀ (j : Nat) (s : List Int), j < i + 1 → rows[j]? = some s → entS (pn ^ mn) s = 0 from fun h0 j s hj hs => by
                by_cases e : j = i
                · subst e; rw [hr] at hs; injection hs with hs; subst hs; rw [hev, h0]
                · exact hall.out j s (by omega) hs)
              have HF := hid_ (show ev ≠ 0 → ChkOut pn mn ml cols rows 2 from fun h0 => HOUT.out 2 (by
                rw [HE3.out, if_neg]
                intro h
                have := List.all_eq_true.1 h r (List.mem_of_getElem? hr)
                rw [hev] at this
                exact h0 (by simpa using this)))
              clear hc e1 hu hu2 u3 hr hev
              go_wp2_with fail
              go_region_held3 (fun w' => w'.cell? ⟨xb, 0, none⟩ = some (.int .i64 pn) ∧ w'.cell? ⟨xb, 1, none⟩ = some (.int .i64 mn) ∧ w'.cell? ⟨xb, 2, none⟩ = some mv ∧ w'.cell? ⟨xb + 1, 1, none⟩ = some (.slice (some ⟨bb, o, none⟩) rows.length zc) ∧ w'.cell? ⟨bb, o + i, none⟩ = some (.slice ua r.length uc))
                (first | exact ⟨s0, s1, s2, r1, e2⟩ | exact ⟨hx5.cell s0, hx5.cell s1, hx5.cell s2, hx5.cell r1, hx5.cell e2⟩)
                ((go_at_call 61; refine HEN2.out.mono ?_; rintro e w5 ⟨rfl, hx5⟩))
              rcases hev2 with h0 | h0
              · subst h0
                have HA2 := hid_ (HA.out rfl)
                go_wp2_with fail
                go_roundw
                case rel => exact ⟨i + 1, by omega, by go_num, rfl, HA2, hx'.trans hx5⟩
                case measure => simp [intOf]; omega
              · subst h0
                have HF2 := hid_ (HF.out (by omega))
                go_wp2_with fail
                go_ret
                exact ⟨_, rfl, HF2.out, EX4.out.trans (hx'.trans hx5)⟩
            · obtain rfl : i = rows.length := by omega
              have HF := hid_ (HOUT.out 0 (by
                rw [HE3.out, if_pos]
                rw [List.all_eq_true]
                intro r hr
                obtain ⟨j, hj, e⟩ := List.getElem_of_mem hr
                rw [hall.out j r hj (by rw [List.getElem?_eq_getElem hj, e])]; rfl))
              go_wp2_with fail
              go_ret
              exact ⟨_, rfl, HF.out, EX4.out.trans hx⟩
  · have h1 : chkS p m ml = 1 := by rcases HC01.out with h | h; exact absurd h h0; exact h
    have HN := hid_ (show ChkOut p m ml cols rows 1 from .inr ⟨fun h => h0 (HCI.out.2 h), rfl⟩)
    rw [h1]
    clear h0 h1 HCI HC01 HCH
    go_wp2_with fail
    go_ret
    exact ⟨_, rfl, HN.out, EX4.out⟩
end Go.Proofs.YtgdmlmhpineibaaGreat
