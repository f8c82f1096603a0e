/- slices.Index, Clone at ints; perm.Size, Sift, Has. -/
import Derived.Test.YtgfdhclpffakfaaGreatZa26
import Derived.Test.YtgfdhclpffakfaaGreatZa29
namespace Go.Proofs.YtgfdhclpffakfaaGreat
set_option linter.unusedVariables false
set_option linter.unusedSimpArgs false
open Go.RowKit

set_option maxRecDepth 100000 in
set_option maxHeartbeats 1000000 in
theorem Index_any (w : World) (l : List Int) (v : Value) (x : Int) (hl : ISl w v l) :
    Calls Tryz.prog 51 #[v, .int .i64 x] w fun r w' => r = .returned (.int .i64 (fstI (fun j => x == l.getD j 0) l.length)) ∧ w = w' := by
  obtain ⟨a, cap, rfl, s1, s2, s3⟩ := hl.open
  have S3 := hid_ s3
  unfold maxLen at s2
  obtain ⟨pr, hpr⟩ : ∃ pr : Nat → Bool, (fun j => x == l.getD j 0) = pr := ⟨_, rfl⟩
  have HPR := hid_ (show ∀ (j : Nat) (y : Int), l[j]? = some y → pr j = (x == y) from fun j y h => by rw [← hpr]; show (x == l.getD j 0) = _; rw [List.getD_eq_getElem?_getD, h]; rfl)
  rw [hpr]
  clear hl s3 hpr
  go_enter Tryz.func51, Tryz.ntmps51
  go_wp2_with fail
  go_loop [5, 8] (fun _ i' => ∃ i : Nat, i ≤ l.length ∧ i' = .int .i64 i ∧ Hid (∀ j, j < i → pr j = false)) (fun _ i' => l.length - (intOf i').toNat)
  case atStart => exact ⟨0, by omega, rfl, hid_ (fun j hj => by omega)⟩
  case round =>
    obtain ⟨i, hi, rfl, hall⟩ := hrel
    by_cases hlt : i < l.length
    · obtain ⟨y, hy⟩ : ∃ y, l[i]? = some y := ⟨_, List.getElem?_eq_getElem hlt⟩
      obtain ⟨bb, o, rfl, hc⟩ := S3.out (by omega)
      have c1 := hc i y hy
      have HP := hid_ (HPR.out i y hy)
      clear hc hy
      cases hb : (x == y) with
      | true =>
        have HF := hid_ (fstI_hit hlt (HP.out.trans hb) hall.out)
        go_wp2_with fail
        go_ret
        exact ⟨ret_int HF.out.symm, rfl⟩
      | false =>
        have HA := hid_ (show ∀ j, j < i + 1 → pr j = false from fun j hj => by
          by_cases e : j = i
          · subst e; exact HP.out.trans hb
          · exact hall.out j (by omega))
        go_wp2_with fail
        go_round
        case rel => exact ⟨i + 1, by omega, by go_num, HA⟩
        case measure => simp [intOf]; omega
    · obtain rfl : i = l.length := by omega
      have HF := hid_ (fstI_miss hall.out)
      go_wp2_with fail
      go_ret
      exact ⟨ret_int HF.out.symm, rfl⟩
theorem ints_vs (l : List Int) : ints l = vs l.length (iv fun j => l.getD j 0) := by
  apply List.ext_getElem?
  intro j
  by_cases h : j < l.length
  · rw [vs_get h]; simp [ints, iv, h, List.getD_eq_getElem?_getD]
  · rw [List.getElem?_eq_none_iff.2 (by rw [ints_length]; omega), List.getElem?_eq_none_iff.2 (by rw [vs_length]; omega)]
set_option maxRecDepth 100000 in
set_option maxHeartbeats 1000000 in
theorem Clone_any (w : World) (l : List Int) (v : Value) (hl : ISl w v l) (hn : 1 ≤ l.length) (hn2 : l.length ≤ 1000) :
    Calls Tryz.prog 32 #[v] w fun r w' => ∃ g cap, r = .returned (.slice (some ⟨g, 0, none⟩) l.length cap) ∧ OwnC w' w.heap.size 3 g l.length cap (iv fun j => l.getD j 0) ∧ Ex w w' := by
  have HL := hid_ hl
  obtain ⟨a, cap, rfl, s1, s2, s3⟩ := hl.open
  obtain ⟨b, o, rfl, _⟩ := s3 (by omega)
  have hnil := fun w' => run_eql_slice_nil (P := Tryz.prog) w' 32 3 (some ⟨b, o, none⟩) l.length cap Tryz.underlying32
  simp only [Option.isNone] at hnil
  have hmi : ∀ u ∈ ints l, u.oneCell' = true := by
    intro u hu; obtain ⟨z, _, rfl⟩ := List.mem_map.1 hu; rfl
  have HON := hid_ hmi
  have HIV := hid_ (ints_vs l)
  clear s3 hl hmi
  go_enter Tryz.func32, Tryz.ntmps32
  go_wp2_with (at_builtin; refine wpList_append_sl _ rfl _ _ 32 rfl w.heap.size 3 (.int .i64 0) 1 8 Tryz.underlying32 infoInt rfl (by decide) _ 0 [] rfl (own_lit0 w 3) (.slice (some ⟨b, o, none⟩) l.length cap) l.length (ints l) rfl (HL.out.ex ((Ex.refl w).alloc _)) HON.out (by unfold maxLen; omega) (by omega) (by simp) ?_)
  intro v1 w1 hown1 hg1 ha1
  have hx1 : Ex w w1 := Ex.grown ((Ex.refl w).alloc _) (own_lit0 w 3) (Nat.le_refl _) hg1
  rw [HIV.out] at hown1
  obtain ⟨g, c2, rfl, hown⟩ := ownC_of hown1 hn
  have HO := hid_ hown
  have HX := hid_ hx1
  clear hown hown1 hg1 ha1 hx1 hnil
  go_wp2_with fail
  go_ret
  exact ⟨g, c2, rfl, HO.out, HX.out⟩
theorem il'_getD {q : List Nat} {j y : Nat} (h : q[j]? = some y) : (il' q).getD j 0 = (y : Int) := by
  rw [List.getD_eq_getElem?_getD, il'_get h]; rfl
theorem idx_hit {q : List Nat} {y : Nat} (h : y ∈ q) : ∃ i : Nat, q[i]? = some y ∧ fstI (fun j => (y : Int) == (il' q).getD j 0) (il' q).length = i := by
  rw [il'_len]
  have key : ∀ k : Nat, (∃ i : Nat, i < k ∧ q[i]? = some y ∧ ∀ j : Nat, j < i → q[j]? ≠ some y) ∨ ∀ j : Nat, j < k → q[j]? ≠ some y := by
    intro k
    induction k with
    | zero => exact .inr fun j h => by omega
    | succ k ih =>
      rcases ih with ⟨i, h1, h2, h3⟩ | h1
      · exact .inl ⟨i, by omega, h2, h3⟩
      · by_cases e : q[k]? = some y
        · exact .inl ⟨k, by omega, e, h1⟩
        · exact .inr fun j hj => by
            by_cases e2 : j = k
            · subst e2; exact e
            · exact h1 j (by omega)
  rcases key q.length with ⟨i, h1, h2, h3⟩ | h1
  · refine ⟨i, h2, fstI_hit h1 (by rw [il'_getD h2]; simp) fun j hj => ?_⟩
    have hq : q[j]? = some (q[j]'(by omega)) := List.getElem?_eq_getElem _
    rw [il'_getD hq]
    have : q[j]'(by omega) ≠ y := fun e => h3 j hj (by rw [hq, e])
    simp; omega
  · obtain ⟨j, hj, e⟩ := List.getElem_of_mem h
    exact absurd (by rw [List.getElem?_eq_getElem hj, e]) (h1 j hj)
theorem idx_miss {q : List Nat} {y : Nat} (h : ¬ y ∈ q) : fstI (fun j => (y : Int) == (il' q).getD j 0) (il' q).length = -1 := by
  rw [il'_len]
  refine fstI_miss fun j hj => ?_
  have hq : q[j]? = some (q[j]'(by omega)) := List.getElem?_eq_getElem _
  rw [il'_getD hq]
  have : q[j]'(by omega) ≠ y := fun e => h (by rw [← e]; exact List.getElem_mem hj)
  simp; omega
/-- The number of elements. -/
def sizL (L : List Lv) : Nat := prodL (L.map fun l => l.orb.length)
theorem sizL_take {L : List Lv} {k : Nat} {l : Lv} (h : L[k]? = some l) : sizL (L.take (k + 1)) = sizL (L.take k) * l.orb.length := by
  unfold sizL
  rw [List.map_take, List.map_take]
  exact prodL_take (by rw [List.getElem?_map, h]; rfl)
theorem lev_orb_le {n : Nat} {S : List (Nat → Nat)} {bs : List Nat} {l : Lv} (h : l ∈ bs.map (levB n S)) : l.orb.length ≤ n := by
  obtain ⟨b, _, rfl⟩ := List.mem_map.1 h
  show (il' (orbM S b n)).length ≤ n
  rw [il'_len]; exact orbM_len S b n
theorem sizL_small {L : List Lv} (h : ∀ l ∈ L, l.orb.length ≤ 64) : ∀ k, k ≤ 64 → SmallN (sizL (L.take k)) := by
  have key : ∀ k, sizL (L.take k) ≤ 64 ^ k := by
    intro k
    induction k with
    | zero => exact Nat.le_refl _
    | succ k ih =>
      by_cases hk : k < L.length
      · have hl : L[k]? = some (L[k]'hk) := List.getElem?_eq_getElem hk
        rw [sizL_take hl, Nat.pow_succ]
        exact Nat.mul_le_mul ih (h _ (List.getElem_mem hk))
      · rw [List.take_of_length_le (by omega)] at ih ⊢
        exact Nat.le_trans ih (Nat.pow_le_pow_right (by omega) (by omega))
  intro k hk
  have h1 : (64 : Nat) ^ k ≤ 64 ^ 64 := Nat.pow_le_pow_right (by omega) hk
  have h2 : (64 : Nat) ^ 64 = B32 ^ 12 := by decide
  have h3 : B32 ^ 12 < B32 ^ 200 := (Nat.pow_lt_pow_iff_right (by decide : 1 < B32)).2 (by omega)
  have := key k
  unfold SmallN
  omega
/-- What Size returns. -/
def SizR (d : Int) (L : List Lv) (r : Ending) (w' : World) : Prop := (chkS d L ≠ 0 ∧ r = .returned (.tuple #[.slice none 0 0, .int .i64 (chkS d L)])) ∨ (chkS d L = 0 ∧ ∃ v, r = .returned (.tuple #[v, .int .i64 0]) ∧ NSl w' v (sizL L))
theorem nml2 {w : World} {u v : Value} {x y : Nat} (hu : NSl w u x) (hv : NSl w v y) (t : TypeId) : NMl (w.alloc (.cells #[u, v] t)) (.slice (some ⟨w.heap.size, 0, none⟩) 2 2) [x, y] := by
  have ea : Ex w (w.alloc (.cells #[u, v] t)) := (Ex.refl _).alloc _
  refine ⟨[u, v], ⟨rfl, _, 2, rfl, Nat.le_refl _, by unfold maxLen; omega, fun _ => ⟨_, 0, rfl, fun j z hz => ?_⟩⟩, fun i z s h1 h2 => ?_⟩
  · match j, hz with
    | 0, hz => simp at hz; subst hz; simp
    | 1, hz => simp at hz; subst hz; simp
    | j + 2, hz => simp at hz
  · match i, h1, h2 with
    | 0, h1, h2 => simp at h1 h2; subst h1 h2; exact hu.ex ea
    | 1, h1, h2 => simp at h1 h2; subst h1 h2; exact hv.ex ea
    | i + 2, h1, h2 => simp at h1
theorem nMul2 {w : World} {u v : Value} {x y : Nat} (hu : NSl w u x) (hv : NSl w v y) (hx : SmallN x) (hy : SmallN y) (hxy : SmallN (x * y)) (t : TypeId) :
    Calls Tryz.prog 50 #[.slice (some ⟨w.heap.size, 0, none⟩) 2 2] (w.alloc (.cells #[u, v] t)) fun r w' => (∃ u, r = .returned u ∧ NSl w' u (x * y)) ∧ Ex w w' := by
  have h := nMul_any _ _ _ (nml2 hu hv t) (fun z hz => by
    simp at hz
    rcases hz with e | e
    · rw [e]; exact hx
    · rw [e]; exact hy) (fun j hj => by
    match j, hj with
    | 0, _ => exact smallN_of (by show (1 : Nat) < _; omega)
    | 1, _ => show SmallN (1 * x); rw [Nat.one_mul]; exact hx
    | 2, _ => show SmallN (1 * x * y); rw [Nat.one_mul]; exact hxy)
  have e : prodL [x, y] = x * y := by show 1 * x * y = _; rw [Nat.one_mul]
  rw [e] at h
  exact h.mono fun r w' ⟨h1, h2⟩ => ⟨h1, ((Ex.refl w).alloc _).trans h2⟩
set_option maxRecDepth 100000 in
set_option maxHeartbeats 4000000 in
theorem Size_any (w : World) (d : Int) (L : List Lv) (lv : Value) (hL : LSl w lv L) (hg : (gensL L).length ≤ 1000) :
    Calls Tryz.prog 22 #[.agg #[.int .i64 d, lv]] w fun r w' => SizR d L r w' ∧ Ex w w' := by
  obtain ⟨d0, d1, e0⟩ := boxCh_facts w d lv
  obtain ⟨za, zc, rfl, z1, z2, z3⟩ := (hL.ex e0).open3
  unfold maxLen at z2
  have HCK := hid_ (CheckChain_any _ d L _ (hL.ex e0) hg)
  have Z3 := hid_ z3
  clear z3 hL
  go_enter Tryz.func22, Tryz.ntmps22
  go_wp2_with fail
  obtain ⟨q, hq⟩ : ∃ q, w.heap.size = q := ⟨_, rfl⟩
  rw [hq] at d0 d1
  try simp only [hq]
  clear hq
  generalize w.alloc (.cells #[.int .i64 d, .slice za L.length zc] 24) = w1 at *
  have HE0 := hid_ e0
  clear e0
  refine HCK.out.mono ?_
  rintro e w2 ⟨rfl, hx2⟩
  have d1 := hx2.cell d1
  have HX2 := hid_ hx2
  obtain ⟨E, hE⟩ : ∃ E, chkS d L = E := ⟨_, rfl⟩
  rw [hE]
  by_cases h0 : E = 0
  · subst h0
    obtain ⟨n, rfl, hn1, hn2, S, hS, hgl, hLS⟩ := chkS_ok hE
    have hol : ∀ l ∈ L, l.orb.length ≤ n := fun l hl => lev_orb_le (hLS ▸ hl)
    have hll : L.length ≤ n := by
      rw [hLS, List.length_map]
      unfold ptsK
      have := List.length_filter_le (fun b => decide (1 < (orbM S b n).length)) (List.range n)
      rw [List.length_range] at this
      exact this
    have HOL := hid_ hol
    have HSM := hid_ (sizL_small (L := L) fun l hl => by have := hol l hl; omega)
    have D1 := hid_ d1
    have HE := hid_ hE
    have HOF := hid_ (Of_any w2 1 (by omega))
    clear hx2 hE hol hLS hgl hS d0
    go_wp2_with (go_at_call 49; refine HOF.out.mono ?_; rintro e w3 ⟨⟨u, rfl, hu⟩, hx3⟩; have HU := hid_ hu; have HX3 := hid_ hx3; have d1 := hx3.cell D1.out; clear hu hx3)
    clear d1
    go_loopw [5, 17] (fun p' k' wr => ∃ (k : Nat), k ≤ L.length ∧ k' = .int .i64 k ∧ Hid (NSl wr p' (sizL (L.take k))) ∧ Hid (Ex w3 wr)) (fun _ k' _ => L.length - (intOf k').toNat)
    case atStart => exact ⟨0, by omega, rfl, HU, hid_ (Ex.refl _)⟩
    case round =>
      clear HU
      obtain ⟨k, hk, rfl, hn, hex⟩ := hrel
      obtain ⟨pn, pf, _, _, hp3⟩ := id hn.out
      obtain ⟨pa, pc, rfl, _, _, _⟩ := hp3.open
      clear hp3
      by_cases hkl : k < L.length
      · obtain ⟨l, hl⟩ : ∃ l, L[k]? = some l := ⟨_, List.getElem?_eq_getElem hkl⟩
        obtain ⟨zb, zo, rfl, hzc⟩ := Z3.out (by omega)
        have EXX := hid_ (HX2.out.trans (HX3.out.trans hex.out))
        obtain ⟨u, r, c0, c1, c2, hu, hr⟩ := hzc k l hl
        have c0 := EXX.out.cell c0
        have c1 := EXX.out.cell c1
        have c2 := EXX.out.cell c2
        obtain ⟨oa, oc, rfl, _, _, _⟩ := hu.open
        obtain ⟨ra, rc, rfl, _, _, _⟩ := hr.open
        have i1 : (0 : Int) ≤ (k : Int) := by omega
        have i2 : (k : Int) < (L.length : Int) := by omega
        have hol := HOL.out l (List.mem_of_getElem? hl)
        obtain ⟨p, hp⟩ : ∃ p, l.pt = p := ⟨_, rfl⟩
        rw [hp] at c0
        obtain ⟨b0, b1, b2, eb⟩ := boxLv_facts wr p (.slice oa l.orb.length oc) (.slice ra l.reps.length rc)
        have e1 : IntKind.u64.wrap (l.orb.length : Int) = (l.orb.length : Int) := by rw [IntKind.wrap_u64]; omega
        have HOF2 := hid_ (Of_any (wr.alloc (.cells #[.int .i64 p, .slice oa l.orb.length oc, .slice ra l.reps.length rc] 56)) l.orb.length (by omega))
        have HN := hid_ (hn.out.ex eb)
        have HEB := hid_ eb
        have HST := hid_ (sizL_take hl)
        have HS1 := hid_ (HSM.out (k + 1) (by omega))
        have HS0 := hid_ (HSM.out k (by omega))
        have HS2 := hid_ (smallN_of (x := l.orb.length) (by omega))
        clear hzc hl hp hu hr eb hn
        go_wp2_with (first | (go_at_call 49; refine HOF2.out.mono ?_; rintro e w5 ⟨⟨u5, rfl, hu5⟩, hx5⟩; obtain ⟨_, _, _, _, h5⟩ := id hu5; obtain ⟨ya, yc, rfl, _, _, _⟩ := h5.open; have HMU := hid_ (nMul2 (HN.out.ex hx5) hu5 HS0.out HS2.out (by rw [← HST.out]; exact HS1.out) 38); have HX5 := hid_ hx5; clear h5 hu5 hx5) | (go_at_call 50; refine HMU.out.mono ?_; rintro e w6 ⟨⟨u6, rfl, hu6⟩, hx6⟩; have HU6 := hid_ hu6; have HX6 := hid_ hx6; clear hu6 hx6))
        have HEF := hid_ (hex.out.trans (HEB.out.trans (HX5.out.trans HX6.out)))
        have HU7 := hid_ (show NSl w6 u6 (sizL (L.take (k + 1))) from by
          rw [HST.out]; exact HU6.out)
        go_roundw
        case rel => exact ⟨k + 1, by omega, by go_num, HU7, HEF⟩
        case measure => simp [intOf]; omega
      · obtain rfl : k = L.length := by omega
        have HN := hid_ (show NSl wr (.slice pa pn pc) (sizL L) from by have := hn.out; rwa [List.take_length] at this)
        go_wp2_with fail
        go_ret2
        exact ⟨.inr ⟨HE.out, _, rfl, HN.out⟩, HE0.out.trans (HX2.out.trans (HX3.out.trans hex.out))⟩
  · have hb : (E != 0) = true := by simpa using h0
    have HR := hid_ (show chkS d L ≠ 0 from by rw [hE]; exact h0)
    have HE := hid_ hE
    clear h0 hE hx2
    go_wp2_with fail
    go_ret2
    exact ⟨.inl ⟨HR.out, ret_ve HE.out.symm⟩, HE0.out.trans HX2.out⟩
theorem quiet_eq {P : Program} {f : FuncId} {args : Array Value} {w : World} {n : Nat} {v : Value}
    (h : Calls P f args (w.drewN n) fun e w' => e = .returned v ∧ w.drewN n = w') : Calls P f args (w.drewN n) fun e w'' => e = .returned v ∧ ∃ m, w'' = w.drewN m :=
  h.mono fun _ _ ⟨he, hm⟩ => ⟨he, n, hm.symm⟩
/-- The error of sifting. -/
noncomputable def sftE (d : Int) (L : List Lv) (p : List Int) : Int := if chkS d L ≠ 0 then chkS d L else if pchk p ≠ 0 then pchk p else if (p.length : Int) ≠ d then 10 else 0
noncomputable def sftS (d : Int) (L : List Lv) (p : List Int) : List Int × Nat × Int := if sftE d L p ≠ 0 then ([], 0, sftE d L p) else
  (li d.toNat (sftA d.toNat ((gensL L).map fnL) (ptsK d.toNat ((gensL L).map fnL)) (fnL p) 0).1, (sftA d.toNat ((gensL L).map fnL) (ptsK d.toNat ((gensL L).map fnL)) (fnL p) 0).2, 0)
def SftR (d : Int) (L : List Lv) (p : List Int) (r : Ending) (w' : World) : Prop := ∃ v, r = .returned (.tuple #[v, .int .i64 ((sftS d L p).2.1 : Int), .int .i64 (sftS d L p).2.2]) ∧ ISl w' v (sftS d L p).1
theorem sftR_of {d : Int} {L : List Lv} {p l : List Int} {k : Nat} {e : Int} {v : Value} {w' : World} (h : sftS d L p = (l, k, e)) (hv : ISl w' v l) : SftR d L p (.returned (.tuple #[v, .int .i64 (k : Int), .int .i64 e])) w' := ⟨v, by rw [h], by rw [h]; exact hv⟩
set_option maxRecDepth 100000 in
set_option maxHeartbeats 8000000 in
theorem Sift_any (w : World) (d : Int) (L : List Lv) (lv : Value) (hL : LSl w lv L) (hg : (gensL L).length ≤ 1000) (p : List Int) (pv : Value) (hp : ISl w pv p) :
    Calls Tryz.prog 23 #[.agg #[.int .i64 d, lv], pv] w fun r w' => SftR d L p r w' ∧ Ex w w' := by
  obtain ⟨d0, d1, e0⟩ := boxCh_facts w d lv
  obtain ⟨za, zc, rfl, z1, z2, z3⟩ := (hL.ex e0).open3
  unfold maxLen at z2
  have HCK := hid_ (CheckChain_any _ d L _ (hL.ex e0) hg)
  have Z3 := hid_ z3
  have HP := hid_ (hp.ex e0)
  obtain ⟨pa, pc, rfl, _, _, _⟩ := hp.open
  clear z3 hL hp
  go_enter Tryz.func23, Tryz.ntmps23
  go_wp2_with fail
  obtain ⟨q, hq⟩ : ∃ q, w.heap.size = q := ⟨_, rfl⟩
  rw [hq] at d0 d1
  try simp only [hq]
  clear hq
  generalize w.alloc (.cells #[.int .i64 d, .slice za L.length zc] 24) = w1 at *
  have HE0 := hid_ e0
  clear e0
  refine HCK.out.mono ?_
  rintro e w2 ⟨rfl, hx2⟩
  have d1 := hx2.cell d1
  have d0 := hx2.cell d0
  have HX2 := hid_ hx2
  obtain ⟨E, hE⟩ : ∃ E, chkS d L = E := ⟨_, rfl⟩
  rw [hE]
  by_cases h0 : E = 0
  · subst h0
    have HCP := hid_ (Check_any w2 p _ (HP.out.ex hx2))
    obtain ⟨F, hF⟩ : ∃ F, pchk p = F := ⟨_, rfl⟩
    rw [hF] at HCP
    have D0 := hid_ d0
    have D1 := hid_ d1
    clear hx2
    by_cases h1 : F = 0
    · subst h1
      obtain ⟨n, f, hn1, hn2, hpl, hfP, rfl⟩ := pchk_ok hF
      by_cases h2 : ((li n f).length : Int) = d
      · have hnd : (n : Int) = d := by rw [← h2, li_len]
        subst hnd
        obtain ⟨n', hnn, _, _, S, hS, hgl, hLS⟩ := chkS_ok hE
        have hnn : n' = n := by omega
        subst hnn
        have hpt : ((gensL L).map fnL) = S := by rw [hgl]; exact map_fnL hS
        have hfn : fnL (li n' f) = f := fnL_li hfP
        have HRS := hid_ (show ∀ (g : Nat → Nat) (k : Nat), sftA n' S (ptsK n' S) f 0 = (g, k) → sftS n' L (li n' f) = (li n' g, k, 0) from fun g k h => by
          have : sftE n' L (li n' f) = 0 := by unfold sftE; rw [hE, if_neg (by decide), hF, if_neg (by decide), if_neg (by rw [li_len]; omega)]
          unfold sftS
          rw [this, if_neg (by decide), hpt, hfn]
          show (li n' (sftA n' S (ptsK n' S) f 0).1, (sftA n' S (ptsK n' S) f 0).2, 0) = _
          rw [h])
        have HS := hid_ hS
        have HLS := hid_ hLS
        have HFP := hid_ hfP
        obtain ⟨pt, hpts⟩ : ∃ pt, ptsK n' S = pt := ⟨_, rfl⟩
        have HPT := hid_ (show ∀ b ∈ pt, b < n' from fun b hb => by
          rw [← hpts] at hb
          unfold ptsK at hb
          exact List.mem_range.1 (List.mem_filter.1 hb).1)
        rw [hpts] at HRS HLS
        have hll : L.length = pt.length := by rw [HLS.out, List.length_map]
        have hptl : pt.length ≤ n' := by
          rw [← hpts]; unfold ptsK
          have := List.length_filter_le (fun b => decide (1 < (orbM S b n').length)) (List.range n')
          rw [List.length_range] at this
          exact this
        have hcl := HP.out.ex HX2.out
        have HCL := hid_ (fun w' (hx : Ex w2 w') => Clone_any w' _ _ (hcl.ex hx) (by rw [li_len]; omega) (by rw [li_len]; omega))
        have HLL := hid_ hll
        rw [li_len] at HCL h2
        have hlen : (li n' f).length = n' := li_len _ _
        rw [hlen] at HCP ⊢
        clear hE hF hgl hLS hpt hfn hS hfP hpts hll hcl h2 hlen
        go_wp2_with (first | (go_at_call 28; refine HCP.out.mono ?_; rintro e w3 ⟨rfl, hx3⟩; have HX3 := hid_ hx3; have d0 := hx3.cell D0.out; clear hx3) | (go_at_call 32; refine (HCL.out _ HX3.out).mono ?_; rintro e w4 ⟨cg, cc, rfl, ho4, hx4⟩; have HO4 := hid_ ho4; have HX4 := hid_ (HX3.out.trans hx4); have d1 := (HX3.out.trans hx4).cell D1.out; clear ho4 hx4))
        have D4 := hid_ d1
        clear d0 d1
        have HO5 := hid_ (show ISl w4 (.slice (some ⟨cg, 0, none⟩) n' cc) (li n' f) from by
          have e : il n' (fun j => (li n' f).getD j 0) = li n' f := by
            unfold li
            exact il_congr fun j hj => il_getD hj _
          have := HO4.out.isl
          rwa [e] at this)
        go_loopw [8, 35] (fun o' k' wr => ∃ (k : Nat) (g : Nat → Nat), k ≤ L.length ∧ k' = .int .i64 k ∧ Hid (IsP n' g) ∧ Hid (ISl wr o' (li n' g)) ∧ Hid (sftA n' S pt f 0 = sftA n' S (pt.drop k) g k) ∧ Hid (Ex w4 wr)) (fun _ k' _ => L.length - (intOf k').toNat)
        case atStart => exact ⟨0, f, by omega, rfl, HFP, HO5, hid_ rfl, hid_ (Ex.refl _)⟩
        case round =>
          clear HO5 HO4
          obtain ⟨k, g, hk, rfl, hgP, hgl, hre, hex⟩ := hrel
          obtain ⟨oa, oc, rfl, _, _, _⟩ := isl_li hgl.out
          obtain ⟨ob, oo, rfl, _, hoc⟩ := isl_li_at hgl.out (by omega)
          by_cases hkl : k < L.length
          · obtain ⟨b, hb⟩ : ∃ b, pt[k]? = some b := ⟨_, List.getElem?_eq_getElem (by rw [← HLL.out]; exact hkl)⟩
            have hbn := HPT.out b (List.mem_of_getElem? hb)
            have hl : L[k]? = some (levB n' S b) := by rw [HLS.out, List.getElem?_map, hb]; rfl
            have hdr : pt.drop k = b :: pt.drop (k + 1) := by
              have h1 := (List.getElem?_eq_some_iff.1 hb).1
              rw [List.drop_eq_getElem_cons h1]
              have h2 := (List.getElem?_eq_some_iff.1 hb).2
              rw [h2]
            have HRE := hid_ (hre.out.trans (by rw [hdr]))
            obtain ⟨zb, zo, rfl, hzc⟩ := Z3.out (by omega)
            obtain ⟨u, r, c0, c1, c2, hu, hr⟩ := hzc k _ hl
            have EXX := hid_ (HX2.out.trans (HX4.out.trans hex.out))
            have c0 : wr.cell? ⟨zb, zo + k * 3, none⟩ = some (.int .i64 (b : Int)) := EXX.out.cell c0
            have c1 := EXX.out.cell c1
            have c2 := EXX.out.cell c2
            have hu : ISl w1 u (il' (orbM S b n')) := hu
            have hr : MSl w1 r ((orbM S b n').map fun x => li n' (lstP n' S b x)) := hr
            have HMO := hid_ (fun y => mem_orbM (S := S) (b := b) (m := n') (x := y))
            obtain ⟨Q, hQ⟩ : ∃ Q, orbM S b n' = Q := ⟨_, rfl⟩
            obtain ⟨R, hR⟩ : ∃ R, (Q.map fun x => li n' (lstP n' S b x)) = R := ⟨_, rfl⟩
            rw [hQ] at hu hr HMO
            rw [hR] at hr
            have HQR := hid_ hR
            have hun : sftA n' S (b :: pt.drop (k + 1)) g k = if g b ∈ Q then sftA n' S (pt.drop (k + 1)) (thenP g (invP n' (lstP n' S b (g b)))) (k + 1) else (g, k) := by rw [← hQ]; rfl
            have HUN := hid_ (hre.out.trans ((by rw [hdr] : sftA n' S (pt.drop k) g k = sftA n' S (b :: pt.drop (k + 1)) g k).trans hun))
            have HU := hid_ (hu.ex EXX.out)
            have HRR := hid_ (hr.ex EXX.out)
            obtain ⟨ua, uc, rfl, _, _, _⟩ := hu.open
            obtain ⟨ra, rc, rfl, _, _, _⟩ := hr.open
            have co := hoc b hbn
            have i1 : (0 : Int) ≤ (k : Int) := by omega
            have i2 : (k : Int) < (L.length : Int) := by omega
            have i3 : (0 : Int) ≤ (b : Int) := by omega
            have i4 : (b : Int) < (n' : Int) := by omega
            obtain ⟨y, hy⟩ : ∃ y, g b = y := ⟨_, rfl⟩
            rw [hy] at co HUN
            obtain ⟨b0, b1, b2, eb⟩ := boxLv_facts wr (b : Int) (.slice ua (il' Q).length uc) (.slice ra R.length rc)
            have co := eb.cell co
            have HIX := fun q' => Index_any ((wr.alloc (.cells #[.int .i64 (b : Int), .slice ua (il' Q).length uc, .slice ra R.length rc] 56)).drewN q') (il' Q) _ (y : Int) ((HU.out.ex eb).ex ((Ex.refl _).drewN q'))
            have HYE := hid_ hy
            have EB := hid_ eb
            clear hdr hl hzc hb hu hr hQ hR hun hoc eb hy hre
            by_cases hm : y ∈ Q
            · obtain ⟨i, hi, hix⟩ := idx_hit hm
              rw [hix] at HIX
              have HIX := hid_ HIX
              rw [if_pos hm] at HUN
              obtain ⟨x, hx⟩ : ∃ x, lstP n' S b y = x := ⟨_, rfl⟩
              have hlst := (lst_of_orb HS.out ((HMO.out y).1 hm).2).gn.isP HS.out (n := n')
              rw [hx] at HUN hlst
              have HXP := hid_ hlst
              have hRi : R[i]? = some (li n' x) := by rw [← HQR.out, List.getElem?_map, hi, ← hx]; rfl
              have hiQ := (List.getElem?_eq_some_iff.1 hRi).1
              obtain ⟨_, _, er, _, _, hrc⟩ := HRR.out.open
              injection er with er1 er2 er3
              subst er1 er3
              obtain ⟨rb, ro, rfl, hrr⟩ := hrc (by omega)
              obtain ⟨v, hv1, hv2⟩ := hrr i _ hRi
              have HV2 := hid_ (hv2.ex EB.out)
              have cv := EB.out.cell hv1
              obtain ⟨va, vc, rfl, _, _, _⟩ := isl_li hv2
              have i5 : (0 : Int) ≤ (i : Int) := by omega
              have i6 : (i : Int) < (R.length : Int) := by omega
              clear hm hi hix hx hlst hRi er2 hrc hrr hv1 hv2 hiQ
              go_wp2_with fail
              obtain ⟨W, hW⟩ : ∃ W, (wr.alloc (.cells #[.int .i64 (b : Int), .slice ua (il' Q).length uc, .slice (some ⟨rb, ro, none⟩) R.length rc] 56)) = W := ⟨_, rfl⟩
              rw [hW] at HIX b0 b1 b2 co EB HV2 cv ⊢
              clear hW
              go_quiet ((go_at_call 51; exact quiet_eq (HIX.out _)))
              have HIV := hid_ (fun q' => inverse_any (W.drewN q') n' x _ (HV2.out.ex ((Ex.refl W).drewN q')) (by omega) HXP.out)
              have HGP := hid_ (hgP.out.comp HXP.out.inv)
              go_wp2_with (first | (go_at_call 43; refine (HIV.out _).mono ?_; rintro e w6 ⟨ig, rfl, ho6, hx6⟩; have HO6 := hid_ ho6.li; have HX6 := hid_ ((EB.out.drewN _).trans hx6); clear ho6 hx6) | (go_at_call 35; refine (then_any w6 n' g (invP n' x) _ _ (hgl.out.ex HX6.out) HO6.out (by omega) hgP.out.lt).mono ?_; rintro e w7 ⟨tg, rfl, ho7, hx7⟩; have HO7 := hid_ ho7.li; have HX7 := hid_ (HX6.out.trans hx7); clear ho7 hx7))
              go_roundw
              case rel => exact ⟨k + 1, _, by omega, by go_num, HGP, HO7, HUN, hid_ (hex.out.trans HX7.out)⟩
              case measure => simp [intOf]; omega
            · rw [idx_miss hm] at HIX
              have HIX := hid_ HIX
              rw [if_neg hm] at HUN
              have HR := hid_ (HRS.out _ _ HUN.out)
              clear hm
              go_wp2_with fail
              obtain ⟨W, hW⟩ : ∃ W, (wr.alloc (.cells #[.int .i64 (b : Int), .slice ua (il' Q).length uc, .slice ra R.length rc] 56)) = W := ⟨_, rfl⟩
              rw [hW] at HIX b0 b1 b2 co EB ⊢
              clear hW
              go_quiet ((go_at_call 51; exact quiet_eq (HIX.out _)))
              go_wp2_with fail
              exact bodyPost_ret (v := .tuple #[.slice (some ⟨ob, oo, none⟩) n' oc, .int .i64 (k : Nat), .int .i64 0]) (by simp [results, Tryz.results23, go_sem]) rfl ⟨sftR_of HR.out (hgl.out.ex (EB.out.drewN _)), HE0.out.trans (HX2.out.trans (HX4.out.trans (hex.out.trans (EB.out.drewN _))))⟩
          · obtain rfl : k = L.length := by omega
            have HR := hid_ (HRS.out g L.length (hre.out.trans (by rw [HLL.out, List.drop_length]; rfl)))
            have d1 := (hex.out).cell D4.out
            go_wp2_with fail
            go_quiet (fail)
            go_wp2_with fail
            exact bodyPost_ret (v := .tuple #[.slice (some ⟨ob, oo, none⟩) n' oc, .int .i64 (L.length : Nat), .int .i64 0]) (by simp [results, Tryz.results23, go_sem]) rfl ⟨sftR_of HR.out (hgl.out.ex ((Ex.refl wr).drewN _)), HE0.out.trans (HX2.out.trans (HX4.out.trans (hex.out.drewN _)))⟩
      · have hli : (li n f).length = n := li_len n f
        rw [hli] at h2
        have HR := hid_ (show sftS d L (li n f) = ([], 0, 10) from by
          have : sftE d L (li n f) = 10 := by unfold sftE; rw [hE, if_neg (by decide), hF, if_neg (by decide), if_pos (by rw [hli]; exact h2)]
          unfold sftS; rw [this]; rfl)
        have hb : ((n : Int) != d) = true := by simpa using h2
        rw [hli] at HCP ⊢
        clear hE hF h2 hli
        go_wp2_with (go_at_call 28; refine HCP.out.mono ?_; rintro e w3 ⟨rfl, hx3⟩; have HX3 := hid_ hx3; have d0 := hx3.cell D0.out; clear hx3)
        exact bodyPost_ret (v := .tuple #[.slice none 0 0, .int .i64 (0 : Nat), .int .i64 10]) (by simp [results, Tryz.results23, go_sem]) rfl ⟨sftR_of HR.out (isl_nil _), HE0.out.trans (HX2.out.trans HX3.out)⟩
    · have HR := hid_ (show sftS d L p = ([], 0, F) from by
        have : sftE d L p = F := by unfold sftE; rw [hE, if_neg (by decide), hF, if_pos h1]
        unfold sftS; rw [this, if_pos h1])
      have hb : (F != 0) = true := by simpa using h1
      have hb2 : (F == 0) = false := by simpa using h1
      clear hE hF h1
      go_wp2_with (go_at_call 28; refine HCP.out.mono ?_; rintro e w3 ⟨rfl, hx3⟩; have HX3 := hid_ hx3; have d0 := hx3.cell D0.out; clear hx3)
      exact bodyPost_ret (v := .tuple #[.slice none 0 0, .int .i64 (0 : Nat), .int .i64 F]) (by simp [results, Tryz.results23, go_sem]) rfl ⟨sftR_of HR.out (isl_nil _), HE0.out.trans (HX2.out.trans HX3.out)⟩
  · have HR := hid_ (show sftS d L p = ([], 0, E) from by
      have : sftE d L p = E := by unfold sftE; rw [hE, if_pos h0]
      unfold sftS; rw [this, if_pos h0])
    have hb : (E != 0) = true := by simpa using h0
    have hb2 : (E == 0) = false := by simpa using h0
    clear h0 hE hx2
    go_wp2_with fail
    exact bodyPost_ret (v := .tuple #[.slice none 0 0, .int .i64 (0 : Nat), .int .i64 E]) (by simp [results, Tryz.results23, go_sem]) rfl ⟨sftR_of HR.out (isl_nil _), HE0.out.trans HX2.out⟩
theorem ret_be {b c : Bool} {e f : Int} (h : b = c) (k : e = f) : Ending.returned (.tuple #[.bool b, .int .i64 e]) = .returned (.tuple #[.bool c, .int .i64 f]) := by rw [h, k]
theorem sftE_err {d : Int} {L : List Lv} {p : List Int} (h : sftE d L p ≠ 0) : sftS d L p = ([], 0, sftE d L p) := by unfold sftS; rw [if_pos h]
theorem sftE_ok {d : Int} {L : List Lv} {p : List Int} (h : sftE d L p = 0) : ∃ (n : Nat) (f : Nat → Nat) (S : List (Nat → Nat)), d = n ∧ 1 ≤ n ∧ n ≤ 64 ∧ IsP n f ∧ p = li n f ∧ (∀ s ∈ S, IsP n s) ∧ L = (ptsK n S).map (levB n S) ∧ gensL L = S.map (li n) ∧ sftS d L p = (li n (sftA n S (ptsK n S) f 0).1, (sftA n S (ptsK n S) f 0).2, 0) := by
  have h0 := h
  unfold sftE at h
  split at h
  · exact absurd h (by assumption)
  · split at h
    · exact absurd h (by assumption)
    · split at h
      · cases h
      · rename_i h1 h2 h3
        have h1 : chkS d L = 0 := by simpa using h1
        have h2 : pchk p = 0 := by simpa using h2
        obtain ⟨n, rfl, k1, k2, S, k3, k4, k5⟩ := chkS_ok h1
        obtain ⟨m, f, m1, m2, m3, m4, rfl⟩ := pchk_ok h2
        rw [li_len] at h3
        have hm : m = n := by omega
        subst hm
        refine ⟨m, f, S, rfl, k1, k2, m4, rfl, k3, k5, k4, ?_⟩
        unfold sftS
        rw [h0, if_neg (by decide), k4, map_fnL k3, fnL_li m4]
        rfl
open Classical in
noncomputable def hasB (d : Int) (L : List Lv) (p : List Int) : Bool := decide (sftE d L p = 0 ∧ (sftS d L p).2.1 = L.length ∧ (sftS d L p).1 = li d.toNat idP)
/-- Membership. -/
theorem hasB_iff {n : Nat} {S : List (Nat → Nat)} {f : Nat → Nat} {L : List Lv} (hS : ∀ s ∈ S, IsP n s) (hP : IsP n f) (hL : L = chnK n S n) (he : sftE n L (li n f) = 0) : hasB n L (li n f) = true ↔ Gn S f := by
  obtain ⟨n', f', S', h1, h2, h3, h4, h5, h6, h7, h8, h9⟩ := sftE_ok he
  have hn : n' = n := by omega
  subst hn
  have hf := li_inj hP h4 h5
  subst hf
  have hgg : ∀ g, Gn S' g ↔ Gn S g := fun g => by
    have hs := suf_pts n' S
    have e : gensL L = (repsOf n' S (ptsK n' S)).map (li n') := by rw [hL, chnK_pts, gensL_lev]
    have e2 : S' = repsOf n' S (ptsK n' S) := by
      rw [← map_fnL h6, ← h8, e, map_fnL (repsOf_isP hS _)]
    rw [e2, repsOf_iff hS hs]
    exact ⟨fun h => h.1, fun h => ⟨h, fun i hi => by omega⟩⟩
  rw [← hgg, ← sift_iff h6 hP]
  unfold hasB
  rw [decide_eq_true_eq, h9]
  have hlen : L.length = (ptsK n' S').length := by rw [h7, List.length_map]
  constructor
  · rintro ⟨_, k1, k2⟩
    have k2 : li n' (sftA n' S' (ptsK n' S') f 0).1 = li n' idP := k2
    have := li_inj (sftA_isP h6 _ f 0 hP) (isP_id n') k2
    exact Prod.ext this (by rw [← hlen]; exact k1)
  · intro h
    rw [h]
    exact ⟨he, hlen.symm, rfl⟩
set_option maxRecDepth 100000 in
set_option maxHeartbeats 4000000 in
theorem Has_any (w : World) (d : Int) (L : List Lv) (lv : Value) (hL : LSl w lv L) (hg : (gensL L).length ≤ 1000) (p : List Int) (pv : Value) (hp : ISl w pv p) :
    Calls Tryz.prog 24 #[.agg #[.int .i64 d, lv], pv] w fun r w' => r = .returned (.tuple #[.bool (hasB d L p), .int .i64 (sftE d L p)]) ∧ Ex w w' := by
  obtain ⟨d0, d1, e0⟩ := boxCh_facts w d lv
  obtain ⟨za, zc, rfl, z1, z2, z3⟩ := (hL.ex e0).open3
  unfold maxLen at z2
  have HSF := hid_ (Sift_any _ d L _ (hL.ex e0) hg p _ (hp.ex e0))
  obtain ⟨pa, pc, rfl, _, _, _⟩ := hp.open
  clear z3 hL hp
  go_enter Tryz.func24, Tryz.ntmps24
  go_wp2_with fail
  obtain ⟨q, hq⟩ : ∃ q, w.heap.size = q := ⟨_, rfl⟩
  rw [hq] at d0 d1
  try simp only [hq]
  clear hq
  generalize w.alloc (.cells #[.int .i64 d, .slice za L.length zc] 24) = w1 at *
  have HE0 := hid_ e0
  clear e0
  refine HSF.out.mono ?_
  rintro e w2 ⟨⟨v, rfl, hv⟩, hx2⟩
  have d1 := hx2.cell d1
  have HX2 := hid_ hx2
  by_cases he : sftE d L p = 0
  · obtain ⟨n, f, S, rfl, hn1, hn2, hfP, rfl, hS, hLS, hgl, hss⟩ := sftE_ok he
    rw [hss] at hv ⊢
    dsimp only at hv ⊢
    obtain ⟨g, hg'⟩ : ∃ g, (sftA n S (ptsK n S) f 0).1 = g := ⟨_, rfl⟩
    obtain ⟨k, hk⟩ : ∃ k, (sftA n S (ptsK n S) f 0).2 = k := ⟨_, rfl⟩
    rw [hg', hk] at hss
    rw [hg'] at hv
    rw [hk]
    have HB := hid_ (show hasB n L (li n f) = decide (k = L.length ∧ li n g = li n idP) from by
      unfold hasB
      rw [hss, he]
      simp)
    have HV := hid_ hv
    have HID := hid_ (fun w' => identity_any w' n (by omega))
    obtain ⟨va, vc, rfl, _, _, _⟩ := isl_li hv
    have HEE := hid_ he.symm
    have D1 := hid_ d1
    have hli : (li n f).length = n := li_len _ _
    clear hss hv he hg' hLS hgl hS hx2
    by_cases hkl : k = L.length
    · subst hkl
      rw [show decide (L.length = L.length ∧ li n g = li n idP) = decide (li n g = li n idP) from decide_eq_decide.2 ⟨fun h => h.2, fun h => ⟨rfl, h⟩⟩] at HB
      go_wp2_with (first | (go_at_call 36; refine (HID.out _).mono ?_; rintro e w6 ⟨ig, rfl, ho6, hx6⟩; have HO6 := hid_ ho6.li; have HX6 := hid_ hx6; clear ho6 hx6) | (go_at_call 52; refine (Equal_any w6 _ _ _ _ (HV.out.ex HX6.out) HO6.out).mono ?_; rintro e w7 ⟨rfl, n7, hw7⟩; have HX7 := hid_ (HX6.out.trans (show Ex w6 w7 from by rw [hw7]; exact (Ex.refl w6).drewN n7)); clear hw7))
      go_ret2
      exact ⟨ret_be HB.out.symm HEE.out, HE0.out.trans (HX2.out.trans HX7.out)⟩
    · rw [decide_eq_false (fun h => hkl h.1)] at HB
      have hb : ((k : Int) == (L.length : Int)) = false := by simp; omega
      clear hkl
      go_wp2_with fail
      go_ret2
      exact ⟨ret_be HB.out.symm HEE.out, HE0.out.trans HX2.out⟩
  · rw [sftE_err he] at hv ⊢
    dsimp only at hv ⊢
    have HB := hid_ (show hasB d L p = false from by
      unfold hasB; exact decide_eq_false fun h => he h.1)
    obtain ⟨E, hE⟩ : ∃ E, sftE d L p = E := ⟨_, rfl⟩
    rw [hE] at he ⊢
    have HEE := hid_ hE.symm
    obtain ⟨va, vc, rfl⟩ := isl_len0 hv
    have hb : (E == 0) = false := by simpa using he
    clear he hv hE hx2
    go_wp2_with fail
    go_ret2
    exact ⟨ret_be HB.out.symm HEE.out, HE0.out.trans HX2.out⟩
end Go.Proofs.YtgfdhclpffakfaaGreat
