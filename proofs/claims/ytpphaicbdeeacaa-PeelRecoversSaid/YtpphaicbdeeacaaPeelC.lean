/- Walks of the package peel: Check, mask, left. -/
import Derived.Test.YtpphaicbdeeacaaPeelB
import Derived.Test.YtpphaicbdeeacaaPeelF
namespace Go.Proofs.Ytpphaicbdeeacaa
set_option linter.unusedVariables false
set_option linter.unusedSimpArgs false
open Go.RowKit

/-- The error of a graph. -/
def pchkS (V : Int) (rows : List (List Int)) : Int := if V < 1 ∨ 64 < V then 4 else if 256 < (rows.length : Int) then 8 else if (rows.all fun r => risB V r) = true then 0 else 6

set_option maxRecDepth 100000 in
set_option maxHeartbeats 1000000 in
theorem Check1_any (w : World) (l : List Int) (v : Value) (V : Int) (B : Nat) (c0 : w.cell? ⟨B, 0, none⟩ = some (.int .i64 V)) (hl : ISl w v l) :
    Calls Try.prog 54 #[v, .pointer (some ⟨B, 0, none⟩)] w fun r w' => r = .returned (.bool (!risB V l)) ∧ ∃ q, w' = w.drewN q := by
  have HS := hid_ (set_any w l v V hl)
  obtain ⟨z, hz⟩ : ∃ z, risB V l = z := ⟨_, rfl⟩
  rw [hz] at HS ⊢
  clear hl hz
  go_enter Try.func54, Try.ntmps54
  go_wp2_with (go_at_call 48; refine HS.out.mono ?_; rintro e w' ⟨rfl, rfl⟩)
  go_ret
  exact ⟨rfl, 0, rfl⟩

theorem any_not_all (V : Int) (rows : List (List Int)) : ((List.range rows.length).any fun i => !risB V (rows.getD i [])) = !(rows.all fun r => risB V r) := by
  rw [Bool.eq_iff_iff]
  simp only [List.any_eq_true, List.mem_range, Bool.not_eq_true', List.all_eq_false, List.getD_eq_getElem?_getD]
  constructor
  · rintro ⟨i, hi, h⟩
    rw [List.getElem?_eq_getElem hi] at h
    exact ⟨rows[i], List.getElem_mem hi, by simpa using h⟩
  · rintro ⟨r, hr, h⟩
    obtain ⟨i, hi, e⟩ := List.getElem_of_mem hr
    exact ⟨i, hi, by rw [List.getElem?_eq_getElem hi, e]; simpa using h⟩

set_option maxRecDepth 100000 in
set_option maxHeartbeats 1000000 in
theorem pCheck_any (w : World) (V : Int) (rows : List (List Int)) (v : Value) (hv : MSl w v rows) :
    Calls Try.prog 22 #[.agg #[.int .i64 V, v]] w fun r w' => r = .returned (.int .i64 (pchkS V rows)) ∧ Ex w w' := by
  obtain ⟨d0, d1, e0⟩ := boxT_facts w V v
  have HE := hid_ (show pchkS V rows = if V < 1 ∨ 64 < V then 4 else if 256 < (rows.length : Int) then 8 else if (rows.all fun r => risB V r) = true then 0 else 6 from rfl)
  have hv1 := hv.ex e0
  obtain ⟨vals, hsl, hvals⟩ := hv1
  have HCF := hid_ (ContainsFunc_chk _ (.pointer (some ⟨w.heap.size, 0, none⟩)) v rows.length vals hsl (fun i => !risB V (rows.getD i [])) (fun q i u hu => by
    obtain ⟨r, hr⟩ : ∃ r, rows[i]? = some r := by
      have := (List.getElem?_eq_some_iff.1 hu).1
      rw [hsl.1, Nat.mul_one] at this
      exact ⟨_, List.getElem?_eq_getElem this⟩
    rw [show rows.getD i [] = r by rw [List.getD_eq_getElem?_getD, hr]; rfl]
    exact Check1_any _ r u V w.heap.size (by rw [cell?_drewN]; exact d0) ((hvals i r u hr hu).ex ((Ex.refl _).drewN q))))
  rw [any_not_all] at HCF
  obtain ⟨a, cap, hva, s1, s2, s3⟩ := (hv.ex e0).open
  unfold maxLen at s2
  subst hva
  clear hv hsl hvals s3
  by_cases h : V < 1 ∨ 64 < V
  · have HR := hid_ (show pchkS V rows = 4 by rw [HE.out, if_pos h])
    have hc : V < 1 ∨ (1 ≤ V ∧ 64 < V) := by omega
    clear h HE
    rcases hc with hc | ⟨h1, h2⟩
    all_goals
      go_enter Try.func22, Try.ntmps22
      go_wp2_with fail
      go_ret
      exact ⟨ret_int HR.out.symm, e0⟩
  · have h1 : 1 ≤ V := by omega
    have h2 : V ≤ 64 := by omega
    rw [if_neg h] at HE
    clear h
    by_cases h3 : 256 < (rows.length : Int)
    · have HR := hid_ (show pchkS V rows = 8 by rw [HE.out, if_pos h3])
      go_enter Try.func22, Try.ntmps22
      go_wp2_with fail
      go_ret
      exact ⟨ret_int HR.out.symm, e0⟩
    · have h3' : (rows.length : Int) ≤ 256 := by omega
      rw [if_neg h3] at HE
      clear h3
      generalize (rows.all fun r => risB V r) = z at *
      cases z with
      | true =>
        have HR := hid_ (show pchkS V rows = 0 by rw [HE.out]; rfl)
        go_enter Try.func22, Try.ntmps22
        go_wp2_with (go_at_call 53; refine HCF.out.mono ?_; rintro e w' ⟨rfl, q, rfl⟩)
        go_ret
        exact ⟨ret_int HR.out.symm, e0.drewN q⟩
      | false =>
        have HR := hid_ (show pchkS V rows = 6 by rw [HE.out]; rfl)
        go_enter Try.func22, Try.ntmps22
        go_wp2_with (go_at_call 53; refine HCF.out.mono ?_; rintro e w' ⟨rfl, q, rfl⟩)
        go_ret
        exact ⟨ret_int HR.out.symm, e0.drewN q⟩

/-- The set of the numbers in a list. -/
def mkm (l : List Int) (j : Nat) : Bool := decide ((j : Int) ∈ l)
def mkK (l : List Int) (k : Nat) (j : Nat) : Bool := decide ((j : Int) ∈ l.take k)
theorem mkK_snoc {l : List Int} {k X : Nat} (h : l[k]? = some (X : Int)) : mkK l (k + 1) = upd (mkK l k) X true := by
  funext j
  unfold upd mkK
  rw [List.take_add_one, h, Bool.eq_iff_iff]
  by_cases e : j = X
  · subst e; simp
  · have : ¬ ((j : Int) = (X : Int)) := by omega
    simp [e, this]

set_option maxRecDepth 100000 in
set_option maxHeartbeats 1000000 in
theorem mask_any (w : World) (N : Nat) (u v : Value) (l : List Int) (hN : N ≤ 64) (hv : ISl w v l) (hl : ∀ (k : Nat) (x : Int), l[k]? = some x → 0 ≤ x ∧ x < N) :
    Calls Try.prog 50 #[.agg #[.int .i64 N, u], v] w fun r w' => ∃ g, r = .returned (.slice (some ⟨g, 0, none⟩) N N) ∧ Own w' w.heap.size 4 g N (bv (mkm l)) ∧ Ex w w' := by
  obtain ⟨d0, d1, e0⟩ := boxT_facts w N u
  have HL := hid_ hl
  obtain ⟨a, cap, rfl, s1, s2, s3⟩ := hv.open
  have S3 := hid_ s3
  unfold maxLen at s2
  clear hv hl s3 d1
  go_enter Try.func50, Try.ntmps50
  go_wp2_with (at_make; refine wpList_make_arr _ rfl _ _ 73 rfl 4 (.bool false) 1 Try.underlying73 infoBool rfl _ N rfl rfl rfl (by omega) (by unfold maxLen; omega) ?_)
  intro w3 hown hx3
  have hown := hown.mono (b' := w.heap.size) (by simp)
  obtain ⟨g, hg⟩ : ∃ g, w.heap.size + 1 = g := ⟨_, rfl⟩
  rw [hg] at hown
  try simp only [hg]
  clear hg
  generalize w.alloc (.cells #[.int .i64 N, u] 31) = w1 at *
  have HO := hid_ (hown.bcongr (h := mkK l 0) (fun j _ => by simp [mkK]))
  have e3 := e0.trans hx3
  clear hown d0 e0 hx3
  go_wp2_with fail
  go_loopw [13] (fun k' wr => ∃ k : Nat, k ≤ l.length ∧ k' = .int .i64 k ∧ Hid (Own wr w.heap.size 4 g N (bv (mkK l k))) ∧ Ex w wr) (fun k' _ => l.length - (intOf k').toNat)
  case atStart => exact ⟨0, by omega, rfl, HO, e3⟩
  case round =>
    clear HO e3
    obtain ⟨k, hk, rfl, hown, hx⟩ := hrel
    by_cases hlt : k < l.length
    · obtain ⟨x, hxx⟩ : ∃ x, l[k]? = some x := ⟨_, List.getElem?_eq_getElem hlt⟩
      obtain ⟨x1, x2⟩ := HL.out k x hxx
      obtain ⟨b, o, rfl, hc⟩ := S3.out (by omega)
      have c1 := hx.cell (hc k x hxx)
      obtain ⟨X, rfl⟩ : ∃ X : Nat, x = X := ⟨x.toNat, by omega⟩
      have hXN : X < N := by omega
      have hf := hown.out.frz X
      have hcc := hown.out.cell hXN
      have HO := hid_ (hown.out.set X (.bool true))
      have HE := hid_ (hown.out.exSet (Nat.le_refl _) hx X (.bool true))
      have HK := hid_ (mkK_snoc hxx)
      clear hown hc hxx hx
      go_wp2_with fail
      go_roundw
      case rel => exact ⟨k + 1, by omega, by go_num, hid_ (by rw [HK.out, ← bv_upd]; exact HO.out), HE.out⟩
      case measure => simp [intOf]; omega
    · obtain rfl : k = l.length := by omega
      have HO := hid_ (hown.out.bcongr (h := mkm l) (fun j _ => by unfold mkK mkm; rw [List.take_length]))
      clear hown
      go_wp2_with fail
      go_ret
      exact ⟨_, rfl, HO.out, hx⟩

/-- The members of a set below N, in ascending order. -/
def lft (N : Nat) (f : Nat → Bool) : List Int := ((List.range N).filter f).map fun (i : Nat) => (i : Int)
theorem lft_snoc (k : Nat) (f : Nat → Bool) : lft (k + 1) f = lft k f ++ (if f k = true then [(k : Int)] else []) := by
  unfold lft
  rw [List.range_succ, List.filter_append, List.map_append]
  by_cases h : f k = true <;> simp [List.filter_cons, h]
theorem lft_len (k : Nat) (f : Nat → Bool) : (lft k f).length ≤ k := by
  unfold lft
  rw [List.length_map]
  have := List.length_filter_le f (List.range k)
  simpa using this

set_option maxRecDepth 100000 in
set_option maxHeartbeats 1000000 in
theorem left_anyO (w : World) (N : Nat) (v : Value) (f : Nat → Bool) (hN : N ≤ 64) (hv : Sl w v N 1 (vs N (bv f))) :
    Calls Try.prog 55 #[v] w fun r w' => ∃ u, r = .returned u ∧ ISl w' u (lft N f) ∧ (∀ b, u.ownBlock = some b → w.heap.size ≤ b) ∧ Ex w w' := by
  obtain ⟨a, cap, rfl, s1, s2, s3⟩ := hv.bget
  have S3 := hid_ s3
  unfold maxLen at s2
  clear hv s3
  go_enter Try.func55, Try.ntmps55
  go_wp2_with fail
  go_loopw [3, 8] (fun o' k' wr => ∃ k : Nat, k ≤ N ∧ k' = .int .i64 k ∧ Hid (wr.ownsRow w.heap.size 3 1 o' (lft k f).length (ints (lft k f))) ∧ Ex w wr) (fun _ k' _ => N - (intOf k').toNat)
  case atStart => exact ⟨0, by omega, rfl, hid_ (World.ownsRow_nil _ _ _ _), Ex.refl _⟩
  case round =>
    obtain ⟨k, hk, rfl, hown, hx⟩ := hrel
    have hlen := lft_len k f
    by_cases hlt : k < N
    · obtain ⟨b, o, rfl, hc⟩ := S3.out (by omega)
      have c1 := hx.cell (hc k hlt)
      have HK := hid_ (lft_snoc k f)
      clear hc
      cases hb : f k with
      | true =>
        rw [hb] at c1 HK
        have HS := hid_ hx.size
        have HX := hid_ hx
        clear hb hx
        generalize lft k f = L at *
        go_wp2_with (at_builtin; refine wpList_append1 _ rfl _ _ 22 rfl w.heap.size 3 (.int .i64 0) 1 8 Try.underlying22 infoInt rfl (by decide) _ L.length _ rfl hown.out [.int .i64 k] 3 _ rfl (by simp) rfl (by simp [Value.oneCell']) (by unfold maxLen; omega) (by omega) HS.out ?_)
        intro v2 w2 happ
        have HO := hid_ happ.own
        have HE := hid_ (happ.ex HX.out (Nat.le_refl _))
        clear happ
        go_wp2_with fail
        go_roundw
        case rel => exact ⟨k + 1, by omega, by go_num, hid_ (by rw [HK.out]; have := HO.out; simpa [ints] using this), HE.out⟩
        case measure => simp [intOf]; omega
      | false =>
        rw [hb] at c1 HK
        clear hb
        go_wp2_with fail
        go_roundw
        case rel => exact ⟨k + 1, by omega, by go_num, hid_ (by rw [HK.out]; simpa using hown.out), hx⟩
        case measure => simp [intOf]; omega
    · obtain rfl : k = N := by omega
      have HO := hid_ (show ISl wr _ (lft k f) from Sl.own hown.out)
      have HB := hid_ (fun b e => (World.ownsRow.lt hown.out b e).1)
      clear hown
      go_wp2_with fail
      go_ret
      exact ⟨_, rfl, HO.out, HB.out, hx⟩
theorem left_any (w : World) (N : Nat) (v : Value) (f : Nat → Bool) (hN : N ≤ 64) (hv : Sl w v N 1 (vs N (bv f))) :
    Calls Try.prog 55 #[v] w fun r w' => ∃ u, r = .returned u ∧ ISl w' u (lft N f) ∧ Ex w w' := by
  refine (left_anyO w N v f hN hv).mono ?_
  rintro e w' ⟨u, h1, h2, _, h3⟩
  exact ⟨u, h1, h2, h3⟩
end Go.Proofs.Ytpphaicbdeeacaa
