/- Walks of equivalence.injective, factors, open, Check. -/
/- slices.Equal at ints, slices.EqualFunc at rows (as in Perm's PmS, PmPb); space.open, space.Check. -/
import Derived.BigQuiet
import Derived.Test.YtgdmlmhpineibaaGreatZa18
import Derived.Test.YtgdmlmhpineibaaGreatZa22
import Derived.Test.YtgdmlmhpineibaaGreatZa23
namespace Go.Proofs.YtgdmlmhpineibaaGreat
set_option linter.unusedVariables false
set_option linter.unusedSimpArgs false
open Go.RowKit

theorem isl_take {w : World} {a : Option Addr} {n cap : Nat} {l : List Int} (h : ISl w (.slice a n cap) l) {i : Nat} (hi : i ≤ l.length) : ISl w (.slice a i cap) (l.take i) := by
  obtain ⟨a', cap', e, h1, h2, h3⟩ := h.open
  injection e with e1 e2 e3
  subst e1 e3
  have hl : (l.take i).length = i := by rw [List.length_take]; omega
  unfold ISl
  rw [hl]
  refine ⟨by rw [ints_length, hl]; omega, a, cap, rfl, by omega, h2, fun hn => ?_⟩
  obtain ⟨b, o, rfl, h4⟩ := h3 (by omega)
  refine ⟨b, o, rfl, fun j u hu => ?_⟩
  simp only [ints, List.getElem?_map, List.getElem?_take] at hu
  split at hu
  · obtain ⟨y, hy, rfl⟩ := Option.map_eq_some_iff.1 hu
    exact h4 j y hy
  · cases hu
/-- An entry occurs twice. -/
def dupK (l : List Int) (k : Nat) : Bool := (List.range k).any fun i => (l.take i).contains (l.getD i 0)
def dupB (l : List Int) : Bool := dupK l l.length
theorem dupK_succ (l : List Int) (k : Nat) : dupK l (k + 1) = (dupK l k || (l.take k).contains (l.getD k 0)) := by
  unfold dupK; rw [List.range_succ, List.any_append]; simp
theorem dupK_mono {l : List Int} {k n : Nat} (h : k ≤ n) (hd : dupK l k = true) : dupK l n = true := by
  unfold dupK at *
  obtain ⟨i, hi, hb⟩ := List.any_eq_true.1 hd
  exact List.any_eq_true.2 ⟨i, List.mem_range.2 (by have := List.mem_range.1 hi; omega), hb⟩
/-- Entries from 0 to n - 1. -/
def rngB (l : List Int) (n : Int) : Bool := l.all fun x => decide (0 ≤ x ∧ x < n)
def injS (l : List Int) (n : Int) : Int := if rngB l n = false then 6 else if dupB l = true then 18 else 0
theorem any_getD (l : List Int) (f : Int → Bool) : ((List.range l.length).any fun j => f (l.getD j 0)) = l.any f := by
  rw [Bool.eq_iff_iff, List.any_eq_true, List.any_eq_true]
  constructor
  · rintro ⟨j, hj, h⟩
    have hj := List.mem_range.1 hj
    refine ⟨l[j], List.getElem_mem hj, ?_⟩
    rwa [List.getD_eq_getElem?_getD, List.getElem?_eq_getElem hj] at h
  · rintro ⟨x, hx, h⟩
    obtain ⟨j, hj, rfl⟩ := List.getElem_of_mem hx
    exact ⟨j, List.mem_range.2 hj, by rw [List.getD_eq_getElem?_getD, List.getElem?_eq_getElem hj]; exact h⟩
theorem ints_at {l : List Int} {i : Nat} {u : Value} (h : (ints l)[i]? = some u) : ∃ x, l[i]? = some x ∧ u = .int .i64 x ∧ l.getD i 0 = x := by
  unfold ints at h
  rw [List.getElem?_map] at h
  obtain ⟨x, hx, rfl⟩ := Option.map_eq_some_iff.1 h
  exact ⟨x, hx, rfl, by rw [List.getD_eq_getElem?_getD, hx]; rfl⟩
set_option maxRecDepth 100000 in
set_option maxHeartbeats 1000000 in
theorem inj1_any (w : World) (B : Nat) (n x : Int) (c0 : w.cell? ⟨B, 0, none⟩ = some (.int .i64 n)) :
    Calls Tryz.prog 138 #[.int .i64 x, .pointer (some ⟨B, 0, none⟩)] w fun r w' => r = .returned (.bool (!decide (0 ≤ x ∧ x < n))) ∧ Ex w w' := by
  by_cases h0 : x < 0
  · have HR := hid_ (show true = !decide (0 ≤ x ∧ x < n) from by simp; omega)
    have b1 : decide (x < 0) = true := decide_eq_true h0
    clear h0
    go_enter Tryz.func138, Tryz.ntmps138
    go_wp2_with fail
    go_ret
    exact ⟨ret_bool HR.out, Ex.refl _⟩
  · have b1 : decide (x < 0) = false := decide_eq_false h0
    by_cases h1 : n ≤ x
    · have HR := hid_ (show true = !decide (0 ≤ x ∧ x < n) from by simp; omega)
      have b2 : decide (n ≤ x) = true := decide_eq_true h1
      clear h0 h1
      go_enter Tryz.func138, Tryz.ntmps138
      go_wp2_with fail
      go_ret
      exact ⟨ret_bool HR.out, Ex.refl _⟩
    · have HR := hid_ (show false = !decide (0 ≤ x ∧ x < n) from by simp; omega)
      have b2 : decide (n ≤ x) = false := decide_eq_false h1
      clear h0 h1
      go_enter Tryz.func138, Tryz.ntmps138
      go_wp2_with fail
      go_ret
      exact ⟨ret_bool HR.out, Ex.refl _⟩
set_option maxRecDepth 100000 in
set_option maxHeartbeats 2000000 in
theorem injective_any (w : World) (l : List Int) (v : Value) (n : Int) (hl : ISl w v l) :
    Calls Tryz.prog 88 #[v, .int .i64 n] w fun r w' => r = .returned (.int .i64 (injS l n)) ∧ Ex w w' := by
  have ea : Ex w (w.alloc (.cells #[.int .i64 n] 3)) := (Ex.refl _).alloc _
  have q0 : (w.alloc (.cells #[.int .i64 n] 3)).cell? ⟨w.heap.size, 0, none⟩ = some (.int .i64 n) := by simp
  have HL := hid_ (hl.ex ea)
  have HC := hid_ (ContainsFunc_inj (w.alloc (.cells #[.int .i64 n] 3)) (.pointer (some ⟨w.heap.size, 0, none⟩)) v l.length (ints l) (hl.ex ea) (fun j => !decide (0 ≤ l.getD j 0 ∧ l.getD j 0 < n)) fun w1 i u hx hu => by
    obtain ⟨x, _, rfl, hx2⟩ := ints_at hu
    rw [hx2]
    exact inj1_any w1 w.heap.size n x (hx.cell q0))
  have hc := HC.out
  rw [any_getD l fun x => !decide (0 ≤ x ∧ x < n)] at hc
  have HC := hid_ hc
  obtain ⟨a, cap, rfl, s1, s2, s3⟩ := hl.open
  unfold maxLen at s2
  have HEA := hid_ ea
  clear hl s3 hc ea
  by_cases hr : rngB l n = true
  · have h1 : (l.any fun x => !decide (0 ≤ x ∧ x < n)) = false := by
      unfold rngB at hr
      rw [List.any_eq_false]
      intro x hx
      have := List.all_eq_true.1 hr x hx
      simpa using this
    rw [h1] at HC
    have HIS := hid_ (show injS l n = if dupB l = true then 18 else 0 from by unfold injS; rw [hr, if_neg (by decide)])
    clear hr h1
    go_enter Tryz.func88, Tryz.ntmps88
    go_wp2_with fail
    obtain ⟨q, hq⟩ : ∃ q, w.heap.size = q := ⟨_, rfl⟩
    rw [hq] at HC q0
    try simp only [hq]
    clear hq
    generalize w.alloc (.cells #[.int .i64 n] 3) = w1 at *
    refine HC.out.mono ?_
    rintro e w2 ⟨rfl, hx2⟩
    have HX2 := hid_ hx2
    clear hx2
    go_wp2_with fail
    go_loopw [12] (fun i' wr => ∃ (i : Nat), i ≤ l.length ∧ i' = .int .i64 i ∧ Hid (dupK l i = false) ∧ Hid (Ex w2 wr)) (fun i' _ => l.length - (intOf i').toNat)
    case atStart => exact ⟨0, by omega, rfl, hid_ rfl, hid_ (Ex.refl _)⟩
    case round =>
      obtain ⟨i, hi, rfl, hd, hex⟩ := hrel
      have HX2 := hid_ (HX2.out.trans hex.out)
      by_cases hil : i < l.length
      · obtain ⟨x, hx⟩ : ∃ x, l[i]? = some x := ⟨_, List.getElem?_eq_getElem hil⟩
        have HLW := hid_ (HL.out.ex HX2.out)
        obtain ⟨_, _, e1, _, _, h3⟩ := HLW.out.open
        injection e1 with e1 e2 e3
        subst e1
        clear e2 e3
        obtain ⟨zb, zo, rfl, hzc⟩ := h3 (by omega)
        have c1 := hzc i x hx
        have hgx : l.getD i 0 = x := by rw [List.getD_eq_getElem?_getD, hx]; rfl
        have i1 : (0 : Int) ≤ (i : Int) := by omega
        have i2 : (i : Int) < (l.length : Int) := by omega
        have i3 : i ≤ cap := by omega
        have i4 : (i : Int) ≤ (cap : Int) := by omega
        have HCT := hid_ (Contains_any wr (l.take i) _ x (isl_take HLW.out (by omega)))
        have HDS := hid_ (dupK_succ l i)
        rw [hgx, hd.out, Bool.false_or] at HDS
        clear hx h3 hzc hgx hd
        cases hb : (l.take i).contains x with
        | true =>
          rw [hb] at HCT HDS
          have HR := hid_ (show (18 : Int) = injS l n from by
            have hd2 : dupB l = true := dupK_mono (show i + 1 ≤ l.length by omega) HDS.out
            rw [HIS.out, if_pos hd2])
          clear hb
          go_wp2_with (go_at_call 109; refine HCT.out.mono ?_; rintro e w5 ⟨rfl, rfl⟩)
          go_ret
          exact ⟨ret_int HR.out, HEA.out.trans HX2.out⟩
        | false =>
          rw [hb] at HCT HDS
          clear hb
          go_wp2_with (go_at_call 109; refine HCT.out.mono ?_; rintro e w5 ⟨rfl, rfl⟩)
          go_roundw
          case rel => first | exact ⟨i + 1, by omega, by go_num, HDS, hex⟩ | ((repeat apply Exists.intro); exact ⟨⟨i + 1, by omega, by go_num, HDS, hex⟩, rfl⟩)
          case measure => simp [intOf]; omega
      · obtain rfl : i = l.length := by omega
        have HR := hid_ (show (0 : Int) = injS l n from by
          rw [HIS.out, if_neg (by show ¬ dupK l l.length = true; rw [hd.out]; decide)])
        go_wp2_with fail
        go_ret
        exact ⟨ret_int HR.out, HEA.out.trans HX2.out⟩
  · have hr : rngB l n = false := by simpa using hr
    have h1 : (l.any fun x => !decide (0 ≤ x ∧ x < n)) = true := by
      unfold rngB at hr
      rw [List.all_eq_false] at hr
      obtain ⟨x, hx, h⟩ := hr
      exact List.any_eq_true.2 ⟨x, hx, by simp at h ⊢; omega⟩
    rw [h1] at HC
    have HR := hid_ (show (6 : Int) = injS l n from by unfold injS; rw [if_pos hr])
    clear hr h1
    go_enter Tryz.func88, Tryz.ntmps88
    go_wp2_with (go_at_call 47; refine HC.out.mono ?_; rintro e w2 ⟨rfl, hx2⟩; have HX2 := hid_ hx2; clear hx2)
    go_ret
    exact ⟨ret_int HR.out, HEA.out.trans HX2.out⟩
/-- Elements other than 0. -/
def facS (q : Nat) (l : List Int) : Int := if (l.any fun x => !isB q x) = true then 2 else if l.contains 0 = true then 7 else 0
section
variable {b p m x0 : Nat} {ml : List Int}
set_option maxRecDepth 100000 in
set_option maxHeartbeats 1000000 in
theorem fac1_any (w : World) (B : Nat) (hg : GFat w b p m ml x0) (x : Int) (c0 : w.cell? ⟨B, 0, none⟩ = some (.pointer (some ⟨b, 0, none⟩))) :
    Calls Tryz.prog 139 #[.int .i64 x, .pointer (some ⟨B, 0, none⟩)] w fun r w' => r = .returned (.bool (!isB (p ^ m) x)) ∧ Ex w w' := by
  have HI := hid_ (Is_any w hg x)
  obtain ⟨z, hz⟩ : ∃ z, isB (p ^ m) x = z := ⟨_, rfl⟩
  rw [hz] at HI ⊢
  clear hg hz
  go_enter Tryz.func139, Tryz.ntmps139
  go_wp2_with (go_at_call 49; refine HI.out.mono ?_; rintro e w1 ⟨rfl, n1, rfl⟩)
  go_ret
  exact ⟨rfl, (Ex.refl w).drewN _⟩
set_option maxRecDepth 100000 in
set_option maxHeartbeats 2000000 in
theorem factors_any (w : World) (hg : GFat w b p m ml x0) (l : List Int) (v : Value) (hl : ISl w v l) :
    Calls Tryz.prog 89 #[.pointer (some ⟨b, 0, none⟩), v] w fun r w' => r = .returned (.int .i64 (facS (p ^ m) l)) ∧ Ex w w' := by
  have ea : Ex w (w.alloc (.cells #[.pointer (some ⟨b, 0, none⟩)] 79)) := (Ex.refl _).alloc _
  have q0 : (w.alloc (.cells #[.pointer (some ⟨b, 0, none⟩)] 79)).cell? ⟨w.heap.size, 0, none⟩ = some (.pointer (some ⟨b, 0, none⟩)) := by simp
  have hc := ContainsFunc_fac (w.alloc (.cells #[.pointer (some ⟨b, 0, none⟩)] 79)) (.pointer (some ⟨w.heap.size, 0, none⟩)) v l.length (ints l) (hl.ex ea) (fun j => !isB (p ^ m) (l.getD j 0)) fun w1 i u hx hu => by
    obtain ⟨x, _, rfl, hx2⟩ := ints_at hu
    rw [hx2]
    exact fac1_any w1 w.heap.size (hg.ex (ea.trans hx)) x (hx.cell q0)
  rw [any_getD l fun x => !isB (p ^ m) x] at hc
  have HC := hid_ hc
  have HCT := hid_ (fun w1 (hx : Ex w w1) => Contains_any w1 l v 0 (hl.ex hx))
  obtain ⟨a, cap, rfl, s1, s2, s3⟩ := hl.open
  unfold maxLen at s2
  have HEA := hid_ ea
  obtain ⟨R, hR⟩ : ∃ R, facS (p ^ m) l = R := ⟨_, rfl⟩
  have hR2 := hR
  unfold facS at hR2
  rw [hR]
  obtain ⟨y, hy⟩ : ∃ y, (l.any fun x => !isB (p ^ m) x) = y := ⟨_, rfl⟩
  obtain ⟨z, hz⟩ : ∃ z, l.contains 0 = z := ⟨_, rfl⟩
  rw [hy] at HC hR2
  rw [hz] at hR2 HCT
  clear hl s3 hc ea hy hz hR hg
  cases y with
  | true =>
    rw [if_pos rfl] at hR2
    subst hR2
    go_enter Tryz.func89, Tryz.ntmps89
    go_wp2_with (go_at_call 47; refine HC.out.mono ?_; rintro e w2 ⟨rfl, hx2⟩; have HX2 := hid_ hx2; clear hx2)
    go_ret
    exact ⟨rfl, HEA.out.trans HX2.out⟩
  | false =>
    rw [if_neg (by decide)] at hR2
    cases z with
    | true =>
      rw [if_pos rfl] at hR2
      subst hR2
      go_enter Tryz.func89, Tryz.ntmps89
      go_wp2_with (first | (go_at_call 47; refine HC.out.mono ?_; rintro e w2 ⟨rfl, hx2⟩; have HX2 := hid_ (HEA.out.trans hx2); clear hx2) | (go_at_call 109; refine (HCT.out _ HX2.out).mono ?_; rintro e w5 ⟨rfl, rfl⟩))
      go_ret
      exact ⟨rfl, HX2.out⟩
    | false =>
      rw [if_neg (by decide)] at hR2
      subst hR2
      go_enter Tryz.func89, Tryz.ntmps89
      go_wp2_with (first | (go_at_call 47; refine HC.out.mono ?_; rintro e w2 ⟨rfl, hx2⟩; have HX2 := hid_ (HEA.out.trans hx2); clear hx2) | (go_at_call 109; refine (HCT.out _ HX2.out).mono ?_; rintro e w5 ⟨rfl, rfl⟩))
      go_ret
      exact ⟨rfl, HX2.out⟩
end

/-- The error of a monomial map. -/
def monS (p m : Int) (ml : List Int) (n : Int) (pl sl : List Int) (fr : Int) : Int :=
  if chkS p m ml ≠ 0 then 1 else if n < 1 ∨ 64 < n then 4 else if (pl.length : Int) ≠ n ∨ (sl.length : Int) ≠ n then 3 else
  if rngB pl n = false ∨ fr < 0 ∨ m ≤ fr then 6 else if dupB pl = true then 18 else facS (p.toNat ^ m.toNat) sl
theorem boxF_facts (w : World) (p m : Int) (v : Value) : (w.alloc (.cells #[.int .i64 p, .int .i64 m, v] 24)).cell? ⟨w.heap.size, 0, none⟩ = some (.int .i64 p) ∧ (w.alloc (.cells #[.int .i64 p, .int .i64 m, v] 24)).cell? ⟨w.heap.size, 1, none⟩ = some (.int .i64 m) ∧
    (w.alloc (.cells #[.int .i64 p, .int .i64 m, v] 24)).cell? ⟨w.heap.size, 2, none⟩ = some v ∧ Ex w (w.alloc (.cells #[.int .i64 p, .int .i64 m, v] 24)) := ⟨by simp, by simp, by simp, (Ex.refl _).alloc _⟩
theorem boxMo_facts (w : World) (u v : Value) (fr : Int) : (w.alloc (.cells #[u, v, .int .i64 fr] 26)).cell? ⟨w.heap.size, 0, none⟩ = some u ∧ (w.alloc (.cells #[u, v, .int .i64 fr] 26)).cell? ⟨w.heap.size, 1, none⟩ = some v ∧
    (w.alloc (.cells #[u, v, .int .i64 fr] 26)).cell? ⟨w.heap.size, 2, none⟩ = some (.int .i64 fr) ∧ Ex w (w.alloc (.cells #[u, v, .int .i64 fr] 26)) := ⟨by simp, by simp, by simp, (Ex.refl _).alloc _⟩
/-- What equivalence.open hands back. -/
def OpnR (p m : Int) (ml : List Int) (e : Int) (r : Ending) (w' : World) : Prop :=
  (e = 0 ∧ ∃ (b pn mn x0 : Nat), p = pn ∧ m = mn ∧ r = .returned (.tuple #[.pointer (some ⟨b, 0, none⟩), .int .i64 0]) ∧ GFat w' b pn mn ml x0 ∧ 1 ≤ x0 ∧ x0 < pn ^ mn) ∨
  (e ≠ 0 ∧ ∃ ptr : Option Addr, r = .returned (.tuple #[.pointer ptr, .int .i64 e]))
theorem opn_no {p m : Int} {ml : List Int} {e : Int} (h : e ≠ 0) (ptr : Option Addr) (w' : World) : OpnR p m ml e (.returned (.tuple #[.pointer ptr, .int .i64 e])) w' := .inr ⟨h, ptr, rfl⟩
end Go.Proofs.YtgdmlmhpineibaaGreat
namespace Go.Proofs.YtgdmlmhpineibaaGreat
set_option linter.unusedVariables false
set_option linter.unusedSimpArgs false
open Go.RowKit

set_option maxRecDepth 100000 in
set_option maxHeartbeats 1000000 in
theorem Equal_any (w : World) (l k : List Int) (v u : Value) (hl : ISl w v l) (hk : ISl w u k) :
    Calls Tryz.prog 162 #[v, u] w fun r w' => r = .returned (.bool (decide (l = k))) ∧ ∃ n, w' = w.drewN n := by
  obtain ⟨a, cap, rfl, s1, s2, s3⟩ := hl.open
  obtain ⟨c, cc, rfl, t1, t2, t3⟩ := hk.open
  have S3 := hid_ s3
  have T3 := hid_ t3
  unfold maxLen at s2 t2
  clear hl hk s3 t3
  by_cases hlk : l.length = k.length
  · have hb : ((l.length : Int) != (k.length : Int)) = false := by simp; omega
    have HLK := hid_ hlk
    clear hlk
    go_enter Tryz.func162, Tryz.ntmps162
    go_wp2_with fail
    go_loopw [13] (fun i' wr => ∃ i n : Nat, i ≤ l.length ∧ i' = .int .i64 i ∧ wr = w.drewN n ∧ Hid (∀ j, j < i → l[j]? = k[j]?)) (fun i' _ => l.length - (intOf i').toNat)
    case atStart => exact ⟨0, 0, by omega, rfl, rfl, hid_ (fun j hj => by omega)⟩
    case round =>
      obtain ⟨i, n, hi, rfl, rfl, hall⟩ := hrel
      by_cases hlt : i < l.length
      · obtain ⟨x, hx⟩ : ∃ x, l[i]? = some x := ⟨_, List.getElem?_eq_getElem hlt⟩
        have hik : i < k.length := by have := HLK.out; omega
        obtain ⟨y, hy⟩ : ∃ y, k[i]? = some y := ⟨_, List.getElem?_eq_getElem hik⟩
        obtain ⟨b, o, rfl, hc⟩ := S3.out (by omega)
        obtain ⟨b2, o2, rfl, hc2⟩ := T3.out (by omega)
        have c1 := ((Ex.refl w).drewN n).cell (hc i x hx)
        have c2 := ((Ex.refl w).drewN n).cell (hc2 i y hy)
        have i1 : (0 : Int) ≤ (i : Int) := by omega
        have i2 : (i : Int) < (l.length : Int) := by omega
        have i3 : (i : Int) < (k.length : Int) := by omega
        obtain ⟨W, hW⟩ : ∃ W, w.drewN n = W := ⟨_, rfl⟩
        rw [hW] at c1 c2 ⊢
        have HWE := hid_ hW
        clear hW
        by_cases hxy : x = y
        · have HA := hid_ (show ∀ j, j < i + 1 → l[j]? = k[j]? from fun j hj => by
            by_cases e : j = i
            · subst e; rw [hx, hy, hxy]
            · exact hall.out j (by omega))
          have hbb : (x != y) = false := by simpa using hxy
          clear hc hc2 hx hy hxy
          go_wp2_with fail
          go_quiet (fail)
          go_wp2_with fail
          go_roundw
          case rel => exact ⟨i + 1, _, by omega, by go_num, by rw [← HWE.out, World.drewN_drewN], HA⟩
          case measure => simp [intOf]; omega
        · have HN := hid_ (show ¬ l = k from fun e => hxy (by rw [e, hy] at hx; injection hx with hx; exact hx.symm))
          have hbb : (x != y) = true := by simpa using hxy
          clear hc hc2 hx hy hxy
          go_wp2_with fail
          go_quiet (fail)
          go_wp2_with fail
          go_ret
          exact ⟨ret_bool (decide_eq_false HN.out).symm, _, by rw [← HWE.out, World.drewN_drewN]⟩
      · obtain rfl : i = l.length := by omega
        have HE := hid_ (eq_of_get HLK.out hall.out)
        go_wp2_with fail
        go_ret
        exact ⟨ret_bool (decide_eq_true HE.out).symm, n, rfl⟩
  · have hb : ((l.length : Int) != (k.length : Int)) = true := by simp; omega
    have HN := hid_ (show ¬ l = k from fun e => hlk (by rw [e]))
    clear hlk
    go_enter Tryz.func162, Tryz.ntmps162
    go_wp2_with fail
    go_ret
    exact ⟨ret_bool (decide_eq_false HN.out).symm, 0, rfl⟩
set_option maxRecDepth 100000 in
set_option maxHeartbeats 1000000 in
theorem EqualFunc_any (w : World) (l k : List (List Int)) (v u : Value) (hl : MSl w v l) (hk : MSl w u k) :
    Calls Tryz.prog 161 #[v, u, .func (.func 162) #[] #[]] w fun r w' => r = .returned (.bool (decide (l = k))) ∧ ∃ n, w' = w.drewN n := by
  obtain ⟨a, cap, rfl, s1, s2, s3⟩ := hl.open
  obtain ⟨c, cc, rfl, t1, t2, t3⟩ := hk.open
  have S3 := hid_ s3
  have T3 := hid_ t3
  unfold maxLen at s2 t2
  clear hl hk s3 t3
  by_cases hlk : l.length = k.length
  · have hb : ((l.length : Int) != (k.length : Int)) = false := by simp; omega
    have HLK := hid_ hlk
    clear hlk
    go_enter Tryz.func161, Tryz.ntmps161
    go_wp2_with fail
    go_loopw [17] (fun i' wr => ∃ i n : Nat, i ≤ l.length ∧ i' = .int .i64 i ∧ wr = w.drewN n ∧ Hid (∀ j, j < i → l[j]? = k[j]?)) (fun i' _ => l.length - (intOf i').toNat)
    case atStart => exact ⟨0, 0, by omega, rfl, rfl, hid_ (fun j hj => by omega)⟩
    case round =>
      obtain ⟨i, n, hi, rfl, rfl, hall⟩ := hrel
      by_cases hlt : i < l.length
      · obtain ⟨x, hx⟩ : ∃ x, l[i]? = some x := ⟨_, List.getElem?_eq_getElem hlt⟩
        have hik : i < k.length := by have := HLK.out; omega
        obtain ⟨y, hy⟩ : ∃ y, k[i]? = some y := ⟨_, List.getElem?_eq_getElem hik⟩
        obtain ⟨b, o, rfl, hc⟩ := S3.out (by omega)
        obtain ⟨b2, o2, rfl, hc2⟩ := T3.out (by omega)
        obtain ⟨u1, e1, hu1⟩ := hc i x hx
        obtain ⟨u2, e2, hu2⟩ := hc2 i y hy
        have c1 := ((Ex.refl w).drewN n).cell e1
        have c2 := ((Ex.refl w).drewN n).cell e2
        have hv1 := hu1.ex ((Ex.refl w).drewN n)
        have hv2 := hu2.ex ((Ex.refl w).drewN n)
        have i1 : (0 : Int) ≤ (i : Int) := by omega
        have i2 : (i : Int) < (l.length : Int) := by omega
        have i3 : (i : Int) < (k.length : Int) := by omega
        obtain ⟨W, hW⟩ : ∃ W, w.drewN n = W := ⟨_, rfl⟩
        rw [hW] at c1 c2 hv1 hv2 ⊢
        have HWE := hid_ hW
        have HSI := hid_ (Equal_any W x y u1 u2 hv1 hv2)
        obtain ⟨ua, uc, rfl, _, _, _⟩ := hv1.open
        obtain ⟨va, vc, rfl, _, _, _⟩ := hv2.open
        by_cases hxy : x = y
        · have HA := hid_ (show ∀ j, j < i + 1 → l[j]? = k[j]? from fun j hj => by
            by_cases e : j = i
            · subst e; rw [hx, hy, hxy]
            · exact hall.out j (by omega))
          rw [decide_eq_true hxy] at HSI
          clear hc hc2 hx hy hxy hW hu1 hu2 e1 e2 hv1 hv2
          go_wp2_with (go_at_call 162; refine HSI.out.mono ?_; rintro e w5 ⟨rfl, n5, rfl⟩)
          go_roundw
          case rel => exact ⟨i + 1, _, by omega, by go_num, by rw [← HWE.out, World.drewN_drewN], HA⟩
          case measure => simp [intOf]; omega
        · have HN := hid_ (show ¬ l = k from fun e => hxy (by rw [e, hy] at hx; injection hx with hx; exact hx.symm))
          rw [decide_eq_false hxy] at HSI
          clear hc hc2 hx hy hxy hW hu1 hu2 e1 e2 hv1 hv2
          go_wp2_with (go_at_call 162; refine HSI.out.mono ?_; rintro e w5 ⟨rfl, n5, rfl⟩)
          go_ret
          exact ⟨ret_bool (decide_eq_false HN.out).symm, _, by rw [← HWE.out, World.drewN_drewN]⟩
      · obtain rfl : i = l.length := by omega
        have HE := hid_ (rows_eq_of_get HLK.out hall.out)
        go_wp2_with fail
        go_ret
        exact ⟨ret_bool (decide_eq_true HE.out).symm, n, rfl⟩
  · have hb : ((l.length : Int) != (k.length : Int)) = true := by simp; omega
    have HN := hid_ (show ¬ l = k from fun e => hlk (by rw [e]))
    clear hlk
    go_enter Tryz.func161, Tryz.ntmps161
    go_wp2_with fail
    go_ret
    exact ⟨ret_bool (decide_eq_false HN.out).symm, 0, rfl⟩
theorem boxM2_facts (w : World) (c : Int) (v : Value) : (w.alloc (.cells #[.int .i64 c, v] 113)).cell? ⟨w.heap.size, 0, none⟩ = some (.int .i64 c) ∧ (w.alloc (.cells #[.int .i64 c, v] 113)).cell? ⟨w.heap.size, 1, none⟩ = some v ∧ Ex w (w.alloc (.cells #[.int .i64 c, v] 113)) := ⟨by simp, by simp, (Ex.refl _).alloc _⟩
/-- What space.open says of a matrix. -/
def SpcO (p m : Int) (ml : List Int) (cols : Int) (rows : List (List Int)) (e : Int) : Prop :=
  (canE p m ml cols rows ≠ 0 ∧ e = canE p m ml cols rows) ∨
  (canE p m ml cols rows = 0 ∧ ∃ (pn mn N : Nat) (piv : List Nat) (a' : Nat → Nat → Int), p = pn ∧ m = mn ∧ cols = N ∧ FldB p m ml ∧ mchkS (pn ^ mn) N rows = 0 ∧ ElO pn mn ml N rows.length (rowsF rows) a' piv ∧ e = if rowsL N piv.length a' = rows then 0 else 5)
/-- The box of a view, new and empty. -/
structure BxV (w : World) (b : Nat) : Prop where
  c0 : w.cell? ⟨b, 0, none⟩ = some (.pointer none)
  c1 : w.cell? ⟨b, 1, none⟩ = some (.int .i64 0)
  c2 : w.cell? ⟨b, 2, none⟩ = some (.slice none 0 0)
  c3 : w.cell? ⟨b, 3, none⟩ = some (.slice none 0 0)
  f0 : w.frozen? ⟨b, 0, none⟩ = false
  f1 : w.frozen? ⟨b, 1, none⟩ = false
  f2 : w.frozen? ⟨b, 2, none⟩ = false
  f3 : w.frozen? ⟨b, 3, none⟩ = false
theorem BxV.new (w : World) : BxV (w.alloc (.cells #[.pointer none, .int .i64 0, .slice none 0 0, .slice none 0 0] 166)) w.heap.size := ⟨by simp, by simp, by simp, by simp, by simp, by simp, by simp, by simp⟩
theorem BxV.ex {w w' : World} {b : Nat} (h : BxV w b) (hx : Ex w w') : BxV w' b := ⟨hx.cell h.c0, hx.cell h.c1, hx.cell h.c2, hx.cell h.c3, hx.frz h.c0 h.f0, hx.frz h.c1 h.f1, hx.frz h.c2 h.f2, hx.frz h.c3 h.f3⟩
theorem set4_ex {w0 w : World} {q : Nat} (hx : Ex w0 w) (hq : w0.heap.size ≤ q) (u v z y : Value) : Ex w0 ((((w.setCell ⟨q, 0, none⟩ u).setCell ⟨q, 1, none⟩ v).setCell ⟨q, 2, none⟩ z).setCell ⟨q, 3, none⟩ y) :=
  (((hx.setCell (p := ⟨q, 0, none⟩) hq _).setCell (p := ⟨q, 1, none⟩) hq _).setCell (p := ⟨q, 2, none⟩) hq _).setCell (p := ⟨q, 3, none⟩) hq _
set_option maxRecDepth 100000 in
set_option maxHeartbeats 8000000 in
theorem spaceOpen_any (w : World) (p m : Int) (ml : List Int) (mv : Value) (hmv : ISl w mv ml) (cols : Int) (rows : List (List Int)) (v : Value) (hv : MSl w v rows) (h0 : canE p m ml cols rows = 0 → 1 ≤ cols) :
    Calls Tryz.prog 132 #[.agg #[.int .i64 p, .int .i64 m, mv], .agg #[.int .i64 cols, v]] w fun r w' => (∃ (g : Option Addr) (c : Int) (a1 a2 : Option Addr) (n1 k1 n2 k2 : Nat) (e : Int), r = .returned (.tuple #[.agg #[.pointer g, .int .i64 c, .slice a1 n1 k1, .slice a2 n2 k2], .int .i64 e]) ∧ SpcO p m ml cols rows e) ∧ Ex w w' := by
  obtain ⟨g0, g1, g2, e0, gsz⟩ := box_facts w p m mv
  have HCN := hid_ (fun (w' : World) (h : Ex w w') => Canonical_any w' p m ml mv (hmv.ex h) cols rows v (hv.ex h) h0)
  have HNW := hid_ (fun (w' : World) (h : Ex w w') => New_any p m ml mv w' (hmv.ex h))
  have HV := hid_ hv
  obtain ⟨za, zc, rfl, z1, z2, z3⟩ := hv.open
  clear z1 z3
  unfold maxLen at z2
  obtain ⟨ma, mc, rfl, -, m2, -⟩ := hmv.open
  unfold maxLen at m2
  obtain ⟨xb, hxb⟩ : ∃ xb, w.heap.size = xb := ⟨_, rfl⟩
  rw [hxb] at g0 g1 g2 gsz
  clear hmv hv h0
  go_enter Tryz.func132, Tryz.ntmps132
  go_wp2_with fail
  generalize w.alloc (.cells #[.int .i64 p, .int .i64 m, .slice ma ml.length mc] 24) = wA at *
  obtain ⟨a0, a1, ea⟩ := boxM2_facts wA cols (.slice za rows.length zc)
  have asz : (wA.alloc (.cells #[.int .i64 cols, .slice za rows.length zc] 113)).heap.size = xb + 1 + 1 := by simp [gsz]
  rw [gsz] at a0 a1
  generalize wA.alloc (.cells #[.int .i64 cols, .slice za rows.length zc] 113) = wB at *
  have bq := BxV.new wB
  rw [asz] at bq
  have eb : Ex wB _ := (Ex.refl wB).alloc (.cells #[.pointer none, .int .i64 0, .slice none 0 0, .slice none 0 0] 166)
  have A0 := hid_ (eb.cell a0)
  have A1 := hid_ (eb.cell a1)
  have G0 := hid_ ((ea.trans eb).cell g0)
  have G1 := hid_ ((ea.trans eb).cell g1)
  have G2 := hid_ ((ea.trans eb).cell g2)
  have BQ := hid_ bq
  have HE := hid_ ((e0.trans ea).trans eb)
  generalize wB.alloc (.cells #[.pointer none, .int .i64 0, .slice none 0 0, .slice none 0 0] 166) = wC at *
  refine (HCN.out wC HE.out).mono ?_
  clear g0 g1 g2 a0 a1 bq e0 ea eb asz gsz
  rintro e w2 ⟨hc, hx2⟩
  have HX2 := hid_ (HE.out.trans hx2)
  have BQ2 := hid_ (BQ.out.ex hx2)
  have A0 := hid_ (hx2.cell A0.out)
  have A1 := hid_ (hx2.cell A1.out)
  have G0 := hid_ (hx2.cell G0.out)
  have G1 := hid_ (hx2.cell G1.out)
  have G2 := hid_ (hx2.cell G2.out)
  have HXB := hid_ (show w.heap.size ≤ xb + 1 + 1 from by omega)
  clear hx2 BQ HE HCN
  rcases hc with ⟨hce, pn, mn, N, piv, a', rv, pv, rfl, rfl, rfl, hfb, hmk, rfl, hel, hrv, hpv, -⟩ | ⟨hce, rfl⟩
  · have HRV := hid_ hrv
    have HSP := hid_ (fun e (h : e = if rowsL N piv.length a' = rows then 0 else 5) => show SpcO pn mn ml N rows e from .inr ⟨hce, pn, mn, N, piv, a', rfl, rfl, rfl, hfb, hmk, hel, h⟩)
    have HFB := hid_ hfb
    obtain ⟨ra, rc, rfl, -, r2, -⟩ := hrv.open
    obtain ⟨pa, pc, rfl, -, p2, -⟩ := hpv.open
    unfold maxLen at r2 p2
    obtain ⟨L, hL⟩ : ∃ L, rowsL N piv.length a' = L := ⟨_, rfl⟩
    obtain ⟨PL, hPL⟩ : ∃ PL, pI piv = PL := ⟨_, rfl⟩
    rw [hL] at HRV HSP ⊢
    rw [hPL]
    clear hce hfb hmk hel hrv hpv hL hPL
    have HX3 := hid_ ((Ex.refl w2).alloc (.cells #[.int .i64 N, .slice ra L.length rc] 113))
    have l0 : (w2.alloc (.cells #[.int .i64 N, .slice ra L.length rc] 113)).cell? ⟨w2.heap.size, 1, none⟩ = some (.slice ra L.length rc) := by simp
    have a1' := HX3.out.cell A1.out
    have HEQ := hid_ (EqualFunc_any (w2.alloc (.cells #[.int .i64 N, .slice ra L.length rc] 113)) L rows _ _ (HRV.out.ex HX3.out) (HV.out.ex (HX2.out.trans HX3.out)))
    by_cases hLR : L = rows
    · rw [decide_eq_true hLR] at HEQ
      have HSP2 := hid_ (HSP.out 0 (by rw [if_pos hLR]))
      clear hLR
      go_wp2_with fail
      refine HEQ.out.mono ?_
      rintro e w3 ⟨rfl, n3, hw3⟩
      have hx3 : Ex (w2.alloc (.cells #[.int .i64 N, .slice ra L.length rc] 113)) w3 := by rw [hw3]; exact (Ex.refl _).drewN n3
      have HX23 := hid_ (HX3.out.trans hx3)
      have g0 := HX23.out.cell G0.out
      have g1 := HX23.out.cell G1.out
      have g2 := HX23.out.cell G2.out
      clear hx3 hw3 l0 a1'
      go_wp2_with fail
      refine (HNW.out w3 (HX2.out.trans HX23.out)).mono ?_
      rintro e w4 ⟨hno, hx4⟩
      rcases hno with ⟨pn', mn', x, b, e1, e2, rfl, hg, -, -⟩ | ⟨hno, _⟩
      · have X4 := hid_ (HX23.out.trans hx4)
        have a0 := X4.out.cell A0.out
        have a1 := X4.out.cell A1.out
        obtain ⟨q0, q1, q2, q3, qf0, qf1, qf2, qf3⟩ := BQ2.out.ex X4.out
        clear e1 e2 hg hx4 g0 g1 g2
        go_wp2_with fail
        exact bodyPost_ret (v := .tuple #[.agg #[.pointer (some ⟨b, 0, none⟩), .int .i64 N, .slice za rows.length zc, .slice pa PL.length pc], .int .i64 0]) (by simp [results, Tryz.results132, go_sem, q0, q1, q2, q3]) rfl ⟨⟨_, _, _, _, _, _, _, _, _, rfl, HSP2.out⟩, set4_ex (HX2.out.trans X4.out) HXB.out _ _ _ _⟩
      · exact absurd HFB.out hno
    · rw [decide_eq_false hLR] at HEQ
      have HSP2 := hid_ (HSP.out 5 (by rw [if_neg hLR]))
      clear hLR
      go_wp2_with fail
      refine HEQ.out.mono ?_
      rintro e w3 ⟨rfl, n3, hw3⟩
      have hx3 : Ex (w2.alloc (.cells #[.int .i64 N, .slice ra L.length rc] 113)) w3 := by rw [hw3]; exact (Ex.refl _).drewN n3
      have HX23 := hid_ (HX3.out.trans hx3)
      obtain ⟨q0, q1, q2, q3, qf0, qf1, qf2, qf3⟩ := BQ2.out.ex HX23.out
      clear hx3 hw3 l0 a1'
      go_wp2_with fail
      exact bodyPost_ret (v := .tuple #[.agg #[.pointer none, .int .i64 0, .slice none 0 0, .slice none 0 0], .int .i64 5]) (by simp [results, Tryz.results132, go_sem, q0, q1, q2, q3]) rfl ⟨⟨_, _, _, _, _, _, _, _, _, rfl, HSP2.out⟩, set4_ex (HX2.out.trans HX23.out) HXB.out _ _ _ _⟩
  · have HSP := hid_ (show SpcO p m ml cols rows (canE p m ml cols rows) from .inl ⟨hce, rfl⟩)
    obtain ⟨E, hE⟩ : ∃ E, canE p m ml cols rows = E := ⟨_, rfl⟩
    rw [hE] at HSP hce ⊢
    have hb : (E != 0) = true := by simpa using hce
    obtain ⟨q0, q1, q2, q3, qf0, qf1, qf2, qf3⟩ := BQ2.out.ex ((Ex.refl w2).alloc (.cells #[.int .i64 0, .slice none 0 0] 113))
    have HXL := hid_ (HX2.out.alloc (.cells #[.int .i64 0, .slice none 0 0] 113))
    clear hE hce
    go_wp2_with fail
    exact bodyPost_ret (v := .tuple #[.agg #[.pointer none, .int .i64 0, .slice none 0 0, .slice none 0 0], .int .i64 E]) (by simp [results, Tryz.results132, go_sem, q0, q1, q2, q3]) rfl ⟨⟨_, _, _, _, _, _, _, _, _, rfl, HSP.out⟩, set4_ex HXL.out HXB.out _ _ _ _⟩
end Go.Proofs.YtgdmlmhpineibaaGreat
