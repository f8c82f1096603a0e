/- Walks of the reference of the package peel: common, without. -/
/- Plain: the reference's peeling says what the program's says. -/
/- Walk of the reference's Peel. -/
import Derived.Test.YtpphaicbdeeacaaPeelZ
import Derived.Test.YtpphaicbdeeacaaPeelO
import Derived.Test.YtpphaicbdeeacaaPeelU
import Derived.Test.YtpphaicbdeeacaaPeelV
namespace Go.Proofs.Ytpphaicbdeeacaa
set_option linter.unusedVariables false
set_option linter.unusedSimpArgs false
open Go.RowKit

/-- The shared entries of two lists in the order in which common meets them. -/
def shI (a b : List Int) : List Int := a.flatMap fun x => b.filterMap fun y => if x = y then some x else none
def shK (a b : List Int) (i j : Nat) : List Int := shI (a.take i) b ++ (b.take j).filterMap fun y => if a.getD i 0 = y then some (a.getD i 0) else none
def lastI (l : List Int) : Int := l.getLast?.getD (-1)
theorem lastI_app (l : List Int) (x : Int) : lastI (l ++ [x]) = x := by simp [lastI]
theorem shK_yes {a b : List Int} {i j : Nat} {x : Int} (ha : a[i]? = some x) (hb : b[j]? = some x) : shK a b i (j + 1) = shK a b i j ++ [x] := by
  unfold shK
  rw [List.take_add_one, hb, List.getD_eq_getElem?_getD, ha]
  simp
theorem shK_no {a b : List Int} {i j : Nat} {x y : Int} (ha : a[i]? = some x) (hb : b[j]? = some y) (h : x ≠ y) : shK a b i (j + 1) = shK a b i j := by
  unfold shK
  rw [List.take_add_one, hb, List.getD_eq_getElem?_getD, ha]
  simp [h]
theorem shK_zero (a b : List Int) (i : Nat) : shK a b i 0 = shI (a.take i) b := by unfold shK; simp
theorem shK_end {a b : List Int} {i : Nat} (hi : i < a.length) : shK a b i b.length = shI (a.take (i + 1)) b := by
  unfold shK shI
  rw [List.take_length, List.take_add_one, List.flatMap_append]
  congr 1
  simp [List.getD_eq_getElem?_getD, List.getElem?_eq_getElem hi]
theorem shI_len (b : List Int) : ∀ a : List Int, (shI a b).length ≤ a.length * b.length
  | [] => by simp [shI]
  | x :: a => by
    have := shI_len b a
    have h2 := List.length_filterMap_le (fun y => if x = y then some x else none) b
    unfold shI at this ⊢
    rw [List.flatMap_cons, List.length_append, List.length_cons, Nat.add_mul]
    omega
theorem shK_len (a b : List Int) (i j : Nat) (hi : i < a.length) (hj : j ≤ b.length) : (shK a b i j).length ≤ a.length * b.length := by
  have h1 := shI_len b (a.take i)
  have h2 := List.length_filterMap_le (fun y => if a.getD i 0 = y then some (a.getD i 0) else none) (b.take j)
  unfold shK
  rw [List.length_append]
  rw [List.length_take] at h1 h2
  have h3 : (i + 1) * b.length ≤ a.length * b.length := Nat.mul_le_mul_right _ hi
  have h4 : min i a.length * b.length ≤ i * b.length := Nat.mul_le_mul_right _ (Nat.min_le_left _ _)
  rw [Nat.add_mul] at h3
  omega

set_option maxRecDepth 100000 in
set_option maxHeartbeats 2000000 in
theorem common_any (w : World) (l k : List Int) (v u : Value) (hl : ISl w v l) (hk : ISl w u k) (h1 : l.length ≤ 1000) (h2 : k.length ≤ 1000) :
    Calls Try.prog 72 #[v, u] w fun r w' => r = .returned (.tuple #[.int .i64 ((shI l k).length : Nat), .int .i64 (lastI (shI l k))]) ∧ ∃ n, w' = w.drewN n := by
  obtain ⟨a, cap, rfl, s1, s2, s3⟩ := hl.open
  obtain ⟨c, cc, rfl, t1, t2, t3⟩ := hk.open
  have S3 := hid_ s3
  have T3 := hid_ t3
  clear hl hk s3 t3 s1 s2 t1 t2
  have hmm : l.length * k.length ≤ 1000000 := Nat.mul_le_mul h1 h2
  have HMM := hid_ hmm
  clear hmm
  go_enter Try.func72, Try.ntmps72
  go_wp2_with fail
  go_loopw [6, 7, 8] (fun n' x' i' wr => ∃ (i : Nat) (S : List Int) (n : Nat), i ≤ l.length ∧ i' = .int .i64 i ∧ n' = .int .i64 S.length ∧ x' = .int .i64 (lastI S) ∧ Hid (S = shI (l.take i) k) ∧ wr = w.drewN n) (fun _ _ i' _ => l.length - (intOf i').toNat)
  case atStart => exact ⟨0, [], 0, by omega, rfl, rfl, rfl, hid_ (by simp [shI]), rfl⟩
  case round =>
    obtain ⟨i, S, n, hi, rfl, rfl, rfl, hS, rfl⟩ := hrel
    by_cases hlt : i < l.length
    · obtain ⟨x, hx⟩ : ∃ x, l[i]? = some x := ⟨_, List.getElem?_eq_getElem hlt⟩
      have HX := hid_ hx
      clear hx
      go_wp2_with fail
      go_loopw [6, 7, 9] (fun n' x' j' wr => ∃ (j : Nat) (S : List Int) (n : Nat), j ≤ k.length ∧ j' = .int .i64 j ∧ n' = .int .i64 S.length ∧ x' = .int .i64 (lastI S) ∧ Hid (S = shK l k i j) ∧ wr = w.drewN n) (fun _ _ j' _ => k.length - (intOf j').toNat)
      case atStart => exact ⟨0, S, n, by omega, rfl, rfl, rfl, hid_ (by rw [shK_zero]; exact hS.out), rfl⟩
      case round =>
        clear hS
        obtain ⟨j, S, n, hj, rfl, rfl, rfl, hS, rfl⟩ := hrel
        by_cases hjt : j < k.length
        · obtain ⟨y, hy⟩ : ∃ y, k[j]? = some y := ⟨_, List.getElem?_eq_getElem hjt⟩
          obtain ⟨b, o, rfl, hc⟩ := S3.out (by omega)
          obtain ⟨b2, o2, rfl, hc2⟩ := T3.out (by omega)
          have c1 := ((Ex.refl w).drewN n).cell (hc i x HX.out)
          have c2 := ((Ex.refl w).drewN n).cell (hc2 j y hy)
          have i1 : (0 : Int) ≤ (i : Int) := by omega
          have i2 : (i : Int) < (l.length : Int) := by omega
          have i4 : (0 : Int) ≤ (j : Int) := by omega
          have i3 : (j : Int) < (k.length : Int) := by omega
          have hSl : S.length ≤ 1000000 := by have := shK_len l k i j hlt hj; rw [hS.out]; exact Nat.le_trans this HMM.out
          obtain ⟨W, hW⟩ : ∃ W, w.drewN n = W := ⟨_, rfl⟩
          rw [hW] at c1 c2 ⊢
          have HWE := hid_ hW
          have HC1 := hid_ c1
          clear hW
          by_cases hxy : x = y
          · have HN := hid_ (show S ++ [x] = shK l k i (j + 1) by rw [hS.out]; exact (shK_yes HX.out (by rw [hxy]; exact hy)).symm)
            have hbb : (x == y) = true := by simpa using hxy
            clear hc hc2 hy hS hxy
            go_wp2_with fail
            go_quiet (fail)
            go_wp2_with fail
            go_roundw
            case rel => exact ⟨j + 1, S ++ [x], _, by omega, by go_num, by rw [List.length_append]; go_num, by rw [lastI_app], HN, by rw [← HWE.out, World.drewN_drewN]⟩
            case measure => simp [intOf]; omega
          · have HN := hid_ (show S = shK l k i (j + 1) by rw [hS.out]; exact (shK_no HX.out hy hxy).symm)
            have hbb : (x == y) = false := by simpa using hxy
            clear hc hc2 hy hS hxy
            go_wp2_with fail
            go_quiet (fail)
            go_wp2_with fail
            go_roundw
            case rel => exact ⟨j + 1, S, _, by omega, by go_num, rfl, rfl, HN, by rw [← HWE.out, World.drewN_drewN]⟩
            case measure => simp [intOf]; omega
        · obtain rfl : j = k.length := by omega
          have HN := hid_ (show S = shI (l.take (i + 1)) k by rw [hS.out]; exact shK_end hlt)
          clear hS
          go_wp2_with fail
          go_roundw
          case rel => exact ⟨i + 1, S, n, by omega, by go_num, rfl, rfl, HN, rfl⟩
          case measure => simp [intOf]; omega
    · obtain rfl : i = l.length := by omega
      have HE := hid_ (show S = shI l k by rw [hS.out, List.take_length])
      go_wp2_with fail
      go_ret2
      exact ⟨by rw [HE.out]; rfl, _, rfl⟩

/-- A list without an entry. -/
def woI (l : List Int) (x : Int) : List Int := l.filter fun y => y != x
theorem wo_succ {l : List Int} {k : Nat} {x y : Int} (h : l[k]? = some y) : woI (l.take (k + 1)) x = woI (l.take k) x ++ (if y != x then [y] else []) := by
  unfold woI
  rw [List.take_add_one, h, List.filter_append]
  by_cases e : y != x <;> simp_all
theorem wo_len (l : List Int) (x : Int) : (woI l x).length ≤ l.length := List.length_filter_le ..

set_option maxRecDepth 100000 in
set_option maxHeartbeats 1000000 in
theorem without_any (w : World) (r : List Int) (v : Value) (x : Int) (hv : ISl w v r) (hl : r.length ≤ 1000) :
    Calls Try.prog 77 #[v, .int .i64 x] w fun e w' => ∃ u, e = .returned u ∧ w'.ownsRow w.heap.size 3 1 u (woI r x).length (ints (woI r x)) ∧ Ex w w' := by
  obtain ⟨a, cap, rfl, s1, s2, s3⟩ := hv.open
  have S3 := hid_ s3
  unfold maxLen at s2
  clear hv s3
  go_enter Try.func77, Try.ntmps77
  go_wp2_with fail
  go_loopw [5, 6] (fun o' k' wr => ∃ k : Nat, k ≤ r.length ∧ k' = .int .i64 k ∧ Hid (wr.ownsRow w.heap.size 3 1 o' (woI (r.take k) x).length (ints (woI (r.take k) x))) ∧ Ex w wr) (fun _ k' _ => r.length - (intOf k').toNat)
  case atStart => exact ⟨0, by omega, rfl, hid_ (World.ownsRow_nil _ _ _ _), Ex.refl _⟩
  case round =>
    obtain ⟨k, hk, rfl, hown, hx⟩ := hrel
    have hsl : (woI (r.take k) x).length ≤ 1000 := Nat.le_trans (wo_len _ _) (by rw [List.length_take]; omega)
    by_cases hkl : k < r.length
    · obtain ⟨y, hyy⟩ : ∃ y, r[k]? = some y := ⟨_, List.getElem?_eq_getElem hkl⟩
      obtain ⟨sb, so, rfl, hsc⟩ := S3.out (by omega)
      have c7 := hx.cell (hsc k y hyy)
      have HSN := hid_ (wo_succ (x := x) hyy)
      clear hsc hyy
      by_cases h0 : y = x
      · have hb : (y != x) = false := by simpa using h0
        have HSN2 := hid_ (show woI (r.take (k + 1)) x = woI (r.take k) x by rw [HSN.out, hb]; simp)
        clear h0
        go_wp2_with fail
        go_roundw
        case rel => exact ⟨k + 1, by omega, by go_num, hid_ (by rw [HSN2.out]; exact hown.out), hx⟩
        case measure => simp [intOf]; omega
      · have hb : (y != x) = true := by simpa using h0
        have HSN2 := hid_ (show woI (r.take (k + 1)) x = woI (r.take k) x ++ [y] by rw [HSN.out, hb]; simp)
        have HS := hid_ hx.size
        have HX2 := hid_ hx
        clear h0 hx
        generalize woI (r.take k) x = SK at *
        go_wp2_with (at_builtin; refine wpList_append1 _ rfl _ _ 22 rfl w.heap.size 3 (.int .i64 0) 1 8 Try.underlying22 infoInt rfl (by decide) _ SK.length _ rfl hown.out [.int .i64 y] 3 _ rfl (by simp) rfl (by simp [Value.oneCell']) (by unfold maxLen; omega) (by omega) HS.out ?_)
        intro v2 w2 happ
        have HO := hid_ happ.own
        have HE := hid_ (happ.ex HX2.out (Nat.le_refl _))
        clear happ
        go_wp2_with fail
        go_roundw
        case rel => exact ⟨k + 1, by omega, by go_num, hid_ (by rw [HSN2.out, List.length_append]; have := HO.out; simpa [ints] using this), HE.out⟩
        case measure => simp [intOf]; omega
    · obtain rfl : k = r.length := by omega
      have HO := hid_ (show wr.ownsRow w.heap.size 3 1 _ (woI r x).length (ints (woI r x)) from by have := hown.out; rwa [List.take_length] at this)
      clear hown
      go_wp2_with fail
      go_ret
      exact ⟨_, rfl, HO.out, hx⟩
end Go.Proofs.Ytpphaicbdeeacaa
namespace Go.Proofs.Ytpphaicbdeeacaa
set_option linter.unusedVariables false
set_option linter.unusedSimpArgs false
open Go.RowKit

theorem shI_nil (b : List Int) : shI [] b = [] := rfl
theorem sh_one {b : List Int} (h : b.Nodup) (x : Int) : (b.filterMap fun y => if x = y then some x else none) = if x ∈ b then [x] else [] := by
  induction b with
  | nil => simp
  | cons y b ih =>
    obtain ⟨h1, h2⟩ := List.nodup_cons.1 h
    rw [List.filterMap_cons]
    by_cases e : x = y
    · subst e
      rw [ih h2, if_neg h1]
      simp
    · rw [if_neg e]
      simp only [ih h2, List.mem_cons, e, false_or]
theorem shI_filter {b : List Int} (h : b.Nodup) : ∀ a : List Int, shI a b = a.filter fun x => decide (x ∈ b)
  | [] => rfl
  | x :: a => by
    have := shI_filter h a
    unfold shI at this ⊢
    rw [List.flatMap_cons, this, sh_one h, List.filter_cons]
    by_cases e : x ∈ b <;> simp [e]
theorem lft_iff {N : Nat} {f : Nat → Bool} {x : Int} : x ∈ lft N f ↔ 0 ≤ x ∧ x < N ∧ f x.toNat = true := by
  unfold lft
  rw [List.mem_map]
  constructor
  · rintro ⟨a, ha, rfl⟩
    obtain ⟨h1, h2⟩ := List.mem_filter.1 ha
    exact ⟨by omega, by have := List.mem_range.1 h1; omega, by simpa using h2⟩
  · rintro ⟨h1, h2, h3⟩
    exact ⟨x.toNat, List.mem_filter.2 ⟨List.mem_range.2 (by omega), h3⟩, by omega⟩
theorem shI_lft {N : Nat} (f : Nat → Bool) {l : List Int} (h : ∀ x ∈ l, 0 ≤ x ∧ x < N) : shI l (lft N f) = inn f l := by
  rw [shI_filter (lft_nodup N f)]
  unfold inn
  refine List.filter_congr fun x hx => ?_
  have := h x hx
  rw [Bool.eq_iff_iff, decide_eq_true_iff, lft_iff]
  exact ⟨fun h => h.2.2, fun h => ⟨this.1, this.2, h⟩⟩
theorem alone1_one {f : Nat → Bool} {l : List Int} (h : (inn f l).length = 1) : alone1 f l = some (lastI (inn f l)) := by
  obtain ⟨x, hx⟩ := List.length_eq_one_iff.1 h
  unfold alone1
  rw [hx]; rfl
theorem alone1_not {f : Nat → Bool} {l : List Int} (h : (inn f l).length ≠ 1) : alone1 f l = none := by
  cases e : alone1 f l with
  | none => rfl
  | some x => rw [alone1_some e] at h; exact absurd rfl h
theorem woI_lft (N : Nat) (f : Nat → Bool) (X : Nat) : woI (lft N f) (X : Int) = lft N (upd f X false) := by
  unfold woI lft
  rw [List.filter_map, List.filter_filter]
  congr 1
  refine List.filter_congr fun a _ => ?_
  unfold upd
  by_cases e : a = X
  · subst e; simp
  · have h1 : ((a : Int) != (X : Int)) = true := by simp; omega
    simp only [Function.comp, h1, e, if_false]
    simp

theorem kdot_symm {p m : Nat} {ml : List Int} : ∀ (l k : List Int) (s : Nat), kdot p m ml l k s = kdot p m ml k l s
  | x :: l, y :: k, s => by unfold kdot; rw [kmul_comm, kdot_symm l k]
  | [], [], s => rfl
  | [], y :: k, s => by unfold kdot; rfl
  | x :: l, [], s => by unfold kdot; rfl
theorem kneg_of {p m : Nat} (hp : 1 ≤ p) {a b : Nat} (hb : b < p ^ m) (h : kadd p m a b = 0) : b = kneg p m a := by
  have h1 : kadd p m (kneg p m a) (kadd p m a b) = b := by
    rw [← kadd_assoc hp, kadd_comm (kneg p m a), kadd_kneg hp, zero_kadd hp hb]
  rw [h, kadd_zero hp (kneg_lt hp a)] at h1
  exact h1.symm
theorem kneg_mul {p m : Nat} {low : Vc} (hp : 1 ≤ p) (x y : Nat) : kmul p m low (kneg p m x) y = kneg p m (kmul p m low x y) := by
  refine kneg_of hp (kmul_lt hp _ _) ?_
  rw [← kmul_kadd hp, kadd_kneg hp, kmul_zero hp]
theorem pval_ref {p m N : Nat} {ml : List Int} (hp : 2 ≤ p) (r : List Int) (x : Nat → Int) (i : Nat) :
    ((kmul p m (lw ml) (kin (p ^ m) (kneg p m (kin (p ^ m) (kdot p m ml (il N x) r 0 : Nat)) : Nat)) (kin (p ^ m) (kinv p m ml (kin (p ^ m) (r.getD i 0)) : Nat)) : Nat) : Int) = pval p m ml N r x i := by
  have hq : 1 ≤ p ^ m := Nat.pow_pos (by omega)
  unfold pval
  rw [kin_of (kdot_lt (by omega) _ _ 0 (by omega)), kin_of (kneg_lt (by omega) _), kin_of (kinv_lt hq _), kneg_mul (by omega), kdot_symm]
theorem asc_ext : ∀ {a b : List Int}, a.Pairwise (· < ·) → b.Pairwise (· < ·) → (∀ x, x ∈ a ↔ x ∈ b) → a = b
  | [], [], _, _, _ => rfl
  | [], y :: b, _, _, h => absurd ((h y).2 (List.mem_cons_self ..)) (by simp)
  | x :: a, [], _, _, h => absurd ((h x).1 (List.mem_cons_self ..)) (by simp)
  | x :: a, y :: b, ha, hb, h => by
    obtain ⟨a1, a2⟩ := List.pairwise_cons.1 ha
    obtain ⟨b1, b2⟩ := List.pairwise_cons.1 hb
    have e : x = y := by
      rcases List.mem_cons.1 ((h x).1 (List.mem_cons_self ..)) with e | e
      · exact e
      · rcases List.mem_cons.1 ((h y).2 (List.mem_cons_self ..)) with e2 | e2
        · exact e2.symm
        · have h1 := b1 x e
          have h2 := a1 y e2
          omega
    subst e
    congr 1
    refine asc_ext a2 b2 fun z => ⟨fun hz => ?_, fun hz => ?_⟩
    · rcases List.mem_cons.1 ((h z).1 (List.mem_cons_of_mem _ hz)) with e | e
      · have := a1 z hz; omega
      · exact e
    · rcases List.mem_cons.1 ((h z).2 (List.mem_cons_of_mem _ hz)) with e | e
      · have := b1 z hz; omega
      · exact e
theorem risB_pw {n : Int} {l : List Int} (h : risB n l = true) : l.Pairwise (· < ·) := by
  have step : ∀ (i : Nat) (hi : i + 1 < l.length), l[i] < l[i + 1] := fun i hi => by
    have h1 := risB_at h hi
    unfold risAt at h1
    have h2 := (of_decide_eq_true h1).2.2 (by omega)
    rw [Nat.add_sub_cancel, List.getD_eq_getElem?_getD, List.getD_eq_getElem?_getD, List.getElem?_eq_getElem hi, List.getElem?_eq_getElem (show i < l.length by omega)] at h2
    exact h2
  have far : ∀ (d i : Nat) (hi : i + 1 + d < l.length), l[i] < l[i + 1 + d] := fun d => by
    induction d with
    | zero => exact fun i hi => step i hi
    | succ d ih => exact fun i hi => Int.lt_trans (ih i (by omega)) (step (i + 1 + d) hi)
  rw [List.pairwise_iff_getElem]
  intro i j hi hj hij
  have := far (j - i - 1) i (by omega)
  simpa only [show i + 1 + (j - i - 1) = j by omega] using this
theorem asc_lft {N : Nat} {er : List Int} (h : risB N er = true) : er = lft N (mkm er) := by
  refine asc_ext (risB_pw h) (lft_pairwise _ _) fun x => ?_
  rw [lft_iff]
  constructor
  · intro hx
    obtain ⟨i, hi, e⟩ := List.getElem_of_mem hx
    obtain ⟨h1, h2⟩ := risB_rng h i x (by rw [List.getElem?_eq_getElem hi, e])
    refine ⟨h1, h2, ?_⟩
    unfold mkm
    rw [show ((x.toNat : Nat) : Int) = x by omega]
    exact decide_eq_true hx
  · rintro ⟨h1, _, h3⟩
    unfold mkm at h3
    rw [show ((x.toNat : Nat) : Int) = x by omega] at h3
    exact of_decide_eq_true h3
end Go.Proofs.Ytpphaicbdeeacaa
namespace Go.Proofs.Ytpphaicbdeeacaa
set_option linter.unusedVariables false
set_option linter.unusedSimpArgs false
open Go.RowKit

theorem Sl.setOther {w : World} {v : Value} {n size : Nat} {xs : List Value} (h : Sl w v n size xs) {ob j : Nat} {u : Value} (hap : 0 < n → ∀ b o c, v = .slice (some ⟨b, o, none⟩) n c → b ≠ ob) : Sl (w.setCell ⟨ob, j, none⟩ u) v n size xs := by
  obtain ⟨h1, a, cap, rfl, h3, h4, h5⟩ := h
  refine ⟨h1, a, cap, rfl, h3, h4, fun hn => ?_⟩
  obtain ⟨b, o, rfl, h6⟩ := h5 hn
  exact ⟨b, o, rfl, fun i z hz => by rw [World.cell?_setCell_other _ _ _ _ (by intro e; injection e with e1; exact hap hn b o cap rfl e1.symm)]; exact h6 i z hz⟩
/-- The state of the reference's peeling: its word of its own, the list of what is left apart from it. -/
structure RSt (wB wr : World) (ob oc N : Nat) (x : Nat → Int) (lv : Value) (L : List Int) : Prop where
  out : OwnC wr wB.heap.size 3 ob N oc (iv x)
  lf : ISl wr lv L
  ap : 0 < L.length → ∀ b o c, lv = .slice (some ⟨b, o, none⟩) L.length c → b ≠ ob
  ex : Ex wB wr
theorem RSt.later {wB wr w' : World} {ob oc N : Nat} {x : Nat → Int} {lv : Value} {L : List Int} (h : RSt wB wr ob oc N x lv L) (hx : Ex wr w') : RSt wB w' ob oc N x lv L :=
  ⟨h.out.ex hx, h.lf.ex hx, h.ap, h.ex.trans hx⟩
theorem RSt.setOut {wB wr : World} {ob oc N : Nat} {x : Nat → Int} {lv : Value} {L : List Int} (h : RSt wB wr ob oc N x lv L) (j : Nat) (y : Int) : RSt wB (wr.setCell ⟨ob, j, none⟩ (.int .i64 y)) ob oc N (upd x j y) lv L :=
  ⟨by rw [← iv_upd]; exact h.out.set j _, Sl.setOther h.lf h.ap, h.ap, h.out.exSet (Nat.le_refl _) h.ex j _⟩
theorem RSt.setLeft {wB wr w' : World} {ob oc N : Nat} {x : Nat → Int} {lv lv' : Value} {L L' : List Int} (h : RSt wB wr ob oc N x lv L) (hx : Ex wr w') (ho : w'.ownsRow wr.heap.size 3 1 lv' L'.length (ints L')) : RSt wB w' ob oc N x lv' L' :=
  ⟨h.out.ex hx, Sl.own ho, fun hn b o c e => by
    subst e
    have h1 := World.ownsRow.lt ho b rfl
    have h2 := h.out.lt.2
    omega, h.ex.trans hx⟩
theorem findSome_at {f : Nat → Bool} {X : Int} : ∀ {rows : List (List Int)} {j : Nat} {l : List Int}, rows[j]? = some l → alone1 f l = some X → (∀ (k : Nat) (s : List Int), k < j → rows[k]? = some s → alone1 f s = none) → aloneI f rows = X
  | [], j, l, h, _, _ => by simp at h
  | r :: rows, 0, l, h, ha, _ => by
    simp at h; subst h
    unfold aloneI aloneS
    rw [List.findSome?_cons, ha]; rfl
  | r :: rows, j + 1, l, h, ha, hb => by
    have h1 := findSome_at (rows := rows) (j := j) (by simpa using h) ha (fun k s hk hs => hb (k + 1) s (by omega) (by simpa using hs))
    have h2 := hb 0 r (by omega) rfl
    unfold aloneI aloneS at h1 ⊢
    rw [List.findSome?_cons, h2]; exact h1
theorem alone_no {f : Nat → Bool} : ∀ {rows : List (List Int)}, (∀ (k : Nat) (s : List Int), k < rows.length → rows[k]? = some s → alone1 f s = none) → aloneI f rows < 0
  | [], _ => by unfold aloneI aloneS; simp
  | r :: rows, h => by
    have h1 := alone_no (rows := rows) (fun k s hk hs => h (k + 1) s (by simp; omega) (by simpa using hs))
    have h2 := h 0 r (by simp) rfl
    unfold aloneI aloneS at h1 ⊢
    rw [List.findSome?_cons, h2]; exact h1

set_option maxRecDepth 100000 in
set_option maxHeartbeats 4000000 in
theorem rPeel_any (p m : Int) (ml : List Int) (mv : Value) (w : World) (hmv : ISl w mv ml) (cols : Int) (H : List (List Int)) (v : Value) (hv : MSl w v H) (wd er : List Int) (wv ev : Value) (hwv : ISl w wv wd) (hev : ISl w ev er) :
    Calls Try.prog 31 #[.agg #[.int .i64 p, .int .i64 m, mv], .agg #[.int .i64 cols, v], wv, ev] w fun r w' =>
      ∃ X L xv lv e, r = .returned (.tuple #[xv, lv, .int .i64 e]) ∧ PeelS p m ml cols H wd er X L e ∧ ISl w' xv X ∧ ISl w' lv L ∧ Ex w w' := by
  have HGC := hid_ (fun w' h1 h2 => rGraph_any p m ml mv w' h1 cols H v h2)
  have HMV := hid_ hmv
  have HV := hid_ hv
  have HWV := hid_ hwv
  have HEV := hid_ hev
  obtain ⟨za, zc, rfl, z1, z2, z3⟩ := hv.open
  have Z3 := hid_ z3
  unfold maxLen at z2
  obtain ⟨wa, wc, rfl, w1, w2, w3⟩ := hwv.open
  obtain ⟨ea, ec, rfl, e1, e2, e3⟩ := hev.open
  have W3 := hid_ w3
  have E3 := hid_ e3
  unfold maxLen at w2 e2
  obtain ⟨xb, hxb⟩ : ∃ xb, w.heap.size = xb := ⟨_, rfl⟩
  have HXB := hid_ hxb
  clear hmv hv z3 hwv hev w3 e3
  go_enter Try.func31, Try.ntmps31
  go_wp2_with fail
  try simp only [hxb]
  have hd1 : (w.alloc (.cells #[.int .i64 p, .int .i64 m, mv] 24)).heap.size = xb + 1 := by simp [hxb]
  obtain ⟨g0, g1, g2, e0, gsz⟩ := box_facts w p m mv
  clear gsz
  rw [hxb] at g0 g1 g2
  generalize w.alloc (.cells #[.int .i64 p, .int .i64 m, mv] 24) = wA at *
  have a0 : (wA.alloc (.cells #[.int .i64 cols, .slice za H.length zc] 27)).cell? ⟨xb + 1, 0, none⟩ = some (.int .i64 cols) := by rw [← hd1]; simp
  have a1 : (wA.alloc (.cells #[.int .i64 cols, .slice za H.length zc] 27)).cell? ⟨xb + 1, 1, none⟩ = some (.slice za H.length zc) := by rw [← hd1]; simp
  have eA : Ex wA (wA.alloc (.cells #[.int .i64 cols, .slice za H.length zc] 27)) := (Ex.refl _).alloc _
  generalize wA.alloc (.cells #[.int .i64 cols, .slice za H.length zc] 27) = wB at *
  have b0 := eA.cell g0
  have b1 := eA.cell g1
  have b2 := eA.cell g2
  have eB := e0.trans eA
  clear g0 g1 g2 e0 eA hd1 hxb wA
  refine (HGC.out wB (HMV.out.ex eB) (HV.out.ex eB)).mono ?_
  rintro r w4 ⟨V, cv, gr, ge, rfl, hgr, hcv, hx4⟩
  obtain ⟨ca, cc, rfl, k1, k2, k3⟩ := hcv.open
  obtain ⟨ge1, ge2⟩ := hgr.rng
  have HGR := hid_ hgr
  have HCV := hid_ hcv
  have c0 := hx4.cell b0
  have c1 := hx4.cell b1
  have c2 := hx4.cell b2
  have c3 := hx4.cell a0
  have c4 := hx4.cell a1
  have EX4 := hid_ (eB.trans hx4)
  clear b0 b1 b2 a0 a1 hx4 eB hgr hcv k3 HGC
  have e5 : Ex w4 (w4.alloc (.cells #[.int .i64 V, .slice ca gr.length cc] 31)) := (Ex.refl _).alloc _
  have t0 : (w4.alloc (.cells #[.int .i64 V, .slice ca gr.length cc] 31)).cell? ⟨w4.heap.size, 0, none⟩ = some (.int .i64 V) := by simp
  have t1 : (w4.alloc (.cells #[.int .i64 V, .slice ca gr.length cc] 31)).cell? ⟨w4.heap.size, 1, none⟩ = some (.slice ca gr.length cc) := by simp
  by_cases h0 : ge = 0
  · subst h0
    obtain ⟨pn, mn, N, rfl, rfl, rfl, rfl, hfl, hmk, hN1, hN2, hgr2⟩ := HGR.out.ok
    have HPS := hid_ (show ∀ X L e, PeelB pn mn ml N H wd er X L e → PeelS pn mn ml N H wd er X L e from fun X L e h => ⟨_, _, _, HGR.out, .inr ⟨rfl, pn, mn, N, rfl, rfl, rfl, hfl, hmk, hN1, hN2, hgr2, h⟩⟩)
    have hsh : FSh pn mn ml := by
      obtain ⟨pn', mn', e1, e2, h, _⟩ := hfl
      have h1 : pn' = pn := by omega
      have h2 : mn' = mn := by omega
      subst h1 h2
      exact h
    have HSH := hid_ hsh
    have HMK := hid_ hmk
    have HGR2 := hid_ hgr2
    have f0 := e5.cell c0
    have f1 := e5.cell c1
    have f2 := e5.cell c2
    have s3 := e5.cell c3
    have s4 := e5.cell c4
    have EX5 := hid_ (EX4.out.trans e5)
    have HCV5 := hid_ (HCV.out.ex e5)
    clear hfl hmk hgr2 HGR ge1 ge2 k1 k2 hsh c0 c1 c2 c3 c4 HCV EX4
    by_cases hwl : wd.length = N
    · have hb : ((wd.length : Int) != (N : Int)) = false := by simp; omega
      have HWL := hid_ hwl
      clear hwl
      go_wp2_with fail
      generalize w4.alloc (.cells #[.int .i64 N, .slice ca gr.length cc] 31) = w5 at *
      obtain ⟨tb, htb⟩ : ∃ tb, w4.heap.size = tb := ⟨_, rfl⟩
      rw [htb] at t0 t1
      try simp only [htb]
      clear htb e5
      refine (rEntries_any w5 HSH.out wd _ (HWV.out.ex EX5.out)).mono ?_
      rintro e w6 ⟨rfl, hx6⟩
      have f0 := hx6.cell f0
      have f1 := hx6.cell f1
      have f2 := hx6.cell f2
      have s3 := hx6.cell s3
      have s4 := hx6.cell s4
      have t0 := hx6.cell t0
      have t1 := hx6.cell t1
      have EX6 := hid_ (EX5.out.trans hx6)
      have HCV6 := hid_ (HCV5.out.ex hx6)
      clear hx6 EX5 HCV5
      by_cases hen : entS (pn ^ mn) wd = 0
      · rw [hen]
        have HEN := hid_ hen
        clear hen
        by_cases hri : risB N er = true
        · have HRI := hid_ hri
          have HRC := hid_ (Rising_any w6 er _ N (HEV.out.ex EX6.out))
          rw [hri] at HRC
          clear hri
          go_wp2_with fail
          refine HRC.out.mono ?_
          rintro e w7 ⟨rfl, q7, rfl⟩
          have f0 := ((Ex.refl w6).drewN q7).cell f0
          have f1 := ((Ex.refl w6).drewN q7).cell f1
          have f2 := ((Ex.refl w6).drewN q7).cell f2
          have s3 := ((Ex.refl w6).drewN q7).cell s3
          have s4 := ((Ex.refl w6).drewN q7).cell s4
          have t0 := ((Ex.refl w6).drewN q7).cell t0
          have t1 := ((Ex.refl w6).drewN q7).cell t1
          have EX7 := hid_ (EX6.out.drewN q7)
          have HCV7 := hid_ (HCV6.out.ex ((Ex.refl w6).drewN q7))
          clear HRC EX6 HCV6
          generalize w6.drewN q7 = w7 at *
          have hmi : ∀ u ∈ ints wd, u.oneCell' = true := by
            intro u hu; obtain ⟨z, _, rfl⟩ := List.mem_map.1 hu; rfl
          have HON := hid_ hmi
          have HIV := hid_ (ints_vs wd)
          have hwd1 : wd.length ≤ 64 := by rw [HWL.out]; exact hN2
          clear hmi
          go_wp2_with (at_builtin; refine wpList_append_sl _ rfl _ _ 22 rfl w7.heap.size 3 (.int .i64 0) 1 8 Try.underlying22 infoInt rfl (by decide) _ 0 [] rfl (own_lit0 w7 3) (.slice wa wd.length wc) wd.length (ints wd) rfl (HWV.out.ex (EX7.out.trans ((Ex.refl w7).alloc _))) HON.out (by unfold maxLen; omega) (by omega) (by simp) ?_)
          intro v1 w8 hown1 hg1 ha1
          have hx8 : Ex w7 w8 := Ex.grown ((Ex.refl w7).alloc _) (own_lit0 w7 3) (Nat.le_refl _) hg1
          rw [HIV.out] at hown1
          obtain ⟨ob, oc, rfl, hown⟩ := ownC_of hown1 (by rw [HWL.out]; exact hN1)
          try simp only [List.length_nil, Nat.zero_add] at hown ⊢
          rw [HWL.out] at hown
          rw [HWL.out]
          have HST0 : Hid (RSt w7 w8 ob oc N (x0K wd er 0) (.slice ea er.length ec) er) := by
            refine hid_ ⟨OwnC.icongr (k := x0K wd er 0) hown fun j hj => by simp [x0K], HEV.out.ex (EX7.out.trans hx8), fun hn b o c e => ?_, hx8⟩
            injection e with e1 _ _
            obtain ⟨b2, o2, h1, h2⟩ := E3.out hn
            rw [e1] at h1
            injection h1 with h1
            injection h1 with h1
            subst h1
            obtain ⟨y, hy⟩ : ∃ y, er[0]? = some y := ⟨_, List.getElem?_eq_getElem hn⟩
            have h3 := World.block_lt_of_cell? _ _ (EX7.out.cell (h2 0 y hy))
            have h4 := hown.lt.1
            dsimp only at h3
            omega
          have HB7 := hid_ hx8
          clear hown hown1 hg1 ha1 hx8
          have F0 := hid_ f0
          have F1 := hid_ f1
          have F2 := hid_ f2
          have S3 := hid_ s3
          have S4 := hid_ s4
          have T0 := hid_ t0
          have T1 := hid_ t1
          clear f0 f1 f2 s3 s4 t0 t1
          go_wp2_with fail
          go_loopw [14] (fun k' wr => ∃ k : Nat, k ≤ er.length ∧ k' = .int .i64 k ∧ Hid (RSt w7 wr ob oc N (x0K wd er k) (.slice ea er.length ec) er)) (fun k' _ => er.length - (intOf k').toNat)
          case atStart => exact ⟨0, by omega, rfl, HST0⟩
          case round =>
            clear HST0 HB7
            obtain ⟨k, hk, rfl, hst⟩ := hrel
            have hcaps := hst.out.out.caps
            obtain ⟨k1, k2⟩ := hcaps
            unfold maxLen at k2
            by_cases hkl : k < er.length
            · obtain ⟨x, hx⟩ : ∃ x, er[k]? = some x := ⟨_, List.getElem?_eq_getElem hkl⟩
              obtain ⟨y1, y2⟩ := risB_rng HRI.out k x hx
              obtain ⟨X, rfl⟩ : ∃ X : Nat, x = X := ⟨x.toNat, by omega⟩
              have hXN : X < N := by omega
              obtain ⟨eb, eo, rfl, hec⟩ := E3.out (by omega)
              have c1 := (EX7.out.trans hst.out.ex).cell (hec k X hx)
              have c2 := hst.out.out.cell hXN
              have c3 := hst.out.out.frz X
              have HS := hid_ (hst.out.setOut X 0)
              rw [← x0K_succ hx] at HS
              clear hec hx y1 y2 hst
              go_wp2_with fail
              go_roundw
              case rel => exact ⟨k + 1, by omega, by go_num, HS⟩
              case measure => simp [intOf]; omega
            · obtain rfl : k = er.length := by omega
              have HAS := hid_ (asc_lft HRI.out)
              have HST := hid_ (show RSt w7 wr ob oc N (x0F wd er) (.slice ea er.length ec) (lft N (mkm er)) from by
                have := hst.out
                rw [show x0K wd er er.length = x0F wd er from by funext j; unfold x0K x0F; rw [List.take_length]] at this
                rw [← HAS.out]; exact this)
              clear hst k1 k2
              obtain ⟨_, _, hHl, hHr⟩ := mchk_shape HMK.out
              have HLEN := hid_ (show ∀ (j : Nat) (r : List Int), H[j]? = some r → r.length = N ∧ entS (pn ^ mn) r = 0 from fun j r h => by
                have := hHr r (List.mem_of_getElem? h); exact ⟨by omega, this.2⟩)
              have HGRJ := hid_ (show ∀ (j : Nat) (l : List Int), gr[j]? = some l → ∃ r, H[j]? = some r ∧ l = supp r from fun j l h => by
                rw [HGR2.out, List.getElem?_map] at h
                obtain ⟨r, h1, h2⟩ := Option.map_eq_some_iff.1 h
                exact ⟨r, h1, h2.symm⟩)
              have hgl : gr.length = H.length := by rw [HGR2.out, List.length_map]
              have hgl256 : gr.length ≤ 256 := by omega
              have HGL := hid_ hgl
              clear hHr hHl hgl
              have HPW0 := hid_ (show ∀ x' f', PeelW pn mn ml N H (x0F wd er) (mkm er) x' f' → PeelW pn mn ml N H (x0F wd er) (mkm er) x' f' from fun _ _ h => h)
              go_wp2_with fail
              go_loopg [15, 16] (N + 1) (fun gk l' c' wr => ∃ (x : Nat → Int) (f : Nat → Bool) (cb : Bool), (if cb = true then (lft N f).length + 1 else 0) ≤ gk ∧ c' = .bool cb ∧ Hid (RSt w7 wr ob oc N x l' (lft N f)) ∧
                Hid (∀ x' f', PeelW pn mn ml N H x f x' f' → PeelW pn mn ml N H (x0F wd er) (mkm er) x' f') ∧ Hid (cb = false → aloneI f gr < 0))
              case atStart => exact ⟨_, _, true, by rw [if_pos rfl]; have := lft_len N (mkm er); omega, rfl, HST, HPW0, hid_ (fun h => by cases h)⟩
              case round =>
                clear HST HPW0
                obtain ⟨x, f, cb, hcnt, rfl, hst, hpw, hal⟩ := hrel
                cases cb with
                | true =>
                  rw [if_pos rfl] at hcnt
                  clear hal
                  go_wp2_with fail
                  go_loopw [15, 16, 17] (fun l' c' i' wr => ∃ (x : Nat → Int) (f : Nat → Bool) (cb : Bool) (j : Nat), j ≤ gr.length ∧ i' = .int .i64 j ∧ c' = .bool cb ∧ Hid (RSt w7 wr ob oc N x l' (lft N f)) ∧
                    Hid (∀ x' f', PeelW pn mn ml N H x f x' f' → PeelW pn mn ml N H (x0F wd er) (mkm er) x' f') ∧
                    Hid (cb = false → (lft N f).length + 1 ≤ gk ∧ ∀ (k : Nat) (s : List Int), k < j → gr[k]? = some s → alone1 f s = none) ∧ Hid (cb = true → (lft N f).length + 2 ≤ gk)) (fun _ _ i' _ => gr.length - (intOf i').toNat)
                  case atStart => exact ⟨x, f, false, 0, by omega, rfl, rfl, hst, hpw, hid_ (fun _ => ⟨hcnt, fun k s hk => by omega⟩), hid_ (fun h => by cases h)⟩
                  case round =>
                    clear hst hpw hcnt
                    obtain ⟨x, f, cb, j, hj, rfl, rfl, hst, hpw, hno, hyes⟩ := hrel
                    have t1 := hst.out.ex.cell T1.out
                    by_cases hjl : j < gr.length
                    · cases cb with
                      | true =>
                        have hy := hyes.out rfl
                        go_wp2_with fail
                        go_roundg (gk - 1)
                        case rel => exact ⟨x, f, true, by rw [if_pos rfl]; omega, rfl, hst, hpw, hid_ (fun h => by cases h)⟩
                        case measure => omega
                      | false =>
                        obtain ⟨hg1, hg2⟩ := hno.out rfl
                        have HNO := hid_ hg2
                        clear hno hyes hg2
                        obtain ⟨l, hl⟩ : ∃ l, gr[j]? = some l := ⟨_, List.getElem?_eq_getElem hjl⟩
                        obtain ⟨r, hr, rfl⟩ := HGRJ.out j l hl
                        obtain ⟨hrN, hrE⟩ := HLEN.out j r hr
                        obtain ⟨_, _, e1, _, _, h3⟩ := (HCV7.out.ex hst.out.ex).open
                        injection e1 with e1 e2 e3
                        subst e1 e3
                        obtain ⟨cb, co, rfl, hcc⟩ := h3 (by omega)
                        obtain ⟨u, c1, hu⟩ := hcc j _ hl
                        obtain ⟨ua, uc, rfl, u1, u2, _⟩ := hu.open
                        have hin : ∀ y ∈ supp r, 0 ≤ y ∧ y < N := fun y hy => by
                          obtain ⟨i, hi, e⟩ := List.getElem_of_mem hy
                          exact supp_in hrN i y (by rw [List.getElem?_eq_getElem hi, e])
                        have HCO := hid_ (common_any wr (supp r) (lft N f) _ _ hu hst.out.lf (by have : (supp r).length ≤ r.length := suppK_len r r.length; omega) (by have := lft_len N f; omega))
                        rw [shI_lft f hin] at HCO
                        have hjlt : (j : Int) < (gr.length : Int) := by omega
                        unfold maxLen at u2
                        by_cases h1 : (inn f (supp r)).length = 1
                        · have ha1 := alone1_one h1
                          have hmem : lastI (inn f (supp r)) ∈ inn f (supp r) := by
                            obtain ⟨z, hz⟩ := List.length_eq_one_iff.1 h1
                            rw [hz]; show z ∈ [z]; simp
                          obtain ⟨hm1, hm2⟩ := List.mem_filter.1 hmem
                          obtain ⟨hm3, hm4⟩ := hin _ hm1
                          obtain ⟨X, hX⟩ : ∃ X : Nat, lastI (inn f (supp r)) = X := ⟨(lastI (inn f (supp r))).toNat, by omega⟩
                          rw [h1, hX] at HCO
                          rw [hX] at ha1 hm2 hm4
                          rw [Int.toNat_natCast] at hm2
                          have hXN : X < N := by omega
                          have HST1 := hid_ (show aloneI f (H.map supp) = X from by rw [← HGR2.out]; exact findSome_at hl ha1 HNO.out)
                          have HPWX := hid_ (fun x' f' h => hpw.out x' f' (PeelW.step x f x' f' X j r HST1.out hr ha1 (fun k s hk hs => HNO.out k (supp s) hk (by rw [HGR2.out, List.getElem?_map, hs]; rfl)) h))
                          have HCNT := hid_ (lft_upd hm2 N hXN)
                          have HWO := hid_ (woI_lft N f X)
                          obtain ⟨zb, zo, rfl, hzc⟩ := Z3.out (by have := HGL.out; omega)
                          obtain ⟨uz, d1, huz⟩ := hzc j r hr
                          obtain ⟨y, hy⟩ : ∃ y, r[X]? = some y := ⟨_, List.getElem?_eq_getElem (by omega)⟩
                          have hyg : r.getD X 0 = y := by rw [List.getD_eq_getElem?_getD, hy]; rfl
                          have HPV := hid_ (pval_ref (N := N) (ml := ml) HSH.out.p2 r x X (m := mn))
                          rw [hyg] at HPV
                          have hjz : j < H.length := by have := HGL.out; omega
                          have hXr : X < r.length := by omega
                          clear hm1 hmem hX h1 HNO hin hu hcc h3 hl ha1 hm2 hm3 hm4 HST1 hyg hpw
                          go_wp2_with (go_at_call 72; refine HCO.out.mono ?_; rintro e w' ⟨rfl, qc, rfl⟩)
                          have HST2 := hid_ (hst.out.later ((Ex.refl wr).drewN qc))
                          clear hst HCO
                          generalize wr.drewN qc = W at *
                          have EXW := hid_ (EX7.out.trans HST2.out.ex)
                          have huz2 := huz.ex EXW.out
                          obtain ⟨va, vc, rfl, v1, v2, v3⟩ := huz.open
                          obtain ⟨vb, vo, rfl, v4⟩ := v3 (by omega)
                          have D2 := hid_ (EX7.out.cell d1)
                          have D3 := hid_ (EX7.out.cell (v4 X y hy))
                          unfold maxLen at v2
                          obtain ⟨K1, hK1⟩ : ∃ K, kdot pn mn ml (il N x) r 0 = K := ⟨_, rfl⟩
                          have HDOT : Hid (∀ w', Ex W w' → Calls Try.prog 75 #[.agg #[.int .i64 pn, .int .i64 mn, mv], .slice (some ⟨ob, 0, none⟩) N oc, .slice (some ⟨vb, vo, none⟩) r.length vc] w' fun r w'' => r = .returned (.int .i64 (K1 : Nat)) ∧ Ex w' w'') := by
                            rw [← hK1]
                            exact hid_ (fun w' h0 => rDot_any w' HSH.out (HMV.out.ex (EXW.out.trans h0)) (il N x) r _ _ (HST2.out.out.isl.ex h0) (huz2.ex h0))
                          rw [hK1] at HPV
                          obtain ⟨K2, hK2⟩ : ∃ K, kneg pn mn (kin (pn ^ mn) (K1 : Nat)) = K := ⟨_, rfl⟩
                          have HNEG : Hid (∀ w', Ex W w' → Calls Try.prog 74 #[.agg #[.int .i64 pn, .int .i64 mn, mv], .int .i64 (K1 : Nat)] w' fun r w'' => r = .returned (.int .i64 (K2 : Nat)) ∧ Ex w' w'') := by
                            rw [← hK2]
                            exact hid_ (fun w' h0 => rNeg_any w' HSH.out (K1 : Nat))
                          rw [hK2] at HPV
                          obtain ⟨K3, hK3⟩ : ∃ K, kinv pn mn ml (kin (pn ^ mn) y) = K := ⟨_, rfl⟩
                          have HINV : Hid (∀ w', Ex W w' → Calls Try.prog 76 #[.agg #[.int .i64 pn, .int .i64 mn, mv], .int .i64 y] w' fun r w'' => r = .returned (.int .i64 (K3 : Nat)) ∧ Ex w' w'') := by
                            rw [← hK3]
                            exact hid_ (fun w' h0 => rInv_any w' HSH.out (HMV.out.ex (EXW.out.trans h0)) y)
                          rw [hK3] at HPV
                          obtain ⟨K4, hK4⟩ : ∃ K, kmul pn mn (lw ml) (kin (pn ^ mn) (K2 : Nat)) (kin (pn ^ mn) (K3 : Nat)) = K := ⟨_, rfl⟩
                          have HMUL : Hid (∀ w', Ex W w' → Calls Try.prog 73 #[.agg #[.int .i64 pn, .int .i64 mn, mv], .int .i64 (K2 : Nat), .int .i64 (K3 : Nat)] w' fun r w'' => r = .returned (.int .i64 (K4 : Nat)) ∧ Ex w' w'') := by
                            rw [← hK4]
                            exact hid_ (fun w' h0 => rMul_any w' HSH.out (HMV.out.ex (EXW.out.trans h0)) (K2 : Nat) (K3 : Nat))
                          rw [hK4] at HPV
                          clear hK1 hK2 hK3 hK4 v3 v4 huz huz2 d1 hzc hy hr
                          have i1 : (0 : Int) ≤ (j : Int) := by omega
                          have i2 : (j : Int) < (H.length : Int) := by omega
                          have i3 : (0 : Int) ≤ (X : Int) := by omega
                          have i4 : (X : Int) < (r.length : Int) := by omega
                          have i5 : (X : Int) < (N : Int) := by omega
                          have HRN := hid_ hrN
                          clear hrN
                          have cX := HST2.out.out.cell hXN
                          have fX := HST2.out.out.frz X
                          have kk1 := HST2.out.out.caps.1
                          have kk2 := HST2.out.out.caps.2
                          unfold maxLen at kk2
                          have E0 : Ex W W.drew := (Ex.refl W).drew
                          have G0 : Ex w7 W.drew := HST2.out.ex.trans E0
                          go_wp2_with fail
                          go_region_held3 (fun w' => w'.cell? ⟨xb, 0, none⟩ = some (.int .i64 pn) ∧ w'.cell? ⟨xb, 1, none⟩ = some (.int .i64 mn) ∧ w'.cell? ⟨xb, 2, none⟩ = some mv ∧ w'.cell? ⟨xb + 1, 1, none⟩ = some (.slice (some ⟨zb, zo, none⟩) H.length zc) ∧ w'.cell? ⟨zb, zo + j, none⟩ = some (.slice (some ⟨vb, vo, none⟩) r.length vc) ∧ w'.cell? ⟨vb, vo + X, none⟩ = some (.int .i64 y))
                            (first | with_reducible exact ⟨G0.cell F0.out, G0.cell F1.out, G0.cell F2.out, G0.cell S4.out, G0.cell D2.out, G0.cell D3.out⟩ | with_reducible exact ⟨G1.cell F0.out, G1.cell F1.out, G1.cell F2.out, G1.cell S4.out, G1.cell D2.out, G1.cell D3.out⟩ | with_reducible exact ⟨G2.cell F0.out, G2.cell F1.out, G2.cell F2.out, G2.cell S4.out, G2.cell D2.out, G2.cell D3.out⟩ | with_reducible exact ⟨G3.cell F0.out, G3.cell F1.out, G3.cell F2.out, G3.cell S4.out, G3.cell D2.out, G3.cell D3.out⟩ | with_reducible exact ⟨G4.cell F0.out, G4.cell F1.out, G4.cell F2.out, G4.cell S4.out, G4.cell D2.out, G4.cell D3.out⟩ | with_reducible exact ⟨ES.cell F0.out, ES.cell F1.out, ES.cell F2.out, ES.cell S4.out, ES.cell D2.out, ES.cell D3.out⟩)
                            ((first
                              | (go_at_call 75; (with_reducible refine (HDOT.out _ E0).mono ?_); rintro e wx1 ⟨rfl, hy1⟩; have E1 := E0.trans hy1; have G1 := G0.trans hy1)
                              | (go_at_call 74; (with_reducible refine (HNEG.out _ E1).mono ?_); rintro e wx2 ⟨rfl, hy2⟩; have E2 := E1.trans hy2; have G2 := G1.trans hy2)
                              | (go_at_call 76; (with_reducible refine (HINV.out _ E2).mono ?_); rintro e wx3 ⟨rfl, hy3⟩; have E3 := E2.trans hy3; have G3 := G2.trans hy3)
                              | (go_at_call 73; (with_reducible refine (HMUL.out _ E3).mono ?_); rintro e wx4 ⟨rfl, hy4⟩; have E4 := E3.trans hy4; have G4 := G3.trans hy4; have cX4 := E4.cell cX; have fX4 := E4.frz cX fX; have ES := (HST2.out.later E4).out.exSet (Nat.le_refl _) (HST2.out.later E4).ex X (.int .i64 (K4 : Nat)))))
                          rw [← HPV.out] at HPWX
                          have HST3 := hid_ ((HST2.out.later E4).setOut X (K4 : Nat))
                          clear cX fX cX4 fX4 ES G0 G1 G2 G3 G4 E0 E1 E2 E3 E4 hy1 hy2 hy3 hy4 HDOT HNEG HINV HMUL HST2 EXW t1
                          generalize wx4.setCell ⟨ob, X, none⟩ (.int .i64 (K4 : Nat)) = W5 at *
                          have hln : (lft N f).length ≤ 1000 := by have := lft_len N f; omega
                          have HWC := hid_ (without_any W5 (lft N f) _ X HST3.out.lf hln)
                          clear hln
                          go_wp2_with (go_at_call 77; refine HWC.out.mono ?_; rintro e w6 ⟨u, rfl, hown, hx6⟩)
                          have HST4 := hid_ (HST3.out.setLeft hx6 hown)
                          rw [HWO.out] at HST4
                          clear hown hx6 HST3 HWC
                          go_roundw
                          case rel => exact ⟨_, _, true, j + 1, by omega, by go_num, rfl, HST4, HPWX, hid_ (fun h => by cases h), hid_ (fun _ => by have := HCNT.out; omega)⟩
                          case measure => simp [intOf]; omega
                        · have HNO2 := hid_ (show ∀ (k : Nat) (s : List Int), k < j + 1 → gr[k]? = some s → alone1 f s = none from fun k s hk hs => by
                            by_cases e : k = j
                            · subst e; rw [hl] at hs; injection hs with hs; subst hs; exact alone1_not h1
                            · exact HNO.out k s (by omega) hs)
                          obtain ⟨n1, hn1⟩ : ∃ n1, (inn f (supp r)).length = n1 := ⟨_, rfl⟩
                          rw [hn1] at HCO h1
                          have hb1 : (((n1 : Nat) : Int) == 1) = false := by simp; omega
                          generalize lastI (inn f (supp r)) = la at *
                          clear hn1 h1 HNO hin hu hcc h3 hl hr
                          go_wp2_with (go_at_call 72; refine HCO.out.mono ?_; rintro e w' ⟨rfl, qc, rfl⟩)
                          go_roundw
                          case rel => exact ⟨x, f, false, j + 1, by omega, by go_num, rfl, hid_ (hst.out.later ((Ex.refl wr).drewN qc)), hpw, hid_ (fun _ => ⟨hg1, HNO2.out⟩), hid_ (fun h => by cases h)⟩
                          case measure => simp [intOf]; omega
                    · obtain rfl : j = gr.length := by omega
                      cases cb with
                      | true =>
                        have hy := hyes.out rfl
                        go_wp2_with fail
                        go_roundg (gk - 1)
                        case rel => exact ⟨x, f, true, by rw [if_pos rfl]; omega, rfl, hst, hpw, hid_ (fun h => by cases h)⟩
                        case measure => omega
                      | false =>
                        obtain ⟨hg1, hg2⟩ := hno.out rfl
                        have HAL := hid_ (alone_no hg2)
                        clear hno hyes hg2
                        go_wp2_with fail
                        go_roundg (gk - 1)
                        case rel => exact ⟨x, f, false, by simp, rfl, hst, hpw, hid_ (fun _ => HAL.out)⟩
                        case measure => omega
                | false =>
                  have hdone := hid_ (hpw.out x f (PeelW.done x f (by rw [← HGR2.out]; exact hal.out rfl)))
                  clear hpw hal hcnt
                  go_wp2_with fail
                  go_loopw [20] (fun i' wr2 => ∃ j : Nat, j ≤ gr.length ∧ i' = .int .i64 j ∧ Hid (Ex wr wr2) ∧ Hid (∀ (k : Nat) (r : List Int), k < j → H[k]? = some r → ((inn f (supp r)).isEmpty && (kdot pn mn ml r (il N x) 0 != 0)) = false)) (fun i' _ => gr.length - (intOf i').toNat)
                  case atStart => exact ⟨0, by omega, rfl, hid_ (Ex.refl _), hid_ (fun k r hk => by omega)⟩
                  case round =>
                    obtain ⟨j, hj, rfl, hx2, hall⟩ := hrel
                    have hst := hid_ (hst.out.later hx2.out)
                    have t1 := hst.out.ex.cell T1.out
                    by_cases hjl : j < gr.length
                    · obtain ⟨l, hl⟩ : ∃ l, gr[j]? = some l := ⟨_, List.getElem?_eq_getElem hjl⟩
                      obtain ⟨r, hr, rfl⟩ := HGRJ.out j l hl
                      obtain ⟨hrN, hrE⟩ := HLEN.out j r hr
                      obtain ⟨_, _, e1, _, _, h3⟩ := (HCV7.out.ex hst.out.ex).open
                      injection e1 with e1 e2 e3
                      subst e1 e3
                      obtain ⟨cb, co, rfl, hcc⟩ := h3 (by omega)
                      obtain ⟨u, c1, hu⟩ := hcc j _ hl
                      obtain ⟨ua, uc, rfl, u1, u2, _⟩ := hu.open
                      have hin : ∀ y ∈ supp r, 0 ≤ y ∧ y < N := fun y hy => by
                        obtain ⟨i, hi, e⟩ := List.getElem_of_mem hy
                        exact supp_in hrN i y (by rw [List.getElem?_eq_getElem hi, e])
                      have HCO := hid_ (common_any wr (supp r) (lft N f) _ _ hu hst.out.lf (by have : (supp r).length ≤ r.length := suppK_len r r.length; omega) (by have := lft_len N f; omega))
                      rw [shI_lft f hin] at HCO
                      have hjlt : (j : Int) < (gr.length : Int) := by omega
                      unfold maxLen at u2
                      by_cases h1 : (inn f (supp r)).length = 0
                      · have HIE := hid_ (show (inn f (supp r)).isEmpty = true from by rw [List.isEmpty_iff]; exact List.eq_nil_of_length_eq_zero h1)
                        rw [h1, show (((0 : Nat)) : Int) = 0 from rfl] at HCO
                        obtain ⟨zb, zo, rfl, hzc⟩ := Z3.out (by have := HGL.out; omega)
                        obtain ⟨uz, d1, huz⟩ := hzc j r hr
                        have hjz : j < H.length := by have := HGL.out; omega
                        have i1 : (0 : Int) ≤ (j : Int) := by omega
                        have i2 : (j : Int) < (H.length : Int) := by omega
                        have HRR := hid_ hr
                        generalize lastI (inn f (supp r)) = la at *
                        obtain ⟨va, vc, rfl, v1, v2, _⟩ := huz.open
                        have D2 := hid_ (EX7.out.cell d1)
                        have HUZ := hid_ huz
                        clear hin hu hcc h3 hl hr hzc d1 huz h1
                        go_wp2_with (go_at_call 72; refine HCO.out.mono ?_; rintro e w' ⟨rfl, qc, rfl⟩)
                        have HX3 := hid_ (hx2.out.drewN qc)
                        have HST2 := hid_ (hst.out.later ((Ex.refl wr).drewN qc))
                        clear hx2 hst HCO t1 c1
                        generalize wr.drewN qc = W at *
                        obtain ⟨K1, hK1⟩ : ∃ K, kdot pn mn ml (il N x) r 0 = K := ⟨_, rfl⟩
                        have HDOT : Hid (∀ w', Ex w7 w' → Ex W w' → Calls Try.prog 75 #[.agg #[.int .i64 pn, .int .i64 mn, mv], .slice (some ⟨ob, 0, none⟩) N oc, .slice va r.length vc] w' fun r w'' => r = .returned (.int .i64 (K1 : Nat)) ∧ Ex w' w'') := by
                          rw [← hK1]
                          exact hid_ (fun w' h0 h1 => rDot_any w' HSH.out (HMV.out.ex (EX7.out.trans h0)) (il N x) r _ _ (HST2.out.out.isl.ex h1) (HUZ.out.ex (EX7.out.trans h0)))
                        have HK1 := hid_ hK1
                        have HRN := hid_ hrN
                        clear hrN hrE hK1
                        unfold maxLen at v2
                        have E0 : Ex W W.drew := (Ex.refl W).drew
                        have G0 : Ex w7 W.drew := HST2.out.ex.trans E0
                        by_cases hk0 : K1 = 0
                        · subst hk0
                          have hbk : ((((0 : Nat) : Int)) != 0) = false := rfl
                          have HALL2 := hid_ (show ∀ (k : Nat) (r : List Int), k < j + 1 → H[k]? = some r → ((inn f (supp r)).isEmpty && (kdot pn mn ml r (il N x) 0 != 0)) = false from fun k r' hk hr' => by
                            by_cases e : k = j
                            · subst e
                              rw [HRR.out] at hr'; injection hr' with hr'; subst hr'
                              rw [kdot_symm, HK1.out]; simp
                            · exact hall.out k r' (by omega) hr')
                          clear hall HK1 HIE HRR
                          go_region_held3 (fun w' => w'.cell? ⟨xb, 0, none⟩ = some (.int .i64 pn) ∧ w'.cell? ⟨xb, 1, none⟩ = some (.int .i64 mn) ∧ w'.cell? ⟨xb, 2, none⟩ = some mv ∧ w'.cell? ⟨xb + 1, 1, none⟩ = some (.slice (some ⟨zb, zo, none⟩) H.length zc) ∧ w'.cell? ⟨zb, zo + j, none⟩ = some (.slice va r.length vc))
                            (first | with_reducible exact ⟨G0.cell F0.out, G0.cell F1.out, G0.cell F2.out, G0.cell S4.out, G0.cell D2.out⟩ | with_reducible exact ⟨G1.cell F0.out, G1.cell F1.out, G1.cell F2.out, G1.cell S4.out, G1.cell D2.out⟩)
                            ((go_at_call 75; (with_reducible refine (HDOT.out _ G0 E0).mono ?_); rintro e wx1 ⟨rfl, hy1⟩; have E1 := E0.trans hy1; have G1 := G0.trans hy1))
                          have HX5 := hid_ (HX3.out.trans E1)
                          clear E0 G0 E1 G1 hy1 HDOT HST2 HX3
                          go_wp2_with fail
                          go_roundw
                          case rel => exact ⟨j + 1, by omega, by go_num, HX5, HALL2⟩
                          case measure => simp [intOf]; omega
                        · have hbk : (((K1 : Nat) : Int) != 0) = true := by simp; omega
                          have HFF := hid_ (show failB pn mn ml N H f x = true from by
                            unfold failB
                            rw [List.any_eq_true]
                            refine ⟨r, List.mem_of_getElem? HRR.out, ?_⟩
                            rw [HIE.out, kdot_symm, HK1.out]
                            simpa using hk0)
                          have HP := hid_ (HPS.out [] [] 12 (.inr (.inr (.inr ⟨HWL.out, HEN.out, HRI.out, x, f, hdone.out, .inl ⟨HFF.out, rfl, rfl, rfl⟩⟩))))
                          clear hall HK1 HIE HRR
                          go_region_held3 (fun w' => w'.cell? ⟨xb, 0, none⟩ = some (.int .i64 pn) ∧ w'.cell? ⟨xb, 1, none⟩ = some (.int .i64 mn) ∧ w'.cell? ⟨xb, 2, none⟩ = some mv ∧ w'.cell? ⟨xb + 1, 1, none⟩ = some (.slice (some ⟨zb, zo, none⟩) H.length zc) ∧ w'.cell? ⟨zb, zo + j, none⟩ = some (.slice va r.length vc))
                            (first | with_reducible exact ⟨G0.cell F0.out, G0.cell F1.out, G0.cell F2.out, G0.cell S4.out, G0.cell D2.out⟩ | with_reducible exact ⟨G1.cell F0.out, G1.cell F1.out, G1.cell F2.out, G1.cell S4.out, G1.cell D2.out⟩)
                            ((go_at_call 75; (with_reducible refine (HDOT.out _ G0 E0).mono ?_); rintro e wx1 ⟨rfl, hy1⟩; have E1 := E0.trans hy1; have G1 := G0.trans hy1))
                          have HX5 := hid_ (EX7.out.trans G1)
                          clear E0 G0 E1 G1 hy1 HDOT HST2 HX3
                          go_wp2_with fail
                          refine bodyPost_ret (results_tmp3 rfl _ _ _) rfl ?_
                          exact ⟨[], [], _, _, _, rfl, HP.out, isl_nil _, isl_nil _, HX5.out⟩
                      · have HALL2 := hid_ (show ∀ (k : Nat) (r : List Int), k < j + 1 → H[k]? = some r → ((inn f (supp r)).isEmpty && (kdot pn mn ml r (il N x) 0 != 0)) = false from fun k r' hk hr' => by
                          by_cases e : k = j
                          · subst e
                            rw [hr] at hr'; injection hr' with hr'; subst hr'
                            have : (inn f (supp r)).isEmpty = false := by
                              rw [Bool.eq_false_iff]; intro h; rw [List.isEmpty_iff] at h; rw [h] at h1; exact h1 rfl
                            rw [this]; rfl
                          · exact hall.out k r' (by omega) hr')
                        obtain ⟨n1, hn1⟩ : ∃ n1, (inn f (supp r)).length = n1 := ⟨_, rfl⟩
                        rw [hn1] at HCO h1
                        have hb1 : (((n1 : Nat) : Int) == 0) = false := by simp; omega
                        generalize lastI (inn f (supp r)) = la at *
                        clear hn1 h1 hall hin hu hcc h3 hl hr hrN hrE
                        go_wp2_with (go_at_call 72; refine HCO.out.mono ?_; rintro e w' ⟨rfl, qc, rfl⟩)
                        have HX3 := hid_ (hx2.out.drewN qc)
                        clear hx2 hst HCO t1 c1
                        generalize wr.drewN qc = W at *
                        go_quiet (fail)
                        go_wp2_with fail
                        go_roundw
                        case rel => exact ⟨j + 1, by omega, by go_num, hid_ (HX3.out.drewN _), HALL2⟩
                        case measure => simp [intOf]; omega
                    · obtain rfl : j = gr.length := by omega
                      have HFF := hid_ (show failB pn mn ml N H f x = false from by
                        unfold failB
                        rw [List.any_eq_false]
                        intro r hr
                        obtain ⟨k, hk, e⟩ := List.getElem_of_mem hr
                        have := hall.out k r (by have := HGL.out; omega) (by rw [List.getElem?_eq_getElem hk, e])
                        rw [this]; simp)
                      have HP := hid_ (HPS.out (il N x) (lft N f) 0 (.inr (.inr (.inr ⟨HWL.out, HEN.out, HRI.out, x, f, hdone.out, .inr ⟨HFF.out, rfl, rfl, rfl⟩⟩))))
                      clear hall
                      go_wp2_with fail
                      refine bodyPost_ret (results_tmp3 rfl _ _ _) rfl ?_
                      exact ⟨_, _, _, _, _, rfl, HP.out, hst.out.out.isl, hst.out.lf, EX7.out.trans hst.out.ex⟩
        · have hri' : risB N er = false := by simpa using hri
          have HP := hid_ (HPS.out [] [] 6 (.inr (.inr (.inl ⟨HWL.out, HEN.out, hri', rfl, rfl, rfl⟩))))
          have HRC := hid_ (Rising_any w6 er _ N (HEV.out.ex EX6.out))
          rw [hri'] at HRC
          clear hri hri'
          go_wp2_with fail
          refine HRC.out.mono ?_
          rintro e w7 ⟨rfl, q7, rfl⟩
          go_wp2_with fail
          refine bodyPost_ret (results_tmp3 rfl _ _ _) rfl ?_
          exact ⟨[], [], _, _, _, rfl, HP.out, isl_nil _, isl_nil _, EX6.out.drewN q7⟩
      · have h2 : entS (pn ^ mn) wd = 2 := by
          unfold entS at hen ⊢
          split
          · rename_i h; rw [if_pos h] at hen; exact absurd rfl hen
          · rfl
        have HP := hid_ (HPS.out [] [] 2 (.inr (.inl ⟨HWL.out, hen, rfl, rfl, rfl⟩)))
        rw [h2]
        clear hen h2
        go_wp2_with fail
        refine bodyPost_ret (results_tmp3 rfl _ _ _) rfl ?_
        exact ⟨[], [], _, _, _, rfl, HP.out, isl_nil _, isl_nil _, EX6.out⟩
    · have hb : ((wd.length : Int) != (N : Int)) = true := by simp; omega
      have HP := hid_ (HPS.out [] [] 4 (.inl ⟨hwl, rfl, rfl, rfl⟩))
      clear hwl
      go_wp2_with fail
      refine bodyPost_ret (results_tmp3 rfl _ _ _) rfl ?_
      exact ⟨[], [], _, _, _, rfl, HP.out, isl_nil _, isl_nil _, EX5.out⟩
  · have HP := hid_ (show PeelS p m ml cols H wd er [] [] ge from ⟨_, _, _, HGR.out, .inl ⟨h0, rfl, rfl, rfl⟩⟩)
    have hb : (ge != 0) = true := by simpa using h0
    have EX5 := hid_ (EX4.out.trans e5)
    clear h0 HGR e5 t0 t1
    go_wp2_with fail
    refine bodyPost_ret (results_tmp3 rfl _ _ _) rfl ?_
    exact ⟨[], [], _, _, _, rfl, HP.out, isl_nil _, isl_nil _, EX5.out⟩
end Go.Proofs.Ytpphaicbdeeacaa
