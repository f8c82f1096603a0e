/- nat.Mul; the reference's Trim, Of, limb, Cmp, Same, Mul. -/
import Derived.Test.YtgfdhclpffakfaaGreatZa28
namespace Go.Proofs.YtgfdhclpffakfaaGreat
set_option linter.unusedVariables false
set_option linter.unusedSimpArgs false
open Go.RowKit

/-- Numbers of at most 200 limbs. -/
def SmallN (x : Nat) : Prop := x < B32 ^ 200
theorem SmallN.len {x n : Nat} {f : Nat → Nat} (h : SmallN x) (hc : Cano n f) (hv : vS f n = x) : n ≤ 1000 := Nat.le_trans (hc.len (by rw [hv]; exact h)) (by omega)
theorem smallN_of {x : Nat} (h : x < 18446744073709551616) : SmallN x := by
  have h1 : (18446744073709551616 : Nat) = B32 ^ 2 := by decide
  have h2 : B32 ^ 2 ≤ B32 ^ 200 := Nat.pow_le_pow_right b32_pos (by omega)
  unfold SmallN
  omega
theorem cano_one : Cano 1 fun _ => 1 := ⟨fun _ _ => by decide, fun _ _ => by omega⟩
theorem vS_one : vS (fun _ => 1) 1 = 1 := by decide
/-- A slice of numbers. -/
def NMl (w : World) (v : Value) (xs : List Nat) : Prop := ∃ vals : List Value, Sl w v xs.length 1 vals ∧ ∀ (i x : Nat) (u : Value), xs[i]? = some x → vals[i]? = some u → NSl w u x
theorem NMl.open {w : World} {v : Value} {xs : List Nat} (h : NMl w v xs) : ∃ a cap, v = .slice a xs.length cap ∧ xs.length ≤ cap ∧ cap ≤ maxLen ∧
    (0 < xs.length → ∃ b o, a = some ⟨b, o, none⟩ ∧ ∀ (i x : Nat), xs[i]? = some x → ∃ u, w.cell? ⟨b, o + i, none⟩ = some u ∧ NSl w u x) := by
  obtain ⟨vals, ⟨h1, a, cap, h2, h3, h4, h5⟩, h6⟩ := h
  refine ⟨a, cap, h2, h3, h4, fun hn => ?_⟩
  obtain ⟨b, o, h7, h8⟩ := h5 hn
  refine ⟨b, o, h7, fun i x hx => ?_⟩
  have hi := (List.getElem?_eq_some_iff.1 hx).1
  have hu : vals[i]? = some vals[i] := List.getElem?_eq_getElem (by omega)
  exact ⟨_, h8 i _ hu, h6 i x _ hx hu⟩
def prodL : List Nat → Nat := fun xs => xs.foldl (· * ·) 1
theorem prodL_take {xs : List Nat} {k x : Nat} (h : xs[k]? = some x) : prodL (xs.take (k + 1)) = prodL (xs.take k) * x := by
  unfold prodL
  rw [List.take_add_one, h, List.foldl_append]; rfl
set_option maxRecDepth 100000 in
set_option maxHeartbeats 1000000 in
theorem nMul_any (w : World) (xs : List Nat) (v : Value) (hv : NMl w v xs) (hxs : ∀ x ∈ xs, SmallN x) (hp : ∀ k, k ≤ xs.length → SmallN (prodL (xs.take k))) :
    Calls Tryz.prog 50 #[v] w fun r w' => (∃ u, r = .returned u ∧ NSl w' u (prodL xs)) ∧ Ex w w' := by
  obtain ⟨a, cap, rfl, s1, s2, s3⟩ := hv.open
  unfold maxLen at s2
  have S3 := hid_ s3
  have HXS := hid_ hxs
  have HP := hid_ hp
  clear hv s3 hxs hp
  have ea := (Ex.refl w).alloc (.cells #[.int .u32 1] 65)
  have q0 : (w.alloc (.cells #[.int .u32 1] 65)).cell? ⟨w.heap.size, 0, none⟩ = some (.int .u32 1) := by simp
  have H1 := hid_ (show NSl (w.alloc (.cells #[.int .u32 1] 65)) (.slice (some ⟨w.heap.size, 0, none⟩) 1 1) 1 from ⟨1, _, cano_one, vS_one, NL.mk (Nat.le_refl _) (by unfold maxLen; omega) fun _ => ⟨_, 0, rfl, fun j hj => by
    obtain rfl : j = 0 := by omega
    exact q0⟩⟩)
  have EA := hid_ ea
  clear ea q0
  go_enter Tryz.func50, Tryz.ntmps50
  go_wp2_with fail
  go_loopw [3, 9] (fun p' k' wr => ∃ (k : Nat), k ≤ xs.length ∧ k' = .int .i64 k ∧ Hid (NSl wr p' (prodL (xs.take k))) ∧ Hid (Ex w wr)) (fun _ k' _ => xs.length - (intOf k').toNat)
  case atStart => exact ⟨0, by omega, rfl, H1, EA⟩
  case round =>
    clear H1 EA
    obtain ⟨k, hk, rfl, hn, hex⟩ := hrel
    have HSM := hid_ (HP.out k hk)
    obtain ⟨n, f, hf1, hf2, hf3⟩ := hn.out
    have hn1 := HSM.out.len hf1 hf2
    obtain ⟨pa, pc, rfl, _, _, _⟩ := hf3.open
    by_cases hkn : k < xs.length
    · obtain ⟨x, hx⟩ : ∃ x, xs[k]? = some x := ⟨_, List.getElem?_eq_getElem hkn⟩
      obtain ⟨b, o, rfl, hc⟩ := S3.out (by omega)
      obtain ⟨u, hu, hux⟩ := hc k x hx
      have c1 := hex.out.cell hu
      obtain ⟨m, g, hg1, hg2, hg3⟩ := hux
      have hm1 := (HXS.out x (List.mem_of_getElem? hx)).len hg1 hg2
      have i1 : (0 : Int) ≤ (k : Int) := by omega
      have i2 : (k : Int) < (xs.length : Int) := by omega
      have HSH := hid_ (short_any _ m g u (hg3.ex hex.out) hg1.lt)
      have HTI := hid_ (fun u' m' (hm' : m' ≤ m) (hgc : Cano m' g) (h : NL _ u' m' g) => times_any _ n m' f g _ _ hf3 h hf1.lt hgc.lt (by omega) (by omega))
      have HPE := hid_ (prodL_take hx)
      have HF2 := hid_ hf2
      have HG2 := hid_ hg2
      obtain ⟨ya, yc, rfl, _, _, _⟩ := hg3.open
      clear hc hu hx hf1 hf2 hf3 hg1 hg2 hg3
      go_wp2_with (first | (go_at_call 74; refine HSH.out.mono ?_; rintro e w5 ⟨⟨u, m', rfl, hm', hk2, hk3, hk4⟩, rfl⟩; obtain ⟨oa, oc, rfl, _, _, _⟩ := hk4.open; have HTJ := hid_ (HTI.out _ m' hm' hk2 hk4); rw [HF2.out, hk3, HG2.out] at HTJ; clear hk2 hk3 hk4) | (go_at_call 73; refine HTJ.out.mono ?_; rintro e w6 ⟨⟨u6, rfl, hu6⟩, hx6⟩; obtain ⟨_, _, _, _, h6⟩ := id hu6; obtain ⟨oa, oc, rfl, _, _, _⟩ := h6.open; have HU6 := hid_ hu6; have HX6 := hid_ (hex.out.trans hx6); clear hu6 h6 hx6))
      go_roundw
      case rel => exact ⟨k + 1, by omega, by go_num, by rw [HPE.out]; exact HU6, HX6⟩
      case measure => simp [intOf]; omega
    · obtain rfl : k = xs.length := by omega
      have hT := Trim_any wr n f _ hf3 hf1.lt (by omega)
      rw [hf2, List.take_length] at hT
      have HT := hid_ hT
      clear hT hf1 hf2 hf3
      go_wp2_with (go_at_call 72; refine HT.out.mono ?_; rintro e w6 ⟨⟨u6, rfl, hu6⟩, hx6⟩; obtain ⟨_, _, _, _, h6⟩ := id hu6; obtain ⟨oa, oc, rfl, _, _, _⟩ := h6.open; have HU6 := hid_ hu6; have HX6 := hid_ (hex.out.trans hx6); clear hu6 h6 hx6)
      go_ret
      exact ⟨⟨_, rfl, HU6.out⟩, HX6.out⟩
set_option maxRecDepth 100000 in
set_option maxHeartbeats 1000000 in
theorem rTrim_any (w : World) (n : Nat) (f : Nat → Nat) (v : Value) (hv : NL w v n f) (hlt : ∀ k, k < n → f k < B32) (hn : n ≤ 100000) :
    Calls Tryz.prog 42 #[v] w fun r w' => (∃ u, r = .returned u ∧ NSl w' u (vS f n)) ∧ Ex w w' := by
  obtain ⟨a, cap, rfl, s1, s2, s3⟩ := hv.open
  have HV := hid_ hv
  have S3 := hid_ s3
  have HLT := hid_ hlt
  have HN := hid_ hn
  have HCM := hid_ s2
  have ea := hid_ ((Ex.refl w).alloc (.cells #[] 65))
  unfold maxLen at s2
  clear hv s3 hlt
  go_enter Tryz.func42, Tryz.ntmps42
  go_wp2_with fail
  go_loopw [3] (fun m' wr => ∃ m : Nat, m' = .int .i64 m ∧ wr = w ∧ Hid (ShrtI f n m)) (fun m' _ => (intOf m').toNat)
  case atStart => exact ⟨n, rfl, rfl, ⟨Nat.le_refl _, rfl⟩⟩
  case round =>
    obtain ⟨m, rfl, rfl, hs⟩ := hrel
    have hle := hs.out.le
    by_cases hgo : ∃ k, m = k + 1 ∧ f k = 0
    · obtain ⟨k, rfl, h0⟩ := hgo
      have i1 : (0 : Int) ≤ (k : Int) := by omega
      have i2 : (k : Int) < (n : Int) := by omega
      obtain ⟨b, o, rfl, hc⟩ := S3.out (by omega)
      have c1 := hc k (by omega)
      have hw1 : ((k + 1 : Nat) : Int) - 1 = (k : Int) := by omega
      have HS := hid_ (hs.out.step h0)
      rw [h0] at c1
      clear hc h0
      go_wp2_with fail
      go_roundw
      case rel => exact ⟨k, by go_num, trivial, HS⟩
      case measure => simp [intOf]
    · have HC := hid_ (hs.out.fin HLT.out (fun k e h0 => hgo ⟨k, e, h0⟩))
      have HVM := hid_ hs.out.val
      have HTK := hid_ (HV.out.take (m := m) (c := cap) hle (by omega) (Nat.le_refl _))
      have hm2 : m ≤ 100000 := by omega
      have HC2 := hid_ HTK.out.cells
      cases m with
      | zero =>
        clear hgo
        rcases a with _ | ⟨b, o, sb⟩
        · go_wp2_with (at_builtin; refine wpList_append_sl _ rfl _ _ 38 rfl wr.heap.size 65 (.int .u32 0) 1 4 Tryz.underlying38 infoU32 rfl (by decide) _ 0 [] rfl (own_lit0 wr 65) (.slice none 0 cap) 0 _ rfl (HTK.out.ex ea.out) HC2.out (by unfold maxLen; omega) (by omega) (by simp) ?_; intro v' w' hown hg hb; obtain ⟨oa, oc, rfl⟩ := own_shape hown; have HO := hid_ hown; have HXA := hid_ (Ex.grown ea.out (own_lit0 wr 65) (Nat.le_refl _) hg); clear hown hg hb)
          go_ret
          exact ⟨⟨_, rfl, _, f, HC.out, HVM.out, by have := Sl.own HO.out; rw [Nat.zero_add, List.nil_append] at this; exact this⟩, HXA.out⟩
        · go_wp2_with (at_builtin; refine wpList_append_sl _ rfl _ _ 38 rfl wr.heap.size 65 (.int .u32 0) 1 4 Tryz.underlying38 infoU32 rfl (by decide) _ 0 [] rfl (own_lit0 wr 65) (.slice (some ⟨b, o, sb⟩) 0 cap) 0 _ rfl (HTK.out.ex ea.out) HC2.out (by unfold maxLen; omega) (by omega) (by simp) ?_; intro v' w' hown hg hb; obtain ⟨oa, oc, rfl⟩ := own_shape hown; have HO := hid_ hown; have HXA := hid_ (Ex.grown ea.out (own_lit0 wr 65) (Nat.le_refl _) hg); clear hown hg hb)
          go_ret
          exact ⟨⟨_, rfl, _, f, HC.out, HVM.out, by have := Sl.own HO.out; rw [Nat.zero_add, List.nil_append] at this; exact this⟩, HXA.out⟩
      | succ k =>
        have i1 : (0 : Int) ≤ (k : Int) := by omega
        have i2 : (k : Int) < (n : Int) := by omega
        obtain ⟨b, o, rfl, hc⟩ := S3.out (by omega)
        have c1 := hc k (by omega)
        have hw1 : ((k + 1 : Nat) : Int) - 1 = (k : Int) := by omega
        have hb : ((f k : Int) == 0) = false := by
          have : f k ≠ 0 := fun h => hgo ⟨k, rfl, h⟩
          simpa using this
        clear hc hgo
        go_wp2_with (at_builtin; refine wpList_append_sl _ rfl _ _ 38 rfl wr.heap.size 65 (.int .u32 0) 1 4 Tryz.underlying38 infoU32 rfl (by decide) _ 0 [] rfl (own_lit0 wr 65) (.slice (some ⟨b, o, none⟩) (k + 1) cap) (k + 1) _ rfl (HTK.out.ex ea.out) HC2.out (by unfold maxLen; omega) (by omega) (by simp) ?_; intro v' w' hown hg hb; obtain ⟨oa, oc, rfl⟩ := own_shape hown; have HO := hid_ hown; have HXA := hid_ (Ex.grown ea.out (own_lit0 wr 65) (Nat.le_refl _) hg); clear hown hg hb)
        go_ret
        exact ⟨⟨_, rfl, _, f, HC.out, HVM.out, by have := Sl.own HO.out; rw [Nat.zero_add, List.nil_append] at this; exact this⟩, HXA.out⟩
set_option maxRecDepth 100000 in
set_option maxHeartbeats 1000000 in
theorem rOf_any (w : World) (x : Nat) (hx : x < 18446744073709551616) :
    Calls Tryz.prog 13 #[.int .u64 x] w fun r w' => (∃ u, r = .returned u ∧ NSl w' u x) ∧ Ex w w' := by
  have HT := hid_ (rTrim_any (w.alloc (.cells #[.int .u32 ((x : Int) % 4294967296), .int .u32 ((x : Int) / 4294967296)] 65)) 2 (fl2 x) _ (fl2_nl w x _) (fl2_lt hx) (by omega))
  have EA := hid_ ((Ex.refl w).alloc (.cells #[.int .u32 ((x : Int) % 4294967296), .int .u32 ((x : Int) / 4294967296)] 65))
  rw [fl2_val] at HT
  have e1 : (x : Int).tmod 4294967296 = (x : Int) % 4294967296 := Int.tmod_eq_emod_of_nonneg (Int.natCast_nonneg x)
  have e2 : (x : Int).tdiv 4294967296 = (x : Int) / 4294967296 := Int.tdiv_eq_ediv_of_nonneg (Int.natCast_nonneg x)
  go_enter Tryz.func13, Tryz.ntmps13
  go_wp2_with (go_at_call 42; refine HT.out.mono ?_; rintro e w2 ⟨⟨u, rfl, hu⟩, hx⟩; obtain ⟨n, f, _, _, hu2⟩ := id hu; obtain ⟨ua, uc, rfl, _, _, _⟩ := hu2.open; have HU := hid_ hu; have HX := hid_ hx; clear hu hu2 hx)
  go_ret
  exact ⟨⟨_, rfl, HU.out⟩, EA.out.trans HX.out⟩
set_option maxRecDepth 100000 in
set_option maxHeartbeats 1000000 in
theorem limb_any (w : World) (n i : Nat) (f : Nat → Nat) (v : Value) (hv : NL w v n f) (hlt : ∀ k, k < n → f k < B32) (hi : i ≤ 10000) :
    Calls Tryz.prog 53 #[v, .int .i64 i] w fun r w' => r = .returned (.int .u64 ((if i < n then f i else 0 : Nat) : Int)) ∧ w' = w := by
  obtain ⟨a, cap, rfl, s1, s2, s3⟩ := hv.open
  have S3 := hid_ s3
  unfold maxLen at s2
  clear hv s3
  by_cases hin : i < n
  · obtain ⟨b, o, rfl, hc⟩ := S3.out (by omega)
    have c1 := hc i hin
    rw [if_pos hin]
    have hb : f i < 4294967296 := hlt i hin
    have e1 : IntKind.u64.wrap (f i : Int) = (f i : Int) := by rw [IntKind.wrap_u64]; omega
    have i1 : (0 : Int) ≤ (i : Int) := by omega
    have i2 : (i : Int) < (n : Int) := by omega
    clear hc hlt hb
    go_enter Tryz.func53, Tryz.ntmps53
    go_wp2_with fail
    go_ret
    exact ⟨rfl, rfl⟩
  · rw [if_neg hin]
    have i2 : ¬ (i : Int) < (n : Int) := by omega
    clear hlt
    go_enter Tryz.func53, Tryz.ntmps53
    go_wp2_with fail
    go_ret
    exact ⟨rfl, rfl⟩
/-- The limb, and 0 behind the last. -/
def lbX (n : Nat) (f : Nat → Nat) (i : Nat) : Nat := if i < n then f i else 0
theorem lbX_vS {n m : Nat} (f : Nat → Nat) (h : n ≤ m) : vS (lbX n f) m = vS f n := by
  rw [vS_zero h fun k h1 _ => by unfold lbX; rw [if_neg (by omega)]]
  exact vS_congr fun k hk => by unfold lbX; rw [if_pos hk]
set_option maxRecDepth 100000 in
set_option maxHeartbeats 8000000 in
theorem rCmp_any (w : World) (x y : Nat) (u v : Value) (hu : NSl w u x) (hv : NSl w v y) (hx : SmallN x) (hy : SmallN y) :
    Calls Tryz.prog 26 #[u, v] w fun r w' => (∃ z : Int, r = .returned (.int .i64 z) ∧ (z = 0 ↔ x = y)) ∧ w' = w := by
  obtain ⟨n, f, hf1, hf2, hf3⟩ := hu
  obtain ⟨m, g, hg1, hg2, hg3⟩ := hv
  have hn := hx.len hf1 hf2
  have hm := hy.len hg1 hg2
  have HLF := hid_ (fun i (hi : i ≤ 10000) => limb_any w n i f u hf3 hf1.lt hi)
  have HLG := hid_ (fun i (hi : i ≤ 10000) => limb_any w m i g v hg3 hg1.lt hi)
  have HEQ := hid_ (show (∀ i, lbX n f i = lbX m g i) → x = y from fun h => by
    rw [← hf2, ← hg2, ← lbX_vS f (Nat.le_max_left n m), ← lbX_vS g (Nat.le_max_right n m)]
    exact vS_congr fun k _ => h k)
  have HNE := hid_ (show ∀ i, lbX n f i ≠ lbX m g i → ¬ x = y from fun i h e => by
    obtain ⟨h1, h2⟩ := hf1.uniq hg1 (by rw [hf2, hg2, e])
    subst h1
    refine h ?_
    unfold lbX
    split
    · exact h2 i (by omega)
    · rfl)
  obtain ⟨ua, uc, rfl, _, _, _⟩ := hf3.open
  obtain ⟨va, vc, rfl, _, _, _⟩ := hg3.open
  clear hf1 hf2 hf3 hg1 hg2 hg3 hx hy
  have HEM := hid_ (show (∀ i, i < n ∨ i < m → lbX n f i = lbX m g i) → x = y from fun h => HEQ.out fun i => by
    by_cases hi : i < n ∨ i < m
    · exact h i hi
    · unfold lbX; rw [if_neg (by omega), if_neg (by omega)])
  go_enter Tryz.func26, Tryz.ntmps26
  go_wp2_with fail
  all_goals
    go_loopw [5] (fun i' wr => ∃ i : Nat, i ≤ 1000 ∧ i' = .int .i64 ((i : Int) - 1) ∧ wr = w ∧ Hid (∀ k, i ≤ k → k < n ∨ k < m → lbX n f k = lbX m g k)) (fun i' _ => ((intOf i') + 1).toNat)
    case atStart => first | exact ⟨n, by omega, rfl, rfl, hid_ (fun k h1 h2 => by omega)⟩ | exact ⟨m, by omega, rfl, rfl, hid_ (fun k h1 h2 => by omega)⟩ | exact ⟨max n m, by omega, congrArg (Value.int .i64) (by omega), rfl, hid_ (fun k h1 h2 => by omega)⟩
    case round =>
      obtain ⟨i, hi, rfl, rfl, hall⟩ := hrel
      cases i with
      | zero =>
        have HE := hid_ (HEM.out fun k hk => hall.out k (Nat.zero_le _) hk)
        go_wp2_with fail
        go_ret
        exact ⟨⟨0, rfl, fun _ => HE.out, fun _ => rfl⟩, rfl⟩
      | succ k =>
        have hk1 : ((k + 1 : Nat) : Int) - 1 = (k : Int) := by omega
        rw [hk1]
        have i1 : (0 : Int) ≤ (k : Int) := by omega
        have L1 := hid_ (HLF.out k (by omega))
        have L2 := hid_ (HLG.out k (by omega))
        have HNK := hid_ (HNE.out k)
        obtain ⟨p, hp⟩ : ∃ p, (if k < n then f k else 0) = p := ⟨_, rfl⟩
        obtain ⟨q, hq⟩ : ∃ q, (if k < m then g k else 0) = q := ⟨_, rfl⟩
        rw [hp] at L1
        rw [hq] at L2
        have hpl : lbX n f k = p := hp
        have hql : lbX m g k = q := hq
        rw [hpl, hql] at HNK
        have HPQ := hid_ (show p = q → ∀ j, k ≤ j → j < n ∨ j < m → lbX n f j = lbX m g j from fun e j h1 h2 => by
          by_cases e2 : j = k
          · subst e2; rw [hpl, hql, e]
          · exact hall.out j (by omega) h2)
        clear hp hq hpl hql hall
        rcases Nat.lt_trichotomy p q with h | h | h
        · have HN := hid_ (HNK.out (by omega))
          have h1 : (p : Int) < (q : Int) := by omega
          go_wp2_with (go_at_call 53; first | (with_reducible refine L1.out.mono ?_; rintro e w2 ⟨rfl, rfl⟩) | (with_reducible refine L2.out.mono ?_; rintro e w2 ⟨rfl, rfl⟩))
          go_ret
          exact ⟨⟨-1, rfl, fun h => by omega, fun h => absurd h HN.out⟩, rfl⟩
        · subst h
          have HP2 := hid_ (HPQ.out rfl)
          have h1 : ¬ (p : Int) < (p : Int) := by omega
          go_wp2_with (go_at_call 53; first | (with_reducible refine L1.out.mono ?_; rintro e w2 ⟨rfl, rfl⟩) | (with_reducible refine L2.out.mono ?_; rintro e w2 ⟨rfl, rfl⟩))
          go_roundw
          case rel => exact ⟨k, by omega, by go_num, trivial, HP2⟩
          case measure => simp [intOf]
        · have HN := hid_ (HNK.out (by omega))
          have h1 : ¬ (p : Int) < (q : Int) := by omega
          have h2 : (q : Int) < (p : Int) := by omega
          go_wp2_with (go_at_call 53; first | (with_reducible refine L1.out.mono ?_; rintro e w2 ⟨rfl, rfl⟩) | (with_reducible refine L2.out.mono ?_; rintro e w2 ⟨rfl, rfl⟩))
          go_ret
          exact ⟨⟨1, rfl, fun h => by omega, fun h => absurd h HN.out⟩, rfl⟩
set_option maxRecDepth 100000 in
set_option maxHeartbeats 1000000 in
theorem rSame_any (w : World) (x y : Nat) (u v : Value) (hu : NSl w u x) (hv : NSl w v y) (hx : SmallN x) (hy : SmallN y) :
    Calls Tryz.prog 11 #[u, v] w fun r w' => r = .returned (.bool (decide (x = y))) ∧ ∃ n, w' = w.drewN n := by
  obtain ⟨n, f, hf1, hf2, hf3⟩ := hu
  obtain ⟨m, g, hg1, hg2, hg3⟩ := hv
  have hn := hx.len hf1 hf2
  have hm := hy.len hg1 hg2
  have HEQ := hid_ (show n = m → (∀ i, i < n → f i = g i) → x = y from fun e h => by
    subst e
    rw [← hf2, ← hg2]
    exact vS_congr fun k hk => h k hk)
  have HNE := hid_ (show x = y → n = m ∧ ∀ i, i < n → f i = g i from fun e => hf1.uniq hg1 (by rw [hf2, hg2, e]))
  obtain ⟨ua, uc, rfl, _, s2, s3⟩ := hf3.open
  obtain ⟨va, vc, rfl, _, t2, t3⟩ := hg3.open
  have S3 := hid_ s3
  have T3 := hid_ t3
  unfold maxLen at s2 t2
  clear hf1 hf2 hf3 hg1 hg2 hg3 hx hy s3 t3
  by_cases hnm : n = m
  · subst hnm
    go_enter Tryz.func11, Tryz.ntmps11
    go_wp2_with fail
    go_loopw [5] (fun i' wr => ∃ i q : Nat, i ≤ n ∧ i' = .int .i64 i ∧ wr = w.drewN q ∧ Hid (∀ j, j < i → f j = g j)) (fun i' _ => n - (intOf i').toNat)
    case atStart => exact ⟨0, 0, by omega, rfl, rfl, hid_ (fun j hj => by omega)⟩
    case round =>
      obtain ⟨i, q, hi, rfl, rfl, hall⟩ := hrel
      by_cases hlt : i < n
      · obtain ⟨b, o, rfl, hc⟩ := S3.out (by omega)
        obtain ⟨b2, o2, rfl, hc2⟩ := T3.out (by omega)
        have c1 := ((Ex.refl w).drewN q).cell (hc i hlt)
        have c2 := ((Ex.refl w).drewN q).cell (hc2 i hlt)
        have i1 : (0 : Int) ≤ (i : Int) := by omega
        have i2 : (i : Int) < (n : Int) := by omega
        obtain ⟨W, hW⟩ : ∃ W, w.drewN q = W := ⟨_, rfl⟩
        rw [hW] at c1 c2 ⊢
        have HWE := hid_ hW
        clear hW hc hc2
        by_cases hxy : f i = g i
        · have HA := hid_ (show ∀ j, j < i + 1 → f j = g j from fun j hj => by
            by_cases e : j = i
            · subst e; exact hxy
            · exact hall.out j (by omega))
          have hbb : ((f i : Int) != (g i : Int)) = false := by rw [hxy]; simp
          clear hxy
          go_wp2_with fail
          go_quiet (fail)
          go_wp2_with fail
          go_roundw
          case rel => exact ⟨i + 1, _, by omega, by go_num, by rw [← HWE.out, World.drewN_drewN], HA⟩
          case measure => simp [intOf]; omega
        · have HN := hid_ (show ¬ x = y from fun e => hxy ((HNE.out e).2 i hlt))
          have hbb : ((f i : Int) != (g i : Int)) = true := by simp; omega
          clear hxy
          go_wp2_with fail
          go_quiet (fail)
          go_wp2_with fail
          go_ret
          exact ⟨ret_bool (decide_eq_false HN.out).symm, _, by rw [← HWE.out, World.drewN_drewN]⟩
      · obtain rfl : i = n := by omega
        have HE := hid_ (HEQ.out (by first | rfl | trivial) hall.out)
        go_wp2_with fail
        go_ret
        exact ⟨ret_bool (decide_eq_true HE.out).symm, q, rfl⟩
  · have hb : ((n : Int) != (m : Int)) = true := by simp; omega
    have HN := hid_ (show ¬ x = y from fun e => hnm (HNE.out e).1)
    clear hnm
    go_enter Tryz.func11, Tryz.ntmps11
    go_wp2_with fail
    go_ret
    exact ⟨ret_bool (decide_eq_false HN.out).symm, 0, rfl⟩
set_option maxRecDepth 100000 in
set_option maxHeartbeats 1000000 in
theorem rMul_any (w : World) (n m : Nat) (a b : Nat → Nat) (u v : Value) (hu : NL w u n a) (hv : NL w v m b) (ha : ∀ k, k < n → a k < B32) (hb : ∀ k, k < m → b k < B32) (hn : n ≤ 10000) (hm : m ≤ 10000) :
    Calls Tryz.prog 41 #[u, v] w fun r w' => (∃ u, r = .returned u ∧ NSl w' u (vS a n * vS b m)) ∧ Ex w w' := by
  obtain ⟨ua, uc, rfl, s1, s2, s3⟩ := hu.open
  obtain ⟨va, vc, rfl, t1, t2, t3⟩ := hv.open
  unfold maxLen at s2 t2
  have S3 := hid_ s3
  have T3 := hid_ t3
  have HA := hid_ ha
  have HB := hid_ hb
  have hw0 : wrap64 ((n : Int) + (m : Int)) = ((n + m : Nat) : Int) := by rw [← Int.natCast_add]; exact w64 (by omega) (by omega)
  clear hu hv s3 t3 ha hb
  go_enter Tryz.func41, Tryz.ntmps41
  go_wp2_with (at_make; refine wpList_make_arr _ rfl _ _ 38 rfl 65 (.int .u32 0) 4 Tryz.underlying38 infoU32 rfl _ (n + m) rfl rfl (by first | rfl | omega) (by omega) (by unfold maxLen; omega) ?_)
  intro w3 hown hx3
  obtain ⟨g, hg⟩ : ∃ g, w.heap.size = g := ⟨_, rfl⟩
  have HO3 := hid_ (show Own w3 w.heap.size 65 g (n + m) (uv fun _ => 0) from by rw [← hg]; exact hown)
  have HX3 := hid_ hx3
  have HGG := hid_ hg
  try simp only [hg]
  clear hown hx3 hg
  go_wp2_with fail
  go_loopw [6] (fun i' wr => ∃ (i : Nat) (f : Nat → Nat), i ≤ n ∧ i' = .int .i64 i ∧ Hid (Own wr w.heap.size 65 g (n + m) (uv f)) ∧ Hid (MulI (n + m) i m a b f) ∧ Hid (Ex w wr)) (fun i' _ => n - (intOf i').toNat)
  case atStart => exact ⟨0, _, by omega, rfl, HO3, hid_ (MulI.start _ _ _ _), HX3⟩
  case round =>
    clear HO3 HX3
    obtain ⟨i, f, hi, rfl, ho, hmi, hex⟩ := hrel
    by_cases hin : i < n
    · obtain ⟨sb, so, rfl, hsc⟩ := S3.out (by omega)
      have hs1 := hsc i hin
      have i1 : (0 : Int) ≤ (i : Int) := by omega
      have i2 : (i : Int) < (n : Int) := by omega
      have HAI := hid_ (HA.out i hin)
      obtain ⟨A, hA⟩ : ∃ A, a i = A := ⟨_, rfl⟩
      rw [hA] at hs1
      have HSC := hid_ hs1
      have HAE := hid_ hA
      clear hA hsc hs1
      go_wp2_with fail
      go_loopw [7, 8] (fun c' j' wr => ∃ (c j : Nat) (f : Nat → Nat), j ≤ m ∧ c' = .int .u64 c ∧ j' = .int .i64 j ∧ Hid (Own wr w.heap.size 65 g (n + m) (uv f)) ∧ Hid (MulJ (n + m) i m a b f c j) ∧ Hid (Ex w wr)) (fun _ j' _ => m - (intOf j').toNat)
      case atStart => exact ⟨0, 0, f, by omega, rfl, rfl, ho, hid_ hmi.out.inner, hex⟩
      case round =>
        clear ho hmi hex
        obtain ⟨c, j, f, hj, rfl, rfl, ho, hmj, hex⟩ := hrel
        by_cases hjm : j < m
        · obtain ⟨tb, tp, rfl, htc⟩ := T3.out (by omega)
          have c1 := hex.out.cell HSC.out
          have c2 := hex.out.cell (htc j hjm)
          have hij : i + j < n + m := by omega
          have c3 := ho.out.cell hij
          have c3f := ho.out.frz (i + j)
          have i3 : (0 : Int) ≤ (j : Int) := by omega
          have i4 : (j : Int) < (m : Int) := by omega
          have i5 : (0 : Int) ≤ (i : Int) + (j : Int) := Int.add_nonneg i1 i3
          have i6 : (i : Int) + (j : Int) < (n : Int) + (m : Int) := Int.add_lt_add i2 i4
          have HST := hid_ (hmj.out.step hjm (by omega) HAI.out (HB.out j hjm))
          have hbnd := mul_bound HAI.out (HB.out j hjm) (hmj.out.lt (i + j) hij) hmj.out.cl
          have hOS := fun (y q : Nat) => (ho.out.drewN q).set (i + j) (.int .u32 (y : Int))
          have hES := fun (y q : Nat) => (ho.out.drewN q).exSet (Nat.le_refl _) (hex.out.drewN q) (i + j) (.int .u32 (y : Int))
          simp only [uv_upd] at hOS
          have hlb : a i < 4294967296 := HAI.out
          have hlc : b j < 4294967296 := HB.out j hjm
          have hld : f (i + j) < 4294967296 := hmj.out.lt (i + j) hij
          have hlee : c < 4294967296 := hmj.out.cl
          have hbd : a i * b j + f (i + j) + c < 18446744073709551616 := hbnd
          clear hbnd
          unfold uv at c3
          rw [HAE.out] at HST hbd hlb
          obtain ⟨B, hB⟩ : ∃ B, b j = B := ⟨_, rfl⟩
          obtain ⟨F, hF⟩ : ∃ F, f (i + j) = F := ⟨_, rfl⟩
          rw [hB] at HST hbd c2 hlc
          simp only [hF] at c3
          rw [hF] at HST hbd hld
          obtain ⟨P, hP⟩ : ∃ P, A * B = P := ⟨_, rfl⟩
          rw [hP] at HST hbd
          obtain ⟨T, hT⟩ : ∃ T, P + F = T := ⟨_, rfl⟩
          rw [hT] at HST hbd
          obtain ⟨S, hS⟩ : ∃ S, T + c = S := ⟨_, rfl⟩
          rw [hS] at HST hbd
          have e1 : IntKind.u64.wrap ((A : Int) * (B : Int)) = (P : Int) := by rw [← Int.natCast_mul, hP, IntKind.wrap_u64]; omega
          have e2 : IntKind.u64.wrap ((P : Int) + (F : Int)) = (T : Int) := by rw [IntKind.wrap_u64]; omega
          have e3 : IntKind.u64.wrap ((T : Int) + (c : Int)) = (S : Int) := by rw [IntKind.wrap_u64]; omega
          have e7 : IntKind.u64.wrap (A : Int) = (A : Int) := by rw [IntKind.wrap_u64]; omega
          have e8 : IntKind.u64.wrap (B : Int) = (B : Int) := by rw [IntKind.wrap_u64]; omega
          have e9 : IntKind.u64.wrap (F : Int) = (F : Int) := by rw [IntKind.wrap_u64]; omega
          have e5 : (S : Int) % 4294967296 = ((S % B32 : Nat) : Int) := b32_mod S
          have e6 : (S : Int) / 4294967296 = ((S / B32 : Nat) : Int) := b32_div S
          obtain ⟨r, hr⟩ : ∃ r, S % B32 = r := ⟨_, rfl⟩
          obtain ⟨k, hk⟩ : ∃ k, S / B32 = k := ⟨_, rfl⟩
          rw [hr] at e5 HST
          rw [hk] at e6 HST
          have HOS := hid_ (hOS r)
          have HES := hid_ (hES r)
          have e10 : (S : Int).tmod 4294967296 = (r : Int) := by rw [Int.tmod_eq_emod_of_nonneg (Int.natCast_nonneg S)]; exact e5
          have e11 : (S : Int).tdiv 4294967296 = (k : Int) := by rw [Int.tdiv_eq_ediv_of_nonneg (Int.natCast_nonneg S)]; exact e6
          have hr2 : r < 4294967296 := hr ▸ Nat.mod_lt _ b32_pos
          have e13 : IntKind.u64.wrap (k : Int) = (k : Int) := by rw [IntKind.wrap_u64]; omega
          have e12 : (r : Int) % 4294967296 = (r : Int) := by omega
          clear hOS hES htc hP hT hS hB hF hr hk hbd hlb hlc hld hlee hr2
          go_wp2_with fail
          go_quiet (fail)
          go_wp2_with fail
          clear e10 e11 e13 e12 e1 e2 e3 e5 e6 e7 e8 e9
          go_roundw
          case rel => exact ⟨k, j + 1, _, by omega, rfl, by go_num, hid_ (HOS.out _), HST, hid_ (HES.out _)⟩
          case measure => simp [intOf]; omega
        · obtain rfl : j = m := by omega
          have HFI := hid_ (hmj.out.fin (by omega))
          have hnm : i + j < n + j := by omega
          have c3 := ho.out.cell hnm
          have c3f := ho.out.frz (i + j)
          have hOS := ho.out.set (i + j) (.int .u32 (c : Int))
          have HES := hid_ (ho.out.exSet (Nat.le_refl _) hex.out (i + j) (.int .u32 (c : Int)))
          rw [uv_upd] at hOS
          have HOS := hid_ hOS
          have k5 : (0 : Int) ≤ (i : Int) + (j : Int) := Int.add_nonneg i1 (Int.natCast_nonneg j)
          have k6 : (i : Int) + (j : Int) < (n : Int) + (j : Int) := Int.add_lt_add_right i2 _
          have hc : c < 4294967296 := hmj.out.cl
          have hw2 := hid_ (show (c : Int) % 4294967296 = (c : Int) from by omega)
          have e2 := hw2.out
          unfold uv at c3
          clear hc hOS
          go_wp2_with fail
          clear e2
          go_roundw
          case rel => exact ⟨i + 1, _, by omega, by go_num, HOS, HFI, HES⟩
          case measure => simp [intOf]; omega
    · obtain rfl : i = n := by omega
      have hSH := rTrim_any wr (i + m) f _ (show NL wr (.slice (some ⟨g, 0, none⟩) (i + m) (i + m)) (i + m) f from ho.out.sl) hmi.out.lt (by omega)
      rw [hmi.out.val] at hSH
      have HSH := hid_ hSH
      clear hSH
      go_wp2_with (go_at_call 42; refine HSH.out.mono ?_; rintro e w5 ⟨⟨u, rfl, hu⟩, hx5⟩; obtain ⟨_, _, _, _, hk4⟩ := id hu; obtain ⟨oa, oc, rfl, _, _, _⟩ := hk4.open; have HU := hid_ hu; have HX5 := hid_ (hex.out.trans hx5); clear hu hk4 hx5)
      go_ret
      exact ⟨⟨_, rfl, HU.out⟩, HX5.out⟩
end Go.Proofs.YtgfdhclpffakfaaGreat
