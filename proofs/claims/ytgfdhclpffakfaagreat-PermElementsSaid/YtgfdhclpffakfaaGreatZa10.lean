/- Walks of perm.Check, perm.generators, and of the reference's Check, all, group. -/
import Derived.Test.YtgfdhclpffakfaaGreatZa09
namespace Go.Proofs.YtgfdhclpffakfaaGreat
set_option linter.unusedVariables false
set_option linter.unusedSimpArgs false
open Go.RowKit

/-- The error of a degree. -/
def degS (n : Int) : Int := if n < 1 ∨ 64 < n then 4 else 0
/-- The error of a permutation. -/
def pchk (l : List Int) : Int := if (l.length : Int) < 1 ∨ 64 < (l.length : Int) then 4 else if (∃ x ∈ l, x < 0 ∨ (l.length : Int) ≤ x) then 6 else if l.Nodup then 0 else 18
/-- The first error of a list of permutations, then that of their lengths. -/
def allS (n : Int) (rows : List (List Int)) : Int := match rows.find? (fun r => pchk r != 0) with
  | some r => pchk r
  | none => if (∃ r ∈ rows, (r.length : Int) ≠ n) then 10 else 0
def gchk (n : Int) (rows : List (List Int)) : Int := if n < 1 ∨ 64 < n then 4 else allS n rows
theorem allS_hit {n : Int} {rows : List (List Int)} {i : Nat} {r : List Int} (hr : rows[i]? = some r) (h : pchk r ≠ 0) (ha : ∀ (j : Nat) (s : List Int), j < i → rows[j]? = some s → pchk s = 0) : allS n rows = pchk r := by
  have : rows.find? (fun r => pchk r != 0) = some r := by
    rw [List.find?_eq_some_iff_getElem]
    obtain ⟨hi, e⟩ := List.getElem?_eq_some_iff.1 hr
    refine ⟨by simpa using h, i, hi, e, fun j hj => ?_⟩
    have := ha j _ hj (List.getElem?_eq_getElem (by omega))
    simp [this]
  unfold allS
  rw [this]
theorem allS_miss {n : Int} {rows : List (List Int)} (ha : ∀ (j : Nat) (s : List Int), rows[j]? = some s → pchk s = 0) : allS n rows = if (∃ r ∈ rows, (r.length : Int) ≠ n) then 10 else 0 := by
  have : rows.find? (fun r => pchk r != 0) = none := by
    rw [List.find?_eq_none]
    intro r hr
    obtain ⟨j, hj, e⟩ := List.getElem_of_mem hr
    have := ha j r (by rw [List.getElem?_eq_getElem hj, e])
    simp [this]
  unfold allS
  rw [this]
theorem nodup_iff_idx {l : List Int} : l.Nodup ↔ ∀ i j, j < i → i < l.length → l[i]? ≠ l[j]? := by
  rw [List.nodup_iff_pairwise_ne, List.pairwise_iff_getElem]
  constructor
  · intro h i j hj hi e
    rw [List.getElem?_eq_getElem hi, List.getElem?_eq_getElem (by omega)] at e
    injection e with e
    exact h j i (by omega) hi hj e.symm
  · intro h i j hi hj hij e
    exact h j i hij hj (by rw [List.getElem?_eq_getElem hi, List.getElem?_eq_getElem hj, e])
/-- An accepted list is that of a permutation. -/
theorem pchk_ok {l : List Int} (h : pchk l = 0) : ∃ n f, 1 ≤ n ∧ n ≤ 64 ∧ l.length = n ∧ IsP n f ∧ l = li n f := by
  unfold pchk at h
  split at h
  · cases h
  · split at h
    · cases h
    · split at h
      · rename_i h1 h2 h3
        have hr : ∀ i, i < l.length → 0 ≤ l.getD i 0 ∧ l.getD i 0 < l.length := fun i hi => by
          rw [List.getD_eq_getElem?_getD, List.getElem?_eq_getElem hi]
          show 0 ≤ l[i] ∧ l[i] < (l.length : Int)
          have hm := List.getElem_mem hi
          apply Classical.byContradiction
          intro hn
          exact h2 ⟨_, hm, by omega⟩
        refine ⟨l.length, fun i => if i < l.length then (l.getD i 0).toNat else i, by omega, by omega, rfl, ?_, ?_⟩
        · refine IsP.of_inj (fun i hi => ?_) (fun i hi => if_neg (by omega)) (fun i j hi hj e => ?_)
          · rw [if_pos hi]; have := hr i hi; omega
          · rw [if_pos hi, if_pos hj] at e
            have h4 := hr i hi
            have h5 := hr j hj
            have e2 : l.getD i 0 = l.getD j 0 := by omega
            rw [List.getD_eq_getElem?_getD, List.getD_eq_getElem?_getD, List.getElem?_eq_getElem hi, List.getElem?_eq_getElem hj] at e2
            have e2 : l[i] = l[j] := e2
            apply Classical.byContradiction
            intro hne
            rcases Nat.lt_or_gt_of_ne hne with hij | hij
            · exact nodup_iff_idx.1 h3 j i hij hj (by rw [List.getElem?_eq_getElem hi, List.getElem?_eq_getElem hj, e2])
            · exact nodup_iff_idx.1 h3 i j hij hi (by rw [List.getElem?_eq_getElem hi, List.getElem?_eq_getElem hj, e2])
        · apply List.ext_getElem?
          intro i
          by_cases hi : i < l.length
          · rw [li_get hi, if_pos hi]
            have := hr i hi
            rw [List.getD_eq_getElem?_getD, List.getElem?_eq_getElem hi] at *
            have this : 0 ≤ l[i] ∧ l[i] < (l.length : Int) := this
            show some l[i] = some ((l[i].toNat : Nat) : Int)
            congr 1; omega
          · rw [List.getElem?_eq_none (by omega), List.getElem?_eq_none (by rw [li_len]; omega)]
      · cases h
/-- The list of a permutation is accepted. -/
theorem pchk_li {n : Nat} {f : Nat → Nat} (h1 : 1 ≤ n) (h2 : n ≤ 64) (hf : IsP n f) : pchk (li n f) = 0 := by
  unfold pchk
  rw [li_len, if_neg (by omega), if_neg, if_pos]
  · rw [nodup_iff_idx]
    intro i j hj hi e
    rw [li_len] at hi
    rw [li_get hi, li_get (by omega)] at e
    injection e with e
    have := hf.inj i j (by omega)
    omega
  · rintro ⟨x, hx, h⟩
    unfold li at hx
    obtain ⟨j, hj, rfl⟩ := il_mem hx
    have := hf.lt j hj
    omega
theorem gchk_ok {n : Int} {rows : List (List Int)} (h : gchk n rows = 0) : ∃ N : Nat, n = N ∧ 1 ≤ N ∧ N ≤ 64 ∧ ∃ S : List (Nat → Nat), rows = S.map (li N) ∧ ∀ s ∈ S, IsP N s := by
  unfold gchk at h
  split at h
  · cases h
  · rename_i hn
    obtain ⟨N, rfl⟩ : ∃ N : Nat, n = N := ⟨n.toNat, by omega⟩
    refine ⟨N, rfl, by omega, by omega, ?_⟩
    unfold allS at h
    split at h
    · rename_i r hr
      have := List.find?_some hr
      simp [h] at this
    · rename_i hr
      split at h
      · cases h
      · rename_i hl
        have hall : ∀ r ∈ rows, ∃ f, IsP N f ∧ r = li N f := fun r hm => by
          have h1 := List.find?_eq_none.1 hr r hm
          obtain ⟨m, f, _, _, h3, h4, h5⟩ := pchk_ok (by simpa using h1)
          have hm : m = N := by
            have : ¬ (r.length : Int) ≠ N := fun h6 => hl ⟨r, hm, h6⟩
            omega
          subst hm
          exact ⟨f, h4, h5⟩
        clear hr hl h hn
        induction rows with
        | nil => exact ⟨[], rfl, fun s hs => by cases hs⟩
        | cons r rs ih =>
          obtain ⟨f, hf, rfl⟩ := hall r (List.mem_cons_self ..)
          obtain ⟨S, e, hS⟩ := ih fun r hr => hall r (List.mem_cons_of_mem _ hr)
          exact ⟨f :: S, by rw [e]; rfl, fun s hs => by
            rcases List.mem_cons.1 hs with h | h
            · rw [h]; exact hf
            · exact hS s h⟩
theorem gchk_li {N : Nat} {S : List (Nat → Nat)} (h1 : 1 ≤ N) (h2 : N ≤ 64) (hS : ∀ s ∈ S, IsP N s) : gchk N (S.map (li N)) = 0 := by
  unfold gchk
  rw [if_neg (by omega), allS_miss, if_neg]
  · rintro ⟨r, hr, h⟩
    obtain ⟨s, hs, rfl⟩ := List.mem_map.1 hr
    rw [li_len] at h
    exact h rfl
  · intro j s hs
    obtain ⟨s', h3, rfl⟩ := List.mem_map.1 (List.mem_of_getElem? hs)
    exact pchk_li h1 h2 (hS s' h3)
set_option maxRecDepth 100000 in
set_option maxHeartbeats 1000000 in
theorem degree_any (w : World) (n : Int) :
    Calls Tryz.prog 54 #[.int .i64 n] w fun r w' => r = .returned (.int .i64 (degS n)) ∧ w = w' := by
  unfold degS
  by_cases h1 : n < 1
  · rw [if_pos (.inl h1)]
    go_enter Tryz.func54, Tryz.ntmps54
    go_wp2_with fail
    go_ret
    exact ⟨rfl, rfl⟩
  · by_cases h2 : 64 < n
    · rw [if_pos (.inr h2)]
      go_enter Tryz.func54, Tryz.ntmps54
      go_wp2_with fail
      go_ret
      exact ⟨rfl, rfl⟩
    · rw [if_neg (by omega)]
      go_enter Tryz.func54, Tryz.ntmps54
      go_wp2_with fail
      go_ret
      exact ⟨rfl, rfl⟩
set_option maxRecDepth 100000 in
set_option maxHeartbeats 1000000 in
theorem Check1_any (w : World) (B : Nat) (x : Int) (a : Option Addr) (n cap : Nat) (c0 : w.cell? ⟨B, 0, none⟩ = some (.slice a n cap)) :
    Calls Tryz.prog 57 #[.int .i64 x, .pointer (some ⟨B, 0, none⟩)] w fun r w' => r = .returned (.bool (decide (x < 0 ∨ (n : Int) ≤ x))) ∧ ∃ q, w' = w.drewN q := by
  by_cases h1 : x < 0
  · rw [decide_eq_true (.inl h1)]
    go_enter Tryz.func57, Tryz.ntmps57
    go_wp2_with fail
    go_ret
    exact ⟨rfl, 0, rfl⟩
  · by_cases h2 : (n : Int) ≤ x
    · rw [decide_eq_true (.inr h2)]
      go_enter Tryz.func57, Tryz.ntmps57
      go_wp2_with fail
      go_ret
      exact ⟨rfl, 0, rfl⟩
    · rw [decide_eq_false (by omega)]
      go_enter Tryz.func57, Tryz.ntmps57
      go_wp2_with fail
      go_ret
      exact ⟨rfl, 0, rfl⟩
set_option maxRecDepth 100000 in
set_option maxHeartbeats 2000000 in
theorem Check_any (w : World) (l : List Int) (v : Value) (hl : ISl w v l) :
    Calls Tryz.prog 28 #[v] w fun r w' => r = .returned (.int .i64 (pchk l)) ∧ Ex w w' := by
  have HL := hid_ hl
  obtain ⟨a, cap, rfl, s1, s2, s3⟩ := hl.open
  unfold maxLen at s2
  have e0 : Ex w (w.alloc (.cells #[.slice a l.length cap] 32)) := (Ex.refl _).alloc _
  have c0 : (w.alloc (.cells #[.slice a l.length cap] 32)).cell? ⟨w.heap.size, 0, none⟩ = some (.slice a l.length cap) := by simp
  have S3 := hid_ (hl.ex e0).open
  clear s3 hl
  go_enter Tryz.func28, Tryz.ntmps28
  go_wp2_with fail
  generalize w.alloc (.cells #[.slice a l.length cap] 32) = w1 at *
  refine (degree_any w1 l.length).mono ?_
  rintro e w2 ⟨rfl, rfl⟩
  by_cases hd : (l.length : Int) < 1 ∨ 64 < (l.length : Int)
  · have hz : degS l.length = 4 := if_pos hd
    have HP := hid_ (show pchk l = 4 from if_pos hd)
    rw [hz]
    clear hd hz
    go_wp2_with fail
    go_ret
    exact ⟨ret_int HP.out.symm, e0⟩
  · have hz : degS l.length = 0 := if_neg hd
    rw [hz]
    have HLN := hid_ (show 1 ≤ l.length ∧ l.length ≤ 64 from by omega)
    have HCF := hid_ (ContainsFunc_rng w1 (.pointer (some ⟨w.heap.size, 0, none⟩)) (.slice a l.length cap) l.length (ints l) (HL.out.ex e0) (fun i => decide (l.getD i 0 < 0 ∨ (l.length : Int) ≤ l.getD i 0)) fun q i u hu => by
      obtain ⟨x, hx, rfl⟩ : ∃ x, l[i]? = some x ∧ u = .int .i64 x := by
        simp only [ints, List.getElem?_map] at hu
        obtain ⟨x, h1, h2⟩ := Option.map_eq_some_iff.1 hu
        exact ⟨x, h1, h2.symm⟩
      have hd : l.getD i 0 = x := by rw [List.getD_eq_getElem?_getD, hx]; rfl
      rw [hd]
      exact Check1_any _ w.heap.size x a l.length cap (((Ex.refl w1).drewN q).cell c0))
    have HAN := hid_ (show ((List.range l.length).any fun i => decide (l.getD i 0 < 0 ∨ (l.length : Int) ≤ l.getD i 0)) = decide (∃ x ∈ l, x < 0 ∨ (l.length : Int) ≤ x) from by
      rw [Bool.eq_iff_iff]
      simp only [List.any_eq_true, List.mem_range, decide_eq_true_eq]
      constructor
      · rintro ⟨i, hi, h⟩
        rw [List.getD_eq_getElem?_getD, List.getElem?_eq_getElem hi] at h
        exact ⟨_, List.getElem_mem hi, h⟩
      · rintro ⟨x, hx, h⟩
        obtain ⟨i, hi, rfl⟩ := List.getElem_of_mem hx
        exact ⟨i, hi, by rw [List.getD_eq_getElem?_getD, List.getElem?_eq_getElem hi]; exact h⟩)
    rw [HAN.out] at HCF
    clear HAN hd hz
    by_cases ho : ∃ x ∈ l, x < 0 ∨ (l.length : Int) ≤ x
    · have HP := hid_ (show pchk l = 6 from by unfold pchk; rw [if_neg (by have := HLN.out; omega), if_pos ho])
      rw [decide_eq_true ho] at HCF
      clear ho
      go_wp2_with (go_at_call 56; refine HCF.out.mono ?_; rintro e w' ⟨rfl, q, rfl⟩)
      go_ret
      exact ⟨ret_int HP.out.symm, e0.drewN _⟩
    · rw [decide_eq_false ho] at HCF
      have HRG := hid_ (show ∀ (i : Nat) (x : Int), l[i]? = some x → 0 ≤ x ∧ x < l.length from fun i x h => by
        apply Classical.byContradiction
        intro hn
        exact ho ⟨x, List.mem_of_getElem? h, by omega⟩)
      have HPC := hid_ (show pchk l = if l.Nodup then 0 else 18 from by unfold pchk; rw [if_neg (by have := HLN.out; omega), if_neg ho])
      have HE := hid_ e0
      have hl64 := HLN.out.2
      clear ho e0
      go_wp2_with (first | (go_at_call 56; refine HCF.out.mono ?_; rintro e w' ⟨rfl, q, rfl⟩; have c0 := ((Ex.refl w1).drewN q).cell c0) | (at_make; refine wpList_make_arr _ rfl _ _ 81 rfl 4 (.bool false) 1 Tryz.underlying81 infoBool rfl _ l.length rfl rfl rfl (by omega) (by unfold maxLen; omega) ?_))
      intro w3 hown hx3
      have HX0 := hid_ (((Ex.refl w1).drewN q).trans hx3)
      have c0 := hx3.cell c0
      obtain ⟨g, hgg⟩ : ∃ g, w1.heap.size = g := ⟨_, rfl⟩
      rw [hgg] at hown ⊢
      have HSZ := hid_ (show w1.heap.size ≤ g from by rw [← hgg]; exact Nat.le_refl _)
      have HO0 := hid_ (show Own w3 g 4 g l.length (bv fun x => decide ((x : Int) ∈ l.take 0)) from hown.bcongr fun j _ => by simp)
      have HN0 := hid_ (show (l.take 0).Nodup from by simp)
      clear hown hx3 hgg HCF
      go_wp2_with fail
      go_loopw [21] (fun k' wr => ∃ (k : Nat), k ≤ l.length ∧ k' = .int .i64 k ∧ Hid (Own wr g 4 g l.length (bv fun x => decide ((x : Int) ∈ l.take k))) ∧ Hid ((l.take k).Nodup) ∧ Hid (Ex w1 wr)) (fun k' _ => l.length - (intOf k').toNat)
      case atStart => exact ⟨0, by omega, rfl, HO0, HN0, HX0⟩
      case round =>
        clear HO0 HN0 HX0 c0
        obtain ⟨k, hk, rfl, hown, hnd, hx⟩ := hrel
        by_cases hkn : k < l.length
        · obtain ⟨b, o, rfl, hc⟩ : ∃ b o, a = some ⟨b, o, none⟩ ∧ ∀ (j : Nat) (x : Int), l[j]? = some x → w1.cell? ⟨b, o + j, none⟩ = some (.int .i64 x) := by
            obtain ⟨a', cap', e, _, _, h⟩ := S3.out
            injection e with e1 e2 e3
            subst e1
            exact h (by omega)
          obtain ⟨x, hxk⟩ : ∃ x, l[k]? = some x := ⟨_, List.getElem?_eq_getElem hkn⟩
          obtain ⟨y1, y2⟩ := HRG.out k x hxk
          obtain ⟨X, rfl⟩ : ∃ X : Nat, x = X := ⟨x.toNat, by omega⟩
          have hXn : X < l.length := by omega
          have c1 := hx.out.cell (hc k X hxk)
          have c3 := hown.out.cell hXn
          have c4 := hown.out.frz X
          have i1 : (0 : Int) ≤ (k : Int) := by omega
          have i2 : (k : Int) < (l.length : Int) := by omega
          have htk : l.take (k + 1) = l.take k ++ [(X : Int)] := by rw [List.take_add_one, hxk]; rfl
          by_cases hin : (X : Int) ∈ l.take k
          · have c5 : wr.cell? ⟨g, X, none⟩ = some (.bool true) := by rw [c3]; show some (Value.bool (decide ((X : Int) ∈ l.take k))) = _; rw [decide_eq_true hin]
            have HNN := hid_ (show pchk l = 18 from by
              rw [HPC.out, if_neg]
              intro h
              have h2 : (l.take (k + 1)).Nodup := h.sublist (List.take_sublist _ _)
              rw [htk, List.nodup_append] at h2
              exact h2.2.2 _ hin _ (List.mem_singleton.2 rfl) rfl)
            have HEX := hid_ (HE.out.trans hx.out)
            clear hc c3 hown hnd hx htk hin
            go_wp2_with fail
            go_ret
            exact ⟨ret_int HNN.out.symm, HEX.out⟩
          · have c5 : wr.cell? ⟨g, X, none⟩ = some (.bool false) := by rw [c3]; show some (Value.bool (decide ((X : Int) ∈ l.take k))) = _; rw [decide_eq_false hin]
            have HO := hid_ (show Own (wr.setCell ⟨g, X, none⟩ (.bool true)) g 4 g l.length (bv fun x => decide ((x : Int) ∈ l.take (k + 1))) from by
              refine (hown.out.set X _).congr fun i hi => ?_
              by_cases e : i = X
              · subst e; rw [upd_same]; show _ = Value.bool (decide ((i : Int) ∈ l.take (k + 1))); rw [htk, decide_eq_true (by simp)]
              · rw [upd_ne _ _ e]; show Value.bool (decide ((i : Int) ∈ l.take k)) = Value.bool (decide ((i : Int) ∈ l.take (k + 1)))
                rw [htk]
                congr 1
                have : ¬ (i : Int) = X := by omega
                simp [this])
            have HND := hid_ (show (l.take (k + 1)).Nodup from by
              rw [htk, List.nodup_append]
              exact ⟨hnd.out, by simp, fun y hy z hz e => by rw [List.mem_singleton.1 hz] at e; subst e; exact hin hy⟩)
            have HX := hid_ (hown.out.exSet (a := w1) HSZ.out hx.out X (.bool true))
            clear hc c3 hown hnd hx htk hin
            go_wp2_with fail
            go_roundw
            case rel => exact ⟨k + 1, by omega, by go_num, HO, HND, HX⟩
            case measure => simp [intOf]; omega
        · obtain rfl : k = l.length := by omega
          have HP := hid_ (show pchk l = 0 from by
            rw [HPC.out, if_pos]
            have := hnd.out
            rwa [List.take_length] at this)
          have HEX := hid_ (HE.out.trans hx.out)
          clear hown hnd hx
          go_wp2_with fail
          go_ret
          exact ⟨ret_int HP.out.symm, HEX.out⟩
end Go.Proofs.YtgfdhclpffakfaaGreat
