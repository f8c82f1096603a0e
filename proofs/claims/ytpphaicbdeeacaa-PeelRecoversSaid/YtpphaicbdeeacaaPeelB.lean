/- Walk of peel.alone: a variable of the set that is the only one of it in some check. -/
import Derived.Test.YtpphaicbdeeacaaPeelA
import Derived.Test.YtpphaicbdeeacaaMatC
import Derived.Deep.LoopGhost
namespace Go.Proofs.Ytpphaicbdeeacaa
set_option linter.unusedVariables false
set_option linter.unusedSimpArgs false
open Go.RowKit

/-- The members of a set in a check. -/
def inn (f : Nat → Bool) (r : List Int) : List Int := r.filter fun x => f x.toNat
def alone1 (f : Nat → Bool) (r : List Int) : Option Int := match inn f r with | [x] => some x | _ => none
def aloneS (f : Nat → Bool) (rows : List (List Int)) : Option Int := rows.findSome? (alone1 f)
def aloneI (f : Nat → Bool) (rows : List (List Int)) : Int := (aloneS f rows).getD (-1)

theorem inn_snoc (f : Nat → Bool) {r : List Int} {k : Nat} {x : Int} (h : r[k]? = some x) : inn f (r.take (k + 1)) = inn f (r.take k) ++ (if f x.toNat = true then [x] else []) := by
  unfold inn
  rw [List.take_add_one, h]
  by_cases hf : f x.toNat = true <;> simp [List.filter_append, List.filter_cons, hf]
theorem inn_prefix (f : Nat → Bool) (r : List Int) (k : Nat) : ∃ t, inn f r = inn f (r.take k) ++ t := by
  refine ⟨inn f (r.drop k), ?_⟩
  unfold inn
  rw [← List.filter_append, List.take_append_drop]

/-- What the inner loop knows: the value of 'only' after k entries. -/
def OnlyK (f : Nat → Bool) (r : List Int) (k : Nat) (o : Int) : Prop := (o = -1 ∧ inn f (r.take k) = []) ∨ (0 ≤ o ∧ inn f (r.take k) = [o])
theorem OnlyK.zero (f : Nat → Bool) (r : List Int) : OnlyK f r 0 (-1) := .inl ⟨rfl, by simp [inn]⟩
theorem OnlyK.rng {f : Nat → Bool} {r : List Int} {k : Nat} {o : Int} (h : OnlyK f r k o) : -1 ≤ o := by rcases h with ⟨h, _⟩ | ⟨h, _⟩ <;> omega
theorem OnlyK.skip {f : Nat → Bool} {r : List Int} {k : Nat} {o x : Int} (h : OnlyK f r k o) (hx : r[k]? = some x) (hf : f x.toNat = false) : OnlyK f r (k + 1) o := by
  have e : inn f (r.take (k + 1)) = inn f (r.take k) := by rw [inn_snoc f hx, hf]; simp
  unfold OnlyK
  rw [e]; exact h
theorem OnlyK.hit {f : Nat → Bool} {r : List Int} {k : Nat} {o x : Int} (h : OnlyK f r k o) (ho : o < 0) (hx : r[k]? = some x) (hf : f x.toNat = true) (h0 : 0 ≤ x) : OnlyK f r (k + 1) x := by
  rcases h with ⟨_, h⟩ | ⟨h, _⟩
  · exact .inr ⟨h0, by rw [inn_snoc f hx, hf, h]; simp⟩
  · omega
theorem OnlyK.two {f : Nat → Bool} {r : List Int} {k : Nat} {o x : Int} (h : OnlyK f r k o) (ho : 0 ≤ o) (hx : r[k]? = some x) (hf : f x.toNat = true) : alone1 f r = none := by
  rcases h with ⟨h, _⟩ | ⟨_, h⟩
  · omega
  · obtain ⟨t, ht⟩ := inn_prefix f r (k + 1)
    rw [inn_snoc f hx, hf, h] at ht
    unfold alone1
    rw [ht]; simp
theorem OnlyK.none {f : Nat → Bool} {r : List Int} {o : Int} (h : OnlyK f r r.length o) (ho : o < 0) : alone1 f r = none := by
  rcases h with ⟨_, h⟩ | ⟨h, _⟩
  · rw [List.take_length] at h
    unfold alone1
    rw [h]
  · omega
theorem OnlyK.some {f : Nat → Bool} {r : List Int} {o : Int} (h : OnlyK f r r.length o) (ho : 0 ≤ o) : alone1 f r = some o := by
  rcases h with ⟨h, _⟩ | ⟨_, h⟩
  · omega
  · rw [List.take_length] at h
    unfold alone1
    rw [h]
theorem aloneS_hit {f : Nat → Bool} {rows : List (List Int)} {i : Nat} {r : List Int} {o : Int} (hr : rows[i]? = some r) (h : alone1 f r = some o) (ha : ∀ (j : Nat) (s : List Int), j < i → rows[j]? = some s → alone1 f s = none) : aloneI f rows = o := by
  have : aloneS f rows = some o := by
    unfold aloneS
    have hi := (List.getElem?_eq_some_iff.1 hr).1
    have e : rows = rows.take i ++ r :: rows.drop (i + 1) := by
      have := List.getElem?_eq_some_iff.1 hr
      obtain ⟨hi, he⟩ := this
      rw [← he, ← List.drop_eq_getElem_cons hi, List.take_append_drop]
    rw [e, List.findSome?_append]
    have hn : (rows.take i).findSome? (alone1 f) = none := by
      rw [List.findSome?_eq_none_iff]
      intro s hs
      obtain ⟨j, hj, he⟩ := List.getElem_of_mem hs
      have hj' : j < i := by rw [List.length_take] at hj; omega
      exact ha j s hj' (by rw [← he, List.getElem_take]; exact List.getElem?_eq_getElem (by omega))
    rw [hn, List.findSome?_cons, h]; rfl
  unfold aloneI
  rw [this]; rfl
theorem aloneS_miss {f : Nat → Bool} {rows : List (List Int)} (ha : ∀ (j : Nat) (s : List Int), j < rows.length → rows[j]? = some s → alone1 f s = none) : aloneI f rows = -1 := by
  have : aloneS f rows = none := by
    unfold aloneS
    rw [List.findSome?_eq_none_iff]
    intro s hs
    obtain ⟨j, hj, he⟩ := List.getElem_of_mem hs
    exact ha j s hj (by rw [← he]; exact List.getElem?_eq_getElem hj)
  unfold aloneI
  rw [this]; rfl

/-- All entries of the checks are variables. -/
def RowsIn (N : Nat) (rows : List (List Int)) : Prop := ∀ (i : Nat) (r : List Int) (k : Nat) (x : Int), rows[i]? = some r → r[k]? = some x → 0 ≤ x ∧ x < N

theorem boxT_facts (w : World) (c : Int) (v : Value) : (w.alloc (.cells #[.int .i64 c, v] 31)).cell? ⟨w.heap.size, 0, none⟩ = some (.int .i64 c) ∧
    (w.alloc (.cells #[.int .i64 c, v] 31)).cell? ⟨w.heap.size, 1, none⟩ = some v ∧ Ex w (w.alloc (.cells #[.int .i64 c, v] 31)) :=
  ⟨by simp, by simp, (Ex.refl _).alloc _⟩

theorem Sl.bget {w : World} {v : Value} {N : Nat} {f : Nat → Bool} (h : Sl w v N 1 (vs N (bv f))) : ∃ a cap, v = .slice a N cap ∧ N ≤ cap ∧ cap ≤ maxLen ∧
    (0 < N → ∃ b o, a = some ⟨b, o, none⟩ ∧ ∀ j, j < N → w.cell? ⟨b, o + j, none⟩ = some (.bool (f j))) := by
  obtain ⟨h1, a, cap, h2, h3, h4, h5⟩ := h
  refine ⟨a, cap, h2, h3, h4, fun hn => ?_⟩
  obtain ⟨b, o, h6, h7⟩ := h5 hn
  exact ⟨b, o, h6, fun j hj => h7 j _ (vs_get hj _)⟩

set_option maxRecDepth 100000 in
set_option maxHeartbeats 2000000 in
theorem alone_any (w : World) (V : Int) (N : Nat) (f : Nat → Bool) (rows : List (List Int)) (v iv_ : Value) (hv : MSl w v rows) (hf : Sl w iv_ N 1 (vs N (bv f))) (hr : RowsIn N rows) :
    Calls Try.prog 49 #[.agg #[.int .i64 V, v], iv_] w fun r w' => r = .returned (.int .i64 (aloneI f rows)) ∧ Ex w w' := by
  obtain ⟨d0, d1, e0⟩ := boxT_facts w V v
  obtain ⟨a, cap, rfl, s1, s2, s3⟩ := (hv.ex e0).open
  obtain ⟨ia, ic, rfl, i1, i2, i3⟩ := (hf.ex e0).bget
  have S3 := hid_ s3
  have I3 := hid_ i3
  have HR := hid_ hr
  unfold maxLen at s2 i2
  clear hv hf s3 i3 hr
  go_enter Try.func49, Try.ntmps49
  go_wp2_with fail
  go_step3
  go_wp2_with fail
  go_step3
  go_wp2_with fail
  generalize w.alloc (.cells #[.int .i64 V, .slice a rows.length cap] 31) = w1 at *
  go_loopg [13] (rows.length) (fun g i' wr => ∃ i : Nat, i ≤ rows.length ∧ rows.length - i ≤ g ∧ i' = .int .i64 i ∧ wr = w1 ∧ Hid (∀ (j : Nat) (s : List Int), j < i → rows[j]? = some s → alone1 f s = none))
  case atStart => exact ⟨0, by omega, by omega, rfl, rfl, hid_ (fun j s h => by omega)⟩
  case round =>
    obtain ⟨i, hi, hg, rfl, rfl, hall⟩ := hrel
    by_cases hlt : i < rows.length
    · obtain ⟨r, hr⟩ : ∃ r, rows[i]? = some r := ⟨_, List.getElem?_eq_getElem hlt⟩
      obtain ⟨bb, o, rfl, hc⟩ := S3.out (by omega)
      obtain ⟨u, c1, hu⟩ := hc i r hr
      obtain ⟨ua, uc, rfl, u1, u2, u3⟩ := hu.open
      have U3 := hid_ u3
      have HRR := hid_ (fun k x h => HR.out i r k x hr h)
      have HHIT := hid_ (fun o h => aloneS_hit (o := o) hr h hall.out)
      have HNX := hid_ (show alone1 f r = none → ∀ (j : Nat) (s : List Int), j < i + 1 → rows[j]? = some s → alone1 f s = none from fun h j s hj hs => by
        by_cases e : j = i
        · subst e; rw [hr] at hs; injection hs with hs; subst hs; exact h
        · exact hall.out j s (by omega) hs)
      have hlt' : (i : Int) < (rows.length : Int) := by omega
      unfold maxLen at u2
      clear hc hr hu u3 hall
      go_wp2_with fail
      go_loopg [7, 19] (r.length) (fun g o' k' wr2 => ∃ (k : Nat) (o : Int), k ≤ r.length ∧ r.length - k ≤ g ∧ k' = .int .i64 k ∧ o' = .int .i64 o ∧ wr2 = wr ∧ Hid (OnlyK f r k o))
      case atStart => exact ⟨0, -1, by omega, by omega, rfl, rfl, rfl, hid_ (OnlyK.zero f r)⟩
      case round =>
        obtain ⟨k, on, hk, hgk, rfl, rfl, rfl, hon⟩ := hrel
        have honr := hon.out.rng
        by_cases hkl : k < r.length
        · obtain ⟨x, hx⟩ : ∃ x, r[k]? = some x := ⟨_, List.getElem?_eq_getElem hkl⟩
          obtain ⟨x1, x2⟩ := HRR.out k x hx
          obtain ⟨rb, ro, rfl, hrc⟩ := U3.out (by omega)
          have c2 := hrc k x hx
          obtain ⟨X, rfl⟩ : ∃ X : Nat, x = X := ⟨x.toNat, by omega⟩
          have hXN : X < N := by omega
          obtain ⟨ib, io, rfl, hic⟩ := I3.out (by omega)
          have c3 := hic X hXN
          have hkl' : (k : Int) < (r.length : Int) := by omega
          have HS := hid_ (hon.out.skip hx)
          have HH := hid_ (fun ho => hon.out.hit ho hx)
          have HT := hid_ (fun ho => hon.out.two ho hx)
          simp only [Int.toNat_natCast] at HS HH HT
          clear hrc hic hx x1 x2
          cases hb : f X with
          | false =>
            rw [hb] at c3
            have HS2 := hid_ (HS.out hb)
            clear hb
            go_wp2_with fail
            go_roundg (r.length - (k + 1))
            case rel => exact ⟨k + 1, on, by omega, by omega, by go_num, rfl, rfl, HS2⟩
            case measure => omega
          | true =>
            rw [hb] at c3
            by_cases h0 : 0 ≤ on
            · have HT2 := hid_ (HNX.out (HT.out h0 hb))
              clear hb
              go_wp2_with fail
              go_roundg (rows.length - (i + 1))
              case rel => exact ⟨i + 1, by omega, by omega, by go_num, rfl, HT2⟩
              case measure => omega
            · have h0' : on < 0 := by omega
              have HH2 := hid_ (HH.out h0' hb (by omega))
              clear hb h0
              go_wp2_with fail
              go_roundg (r.length - (k + 1))
              case rel => exact ⟨k + 1, X, by omega, by omega, by go_num, rfl, rfl, HH2⟩
              case measure => omega
        · obtain rfl : k = r.length := by omega
          by_cases h0 : 0 ≤ on
          · have HH2 := hid_ (HHIT.out on (hon.out.some h0))
            go_wp2_with fail
            try rw [Exit.noGoto_ret]
            go_ret
            exact ⟨ret_int HH2.out.symm, e0⟩
          · have h0' : on < 0 := by omega
            have HT2 := hid_ (HNX.out (hon.out.none h0'))
            clear h0
            go_wp2_with fail
            go_roundg (rows.length - (i + 1))
            case rel => exact ⟨i + 1, by omega, by omega, by go_num, rfl, HT2⟩
            case measure => omega
    · obtain rfl : i = rows.length := by omega
      have HF := hid_ (aloneS_miss hall.out)
      go_wp2_with fail
      try rw [Exit.noGoto_ret]
      go_ret
      exact ⟨ret_int HF.out.symm, e0⟩
end Go.Proofs.Ytpphaicbdeeacaa
