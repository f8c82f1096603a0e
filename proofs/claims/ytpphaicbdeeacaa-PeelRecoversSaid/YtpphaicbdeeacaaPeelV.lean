/- Walks of the references Rising, Check of a graph, Few of a graph, split and member; stopping sets (plain); walk of the law PeelSmallest. -/
import Derived.Test.YtpphaicbdeeacaaPeelU
namespace Go.Proofs.Ytpphaicbdeeacaa
set_option linter.unusedVariables false
set_option linter.unusedSimpArgs false
open Go.RowKit

set_option maxRecDepth 100000 in
set_option maxHeartbeats 2000000 in
theorem Rising_any (w : World) (l : List Int) (v : Value) (n : Int) (hl : ISl w v l) :
    Calls Try.prog 37 #[v, .int .i64 n] w fun r w' => r = .returned (.bool (risB n l)) ∧ ∃ k, w' = w.drewN k := by
  obtain ⟨a, cap, rfl, s1, s2, s3⟩ := hl.open
  have S3 := hid_ s3
  unfold maxLen at s2
  clear hl s3
  go_enter Try.func37, Try.ntmps37
  go_wp2_with fail
  go_loopw [5] (fun i' wr => ∃ i k : Nat, i ≤ l.length ∧ i' = .int .i64 i ∧ wr = w.drewN k ∧ Hid (∀ (j : Nat), j < i → risAt n l j = true)) (fun i' _ => l.length - (intOf i').toNat)
  case atStart => exact ⟨0, 0, by omega, rfl, rfl, hid_ (fun j h => by omega)⟩
  case round =>
    obtain ⟨i, k, hi, rfl, rfl, hall⟩ := hrel
    by_cases hlt : i < l.length
    · obtain ⟨x, hxx⟩ : ∃ x, l[i]? = some x := ⟨_, List.getElem?_eq_getElem hlt⟩
      obtain ⟨bb, o, rfl, hc⟩ := S3.out (by omega)
      have c1 := ((Ex.refl w).drewN k).cell (hc i x hxx)
      have hgx : l.getD i 0 = x := by rw [List.getD_eq_getElem?_getD, hxx]; rfl
      have HA := hid_ (show risAt n l i = true → ∀ j, j < i + 1 → risAt n l j = true from fun h j hj => by
        by_cases e : j = i
        · subst e; exact h
        · exact hall.out j (by omega))
      have HF := hid_ (fun h => risB_f (n := n) hlt h)
      obtain ⟨y, hyy⟩ : ∃ y, l[i - 1]? = some y := ⟨_, List.getElem?_eq_getElem (by omega)⟩
      have c2 := ((Ex.refl w).drewN k).cell (hc (i - 1) y hyy)
      have hgy : l.getD (i - 1) 0 = y := by rw [List.getD_eq_getElem?_getD, hyy]; rfl
      have HR := hid_ (show risAt n l i = decide (0 ≤ x ∧ x < n ∧ (0 < i → y < x)) by unfold risAt; rw [hgx, hgy])
      have p1 : (0 : Int) ≤ (i : Int) := by omega
      have p2 : (i : Int) < (l.length : Int) := by omega
      obtain ⟨W, hW⟩ : ∃ W, w.drewN k = W := ⟨_, rfl⟩
      rw [hW] at c1 c2 ⊢
      have HWE := hid_ hW
      clear hc hxx hgx hyy hgy hW
      by_cases h1 : x < 0
      · have HRR := hid_ (HF.out (by rw [HR.out]; simp; omega))
        have d1 : decide (x < 0) = true := by simpa using h1
        go_wp2_with fail
        go_quiet (fail)
        go_wp2_with fail
        go_ret
        exact ⟨ret_bool HRR.out.symm, _, by rw [← HWE.out, World.drewN_drewN]⟩
      · have d1 : decide (x < 0) = false := by simp; omega
        by_cases h2 : n ≤ x
        · have HRR := hid_ (HF.out (by rw [HR.out]; simp; omega))
          have d2 : decide (n ≤ x) = true := by simpa using h2
          clear h1
          go_wp2_with fail
          go_quiet (fail)
          go_wp2_with fail
          go_ret
          exact ⟨ret_bool HRR.out.symm, _, by rw [← HWE.out, World.drewN_drewN]⟩
        · have d2 : decide (n ≤ x) = false := by simp; omega
          by_cases h3 : 0 < i
          · have d3 : decide ((0 : Int) < (i : Int)) = true := by simp; omega
            have p3 : IntKind.i64.wrap ((i : Int) - 1) = (i : Int) - 1 := IntWalk.i64_in _ (by omega)
            have p4 : (0 : Int) ≤ (i : Int) - 1 := by omega
            have p5 : (i : Int) - 1 < (l.length : Int) := by omega
            have p6 : ((i : Int) - 1).toNat = i - 1 := by omega
            have p7 : (1 : Int) ≤ (i : Int) := by omega
            by_cases h4 : x ≤ y
            · have HRR := hid_ (HF.out (by rw [HR.out]; simp; omega))
              have d4 : decide (x ≤ y) = true := by simpa using h4
              clear h1 h2
              go_wp2_with fail
              go_quiet (fail)
              go_wp2_with fail
              go_ret
              exact ⟨ret_bool HRR.out.symm, _, by rw [← HWE.out, World.drewN_drewN]⟩
            · have HRR := hid_ (HA.out (by rw [HR.out]; simp; omega))
              have d4 : decide (x ≤ y) = false := by simp; omega
              clear h1 h2 h4
              go_wp2_with fail
              go_quiet (fail)
              go_wp2_with fail
              go_roundw
              case rel => exact ⟨i + 1, _, by omega, by go_num, by rw [← HWE.out, World.drewN_drewN], HRR⟩
              case measure => simp [intOf]; omega
          · have HRR := hid_ (HA.out (by rw [HR.out]; simp; omega))
            have d3 : decide ((0 : Int) < (i : Int)) = false := by simp; omega
            clear h1 h2
            go_wp2_with fail
            go_quiet (fail)
            go_wp2_with fail
            go_roundw
            case rel => exact ⟨i + 1, _, by omega, by go_num, by rw [← HWE.out, World.drewN_drewN], HRR⟩
            case measure => simp [intOf]; omega
    · obtain rfl : i = l.length := by omega
      have HR := hid_ (risB_t hall.out)
      go_wp2_with fail
      go_ret
      exact ⟨ret_bool HR.out.symm, k, rfl⟩

set_option maxRecDepth 100000 in
set_option maxHeartbeats 2000000 in
theorem rChkT_any (w : World) (V : Int) (rows : List (List Int)) (v : Value) (hv : MSl w v rows) :
    Calls Try.prog 23 #[.agg #[.int .i64 V, v]] w fun r w' => r = .returned (.int .i64 (pchkS V rows)) ∧ Ex w w' := by
  obtain ⟨d0, d1, e0⟩ := boxT_facts w V v
  have HE := hid_ (show pchkS V rows = if V < 1 ∨ 64 < V then 4 else if 256 < (rows.length : Int) then 8 else if (rows.all fun r => risB V r) = true then 0 else 6 from rfl)
  have HV := hid_ (hv.ex e0)
  obtain ⟨a, cap, rfl, s1, s2, s3⟩ := (hv.ex e0).open
  have S3 := hid_ s3
  unfold maxLen at s2
  clear hv s3
  by_cases h : V < 1 ∨ 64 < V
  · have HR := hid_ (show pchkS V rows = 4 by rw [HE.out, if_pos h])
    have hc : V < 1 ∨ (1 ≤ V ∧ 64 < V) := by omega
    clear h HE
    rcases hc with hc | ⟨h1, h2⟩
    all_goals
      go_enter Try.func23, Try.ntmps23
      go_wp2_with fail
      go_ret
      exact ⟨ret_int HR.out.symm, e0⟩
  · have h1 : 1 ≤ V := by omega
    have h2 : V ≤ 64 := by omega
    rw [if_neg h] at HE
    clear h
    by_cases h3 : 256 < (rows.length : Int)
    · have HR := hid_ (show pchkS V rows = 8 by rw [HE.out, if_pos h3])
      go_enter Try.func23, Try.ntmps23
      go_wp2_with fail
      go_ret
      exact ⟨ret_int HR.out.symm, e0⟩
    · have h3' : (rows.length : Int) ≤ 256 := by omega
      rw [if_neg h3] at HE
      have b1 : decide (V < 1) = false := by simp; omega
      have b2 : decide (64 < V) = false := by simp; omega
      clear h3
      go_enter Try.func23, Try.ntmps23
      go_wp2_with fail
      obtain ⟨xb, hxb⟩ : ∃ xb, w.heap.size = xb := ⟨_, rfl⟩
      rw [hxb] at d0 d1
      try simp only [hxb]
      generalize w.alloc (.cells #[.int .i64 V, .slice a rows.length cap] 31) = w1 at *
      clear hxb
      have EX1 : Ex w1 w1 := Ex.refl _
      go_loopw [3] (fun i' wr => ∃ i : Nat, i ≤ rows.length ∧ i' = .int .i64 i ∧ Hid (∀ (j : Nat) (r : List Int), j < i → rows[j]? = some r → risB V r = true) ∧ Ex w1 wr) (fun i' _ => rows.length - (intOf i').toNat)
      case atStart => exact ⟨0, by omega, rfl, hid_ (fun j r h => by omega), EX1⟩
      case round =>
        clear EX1
        obtain ⟨i, hi, rfl, hall, hx⟩ := hrel
        have r0 := hx.cell d0
        have r1 := hx.cell d1
        by_cases hlt : i < rows.length
        · obtain ⟨r, hr⟩ : ∃ r, rows[i]? = some r := ⟨_, List.getElem?_eq_getElem hlt⟩
          obtain ⟨bb, o, rfl, hc⟩ := S3.out (by omega)
          obtain ⟨u, c1, hu⟩ := hc i r hr
          have c2 := hx.cell c1
          have HRI := hid_ (fun n' => Rising_any (wr.drewN n') r u V ((hu.ex hx).ex ((Ex.refl wr).drewN n')))
          obtain ⟨ua, uc, rfl, _, _, _⟩ := hu.open
          have p1 : (0 : Int) ≤ (i : Int) := by omega
          have p2 : (i : Int) < (rows.length : Int) := by omega
          cases hb : risB V r with
          | true =>
            have HA := hid_ (show ∀ (j : Nat) (s : List Int), j < i + 1 → rows[j]? = some s → risB V s = true from fun j s hj hs => by
              by_cases e : j = i
              · subst e; rw [hr] at hs; injection hs with hs; subst hs; exact hb
              · exact hall.out j s (by omega) hs)
            rw [hb] at HRI
            clear hb hc c1 hu hr
            go_wp2_with fail
            go_quiet ((go_at_call 37; exact quiet_draw (HRI.out _)))
            go_wp2_with fail
            go_roundw
            case rel => exact ⟨i + 1, by omega, by go_num, HA, hx.drewN _⟩
            case measure => simp [intOf]; omega
          | false =>
            have HF := hid_ (show pchkS V rows = 6 by
              rw [HE.out, if_neg]
              intro h
              have := List.all_eq_true.1 h r (List.mem_of_getElem? hr)
              rw [hb] at this; cases this)
            rw [hb] at HRI
            clear hb hc c1 hu hr
            go_wp2_with fail
            go_quiet ((go_at_call 37; exact quiet_draw (HRI.out _)))
            go_wp2_with fail
            go_ret
            exact ⟨ret_int HF.out.symm, (e0.trans hx).drewN _⟩
        · obtain rfl : i = rows.length := by omega
          have HF := hid_ (show pchkS V rows = 0 by
            rw [HE.out, if_pos]
            rw [List.all_eq_true]
            intro r hr
            obtain ⟨j, hj, e⟩ := List.getElem_of_mem hr
            exact hall.out j r hj (by rw [List.getElem?_eq_getElem hj, e]))
          go_wp2_with fail
          go_ret
          exact ⟨ret_int HF.out.symm, e0.trans hx⟩

set_option maxRecDepth 100000 in
set_option maxHeartbeats 2000000 in
theorem FewT_any (w : World) (V : Int) (rows : List (List Int)) (v : Value) (hv : MSl w v rows) :
    Calls Try.prog 17 #[.agg #[.int .i64 V, v]] w (SomeB w) := by
  obtain ⟨d0, d1, e0⟩ := boxT_facts w V v
  have HFW := hid_ (Few_any _ 0 rows v (hv.ex e0) 300 (by omega) (by omega))
  obtain ⟨a, cap, rfl, _, _, _⟩ := (hv.ex e0).open
  clear hv
  go_enter Try.func17, Try.ntmps17
  go_wp2_with fail
  refine HFW.out.mono ?_
  rintro e w2 ⟨b, rfl, hx2⟩
  have r0 := hx2.cell d0
  have EX := hid_ (e0.trans hx2)
  clear hx2 HFW
  cases b with
  | false =>
    go_wp2_with fail
    go_ret
    exact ⟨_, rfl, EX.out⟩
  | true =>
    by_cases h1 : V ≤ 10
    · go_wp2_with fail
      go_ret
      exact ⟨_, rfl, EX.out⟩
    · have d1 : decide (V ≤ 10) = false := by simpa using h1
      have h1' : 10 < V := by omega
      clear h1
      go_wp2_with fail
      go_ret
      exact ⟨_, rfl, EX.out⟩

set_option maxRecDepth 100000 in
set_option maxHeartbeats 1000000 in
theorem member_any (w : World) (l : List Int) (v : Value) (x : Int) (hl : ISl w v l) :
    Calls Try.prog 36 #[v, .int .i64 x] w fun r w' => r = .returned (.bool (l.contains x)) ∧ w = w' := by
  obtain ⟨a, cap, rfl, s1, s2, s3⟩ := hl.open
  have S3 := hid_ s3
  unfold maxLen at s2
  obtain ⟨z, hz⟩ : ∃ z, l.contains x = z := ⟨_, rfl⟩
  have HZ := hid_ hz
  rw [hz]
  clear hl s3 hz
  go_enter Try.func36, Try.ntmps36
  go_wp2_with fail
  go_loop [9] (fun i' => ∃ i : Nat, i ≤ l.length ∧ i' = .int .i64 i ∧ Hid (∀ (j : Nat) (y : Int), j < i → l[j]? = some y → ¬ y = x)) (fun i' => l.length - (intOf i').toNat)
  case atStart => exact ⟨0, by omega, rfl, hid_ (fun j y hj => by omega)⟩
  case round =>
    obtain ⟨i, hi, rfl, hall⟩ := hrel
    by_cases hlt : i < l.length
    · obtain ⟨y, hy⟩ : ∃ y, l[i]? = some y := ⟨_, List.getElem?_eq_getElem hlt⟩
      obtain ⟨bb, o, rfl, hc⟩ := S3.out (by omega)
      have c1 := hc i y hy
      by_cases e : y = x
      · have HT := hid_ (show z = true by rw [← HZ.out, List.contains_iff_mem]; rw [← e]; exact List.mem_of_getElem? hy)
        have hb : (y == x) = true := by simpa using e
        clear hc hy e
        go_wp2_with fail
        go_ret
        exact ⟨ret_bool HT.out.symm, rfl⟩
      · have HA := hid_ (show ∀ (j : Nat) (u : Int), j < i + 1 → l[j]? = some u → ¬ u = x from fun j u hj hu => by
          by_cases e2 : j = i
          · subst e2; rw [hy] at hu; injection hu with hu; subst hu; exact e
          · exact hall.out j u (by omega) hu)
        have hb : (y == x) = false := by simpa using e
        clear hc hy e
        go_wp2_with fail
        go_round
        case rel => exact ⟨i + 1, by omega, by go_num, HA⟩
        case measure => simp [intOf]; omega
    · obtain rfl : i = l.length := by omega
      have HF := hid_ (show z = false by
        rw [← HZ.out, Bool.eq_false_iff]
        intro h
        obtain ⟨j, hj, e⟩ := List.getElem_of_mem (List.contains_iff_mem.1 h)
        exact hall.out j x hj (by rw [List.getElem?_eq_getElem hj, e]) rfl)
      go_wp2_with fail
      go_ret
      exact ⟨ret_bool HF.out.symm, rfl⟩

theorem stops_iff {N : Nat} {f : Nat → Bool} {rows : List (List Int)} (hr : RowsIn N rows) : aloneI f rows < 0 ↔ ∀ r ∈ rows, alone1 f r = none := by
  constructor
  · intro h r hr'
    cases e : alone1 f r with
    | none => rfl
    | some x =>
      exfalso
      obtain ⟨y, hy⟩ : ∃ y, aloneS f rows = some y := by
        unfold aloneS
        cases e2 : rows.findSome? (alone1 f) with
        | none => rw [List.findSome?_eq_none_iff] at e2; rw [e2 r hr'] at e; cases e
        | some y => exact ⟨y, rfl⟩
      have h1 : aloneI f rows = y := by unfold aloneI; rw [hy]; rfl
      obtain ⟨s, hs1, hs2⟩ := List.exists_of_findSome?_eq_some hy
      have h2 := alone1_some hs2
      have h3 : y ∈ inn f s := by rw [h2]; simp
      obtain ⟨h4, _⟩ := List.mem_filter.1 h3
      obtain ⟨i, hi, e1⟩ := List.getElem_of_mem hs1
      obtain ⟨k, hk, e2⟩ := List.getElem_of_mem h4
      have := (hr i s k y (by rw [List.getElem?_eq_getElem hi, e1]) (by rw [List.getElem?_eq_getElem hk, e2])).1
      omega
  · intro h
    have : aloneS f rows = none := by
      unfold aloneS
      rw [List.findSome?_eq_none_iff]
      exact h
    unfold aloneI
    rw [this]
    decide
theorem inn_sub {s f : Nat → Bool} {r : List Int} {X : Int} (hs : ∀ j, s j = true → f j = true) (h : inn f r = [X]) (hX : s X.toNat = true) : inn s r = [X] := by
  have : inn s r = (inn f r).filter fun x => s x.toNat := by
    unfold inn
    rw [List.filter_filter]
    refine List.filter_congr fun x _ => ?_
    cases e : s x.toNat with
    | false => simp
    | true => simp [hs _ e]
  rw [this, h]
  simp [hX]
theorem alone1_sub {s f : Nat → Bool} {r : List Int} {X : Int} (hs : ∀ j, s j = true → f j = true) (h : alone1 f r = some X) (hX : s X.toNat = true) : alone1 s r = some X := by
  unfold alone1
  rw [inn_sub hs (alone1_some h) hX]
theorem Peels.sub {rows : List (List Int)} {f f' : Nat → Bool} (h : Peels rows f f') : ∀ j, f' j = true → f j = true := by
  induction h with
  | done f _ => exact fun _ h => h
  | step f f' h _ ih =>
    intro j hj
    have := ih j hj
    unfold upd at this
    split at this
    · cases this
    · exact this
theorem Peels.stops {rows : List (List Int)} {f f' : Nat → Bool} (h : Peels rows f f') : aloneI f' rows < 0 := by
  induction h with
  | done f h => exact h
  | step _ _ _ _ ih => exact ih
theorem Peels.great {N : Nat} {rows : List (List Int)} {f f' s : Nat → Bool} (hr : RowsIn N rows) (h : Peels rows f f') (hs : aloneI s rows < 0) : (∀ j, s j = true → f j = true) → ∀ j, s j = true → f' j = true := by
  induction h with
  | done f _ => exact fun h => h
  | step f f' h _ ih =>
    intro hsf
    refine ih fun j hj => ?_
    unfold upd
    split
    · rename_i e
      exfalso
      have h1 := aloneI_some h
      obtain ⟨r, hr1, hr2⟩ := List.exists_of_findSome?_eq_some h1
      have h2 := alone1_sub hsf hr2 (by rw [← e]; exact hj)
      rw [(stops_iff hr).1 hs r hr1] at h2
      cases h2
    · exact hsf j hj
theorem stops_union {N : Nat} {rows : List (List Int)} {a b c : Nat → Bool} (hr : RowsIn N rows) (ha : aloneI a rows < 0) (hb : aloneI b rows < 0) (hc : ∀ j, c j = (a j || b j)) : aloneI c rows < 0 := by
  rw [stops_iff hr] at *
  intro r hr'
  cases e : alone1 c r with
  | none => rfl
  | some X =>
    exfalso
    have h1 : X ∈ inn c r := by rw [alone1_some e]; simp
    obtain ⟨_, h2⟩ := List.mem_filter.1 h1
    rw [hc, Bool.or_eq_true] at h2
    rcases h2 with h2 | h2
    · have := alone1_sub (s := a) (fun j hj => by rw [hc, hj]; rfl) e h2
      rw [ha r hr'] at this; cases this
    · have := alone1_sub (s := b) (fun j hj => by rw [hc, hj]; simp) e h2
      rw [hb r hr'] at this; cases this
theorem alone1_congr {N : Nat} {f g : Nat → Bool} {r : List Int} (hr : ∀ x ∈ r, 0 ≤ x ∧ x < N) (h : ∀ j, j < N → f j = g j) : alone1 f r = alone1 g r := by
  have : inn f r = inn g r := by
    unfold inn
    refine List.filter_congr fun x hx => ?_
    obtain ⟨a, b⟩ := hr x hx
    exact h _ (by omega)
  unfold alone1
  rw [this]
theorem stops_congr {N : Nat} {f g : Nat → Bool} {rows : List (List Int)} (hr : RowsIn N rows) (h : ∀ j, j < N → f j = g j) (hf : aloneI f rows < 0) : aloneI g rows < 0 := by
  rw [stops_iff hr] at *
  intro r hr'
  rw [← hf r hr']
  refine (alone1_congr (N := N) (fun x hx => ?_) h).symm
  obtain ⟨i, hi, e1⟩ := List.getElem_of_mem hr'
  obtain ⟨k, hk, e2⟩ := List.getElem_of_mem hx
  exact hr i r k x (by rw [List.getElem?_eq_getElem hi, e1]) (by rw [List.getElem?_eq_getElem hk, e2])
theorem mem_lft {N : Nat} {f : Nat → Bool} {j : Nat} : (j : Int) ∈ lft N f ↔ j < N ∧ f j = true := by
  unfold lft
  rw [List.mem_map]
  constructor
  · rintro ⟨a, ha, e⟩
    have : a = j := by omega
    subst this
    obtain ⟨h1, h2⟩ := List.mem_filter.1 ha
    exact ⟨List.mem_range.1 h1, h2⟩
  · rintro ⟨h1, h2⟩
    exact ⟨j, List.mem_filter.2 ⟨List.mem_range.2 h1, h2⟩, rfl⟩
theorem mkm_lft {N : Nat} {f : Nat → Bool} {j : Nat} (hj : j < N) : mkm (lft N f) j = f j := by
  unfold mkm
  rw [Bool.eq_iff_iff, decide_eq_true_iff, mem_lft]
  exact ⟨fun h => h.2, fun h => ⟨hj, h⟩⟩

/-- Two stopping sets, their union, and the greatest one of a set that holds it. -/
theorem unions {N : Nat} {rows : List (List Int)} {sa sb A B M C : List Int} (hk : pchkS N rows = 0) (hra : risB N sa = true) (hrb : risB N sb = true) (hA : GreL N rows sa A) (hB : GreL N rows sb B)
    (hM1 : risB N M = true) (hM2 : ∀ j : Nat, j < N → (A.contains (j : Int) || B.contains (j : Int)) = true → (j : Int) ∈ M) (hC : GreL N rows M C) :
    setsE N rows sa = 0 ∧ setsE N rows sb = 0 ∧ setsE N rows (lft N fun j => A.contains (j : Int) || B.contains (j : Int)) = 0 ∧ stopB N rows (lft N fun j => A.contains (j : Int) || B.contains (j : Int)) = true ∧
    setsE N rows M = 0 ∧ setsE N rows C = 0 ∧ stopB N rows C = true ∧ ∀ x ∈ lft N (fun j => A.contains (j : Int) || B.contains (j : Int)), C.contains x = true := by
  obtain ⟨N', hN', _, _, _, hr, _⟩ := pchkS_ok hk
  have : N' = N := by omega
  subst this
  have ha := (stop_3 hk hra).2
  have hb := (stop_3 hk hrb).2
  have hm := (stop_3 hk hM1).2
  obtain ⟨fa, pa, rfl⟩ := hA.2 ha
  obtain ⟨fb, pb, rfl⟩ := hB.2 hb
  obtain ⟨fc, pc, rfl⟩ := hC.2 hm
  rw [Int.toNat_natCast] at *
  have hcon : ∀ (f : Nat → Bool) (j : Nat), j < N' → (lft N' f).contains (j : Int) = f j := fun f j hj => by
    rw [Bool.eq_iff_iff, List.contains_iff_mem, mem_lft]
    exact ⟨fun h => h.2, fun h => ⟨hj, h⟩⟩
  have hu : aloneI (mkm (lft N' fun j => (lft N' fa).contains (j : Int) || (lft N' fb).contains (j : Int))) rows < 0 := by
    refine stops_congr hr (f := fun j => fa j || fb j) (fun j hj => ?_) (stops_union hr pa.stops pb.stops fun _ => rfl)
    rw [mkm_lft hj, hcon _ j hj, hcon _ j hj]
  have hcs : aloneI (mkm (lft N' fc)) rows < 0 := stops_congr hr (f := fc) (fun j hj => (mkm_lft hj).symm) pc.stops
  obtain ⟨b1, b2⟩ := stop_3 hk (risB_lft N' fun j => (lft N' fa).contains (j : Int) || (lft N' fb).contains (j : Int))
  obtain ⟨c1, c2⟩ := stop_3 hk (risB_lft N' fc)
  refine ⟨ha, hb, b2, by rw [b1]; exact decide_eq_true hu, hm, c2, by rw [c1]; exact decide_eq_true hcs, fun x hx => ?_⟩
  obtain ⟨x1, x2⟩ := lft_mem hx
  obtain ⟨X, rfl⟩ : ∃ X : Nat, x = X := ⟨x.toNat, by omega⟩
  have hXN : X < N' := by omega
  rw [hcon _ X hXN]
  refine pc.great hr hu (fun j hj => ?_) X (by unfold mkm; exact decide_eq_true hx)
  unfold mkm at hj
  have hj2 := of_decide_eq_true hj
  rw [mem_lft] at hj2
  unfold mkm
  exact decide_eq_true (hM2 j hj2.1 hj2.2)

def SplitOut (N : Nat) (w : World) (r : Ending) (w' : World) : Prop := ∃ u L, r = .returned u ∧ ISl w' u L ∧ risB N L = true ∧ Ex w w'

set_option maxRecDepth 100000 in
set_option maxHeartbeats 2000000 in
theorem split_any (w : World) (b : Int) (N : Nat) (hN : N ≤ 64) (hb0 : 0 ≤ b) (hb1 : b ≤ 4294967295) : Calls Try.prog 35 #[.int .u32 b, .int .i64 N] w (SplitOut N w) := by
  go_enter Try.func35, Try.ntmps35
  go_wp2_with fail
  go_loopw [5, 6] (fun o' i' wr => ∃ (i : Nat) (L : List Int), i ≤ N ∧ i' = .int .i64 i ∧ Hid (wr.ownsRow w.heap.size 3 1 o' L.length (ints L)) ∧ L.length ≤ i ∧ Hid (L.Pairwise (· < ·)) ∧ Hid (∀ x ∈ L, 0 ≤ x ∧ x < i) ∧ Ex w wr) (fun _ i' _ => N - (intOf i').toNat)
  case atStart => exact ⟨0, [], by omega, rfl, hid_ (World.ownsRow_nil _ _ _ _), by simp, hid_ .nil, hid_ (fun x hx => by cases hx), Ex.refl _⟩
  case round =>
    obtain ⟨i, L, hi, rfl, hown, hL, hpw, hin, hx⟩ := hrel
    have HOUT := hid_ (fun (u : Value) (hu : wr.ownsRow w.heap.size 3 1 u L.length (ints L)) => show SplitOut N w (.returned u) wr from ⟨u, L, rfl, Sl.own hu, risB_of hpw.out (fun x hx => by have := hin.out x hx; omega), hx⟩)
    by_cases hlt : i < N
    · by_cases h32 : i < 32
      · have HS := hid_ hx.size
        have HX := hid_ hx
        have HP2 := hid_ (show (L ++ [(i : Int)]).Pairwise (· < ·) from List.pairwise_append.2 ⟨hpw.out, List.pairwise_singleton _ _, fun a ha c hc => by simp at hc; have := hin.out a ha; omega⟩)
        have HI2 := hid_ (show ∀ x ∈ L ++ [(i : Int)], 0 ≤ x ∧ x < ((i + 1 : Nat) : Int) from fun x hx => by
          rw [List.mem_append] at hx
          rcases hx with hx | hx
          · have := hin.out x hx; omega
          · simp at hx; omega)
        have HI1 := hid_ (show ∀ x ∈ L, 0 ≤ x ∧ x < ((i + 1 : Nat) : Int) from fun x hx => by have := hin.out x hx; omega)
        clear hin HOUT hx
        go_wp2_with (at_builtin; refine wpList_append1 _ rfl _ _ 22 rfl w.heap.size 3 (.int .i64 0) 1 8 Try.underlying22 infoInt rfl (by decide) _ L.length _ rfl hown.out [.int .i64 i] 3 _ rfl (by simp) rfl (by simp [Value.oneCell']) (by unfold maxLen; omega) (by omega) HS.out ?_; intro v2 w2 happ)
        · have HO := hid_ happ.own
          have HE := hid_ (happ.ex HX.out (Nat.le_refl _))
          clear happ
          go_wp2_with fail
          go_roundw
          case rel => exact ⟨i + 1, L ++ [(i : Int)], by omega, by go_num, hid_ (by rw [List.length_append]; have := HO.out; simpa [ints] using this), by rw [List.length_append, List.length_singleton]; omega, HP2, HI2, HE.out⟩
          case measure => simp [intOf]; omega
        · go_roundw
          case rel => exact ⟨i + 1, L, by omega, by go_num, hown, by omega, hpw, HI1, HX.out⟩
          case measure => simp [intOf]; omega
      · have h32' : 32 ≤ i := by omega
        have d1 : decide ((i : Int) < 32) = false := by simp; omega
        have HO := hid_ (HOUT.out _ hown.out)
        clear hin hpw h32 hown
        go_wp2_with fail
        go_ret
        exact HO.out
    · obtain rfl : i = N := by omega
      have HO := hid_ (HOUT.out _ hown.out)
      clear hin hpw hown
      go_wp2_with fail
      go_ret
      exact HO.out

theorem loopS_all {β : Type} {g : Nat → Option β} : ∀ {k i : Nat}, loopS g i k = none → ∀ j, i ≤ j → j < i + k → g j = none
  | 0, i, _, j, h1, h2 => by omega
  | k + 1, i, h, j, h1, h2 => by
    cases e : g i with
    | some y => rw [loopS_some e rfl] at h; cases h
    | none =>
      rw [loopS_none e rfl] at h
      by_cases hj : j = i
      · subst hj; exact e
      · exact loopS_all h j (by omega) (by omega)
theorem loopS_ex {β : Type} {g : Nat → Option β} {y : β} : ∀ {k i : Nat}, loopS g i k = some y → ∃ j, i ≤ j ∧ j < i + k ∧ g j = some y ∧ ∀ l, i ≤ l → l < j → g l = none
  | 0, i, h => by cases h
  | k + 1, i, h => by
    cases e : g i with
    | some z =>
      rw [loopS_some e rfl] at h
      injection h with h; subst h
      exact ⟨i, by omega, by omega, e, fun l h1 h2 => by omega⟩
    | none =>
      rw [loopS_none e rfl] at h
      obtain ⟨j, h1, h2, h3, h4⟩ := loopS_ex h
      refine ⟨j, by omega, by omega, h3, fun l h5 h6 => ?_⟩
      by_cases hl : l = i
      · subst hl; exact e
      · exact h4 l (by omega) h6

theorem lft_grow {f : Nat → Bool} {i : Nat} : ∀ {N : Nat}, i ≤ N → (lft N f).length ≤ (lft i f).length + (N - i)
  | 0, h => by
    have : i = 0 := by omega
    subst this; omega
  | N + 1, h => by
    by_cases e : i = N + 1
    · subst e; omega
    · have := lft_grow (f := f) (i := i) (N := N) (by omega)
      rw [lft_snoc, List.length_append]
      split <;> simp <;> omega
theorem lft_stay {f : Nat → Bool} {i : Nat} : ∀ {N : Nat}, i ≤ N → (∀ j, i ≤ j → j < N → f j = false) → (lft N f).length = (lft i f).length
  | 0, h, _ => by
    have : i = 0 := by omega
    subst this; rfl
  | N + 1, h, hf => by
    by_cases e : i = N + 1
    · subst e; rfl
    · have := lft_stay (f := f) (i := i) (N := N) (by omega) fun j h1 h2 => hf j h1 (by omega)
      rw [lft_snoc, hf N (by omega) (by omega)]
      simpa using this
theorem lft_ge {f : Nat → Bool} {i : Nat} : ∀ {N : Nat}, i ≤ N → (lft i f).length ≤ (lft N f).length
  | 0, h => by
    have : i = 0 := by omega
    subst this; omega
  | N + 1, h => by
    by_cases e : i = N + 1
    · subst e; omega
    · have := lft_ge (f := f) (i := i) (N := N) (by omega)
      rw [lft_snoc, List.length_append]; omega
theorem lft_gt {f : Nat → Bool} {i j : Nat} : ∀ {N : Nat}, i ≤ j → j < N → f j = true → (lft i f).length < (lft N f).length := by
  intro N h1 h2 h3
  have a := lft_ge (f := f) (show i ≤ j from h1)
  have b := lft_ge (f := f) (show j + 1 ≤ N from h2)
  rw [lft_snoc, h3] at b
  simp at b
  omega

theorem srch_none {N : Nat} {rows : List (List Int)} (hr : RowsIn N rows) : ∀ (s first : Nat) (f g : Nat → Bool), first ≤ N → (∀ j, j < first → g j = f j) → (∀ j, first ≤ j → f j = false) → (lft N g).length = (lft N f).length + s →
    srchS rows N s first f = none → 0 ≤ aloneI g rows
  | 0, first, f, g, hN, hg, hf, hc, h => by
    have hgf : ∀ j, j < N → g j = f j := fun j hj => by
      by_cases h1 : j < first
      · exact hg j h1
      · rw [hf j (by omega)]
        rw [← Bool.not_eq_true]
        intro h2
        have h3 := lft_gt (i := first) (by omega) hj h2
        have h4 := lft_stay (f := f) hN fun j h1 _ => hf j h1
        have h5 : (lft first g).length = (lft first f).length := by rw [lft_congr first hg]
        omega
    unfold srchS at h
    split at h
    · cases h
    · rename_i h1
      rcases Int.lt_or_le (aloneI g rows) 0 with h2 | h2
      · exact absurd (stops_congr hr hgf h2) h1
      · exact h2
  | s + 1, first, f, g, hN, hg, hf, hc, h => by
    have h4 := lft_stay (f := f) hN fun j h1 _ => hf j h1
    have h5 : (lft first g).length = (lft first f).length := by rw [lft_congr first hg]
    obtain ⟨i, hi1, hi2, hi3, hi4⟩ : ∃ i, first ≤ i ∧ i < N ∧ g i = true ∧ ∀ j, first ≤ j → j < i → g j = false := by
      have hex : ∃ i, first ≤ i ∧ i < N ∧ g i = true := by
        refine Classical.byContradiction fun hn => ?_
        have := lft_stay (f := g) hN fun j h1 h2 => by
          rw [← Bool.not_eq_true]; exact fun h3 => hn ⟨j, h1, h2, h3⟩
        omega
      obtain ⟨i, h1, h2, h3⟩ := hex
      induction i using Nat.strongRecOn with
      | _ i ih =>
        by_cases hm : ∃ j, first ≤ j ∧ j < i ∧ g j = true
        · obtain ⟨j, a, b, c⟩ := hm
          exact ih j b a (by omega) c
        · exact ⟨i, h1, h2, h3, fun j a b => by rw [← Bool.not_eq_true]; exact fun c => hm ⟨j, a, b, c⟩⟩
    have hgi : (lft i g).length = (lft first g).length := lft_stay hi1 fun j a b => hi4 j a b
    have hgr := lft_grow (f := g) (i := i) (N := N) (by omega)
    have hlo := loopS_all h i hi1 (by omega)
    have hput := lft_put (hf i hi1) N hi2
    refine srch_none hr s (i + 1) (upd f i true) g (by omega) (fun j hj => ?_) (fun j hj => ?_) (by omega) hlo
    · unfold upd
      split
      · rename_i e; subst e; exact hi3
      · by_cases h6 : j < first
        · exact hg j h6
        · rw [hi4 j (by omega) (by omega), hf j (by omega)]
    · rw [upd_ne _ _ (by omega)]; exact hf j (by omega)
theorem srch_some {N : Nat} {rows : List (List Int)} : ∀ (s first : Nat) (f f' : Nat → Bool), (∀ j, first ≤ j → f j = false) → srchS rows N s first f = some f' → aloneI f' rows < 0 ∧ (lft N f').length = (lft N f).length + s
  | 0, first, f, f', hf, h => by
    unfold srchS at h
    split at h
    · rename_i h1; injection h with h; subst h; exact ⟨h1, rfl⟩
    · cases h
  | s + 1, first, f, f', hf, h => by
    obtain ⟨i, h1, h2, h3, _⟩ := loopS_ex h
    have hput := lft_put (hf i h1) N (by omega)
    obtain ⟨a, b⟩ := srch_some s (i + 1) (upd f i true) f' (fun j hj => by rw [upd_ne _ _ (by omega)]; exact hf j (by omega)) h3
    exact ⟨a, by omega⟩

theorem length_le_of_sub {α : Type} [DecidableEq α] : ∀ {a b : List α}, a.Nodup → (∀ x ∈ a, x ∈ b) → a.length ≤ b.length
  | [], b, _, _ => by simp
  | x :: a, b, hn, hs => by
    have hx := hs x (List.mem_cons_self ..)
    obtain ⟨h1, h2⟩ := List.nodup_cons.1 hn
    have := length_le_of_sub (b := b.erase x) h2 fun y hy => (List.mem_erase_of_ne (fun e => h1 (by rw [← e]; exact hy))).2 (hs y (List.mem_cons_of_mem _ hy))
    rw [List.length_erase_of_mem hx] at this
    have h3 := List.length_pos_of_mem hx
    simp
    omega

theorem lft_emp (N : Nat) : lft N (fun _ => false) = [] := by simp [lft]
theorem smallest_none {N : Nat} {rows : List (List Int)} {l : List Int} (hk : pchkS N rows = 0) (hr : risB N l = true) (hs : smR N rows = none) (hst : stopB N rows l = true) : l = [] := by
  obtain ⟨N', hN', _, _, _, hri, _⟩ := pchkS_ok hk
  have : N' = N := by omega
  subst this
  rw [(stop_3 hk hr).1] at hst
  have hst := of_decide_eq_true hst
  cases l with
  | nil => rfl
  | cons x l =>
    exfalso
    obtain ⟨a, b⟩ := risB_rng hr 0 x rfl
    obtain ⟨X, rfl⟩ : ∃ X : Nat, x = X := ⟨x.toNat, by omega⟩
    have h1 := lft_gt (f := mkm ((X : Int) :: l)) (i := 0) (j := X) (N := N') (by omega) (by omega) (by unfold mkm; simp)
    have h2 := lft_len N' (mkm ((X : Int) :: l))
    have h3 := loopS_all hs (lft N' (mkm ((X : Int) :: l))).length (by omega) (by omega)
    have h4 := srch_none hri _ 0 (fun _ => false) (mkm ((X : Int) :: l)) (by omega) (fun j hj => by omega) (fun _ _ => rfl) (by rw [lft_emp]; simp) h3
    omega
theorem smallest_some {N : Nat} {rows : List (List Int)} {l : List Int} {f : Nat → Bool} (hk : pchkS N rows = 0) (hr : risB N l = true) (hs : smR N rows = some f) :
    1 ≤ (lft N f).length ∧ stopB N rows (lft N f) = true ∧ setsE N rows (lft N f) = 0 ∧ (stopB N rows l = true → l = [] ∨ (lft N f).length ≤ l.length) := by
  obtain ⟨N', hN', _, _, _, hri, _⟩ := pchkS_ok hk
  have : N' = N := by omega
  subst this
  obtain ⟨s, h1, h2, h3, h4⟩ := loopS_ex hs
  obtain ⟨a, b⟩ := srch_some s 0 _ f (fun _ _ => rfl) h3
  rw [lft_emp] at b
  simp at b
  obtain ⟨c1, c2⟩ := stop_3 hk (risB_lft N' f)
  refine ⟨by omega, ?_, c2, fun hst => ?_⟩
  · rw [c1]
    exact decide_eq_true (stops_congr hri (f := f) (fun j hj => (mkm_lft hj).symm) a)
  · cases l with
    | nil => exact .inl rfl
    | cons x l =>
      right
      rw [(stop_3 hk hr).1] at hst
      have hst := of_decide_eq_true hst
      obtain ⟨x1, x2⟩ := risB_rng hr 0 x rfl
      obtain ⟨X, rfl⟩ : ∃ X : Nat, x = X := ⟨x.toNat, by omega⟩
      have g1 := lft_gt (f := mkm ((X : Int) :: l)) (i := 0) (j := X) (N := N') (by omega) (by omega) (by unfold mkm; simp)
      have g2 : (lft N' (mkm ((X : Int) :: l))).length ≤ ((X : Int) :: l).length := length_le_of_sub (lft_nodup _ _) fun y hy => by
        obtain ⟨y1, y2⟩ := lft_mem hy
        obtain ⟨Y, rfl⟩ : ∃ Y : Nat, y = Y := ⟨y.toNat, by omega⟩
        have := (mem_lft.1 hy).2
        unfold mkm at this
        exact of_decide_eq_true this
      rcases Nat.lt_or_ge (lft N' (mkm ((X : Int) :: l))).length s with h5 | h5
      · exfalso
        have h6 := h4 _ (by omega) h5
        have h7 := srch_none hri _ 0 (fun _ => false) (mkm ((X : Int) :: l)) (by omega) (fun j hj => by omega) (fun _ _ => rfl) (by rw [lft_emp]; simp) h6
        omega
      · omega

set_option maxRecDepth 100000 in
set_option maxHeartbeats 8000000 in
theorem PeelSmallest_any (w : World) (V : Int) (v : Value) (rows : List (List Int)) (b : Int) (hv : MSl w v rows) (hb : (Lit.int .u32 b).wf = true) :
    Calls Try.prog 10 #[.agg #[.int .i64 V, v], .int .u32 b] w fun r w' => r = .returned (.bool true) ∧ Ex w w' := by
  have hbr : 0 ≤ b ∧ b ≤ 4294967295 := by
    simp [Lit.wf, IntKind.min, IntKind.max, IntKind.signed, IntKind.bits] at hb
    omega
  obtain ⟨hb0, hb1⟩ := hbr
  obtain ⟨d0, d1, e0⟩ := boxT_facts w V v
  have HV := hid_ hv
  obtain ⟨za, zc, rfl, _, _, _⟩ := hv.open
  obtain ⟨xb, hxb⟩ : ∃ xb, w.heap.size = xb := ⟨_, rfl⟩
  rw [hxb] at d0 d1
  clear hv hb
  go_enter Try.func10, Try.ntmps10
  go_wp2_with fail
  try simp only [hxb]
  clear hxb
  generalize w.alloc (.cells #[.int .i64 V, .slice za rows.length zc] 31) = w0 at *
  have EX := hid_ e0
  clear e0
  refine (awake_any w0).mono ?_
  rintro e w1 ⟨rfl, hx1⟩
  have d0 := hx1.cell d0
  have d1 := hx1.cell d1
  have EX := hid_ (EX.out.trans hx1)
  clear hx1
  go_wp2_with fail
  refine (FewT_any w1 V rows _ (HV.out.ex EX.out)).mono ?_
  rintro e w2 ⟨bb, rfl, hx2⟩
  have d0 := hx2.cell d0
  have d1 := hx2.cell d1
  have EX := hid_ (EX.out.trans hx2)
  clear hx2
  cases bb with
  | false =>
    go_wp2_with (go_at_call 12; refine (awake_any _).mono ?_; rintro e w3 ⟨rfl, hx3⟩)
    go_ret
    exact ⟨rfl, EX.out.trans hx3⟩
  | true =>
    go_wp2_with fail
    refine (rChkT_any w2 V rows _ (HV.out.ex EX.out)).mono ?_
    rintro e w3 ⟨rfl, hx3⟩
    have d0 := hx3.cell d0
    have d1 := hx3.cell d1
    have EX := hid_ (EX.out.trans hx3)
    clear hx3
    by_cases hk : pchkS V rows = 0
    · have HK := hid_ hk
      obtain ⟨N, rfl, hN1, hN2, _, _, _⟩ := pchkS_ok hk
      rw [hk]
      clear hk
      by_cases h16 : (16 : Int) < (N : Int)
      · go_wp2_with (go_at_call 12; refine (awake_any _).mono ?_; rintro e w4 ⟨rfl, hx4⟩)
        go_ret
        exact ⟨rfl, EX.out.trans hx4⟩
      · have h16' : N ≤ 16 := by omega
        have dd : decide ((16 : Int) < (N : Int)) = false := by simp; omega
        clear h16
        go_wp2_with fail
        refine (Smallest_any w3 N rows _ (HV.out.ex EX.out)).mono ?_
        rintro e w4 ⟨u, rfl, hu, hx4⟩
        have d0 := hx4.cell d0
        have d1 := hx4.cell d1
        have EX := hid_ (EX.out.trans hx4)
        obtain ⟨ua, uc, rfl, _, _, _⟩ := hu.open
        have HU := hid_ hu
        clear hx4 hu
        go_wp2_with fail
        refine (split_any w4 b N hN2 hb0 hb1).mono ?_
        rintro e w5 ⟨sv, S, rfl, hs, hrs, hx5⟩
        have d0 := hx5.cell d0
        have d1 := hx5.cell d1
        have EX := hid_ (EX.out.trans hx5)
        have HU := hid_ (HU.out.ex hx5)
        obtain ⟨sa, sc, rfl, _, _, _⟩ := hs.open
        have HS := hid_ hs
        have HRS := hid_ hrs
        have hse := (stop_3 HK.out hrs).2
        have HST := hid_ (Stopping_any w5 N rows _ (HV.out.ex EX.out) S _ hs)
        rw [hse] at HST
        obtain ⟨ok, hok⟩ : ∃ ok, stopB N rows S = ok := ⟨_, rfl⟩
        rw [hok] at HST
        have HOK := hid_ hok
        clear hx5 hs hrs hse hok
        go_wp2_with fail
        refine HST.out.mono ?_
        rintro e w6 ⟨rfl, hx6⟩
        have d0 := hx6.cell d0
        have d1 := hx6.cell d1
        have EX := hid_ (EX.out.trans hx6)
        have HU := hid_ (HU.out.ex hx6)
        clear hx6 HST
        cases hsm : smR N rows with
        | none =>
          obtain ⟨r1, r2⟩ := small_3 HK.out h16' hsm
          rw [r1]
          clear r2
          cases ok with
          | false =>
            clear r1
            go_wp2_with fail
            go_ret
            exact ⟨rfl, EX.out⟩
          | true =>
            have hS := smallest_none HK.out HRS.out hsm HOK.out
            subst hS
            clear r1
            go_wp2_with fail
            go_ret
            exact ⟨rfl, EX.out⟩
        | some f =>
          obtain ⟨r1, r2⟩ := small_4 HK.out h16' hsm
          obtain ⟨q1, q2, q3, q4⟩ := smallest_some HK.out HRS.out hsm
          have q5 := lft_len N f
          rw [r2] at HU
          rw [r1, r2]
          have HST := hid_ (Stopping_any w6 N rows _ (HV.out.ex EX.out) (lft N f) _ HU.out)
          rw [q2, q3] at HST
          have Q4 := hid_ q4
          obtain ⟨L, hL⟩ : ∃ L, lft N f = L := ⟨_, rfl⟩
          rw [hL] at HST q1 q5 HU Q4
          simp only [hL]
          clear r1 r2 q2 q3 q4 hsm hL
          go_wp2_with fail
          refine HST.out.mono ?_
          rintro e w7 ⟨rfl, hx7⟩
          have d0 := hx7.cell d0
          have EX := hid_ (EX.out.trans hx7)
          clear hx7 HST
          have l1 : (0 : Int) < (L.length : Int) := by omega
          have l2 : (L.length : Int) ≤ (N : Int) := by omega
          cases ok with
          | false =>
            go_wp2_with fail
            go_ret
            exact ⟨rfl, EX.out⟩
          | true =>
            rcases Q4.out HOK.out with h | h
            · subst h
              go_wp2_with fail
              go_ret
              exact ⟨rfl, EX.out⟩
            · have l3 : (L.length : Int) ≤ (S.length : Int) := by omega
              have l4 : ((S.length : Int) == 0) = false := by rw [beq_eq_false_iff_ne]; omega
              go_wp2_with fail
              go_ret
              exact ⟨rfl, EX.out⟩
    · obtain ⟨z, hz⟩ : ∃ z, pchkS V rows = z := ⟨_, rfl⟩
      rw [hz] at hk ⊢
      have hzb : (z != 0) = true := by simpa using hk
      clear hk hz
      go_wp2_with (go_at_call 12; refine (awake_any _).mono ?_; rintro e w4 ⟨rfl, hx4⟩)
      go_ret
      exact ⟨rfl, EX.out.trans hx4⟩
end Go.Proofs.Ytpphaicbdeeacaa
