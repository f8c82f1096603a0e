/- Slices of slices; the reference's SameInts, SameRows, Few; slices.Index and Clone at ints. -/
import Derived.StillTailTactics
import Derived.Test.YtgfdhclpffakfaaGreatZa05
namespace Go.Proofs.YtgfdhclpffakfaaGreat
set_option linter.unusedVariables false
set_option linter.unusedSimpArgs false
open Go.RowKit

theorem infoInt : (Tryz.prog.info? 3).map (fun i => (i.zero, i.size, i.bytes)) = some (some (.int .i64 0), 1, 8) := by kernel_rfl
theorem infoBool : (Tryz.prog.info? 4).map (fun i => (i.zero, i.size, i.bytes)) = some (some (.bool false), 1, 1) := by kernel_rfl
theorem infoIntsL : (Tryz.prog.info? 32).map (fun i => (i.zero, i.size, i.bytes)) = some (some (.slice none 0 0), 1, 24) := by kernel_rfl
/-- A slice of slices of ints that reads as a list of lists. -/
def MSl (w : World) (v : Value) (rows : List (List Int)) : Prop := ∃ vals : List Value, Sl w v rows.length 1 vals ∧ ∀ (i : Nat) (r : List Int) (u : Value), rows[i]? = some r → vals[i]? = some u → ISl w u r
theorem MSl.ex {w w' : World} {v : Value} {rows : List (List Int)} (h : MSl w v rows) (hx : Ex w w') : MSl w' v rows := by
  obtain ⟨vals, h1, h2⟩ := h
  exact ⟨vals, h1.ex hx, fun i r u a b => (h2 i r u a b).ex hx⟩
theorem MSl.open {w : World} {v : Value} {rows : List (List Int)} (h : MSl w v rows) : ∃ a cap, v = .slice a rows.length cap ∧ rows.length ≤ cap ∧ cap ≤ maxLen ∧
    (0 < rows.length → ∃ b o, a = some ⟨b, o, none⟩ ∧ ∀ (i : Nat) (r : List Int), rows[i]? = some r → ∃ u, w.cell? ⟨b, o + i, none⟩ = some u ∧ ISl w u r) := by
  obtain ⟨vals, ⟨h1, a, cap, h2, h3, h4, h5⟩, h6⟩ := h
  refine ⟨a, cap, h2, h3, h4, fun hn => ?_⟩
  obtain ⟨b, o, h7, h8⟩ := h5 hn
  refine ⟨b, o, h7, fun i r hr => ?_⟩
  have hi := (List.getElem?_eq_some_iff.1 hr).1
  have hu : vals[i]? = some vals[i] := List.getElem?_eq_getElem (by omega)
  exact ⟨_, h8 i _ hu, h6 i r _ hr hu⟩
theorem Ex.frz {w w' : World} (h : Ex w w') {p : Addr} {u : Value} (hc : w.cell? p = some u) (hf : w.frozen? p = false) : w'.frozen? p = false :=
  (Below.frozen h (World.block_lt_of_cell? w _ hc)).trans hf
theorem Appd.frz {w w' : World} {base : Nat} {e : TypeId} {size : Nat} {v v' : Value} {n : Nat} {xs news : List Value} (h : Appd w w' base e size v v' n xs news) {a : Addr} {u : Value} (hc : w.cell? a = some u) (hf : w.frozen? a = false) (hne : some a.block ≠ v.ownBlock) : w'.frozen? a = false := by
  obtain ⟨o, hg⟩ := h.gr
  have hlt := World.block_lt_of_cell? _ _ hc
  have e1 : (w.alloc o).frozen? a = w.frozen? a := ((Ex.refl w).alloc o).frozen hlt
  rw [← hf, ← e1]
  have h2 := hg.block a.block (by simp; omega) hne
  unfold World.frozen?
  rw [h2]
/-- A list of rows of the call's own. -/
structure MRows (w : World) (base : Nat) (cv : Value) (M : List (List Int)) (vals : List Value) : Prop where
  cvo : w.ownsRow base 32 1 cv M.length vals
  row : ∀ (i : Nat) (r : List Int) (u : Value), M[i]? = some r → vals[i]? = some u → w.ownsRow base 3 1 u r.length (ints r)
  apart : ∀ u ∈ vals, Aprt u cv
theorem MRows.nil (w : World) (base : Nat) : MRows w base (.slice none 0 0) [] [] := ⟨World.ownsRow_nil _ _ _ _, fun i r u h => by simp at h, fun u h => by cases h⟩
theorem MRows.len {w : World} {base : Nat} {cv : Value} {M : List (List Int)} {vals : List Value} (h : MRows w base cv M vals) : vals.length = M.length := by
  have := h.cvo.1; omega
theorem MRows.ex {w w' : World} {base : Nat} {cv : Value} {M : List (List Int)} {vals : List Value} (h : MRows w base cv M vals) (hx : Ex w w') : MRows w' base cv M vals :=
  ⟨ownsRow_ex h.cvo hx, fun i r u h1 h2 => ownsRow_ex (h.row i r u h1 h2) hx, h.apart⟩
theorem MRows.setNe {w : World} {base : Nat} {cv : Value} {M : List (List Int)} {vals : List Value} (h : MRows w base cv M vals) {a : Addr} (ha : a.block < base) (u : Value) : MRows (w.setCell a u) base cv M vals := by
  have key : ∀ {e : TypeId} {size : Nat} {v : Value} {n : Nat} {xs : List Value}, w.ownsRow base e size v n xs → v.ownBlock ≠ some a.block := fun k e => by
    have := (k.lt _ e).1; omega
  exact ⟨ownsRow_setCell_ne h.cvo (key h.cvo) u, fun i r t h1 h2 => ownsRow_setCell_ne (h.row i r t h1 h2) (key (h.row i r t h1 h2)) u, h.apart⟩
theorem MRows.app {w w' : World} {base : Nat} {cv cv' l : Value} {M : List (List Int)} {vals : List Value} {L : List Int} (h : MRows w base cv M vals) (hl : w.ownsRow base 3 1 l L.length (ints L)) (hal : Aprt l cv)
    (ha : Appd w w' base 32 1 cv cv' M.length vals [l]) : MRows w' base cv' (M ++ [L]) (vals ++ [l]) := by
  have hn := h.len
  have key : ∀ u ∈ vals, ∃ r, w.ownsRow base 3 1 u r (ints []) ∨ ∃ L : List Int, w.ownsRow base 3 1 u L.length (ints L) := fun u hu => by
    obtain ⟨i, hi, e⟩ := List.getElem_of_mem hu
    exact ⟨0, .inr ⟨_, h.row i (M[i]'(by omega)) u (List.getElem?_eq_getElem _) (by rw [List.getElem?_eq_getElem hi, e])⟩⟩
  refine ⟨by simpa using ha.own, fun i r u h1 h2 => ?_, fun u hu => ?_⟩
  · by_cases e : i < M.length
    · rw [List.getElem?_append_left e] at h1
      rw [List.getElem?_append_left (by omega)] at h2
      exact (ha.row (h.row i r u h1 h2) (h.apart u (List.mem_of_getElem? h2))).1
    · rw [List.getElem?_append_right (by omega)] at h1 h2
      have hi : i - M.length = 0 := by
        have := (List.getElem?_eq_some_iff.1 h1).1
        simp at this; omega
      rw [hi] at h1
      rw [hn, hi] at h2
      simp at h1 h2
      subst h1 h2
      exact (ha.row hl hal).1
  · rcases List.mem_append.1 hu with hu | hu
    · obtain ⟨i, hi, e⟩ := List.getElem_of_mem hu
      exact (ha.row (h.row i (M[i]'(by omega)) u (List.getElem?_eq_getElem _) (by rw [List.getElem?_eq_getElem hi, e])) (h.apart u hu)).2
    · simp at hu; subst hu; exact (ha.row hl hal).2
theorem MRows.msl {w : World} {base : Nat} {cv : Value} {M : List (List Int)} {vals : List Value} (h : MRows w base cv M vals) : MSl w cv M :=
  ⟨vals, Sl.own h.cvo, fun i r u h1 h2 => Sl.own (h.row i r u h1 h2)⟩
theorem eq_of_get {l k : List Int} (hl : l.length = k.length) (h : ∀ j, j < l.length → l[j]? = k[j]?) : l = k := by
  apply List.ext_getElem?
  intro j
  by_cases hj : j < l.length
  · exact h j hj
  · rw [List.getElem?_eq_none_iff.2 (by omega), List.getElem?_eq_none_iff.2 (by omega)]
set_option maxRecDepth 100000 in
set_option maxHeartbeats 1000000 in
theorem SameInts_any (w : World) (l k : List Int) (v u : Value) (hl : ISl w v l) (hk : ISl w u k) :
    Calls Tryz.prog 20 #[v, u] w fun r w' => r = .returned (.bool (decide (l = k))) ∧ ∃ n, w' = w.drewN n := by
  obtain ⟨a, cap, rfl, s1, s2, s3⟩ := hl.open
  obtain ⟨c, cc, rfl, t1, t2, t3⟩ := hk.open
  have S3 := hid_ s3
  have T3 := hid_ t3
  unfold maxLen at s2 t2
  clear hl hk s3 t3
  by_cases hlk : l.length = k.length
  · have hb : ((l.length : Int) != (k.length : Int)) = false := by simp; omega
    have HLK := hid_ hlk
    clear hlk
    go_enter Tryz.func20, Tryz.ntmps20
    go_wp2_with fail
    go_loopw [5] (fun i' wr => ∃ i n : Nat, i ≤ l.length ∧ i' = .int .i64 i ∧ wr = w.drewN n ∧ Hid (∀ j, j < i → l[j]? = k[j]?)) (fun i' _ => l.length - (intOf i').toNat)
    case atStart => exact ⟨0, 0, by omega, rfl, rfl, hid_ (fun j hj => by omega)⟩
    case round =>
      obtain ⟨i, n, hi, rfl, rfl, hall⟩ := hrel
      by_cases hlt : i < l.length
      · obtain ⟨x, hx⟩ : ∃ x, l[i]? = some x := ⟨_, List.getElem?_eq_getElem hlt⟩
        have hik : i < k.length := by have := HLK.out; omega
        obtain ⟨y, hy⟩ : ∃ y, k[i]? = some y := ⟨_, List.getElem?_eq_getElem hik⟩
        obtain ⟨b, o, rfl, hc⟩ := S3.out (by omega)
        obtain ⟨b2, o2, rfl, hc2⟩ := T3.out (by omega)
        have c1 := ((Ex.refl w).drewN n).cell (hc i x hx)
        have c2 := ((Ex.refl w).drewN n).cell (hc2 i y hy)
        have i1 : (0 : Int) ≤ (i : Int) := by omega
        have i2 : (i : Int) < (l.length : Int) := by omega
        have i3 : (i : Int) < (k.length : Int) := by omega
        obtain ⟨W, hW⟩ : ∃ W, w.drewN n = W := ⟨_, rfl⟩
        rw [hW] at c1 c2 ⊢
        have HWE := hid_ hW
        clear hW
        by_cases hxy : x = y
        · have HA := hid_ (show ∀ j, j < i + 1 → l[j]? = k[j]? from fun j hj => by
            by_cases e : j = i
            · subst e; rw [hx, hy, hxy]
            · exact hall.out j (by omega))
          have hbb : (x != y) = false := by simpa using hxy
          clear hc hc2 hx hy hxy
          go_wp2_with fail
          go_quiet (fail)
          go_wp2_with fail
          go_roundw
          case rel => exact ⟨i + 1, _, by omega, by go_num, by rw [← HWE.out, World.drewN_drewN], HA⟩
          case measure => simp [intOf]; omega
        · have HN := hid_ (show ¬ l = k from fun e => hxy (by rw [e, hy] at hx; injection hx with hx; exact hx.symm))
          have hbb : (x != y) = true := by simpa using hxy
          clear hc hc2 hx hy hxy
          go_wp2_with fail
          go_quiet (fail)
          go_wp2_with fail
          go_ret
          exact ⟨ret_bool (decide_eq_false HN.out).symm, _, by rw [← HWE.out, World.drewN_drewN]⟩
      · obtain rfl : i = l.length := by omega
        have HE := hid_ (eq_of_get HLK.out hall.out)
        go_wp2_with fail
        go_ret
        exact ⟨ret_bool (decide_eq_true HE.out).symm, n, rfl⟩
  · have hb : ((l.length : Int) != (k.length : Int)) = true := by simp; omega
    have HN := hid_ (show ¬ l = k from fun e => hlk (by rw [e]))
    clear hlk
    go_enter Tryz.func20, Tryz.ntmps20
    go_wp2_with fail
    go_ret
    exact ⟨ret_bool (decide_eq_false HN.out).symm, 0, rfl⟩
theorem rows_eq_of_get {l k : List (List Int)} (hl : l.length = k.length) (h : ∀ j, j < l.length → l[j]? = k[j]?) : l = k := by
  apply List.ext_getElem?
  intro j
  by_cases hj : j < l.length
  · exact h j hj
  · rw [List.getElem?_eq_none_iff.2 (by omega), List.getElem?_eq_none_iff.2 (by omega)]
set_option maxRecDepth 100000 in
set_option maxHeartbeats 1000000 in
theorem SameRows_any (w : World) (l k : List (List Int)) (v u : Value) (hl : MSl w v l) (hk : MSl w u k) :
    Calls Tryz.prog 21 #[v, u] w fun r w' => r = .returned (.bool (decide (l = k))) ∧ ∃ n, w' = w.drewN n := by
  obtain ⟨a, cap, rfl, s1, s2, s3⟩ := hl.open
  obtain ⟨c, cc, rfl, t1, t2, t3⟩ := hk.open
  have S3 := hid_ s3
  have T3 := hid_ t3
  unfold maxLen at s2 t2
  clear hl hk s3 t3
  by_cases hlk : l.length = k.length
  · have hb : ((l.length : Int) != (k.length : Int)) = false := by simp; omega
    have HLK := hid_ hlk
    clear hlk
    go_enter Tryz.func21, Tryz.ntmps21
    go_wp2_with fail
    go_loopw [5] (fun i' wr => ∃ i n : Nat, i ≤ l.length ∧ i' = .int .i64 i ∧ wr = w.drewN n ∧ Hid (∀ j, j < i → l[j]? = k[j]?)) (fun i' _ => l.length - (intOf i').toNat)
    case atStart => exact ⟨0, 0, by omega, rfl, rfl, hid_ (fun j hj => by omega)⟩
    case round =>
      obtain ⟨i, n, hi, rfl, rfl, hall⟩ := hrel
      by_cases hlt : i < l.length
      · obtain ⟨x, hx⟩ : ∃ x, l[i]? = some x := ⟨_, List.getElem?_eq_getElem hlt⟩
        have hik : i < k.length := by have := HLK.out; omega
        obtain ⟨y, hy⟩ : ∃ y, k[i]? = some y := ⟨_, List.getElem?_eq_getElem hik⟩
        obtain ⟨b, o, rfl, hc⟩ := S3.out (by omega)
        obtain ⟨b2, o2, rfl, hc2⟩ := T3.out (by omega)
        obtain ⟨u1, e1, hu1⟩ := hc i x hx
        obtain ⟨u2, e2, hu2⟩ := hc2 i y hy
        have c1 := ((Ex.refl w).drewN n).cell e1
        have c2 := ((Ex.refl w).drewN n).cell e2
        have hv1 := hu1.ex ((Ex.refl w).drewN n)
        have hv2 := hu2.ex ((Ex.refl w).drewN n)
        have i1 : (0 : Int) ≤ (i : Int) := by omega
        have i2 : (i : Int) < (l.length : Int) := by omega
        have i3 : (i : Int) < (k.length : Int) := by omega
        obtain ⟨W, hW⟩ : ∃ W, w.drewN n = W := ⟨_, rfl⟩
        rw [hW] at c1 c2 hv1 hv2 ⊢
        have HWE := hid_ hW
        have HSI := hid_ (fun n' => SameInts_any (W.drewN n') x y u1 u2 (hv1.ex ((Ex.refl W).drewN n')) (hv2.ex ((Ex.refl W).drewN n')))
        obtain ⟨ua, uc, rfl, _, _, _⟩ := hv1.open
        obtain ⟨va, vc, rfl, _, _, _⟩ := hv2.open
        by_cases hxy : x = y
        · have HA := hid_ (show ∀ j, j < i + 1 → l[j]? = k[j]? from fun j hj => by
            by_cases e : j = i
            · subst e; rw [hx, hy, hxy]
            · exact hall.out j (by omega))
          rw [decide_eq_true hxy] at HSI
          clear hc hc2 hx hy hxy hW hu1 hu2 e1 e2 hv1 hv2
          go_wp2_with fail
          go_quiet ((go_at_call 20; exact quiet_draw (HSI.out _)))
          go_wp2_with fail
          go_roundw
          case rel => exact ⟨i + 1, _, by omega, by go_num, by rw [← HWE.out, World.drewN_drewN], HA⟩
          case measure => simp [intOf]; omega
        · have HN := hid_ (show ¬ l = k from fun e => hxy (by rw [e, hy] at hx; injection hx with hx; exact hx.symm))
          rw [decide_eq_false hxy] at HSI
          clear hc hc2 hx hy hxy hW hu1 hu2 e1 e2 hv1 hv2
          go_wp2_with fail
          go_quiet ((go_at_call 20; exact quiet_draw (HSI.out _)))
          go_wp2_with fail
          go_ret
          exact ⟨ret_bool (decide_eq_false HN.out).symm, _, by rw [← HWE.out, World.drewN_drewN]⟩
      · obtain rfl : i = l.length := by omega
        have HE := hid_ (rows_eq_of_get HLK.out hall.out)
        go_wp2_with fail
        go_ret
        exact ⟨ret_bool (decide_eq_true HE.out).symm, n, rfl⟩
  · have hb : ((l.length : Int) != (k.length : Int)) = true := by simp; omega
    have HN := hid_ (show ¬ l = k from fun e => hlk (by rw [e]))
    clear hlk
    go_enter Tryz.func21, Tryz.ntmps21
    go_wp2_with fail
    go_ret
    exact ⟨ret_bool (decide_eq_false HN.out).symm, 0, rfl⟩
theorem boxM2_facts (w : World) (c : Int) (v : Value) : (w.alloc (.cells #[.int .i64 c, v] 68)).cell? ⟨w.heap.size, 0, none⟩ = some (.int .i64 c) ∧
    (w.alloc (.cells #[.int .i64 c, v] 68)).cell? ⟨w.heap.size, 1, none⟩ = some v ∧ Ex w (w.alloc (.cells #[.int .i64 c, v] 68)) :=
  ⟨by simp, by simp, (Ex.refl _).alloc _⟩
end Go.Proofs.YtgfdhclpffakfaaGreat
