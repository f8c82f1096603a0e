/- Walk of the law PeelOrders. -/
import Derived.Test.YtpphaicbdeeacaaPeelEB
namespace Go.Proofs.Ytpphaicbdeeacaa
set_option linter.unusedVariables false
set_option linter.unusedSimpArgs false
open Go.RowKit

/-- A list of rows of the call's own. -/
structure MRows (w : World) (base : Nat) (cv : Value) (M : List (List Int)) (vals : List Value) : Prop where
  cvo : w.ownsRow base 22 1 cv M.length vals
  row : ∀ (i : Nat) (r : List Int) (u : Value), M[i]? = some r → vals[i]? = some u → w.ownsRow base 3 1 u r.length (ints r)
  apart : ∀ u ∈ vals, Aprt u cv
theorem MRows.nil (w : World) (base : Nat) : MRows w base (.slice none 0 0) [] [] := ⟨World.ownsRow_nil _ _ _ _, fun i r u h => by simp at h, fun u h => by cases h⟩
theorem MRows.len {w : World} {base : Nat} {cv : Value} {M : List (List Int)} {vals : List Value} (h : MRows w base cv M vals) : vals.length = M.length := by
  have := h.cvo.1; omega
theorem MRows.ex {w w' : World} {base : Nat} {cv : Value} {M : List (List Int)} {vals : List Value} (h : MRows w base cv M vals) (hx : Ex w w') : MRows w' base cv M vals :=
  ⟨ownsRow_ex h.cvo hx, fun i r u h1 h2 => ownsRow_ex (h.row i r u h1 h2) hx, h.apart⟩
theorem MRows.setNe {w : World} {base : Nat} {cv : Value} {M : List (List Int)} {vals : List Value} (h : MRows w base cv M vals) {a : Addr} (ha : a.block < base) (u : Value) : MRows (w.setCell a u) base cv M vals := by
  have key : ∀ {e : TypeId} {size : Nat} {v : Value} {n : Nat} {xs : List Value}, w.ownsRow base e size v n xs → v.ownBlock ≠ some a.block := fun k e => by
    have := (k.lt _ e).1; omega
  exact ⟨ownsRow_setCell_ne h.cvo (key h.cvo) u, fun i r t h1 h2 => ownsRow_setCell_ne (h.row i r t h1 h2) (key (h.row i r t h1 h2)) u, h.apart⟩
theorem MRows.app {w w' : World} {base : Nat} {cv cv' l : Value} {M : List (List Int)} {vals : List Value} {L : List Int} (h : MRows w base cv M vals) (hl : w.ownsRow base 3 1 l L.length (ints L)) (hal : Aprt l cv)
    (ha : Appd w w' base 22 1 cv cv' M.length vals [l]) : MRows w' base cv' (M ++ [L]) (vals ++ [l]) := by
  have hn := h.len
  have key : ∀ u ∈ vals, ∃ r, w.ownsRow base 3 1 u r (ints []) ∨ ∃ L : List Int, w.ownsRow base 3 1 u L.length (ints L) := fun u hu => by
    obtain ⟨i, hi, e⟩ := List.getElem_of_mem hu
    exact ⟨0, .inr ⟨_, h.row i (M[i]'(by omega)) u (List.getElem?_eq_getElem _) (by rw [List.getElem?_eq_getElem hi, e])⟩⟩
  refine ⟨by simpa using ha.own, fun i r u h1 h2 => ?_, fun u hu => ?_⟩
  · by_cases e : i < M.length
    · rw [List.getElem?_append_left e] at h1
      rw [List.getElem?_append_left (by omega)] at h2
      exact (ha.row (h.row i r u h1 h2) (h.apart u (List.mem_of_getElem? h2))).1
    · rw [List.getElem?_append_right (by omega)] at h1 h2
      have hi : i - M.length = 0 := by
        have := (List.getElem?_eq_some_iff.1 h1).1
        simp at this; omega
      rw [hi] at h1
      rw [hn, hi] at h2
      simp at h1 h2
      subst h1 h2
      exact (ha.row hl hal).1
  · rcases List.mem_append.1 hu with hu | hu
    · obtain ⟨i, hi, e⟩ := List.getElem_of_mem hu
      exact (ha.row (h.row i (M[i]'(by omega)) u (List.getElem?_eq_getElem _) (by rw [List.getElem?_eq_getElem hi, e])) (h.apart u hu)).2
    · simp at hu; subst hu; exact (ha.row hl hal).2
theorem MRows.pre {w w' : World} {base : Nat} {cv v' l : Value} {M : List (List Int)} {vals : List Value} {L : List Int} {te : TypeId} (h : MRows w base cv M vals) (hl : w.ownsRow base 3 1 l L.length (ints L)) (hb : base ≤ w.heap.size)
    (ho : w'.ownsRow w.heap.size 22 1 v' (1 + M.length) ([l] ++ vals)) (hg : (w.alloc (.cells #[l] te)).grownBy w' (some w.heap.size)) (ha : v'.ownBlock = some w.heap.size ∨ v'.ownBlock = some (w.heap.size + 1)) : MRows w' base v' ([L] ++ M) ([l] ++ vals) := by
  have hn := h.len
  have keep : ∀ {u : Value} {r : List Int}, w.ownsRow base 3 1 u r.length (ints r) → w'.ownsRow base 3 1 u r.length (ints r) ∧ Aprt u v' := fun {u r} k => by
    have hne : ∀ b, u.ownBlock = some b → b < w.heap.size := fun b e => (k.lt b e).2
    refine ⟨(k.alloc _).kept hg ?_, ?_⟩
    · cases e : u.ownBlock with
      | none => exact .inl rfl
      | some b => right; intro e2; injection e2 with e2; have := hne b e; omega
    · unfold Aprt
      cases e : u.ownBlock with
      | none => exact .inl rfl
      | some b =>
        right
        have := hne b e
        rcases ha with ha | ha <;> rw [ha] <;> intro e2 <;> injection e2 with e2 <;> omega
  refine ⟨by
    rw [List.length_append]
    exact ownsRow_mono ho hb, fun i r u h1 h2 => ?_, fun u hu => ?_⟩
  · cases i with
    | zero => simp at h1 h2; subst h1 h2; exact (keep hl).1
    | succ i => simp at h1 h2; exact (keep (h.row i r u h1 h2)).1
  · rcases List.mem_append.1 hu with hu | hu
    · simp at hu; subst hu; exact (keep hl).2
    · obtain ⟨i, hi, e⟩ := List.getElem_of_mem hu
      exact (keep (h.row i (M[i]'(by omega)) u (List.getElem?_eq_getElem _) (by rw [List.getElem?_eq_getElem hi, e]))).2
theorem MRows.msl {w : World} {base : Nat} {cv : Value} {M : List (List Int)} {vals : List Value} (h : MRows w base cv M vals) : MSl w cv M :=
  ⟨vals, Sl.own h.cvo, fun i r u h1 h2 => Sl.own (h.row i r u h1 h2)⟩

theorem atF_scl {p m N : Nat} {ml r : List Int} {a : Int} (hp : 2 ≤ p) (hr : r.length = N) (ha : 1 ≤ a ∧ a < ((p ^ m : Nat) : Int)) : Scl p m ml r (il N (atF p m ml (il N fun _ => (0 : Int)) a r)) := by
  have hq : 1 ≤ p ^ m := Nat.pow_pos (by omega)
  obtain ⟨A, rfl⟩ : ∃ A : Nat, a = A := ⟨a.toNat, by omega⟩
  refine ⟨A, by omega, by omega, List.ext_getElem? fun j => ?_⟩
  by_cases hj : j < N
  · rw [il_get hj, List.getElem?_map]
    have hrj : r[j]? = some (r.getD j 0) := by rw [List.getD_eq_getElem?_getD, List.getElem?_eq_getElem (by omega)]; rfl
    have hz : (il N fun _ => (0 : Int)).getD j 0 = 0 := by rw [List.getD_eq_getElem?_getD, il_get hj]; rfl
    rw [hrj, Option.map_some]
    unfold atF
    rw [hz]
    by_cases h0 : r.getD j 0 = 0
    · rw [if_pos h0, h0, kin_zero, kmul_zero_r (by omega)]; rfl
    · rw [if_neg h0, kin_zero, kin_of (kmul_lt (by omega) _ _), zero_kadd (by omega) (kmul_lt (by omega) _ _), kin_of (show A < p ^ m by omega)]
  · rw [List.getElem?_eq_none (by rw [il_len]; omega), List.getElem?_eq_none (by simp; omega)]
theorem grown_frz {w w' : World} {ob : Option Nat} (hg : w.grownBy w' ob) {a : Addr} (hlt : a.block < w.heap.size) (hne : some a.block ≠ ob) : w'.frozen? a = w.frozen? a := by
  have h2 := hg.block a.block hlt hne
  unfold World.frozen?
  rw [h2]

set_option maxRecDepth 100000 in
set_option maxHeartbeats 8000000 in
theorem PeelOrders_any (w : World) (p m : Int) (mv : Value) (ml : List Int) (cols : Int) (v : Value) (rows : List (List Int)) (u0 u1 u2 : Value) (l0 l1 l2 : List Int) (hmv : ISl w mv ml) (hv : MSl w v rows) (h0 : ISl w u0 l0) (h1 : ISl w u1 l1) (h2 : ISl w u2 l2) :
    Calls Try.prog 7 #[.agg #[.int .i64 p, .int .i64 m, mv], .agg #[.int .i64 cols, v], .agg #[u0, u1, u2]] w fun r w' => r = .returned (.bool true) ∧ Ex w w' := by
  obtain ⟨g0, g1, g2, e0, gsz⟩ := box_facts w p m mv
  have HMV := hid_ hmv
  have HV := hid_ hv
  have H0 := hid_ h0
  have H1 := hid_ h1
  have H2 := hid_ h2
  obtain ⟨za, zc, rfl, _, _, _⟩ := hv.open
  obtain ⟨ua, uc, rfl, _, _, _⟩ := h0.open
  obtain ⟨xa, xc, rfl, _, _, _⟩ := h1.open
  obtain ⟨ya, yc, rfl, y1, y2, _⟩ := h2.open
  obtain ⟨xb, hxb⟩ : ∃ xb, w.heap.size = xb := ⟨_, rfl⟩
  rw [hxb] at g0 g1 g2 gsz
  clear hmv hv h0 h1 h2
  go_enter Try.func7, Try.ntmps7
  go_wp2_with fail
  try simp only [hxb]
  clear hxb
  generalize w.alloc (.cells #[.int .i64 p, .int .i64 m, mv] 24) = wA at *
  have a0 : (wA.alloc (.cells #[.int .i64 cols, .slice za rows.length zc] 27)).cell? ⟨xb + 1, 0, none⟩ = some (.int .i64 cols) := by rw [← gsz]; simp
  have a1 : (wA.alloc (.cells #[.int .i64 cols, .slice za rows.length zc] 27)).cell? ⟨xb + 1, 1, none⟩ = some (.slice za rows.length zc) := by rw [← gsz]; simp
  have asz : (wA.alloc (.cells #[.int .i64 cols, .slice za rows.length zc] 27)).heap.size = xb + 1 + 1 := by simp [gsz]
  have eA : Ex wA (wA.alloc (.cells #[.int .i64 cols, .slice za rows.length zc] 27)) := (Ex.refl _).alloc _
  generalize wA.alloc (.cells #[.int .i64 cols, .slice za rows.length zc] 27) = wB at *
  have q0 : (wB.alloc (.cells #[.slice ua l0.length uc, .slice xa l1.length xc, .slice ya l2.length yc] 53)).cell? ⟨xb + 1 + 1, 0, none⟩ = some (.slice ua l0.length uc) := by rw [← asz]; simp
  have q1 : (wB.alloc (.cells #[.slice ua l0.length uc, .slice xa l1.length xc, .slice ya l2.length yc] 53)).cell? ⟨xb + 1 + 1, 1, none⟩ = some (.slice xa l1.length xc) := by rw [← asz]; simp
  have q2 : (wB.alloc (.cells #[.slice ua l0.length uc, .slice xa l1.length xc, .slice ya l2.length yc] 53)).cell? ⟨xb + 1 + 1, 2, none⟩ = some (.slice ya l2.length yc) := by rw [← asz]; simp
  have eB : Ex wB (wB.alloc (.cells #[.slice ua l0.length uc, .slice xa l1.length xc, .slice ya l2.length yc] 53)) := (Ex.refl _).alloc _
  generalize wB.alloc (.cells #[.slice ua l0.length uc, .slice xa l1.length xc, .slice ya l2.length yc] 53) = wC at *
  have c0 := eB.cell (eA.cell g0)
  have c1 := eB.cell (eA.cell g1)
  have c2 := eB.cell (eA.cell g2)
  have c3 := eB.cell a0
  have c4 := eB.cell a1
  have EX := hid_ ((e0.trans eA).trans eB)
  clear g0 g1 g2 a0 a1 gsz asz e0 eA eB wA wB
  refine (awake_any wC).mono ?_
  rintro e w1 ⟨rfl, hx1⟩
  have c0 := hx1.cell c0
  have c1 := hx1.cell c1
  have c2 := hx1.cell c2
  have c3 := hx1.cell c3
  have c4 := hx1.cell c4
  have q0 := hx1.cell q0
  have q1 := hx1.cell q1
  have q2 := hx1.cell q2
  have EX := hid_ (EX.out.trans hx1)
  clear hx1
  go_wp2_with fail
  refine (few_any p m ml mv w1 cols rows _ (HV.out.ex EX.out)).mono ?_
  rintro e w2 ⟨b, rfl, hx2⟩
  have c0 := hx2.cell c0
  have c1 := hx2.cell c1
  have c2 := hx2.cell c2
  have c3 := hx2.cell c3
  have c4 := hx2.cell c4
  have q0 := hx2.cell q0
  have q1 := hx2.cell q1
  have q2 := hx2.cell q2
  have EX := hid_ (EX.out.trans hx2)
  clear hx2
  cases b with
  | false =>
    go_wp2_with (go_at_call 12; refine (awake_any _).mono ?_; rintro e w3 ⟨rfl, hx3⟩)
    go_ret
    exact ⟨rfl, EX.out.trans hx3⟩
  | true =>
    by_cases hl0 : 100 < (l0.length : Int)
    · go_wp2_with (go_at_call 12; refine (awake_any _).mono ?_; rintro e w3 ⟨rfl, hx3⟩)
      go_ret
      exact ⟨rfl, EX.out.trans hx3⟩
    · have hl0' : (l0.length : Int) ≤ 100 := by omega
      have d0 : decide (100 < (l0.length : Int)) = false := by simp; omega
      clear hl0
      by_cases hl1 : 100 < (l1.length : Int)
      · go_wp2_with (go_at_call 12; refine (awake_any _).mono ?_; rintro e w3 ⟨rfl, hx3⟩)
        go_ret
        exact ⟨rfl, EX.out.trans hx3⟩
      · have hl1' : (l1.length : Int) ≤ 100 := by omega
        have d1 : decide (100 < (l1.length : Int)) = false := by simp; omega
        clear hl1
        by_cases hl2 : 100 < (l2.length : Int)
        · go_wp2_with (go_at_call 12; refine (awake_any _).mono ?_; rintro e w3 ⟨rfl, hx3⟩)
          go_ret
          exact ⟨rfl, EX.out.trans hx3⟩
        · have hl2' : (l2.length : Int) ≤ 100 := by omega
          have d2 : decide (100 < (l2.length : Int)) = false := by simp; omega
          clear hl2
          go_wp2_with fail
          refine (rChkM_any p m ml mv w2 (HMV.out.ex EX.out) cols rows _ (HV.out.ex EX.out)).mono ?_
          rintro e w3 ⟨ec, rfl, hec, hx3⟩
          have c0 := hx3.cell c0
          have c1 := hx3.cell c1
          have c2 := hx3.cell c2
          have c3 := hx3.cell c3
          have c4 := hx3.cell c4
          have q0 := hx3.cell q0
          have q1 := hx3.cell q1
          have q2 := hx3.cell q2
          have EX := hid_ (EX.out.trans hx3)
          have HEC := hid_ hec
          clear hx3 hec
          by_cases hz : ec = 0
          · subst hz
            obtain ⟨pn, mn, rfl, rfl, hfl, hmk⟩ := HEC.out.ok
            obtain ⟨s1, s2, s3, s4⟩ := mchk_shape hmk
            obtain ⟨N, rfl⟩ : ∃ N : Nat, cols = N := ⟨cols.toNat, by omega⟩
            have hff : FSh pn mn ml ∧ IsF pn mn (lw ml) := by
              obtain ⟨pn', mn', e1, e2, h, _, hF⟩ := hfl
              have h1 : pn' = pn := by omega
              have h2 : mn' = mn := by omega
              subst h1 h2
              exact ⟨h, hF⟩
            have HFS := hid_ hff.1
            have HIF := hid_ hff.2
            have HFL := hid_ hfl
            have HMK := hid_ hmk
            have HROW := hid_ (show ∀ (j : Nat) (r : List Int), rows[j]? = some r → r.length = N ∧ entS (pn ^ mn) r = 0 from fun j r h => by
              have := s4 r (List.mem_of_getElem? h); exact ⟨by omega, this.2⟩)
            have hN : N ≤ 256 := by omega
            have hnr : rows.length ≤ 256 := s3
            clear hff hfl hmk s4 s1 s2 s3 HEC
            have e5 : Ex w3 (w3.alloc (.cells #[.int .i64 N, .slice none 0 0] 27)) := (Ex.refl _).alloc _
            have k4 := e5.cell c4
            go_wp2_with fail
            have t0 : (w3.alloc (.cells #[.int .i64 N, .slice none 0 0] 27)).cell? ⟨w3.heap.size, 0, none⟩ = some (.int .i64 N) := by simp
            have t1 : (w3.alloc (.cells #[.int .i64 N, .slice none 0 0] 27)).cell? ⟨w3.heap.size, 1, none⟩ = some (.slice none 0 0) := by simp
            have t2 : (w3.alloc (.cells #[.int .i64 N, .slice none 0 0] 27)).frozen? ⟨w3.heap.size, 1, none⟩ = false := by simp
            have hsz : (w3.alloc (.cells #[.int .i64 N, .slice none 0 0] 27)).heap.size = w3.heap.size + 1 := by simp
            generalize w3.alloc (.cells #[.int .i64 N, .slice none 0 0] 27) = w5 at *
            have F0 := hid_ c0
            have F1 := hid_ c1
            have F2 := hid_ c2
            have S3 := hid_ c3
            have S4 := hid_ c4
            have Q0 := hid_ q0
            have Q1 := hid_ q1
            have Q2 := hid_ q2
            have EX3 := hid_ EX.out
            have E5 := hid_ e5
            obtain ⟨tb, htb⟩ : ∃ tb, w3.heap.size = tb := ⟨_, rfl⟩
            rw [htb] at t0 t1 t2 hsz
            try simp only [htb]
            have HTB := hid_ (show w5.heap.size = tb + 1 from hsz)
            have HTB0 := hid_ htb
            have T0 := hid_ t0
            have T1 := hid_ t1
            have T2 := hid_ t2
            clear e5 htb hsz t0 t1 t2 c0 c1 c2 c3 c4 q0 q1 q2 EX
            clear k4
            have HI0 := hid_ (show IntKind.i64.wrap ((rows.length : Int) - 1) = (rows.length : Int) - 1 from IntWalk.i64_in _ (by omega))
            go_loopw [8] (fun i' wr => ∃ (k : Nat) (cv : Value) (M : List (List Int)) (vals : List Value), k ≤ rows.length ∧ i' = .int .i64 ((k : Int) - 1) ∧ M.length + k = rows.length ∧ wr.cell? ⟨tb, 0, none⟩ = some (.int .i64 N) ∧ wr.cell? ⟨tb, 1, none⟩ = some cv ∧ wr.frozen? ⟨tb, 1, none⟩ = false ∧
              Hid (MRows wr (tb + 1) cv M vals) ∧ Hid (Ex w3 wr) ∧ Hid (∀ s ∈ M, ∃ r ∈ rows, Scl pn mn ml r s) ∧ Hid (∀ (i : Nat) (r : List Int), k ≤ i → rows[i]? = some r → ∃ s ∈ M, Scl pn mn ml r s)) (fun i' _ => (intOf i' + 1).toNat)
            case atStart => exact ⟨rows.length, _, [], [], Nat.le_refl _, by go_num, by simp, T0.out, T1.out, T2.out, hid_ (MRows.nil _ _), E5.out, hid_ (fun s hs => by cases hs), hid_ (fun i r hi hr => by have := (List.getElem?_eq_some_iff.1 hr).1; omega)⟩
            case round =>
              clear T0 T1 T2
              obtain ⟨k, cv, M, vals, hk, rfl, hMl, t0, t1, t2, hmr, hx, hfw, hbw⟩ := hrel
              by_cases hk0 : k = 0
              · subst hk0
                have HREL := hid_ (show Rel pn mn ml N rows M from ⟨fun r hr => by
                    obtain ⟨i, hi, e⟩ := List.getElem_of_mem hr
                    exact HROW.out i r (by rw [List.getElem?_eq_getElem hi, e]), fun s hs => by
                    obtain ⟨r, hr, h⟩ := hfw.out s hs
                    obtain ⟨i, hi, e⟩ := List.getElem_of_mem hr
                    exact ⟨by rw [h.len]; exact (HROW.out i r (by rw [List.getElem?_eq_getElem hi, e])).1, h.ent (by have := HFS.out.p2; omega)⟩, hfw.out, fun r hr => by
                    obtain ⟨i, hi, e⟩ := List.getElem_of_mem hr
                    have hri : rows[i]? = some r := by rw [List.getElem?_eq_getElem hi, e]
                    obtain ⟨s, hs, h⟩ := hbw.out i r (by omega) hri
                    exact ⟨s, hs, h.symm HFS.out.p2 HFS.out.m1 HIF.out (HROW.out i r hri).2⟩⟩)
                have HML := hid_ (show M.length = rows.length from by omega)
                have HMS := hid_ hmr.out.msl
                obtain ⟨ca, cc, hcv⟩ := own_shape hmr.out.cvo
                subst hcv
                have c0 := hx.out.cell F0.out
                have c1 := hx.out.cell F1.out
                have c2 := hx.out.cell F2.out
                have c3 := hx.out.cell S3.out
                have c4 := hx.out.cell S4.out
                have q0 := hx.out.cell Q0.out
                have q1 := hx.out.cell Q1.out
                have EX := hid_ (EX3.out.trans hx.out)
                clear hmr hfw hbw hx HROW
                go_wp2_with fail
                refine (Peel_any pn mn ml mv wr (HMV.out.ex EX.out) N rows _ (HV.out.ex EX.out) l0 l1 _ _ (H0.out.ex EX.out) (H1.out.ex EX.out)).mono ?_
                rintro e w6 ⟨X, L, xv, lv, pe, rfl, hp, hX, hL, hx6⟩
                have c0 := hx6.cell c0
                have c1 := hx6.cell c1
                have c2 := hx6.cell c2
                have t0 := hx6.cell t0
                have t1 := hx6.cell t1
                have q0 := hx6.cell q0
                have q1 := hx6.cell q1
                have EX := hid_ (EX.out.trans hx6)
                have HMS := hid_ (HMS.out.ex hx6)
                have HP := hid_ hp
                obtain ⟨xa3, xc3, rfl, _, _, _⟩ := hX.open
                obtain ⟨la3, lc3, rfl, _, _, _⟩ := hL.open
                have HX := hid_ hX
                have HL := hid_ hL
                clear hx6 hp hX hL c3 c4 t2
                go_wp2_with fail
                refine (Peel_any pn mn ml mv w6 (HMV.out.ex EX.out) N M _ HMS.out l0 l1 _ _ (H0.out.ex EX.out) (H1.out.ex EX.out)).mono ?_
                rintro e w7 ⟨X2, L2, xv2, lv2, pe2, rfl, hp, hX, hL, hx7⟩
                obtain ⟨rfl, rfl, rfl⟩ := peelS_orders HFL.out HMK.out HML.out HREL.out HP.out hp
                have EX := hid_ (EX.out.trans hx7)
                obtain ⟨xa4, xc4, rfl, _, _, _⟩ := hX.open
                obtain ⟨la4, lc4, rfl, _, _, _⟩ := hL.open
                have HS1 := hid_ (SameInts_any w7 X X _ _ (HX.out.ex hx7) hX)
                have HS2 := hid_ (fun n => SameInts_any (w7.drewN n) L L _ _ ((HL.out.ex hx7).ex ((Ex.refl w7).drewN n)) (hL.ex ((Ex.refl w7).drewN n)))
                rw [show decide (X = X) = true by simp] at HS1
                simp only [show decide (L = L) = true by simp] at HS2
                clear HX HL hx7 hp hX hL c0 c1 c2 t0 t1 q0 q1 HP HMS HREL HML
                have hbe : (pe == pe) = true := by simp
                obtain ⟨xl, hxl⟩ : ∃ xl, X.length = xl := ⟨_, rfl⟩
                obtain ⟨ll, hll⟩ : ∃ ll, L.length = ll := ⟨_, rfl⟩
                rw [hxl] at HS1
                simp only [hll] at HS2
                rw [hxl, hll]
                clear hxl hll
                go_wp2_with (go_at_call 28; first | (with_reducible refine HS1.out.mono ?_; rintro e w8 ⟨rfl, n, rfl⟩) | (with_reducible refine (HS2.out _).mono ?_; rintro e w9 ⟨rfl, k, rfl⟩))
                go_ret
                exact ⟨rfl, EX.out.drewN _⟩
              · obtain ⟨j, rfl⟩ : ∃ j, k = j + 1 := ⟨k - 1, by omega⟩
                have ej : ((j + 1 : Nat) : Int) - 1 = j := by omega
                rw [ej]
                have hjr : j < rows.length := by omega
                obtain ⟨r, hr⟩ : ∃ r, rows[j]? = some r := ⟨_, List.getElem?_eq_getElem hjr⟩
                obtain ⟨hrN, hrE⟩ := HROW.out j r hr
                obtain ⟨_, _, e1, _, _, h3⟩ := (HV.out.ex (EX3.out.trans hx.out)).open
                injection e1 with e1 e2 e3
                subst e1 e3
                obtain ⟨zb, zo, rfl, hzc⟩ := h3 (by omega)
                obtain ⟨uz, d1, huz⟩ := hzc j r hr
                have D1 := hid_ d1
                have HUZ := hid_ huz
                have HR := hid_ hr
                have HRN := hid_ hrN
                have HRE := hid_ hrE
                have i0 : (0 : Int) ≤ (j : Int) := by omega
                have q2 := hx.out.cell Q2.out
                clear hzc h3 d1 huz hr hrN hrE ej hk0
                go_upto_region 8 with fail
                go_cut [82] from 57 to 124 (fun s82 wx => ∃ b : Bool, s82 = .bool b ∧ Hid (b = true → ∃ y, l2[j]? = some y ∧ 1 ≤ y ∧ y < ((pn ^ mn : Nat) : Int)) ∧ Hid (Ex wr wx))
                case first =>
                  by_cases hjl : j < l2.length
                  · obtain ⟨y, hy⟩ : ∃ y, l2[j]? = some y := ⟨_, List.getElem?_eq_getElem hjl⟩
                    obtain ⟨_, _, e1, _, _, h3⟩ := (H2.out.ex (EX3.out.trans hx.out)).open
                    injection e1 with e1 e2 e3
                    subst e1 e3
                    obtain ⟨yb, yo, rfl, hyc⟩ := h3 (by omega)
                    have DY := hid_ (hyc j y hy)
                    have HY := hid_ hy
                    have i2 : (j : Int) < (l2.length : Int) := by omega
                    have ib : decide ((j : Int) < (l2.length : Int)) = true := by simp; omega
                    have HIS := hid_ (fun w' => rIs_any (pn : Int) mn y mv w')
                    rw [isI_isB HFS.out] at HIS
                    have E0 : Ex wr wr.drew := (Ex.refl wr).drew
                    have G0 : Ex w3 wr.drew := hx.out.trans E0
                    clear hyc h3 hy hjl
                    by_cases hI : isB (pn ^ mn) y = true
                    · rw [hI] at HIS
                      have hyr : 0 ≤ y ∧ y < ((pn ^ mn : Nat) : Int) := by unfold isB at hI; exact of_decide_eq_true hI
                      clear hI
                      by_cases hy0 : y = 0
                      · have hyb : (y != 0) = false := by simp [hy0]
                        clear hy0 hyr
                        go_region_held3 (fun w' => w'.cell? ⟨xb, 0, none⟩ = some (.int .i64 pn) ∧ w'.cell? ⟨xb, 1, none⟩ = some (.int .i64 mn) ∧ w'.cell? ⟨xb, 2, none⟩ = some mv ∧ w'.cell? ⟨xb + 1 + 1, 2, none⟩ = some (.slice (some ⟨yb, yo, none⟩) l2.length yc) ∧ w'.cell? ⟨yb, yo + j, none⟩ = some (.int .i64 y))
                          (first | with_reducible exact ⟨G0.cell F0.out, G0.cell F1.out, G0.cell F2.out, G0.cell Q2.out, E0.cell DY.out⟩ | with_reducible exact ⟨G1.cell F0.out, G1.cell F1.out, G1.cell F2.out, G1.cell Q2.out, E1.cell DY.out⟩)
                          ((go_at_call 33; (with_reducible refine (HIS.out _).mono ?_); rintro e wx1 ⟨rfl, hy1⟩; have E1 := E0.trans hy1; have G1 := G0.trans hy1))
                        go_wp2_with fail
                        go_meet
                        exact ⟨false, rfl, hid_ (fun h => by cases h), hid_ E1⟩
                      · have hyb : (y != 0) = true := by simpa using hy0
                        have HYR := hid_ (show 1 ≤ y ∧ y < ((pn ^ mn : Nat) : Int) from by omega)
                        clear hy0 hyr
                        go_region_held3 (fun w' => w'.cell? ⟨xb, 0, none⟩ = some (.int .i64 pn) ∧ w'.cell? ⟨xb, 1, none⟩ = some (.int .i64 mn) ∧ w'.cell? ⟨xb, 2, none⟩ = some mv ∧ w'.cell? ⟨xb + 1 + 1, 2, none⟩ = some (.slice (some ⟨yb, yo, none⟩) l2.length yc) ∧ w'.cell? ⟨yb, yo + j, none⟩ = some (.int .i64 y))
                          (first | with_reducible exact ⟨G0.cell F0.out, G0.cell F1.out, G0.cell F2.out, G0.cell Q2.out, E0.cell DY.out⟩ | with_reducible exact ⟨G1.cell F0.out, G1.cell F1.out, G1.cell F2.out, G1.cell Q2.out, E1.cell DY.out⟩)
                          ((go_at_call 33; (with_reducible refine (HIS.out _).mono ?_); rintro e wx1 ⟨rfl, hy1⟩; have E1 := E0.trans hy1; have G1 := G0.trans hy1))
                        go_wp2_with fail
                        go_meet
                        exact ⟨true, rfl, hid_ (fun _ => ⟨y, HY.out, HYR.out⟩), hid_ E1⟩
                    · have hI' : isB (pn ^ mn) y = false := by simpa using hI
                      rw [hI'] at HIS
                      clear hI hI'
                      have dy := DY.out
                      have f0 := hx.out.cell F0.out
                      have f1 := hx.out.cell F1.out
                      have f2 := hx.out.cell F2.out
                      first
                      | go_region_with (go_at_call 33; (with_reducible refine (HIS.out _).mono ?_); rintro e wx1 ⟨rfl, hy1⟩; have E1 := E0.trans hy1)
                      | fail
                      all_goals
                        go_wp2_with fail
                        go_meet
                        exact ⟨false, rfl, hid_ (fun h => by cases h), hid_ E1⟩
                  · have ib : decide ((j : Int) < (l2.length : Int)) = false := by simp; omega
                    have ib2 : decide (j < l2.length) = false := by simp; omega
                    clear hjl
                    go_quiet (fail)
                    go_wp2_with fail
                    go_meet
                    exact ⟨false, rfl, hid_ (fun h => by cases h), hid_ ((Ex.refl _).drewN _)⟩
                case rest =>
                  obtain ⟨b, rfl, hb, hxc⟩ := hcut
                  go_upto_if 82 with fail
                  go_cut [9] from 57 to 124 (fun s9 wx => ∃ a : Int, s9 = .int .i64 a ∧ Hid (1 ≤ a ∧ a < ((pn ^ mn : Nat) : Int)) ∧ Hid (Ex wr wx))
                  case first =>
                    cases b with
                    | false =>
                      have H1Q := hid_ (show (1 : Int) ≤ 1 ∧ (1 : Int) < ((pn ^ mn : Nat) : Int) from by
                        have := one_lt_q HFS.out.p2 HFS.out.m1
                        omega)
                      go_wp2_with fail
                      go_meet
                      exact ⟨1, rfl, H1Q, hxc⟩
                    | true =>
                      obtain ⟨y, hy, hyr⟩ := hb.out rfl
                      have HYR := hid_ hyr
                      have hjl : j < l2.length := (List.getElem?_eq_some_iff.1 hy).1
                      obtain ⟨_, _, e1, _, _, h3⟩ := (H2.out.ex (EX3.out.trans (hx.out.trans hxc.out))).open
                      injection e1 with e1 e2 e3
                      subst e1 e3
                      obtain ⟨yb, yo, rfl, hyc⟩ := h3 (by omega)
                      have dy := hyc j y hy
                      have q2 := hxc.out.cell q2
                      have i2 : (j : Int) < (l2.length : Int) := by omega
                      clear hb hy hyr hyc h3
                      go_wp2_with fail
                      go_meet
                      exact ⟨y, rfl, HYR, hxc⟩
                  case rest =>
                  clear hb hxc
                  obtain ⟨a, rfl, har, hxc⟩ := hcut
                  have t0 := hxc.out.cell t0
                  have t2 := hxc.out.frz t1 t2
                  have t1 := hxc.out.cell t1
                  have hmr := hid_ (hmr.out.ex hxc.out)
                  have HD1 := hid_ (hxc.out.cell D1.out)
                  have HUZ := hid_ (HUZ.out.ex hxc.out)
                  have hx := hid_ (hx.out.trans hxc.out)
                  clear hxc q2
                  obtain ⟨uza, uzc, rfl, _, _, _⟩ := HUZ.out.open
                  have i1 : (j : Int) < (rows.length : Int) := by omega
                  have iN : (0 : Int) ≤ (N : Int) := by omega
                  go_wp2_with fail
                  have HADD := hid_ (show ∀ (w' : World) (zv : Value), ISl w' zv (il N fun _ => (0 : Int)) → Ex w3 w' → Ex wc w' → Calls Try.prog 34 #[.agg #[.int .i64 pn, .int .i64 mn, mv], zv, .int .i64 a, .slice uza r.length uzc] w' (fun e w'' => ∃ g, e = .returned (.slice (some ⟨g, 0, none⟩) N N) ∧ Own w'' w'.heap.size 3 g N (iv (atF pn mn ml (il N fun _ => (0 : Int)) a r)) ∧ Ex w' w'') from fun w' zv hz h h2 => by
                    have := rAddTo_any pn mn ml mv w' HFS.out (HMV.out.ex (EX3.out.trans h)) (il N fun _ => (0 : Int)) r zv _ hz (HUZ.out.ex h2) a (by rw [HRN.out, il_len]; omega) (by rw [il_len]; omega)
                    rw [il_len] at this
                    exact this)
                  have E0 : Ex wc wc.drew := (Ex.refl wc).drew
                  have G0 : Ex w3 wc.drew := hx.out.trans E0
                  go_region_held3 (fun w' => w'.cell? ⟨xb, 0, none⟩ = some (.int .i64 pn) ∧ w'.cell? ⟨xb, 1, none⟩ = some (.int .i64 mn) ∧ w'.cell? ⟨xb, 2, none⟩ = some mv ∧ w'.cell? ⟨xb + 1, 0, none⟩ = some (.int .i64 N) ∧ w'.cell? ⟨xb + 1, 1, none⟩ = some (.slice (some ⟨zb, zo, none⟩) rows.length zc) ∧ w'.cell? ⟨zb, zo + j, none⟩ = some (.slice uza r.length uzc))
                    (first | with_reducible exact ⟨G0.cell F0.out, G0.cell F1.out, G0.cell F2.out, G0.cell S3.out, G0.cell S4.out, E0.cell HD1.out⟩ | with_reducible exact ⟨G1.cell F0.out, G1.cell F1.out, G1.cell F2.out, G1.cell S3.out, G1.cell S4.out, E1.cell HD1.out⟩ | with_reducible exact ⟨G2.cell F0.out, G2.cell F1.out, G2.cell F2.out, G2.cell S3.out, G2.cell S4.out, E2.cell HD1.out⟩)
                    ((first
                      | (refine upon_make_arr 22 3 (.int .i64 0) 8 Try.underlying22 infoInt rfl N (by omega) (by unfold maxLen; omega) ?_; intro wm hownm hym; have E1 := E0.trans hym; have G1 := G0.trans hym; have HZM : ISl wm (.slice (some ⟨wc.heap.size, 0, none⟩) N N) (il N fun _ => (0 : Int)) := hownm.isl; go_simp)
                      | (go_at_call 34; (with_reducible refine (HADD.out _ _ HZM G1 E1).mono ?_); rintro e wx2 ⟨gg, rfl, hown, hy2⟩; have E2 := E1.trans hy2; have G2 := G1.trans hy2)))
                  have HSC := hid_ (atF_scl (ml := ml) HFS.out.p2 HRN.out har.out)
                  obtain ⟨F, hF⟩ : ∃ F, atF pn mn ml (il N fun _ => (0 : Int)) a r = F := ⟨_, rfl⟩
                  rw [hF] at hown HSC
                  have hlc := World.block_lt_of_cell? _ _ t1
                  dsimp only at hlc
                  have hsz1 := E1.size
                  have hsz2 := E2.size
                  have hl0 : wx2.ownsRow (tb + 1) 3 1 (.slice (some ⟨gg, 0, none⟩) N N) (il N F).length (ints (il N F)) := by
                    rw [il_len, ints_il]
                    exact ownsRow_mono hown (by omega)
                  have hal0 : Aprt (.slice (some ⟨gg, 0, none⟩) N N) cv := by
                    right
                    show some gg ≠ _
                    intro e
                    have h1 := hown.lt.1
                    have h2 := (hmr.out.cvo.lt gg e.symm).2
                    omega
                  have HMR := hid_ (hmr.out.ex E2)
                  have HL := hid_ hl0
                  have HAL := hid_ hal0
                  have HE2 := hid_ E2
                  have HG2 := hid_ G2
                  have t0 := E2.cell t0
                  have t2 := E2.frz t1 t2
                  have t1 := E2.cell t1
                  have HT0 := hid_ t0
                  have HT1 := hid_ t1
                  have HT2 := hid_ t2
                  clear hF hown hl0 hal0 hmr hlc hsz1 hsz2 E0 E1 E2 G0 G1 G2 HADD HZM hym hy2 hownm t0 t1 t2
                  go_upto_region 11 with fail
                  go_cut [112] from 57 to 124 (fun s wx => ∃ b : Bool, s = .bool b ∧ Hid (Ex wx2 wx))
                  case first =>
                    have q2 := HG2.out.cell Q2.out
                    by_cases hjl : j < l2.length
                    · obtain ⟨y, hy⟩ : ∃ y, l2[j]? = some y := ⟨_, List.getElem?_eq_getElem hjl⟩
                      obtain ⟨_, _, e1, _, _, h3⟩ := (H2.out.ex (EX3.out.trans HG2.out)).open
                      injection e1 with e1 e2 e3
                      subst e1 e3
                      obtain ⟨yb, yo, rfl, hyc⟩ := h3 (by omega)
                      have dy := hyc j y hy
                      have i2 : (j : Int) < (l2.length : Int) := by omega
                      clear hyc h3 hy
                      go_wp2_with fail
                      go_meet
                      exact ⟨_, rfl, hid_ (Ex.refl _)⟩
                    · have ib : decide ((j : Int) < (l2.length : Int)) = false := by simp; omega
                      have ib2 : decide (j < l2.length) = false := by simp; omega
                      clear hjl
                      go_wp2_with fail
                      go_meet
                      exact ⟨_, rfl, hid_ (Ex.refl _)⟩
                  case rest =>
                  obtain ⟨bb, rfl, hx3⟩ := hcut
                  have t0 := hx3.out.cell HT0.out
                  have t1 := hx3.out.cell HT1.out
                  have t2 := hx3.out.frz HT1.out HT2.out
                  have HMR := hid_ (HMR.out.ex hx3.out)
                  have HL := hid_ (ownsRow_ex HL.out hx3.out)
                  have HXX := hid_ (HG2.out.trans hx3.out)
                  clear HT0 HT1 HT2 hx3 HG2 HE2 hx
                  obtain ⟨ca, cc, hcv⟩ := own_shape HMR.out.cvo
                  subst hcv
                  have htl := World.block_lt_of_cell? _ _ t1
                  dsimp only at htl
                  have hne : some tb ≠ Value.ownBlock (.slice ca M.length cc) := fun e => by
                    have := (HMR.out.cvo.lt tb e.symm).1; omega
                  have HNE := hid_ hne
                  have HS := hid_ (show tb + 1 ≤ wc.heap.size from by omega)
                  have hm1 : M.length ≤ 256 := by omega
                  have HR2 := hid_ (List.mem_of_getElem? HR.out)
                  clear hne htl
                  cases bb with
                  | true =>
                    go_wp2_with (at_builtin; refine wpList_append1 _ rfl _ _ 25 rfl (tb + 1) 22 (.slice none 0 0) 1 24 Try.underlying25 infoIntsL rfl (by decide) _ M.length _ rfl HMR.out.cvo [.slice (some ⟨gg, 0, none⟩) N N] 22 _ rfl (by simp) rfl (by simp [Value.oneCell']) (by unfold maxLen; omega) (by omega) HS.out ?_)
                    intro v2 w2 happ
                    have HO := hid_ (HMR.out.app HL.out HAL.out happ)
                    have s1 := happ.cell t1 HNE.out
                    have s0 := happ.cell t0 HNE.out
                    have s2 := happ.frz t1 t2 HNE.out
                    have HE := hid_ (happ.ex HXX.out (by have := HTB0.out; omega))
                    obtain ⟨va, vc, hv2⟩ := own_shape happ.own
                    subst hv2
                    clear happ t0 t1 t2
                    have HP0 := hid_ (show (w2.setCell ⟨tb, 1, none⟩ (.slice va (M.length + 1) vc)).cell? ⟨tb, 0, none⟩ = some (.int .i64 N) from by rw [cell_set_off (by omega)]; exact s0)
                    have HP1 := hid_ (show (w2.setCell ⟨tb, 1, none⟩ (.slice va (M.length + 1) vc)).cell? ⟨tb, 1, none⟩ = some (.slice va (M.length + 1) vc) from World.cell?_setCell_same (h := s1) ..)
                    have HP2 := hid_ (show (w2.setCell ⟨tb, 1, none⟩ (.slice va (M.length + 1) vc)).frozen? ⟨tb, 1, none⟩ = false from by rw [World.frozen?_setCell]; exact s2)
                    have HGR2 := hid_ (HO.out.setNe (a := ⟨tb, 1, none⟩) (by show tb < tb + 1; omega) (.slice va (M.length + 1) vc))
                    have HEE := hid_ (HE.out.setCell (p := ⟨tb, 1, none⟩) (by have := HTB0.out; show w3.heap.size ≤ tb; omega) (.slice va (M.length + 1) vc))
                    clear HO HE
                    go_wp2_with fail
                    go_roundw
                    case rel => exact ⟨j, _, M ++ [il N F], _, by omega, by go_num, by simp; omega, HP0.out, HP1.out, HP2.out, HGR2, HEE, hid_ (fun t ht => by
                      rcases List.mem_append.1 ht with ht | ht
                      · exact hfw.out t ht
                      · simp at ht; subst ht; exact ⟨r, HR2.out, HSC.out⟩), hid_ (fun i t hi ht => by
                      by_cases e : i = j
                      · subst e
                        rw [HR.out] at ht; injection ht with ht; subst ht
                        exact ⟨il N F, by simp, HSC.out⟩
                      · obtain ⟨u, hu, hs⟩ := hbw.out i t (by omega) ht
                        exact ⟨u, List.mem_append.2 (.inl hu), hs⟩)⟩
                    case measure => simp [intOf]
                  | false =>
                    have HCS := hid_ (HMR.out.cvo)
                    have HB := hid_ (own_lit1 wc (.slice (some ⟨gg, 0, none⟩) N N) 22)
                    have HV1 := hid_ (show ∀ u ∈ vals, u.oneCell' = true from fun u hu => by
                      obtain ⟨i, hi, e⟩ := List.getElem_of_mem hu
                      obtain ⟨b, c, e2⟩ := own_shape (HMR.out.row i (M[i]'(by have := HMR.out.len; omega)) u (List.getElem?_eq_getElem _) (by rw [List.getElem?_eq_getElem hi, e]))
                      rw [e2]; rfl)
                    have eL : Ex wc (wc.alloc (.cells #[.slice (some ⟨gg, 0, none⟩) N N] 22)) := (Ex.refl wc).alloc _
                    have r0 := eL.cell t0
                    have r2 := eL.frz t1 t2
                    have r1 := eL.cell t1
                    have HEL := hid_ (HXX.out.trans eL)
                    have HSL := hid_ ((Sl.own HMR.out.cvo).ex eL)
                    clear eL
                    go_wp2_with (at_builtin; refine wpList_append_sl _ rfl _ _ 25 rfl wc.heap.size 22 (.slice none 0 0) 1 24 Try.underlying25 infoIntsL rfl (by decide) _ 1 _ rfl HB.out (.slice ca M.length cc) M.length vals rfl HSL.out HV1.out (by unfold maxLen; omega) (by omega) (by simp) ?_)
                    intro v2 w2 hown2 hgr2 hat2
                    have hlt := World.block_lt_of_cell? _ _ t1
                    dsimp only at hlt
                    have hne2 : some tb ≠ Value.ownBlock (.slice (some ⟨wc.heap.size, 0, none⟩) 1 1) := fun e => by
                      have e : some tb = some wc.heap.size := e
                      injection e with e; omega
                    have s0 := hgr2.cell r0 hne2
                    have s1 := hgr2.cell r1 hne2
                    have s2 : w2.frozen? ⟨tb, 1, none⟩ = false := by rw [grown_frz hgr2 (by show tb < _; simp; omega) hne2]; exact r2
                    have HO := hid_ (HMR.out.pre HL.out HS.out hown2 hgr2 (by
                      rcases hat2 with h | h
                      · exact .inl h
                      · exact .inr (by rw [h])))
                    have HE := hid_ (Ex.grown HEL.out HB.out (by have := HXX.out.size; omega) hgr2)
                    obtain ⟨va, vc, hv2⟩ := own_shape hown2
                    subst hv2
                    clear hown2 hgr2 hat2 hne2 hlt t0 t1 t2 r0 r1 r2
                    have HP0 := hid_ (show (w2.setCell ⟨tb, 1, none⟩ (.slice va (1 + M.length) vc)).cell? ⟨tb, 0, none⟩ = some (.int .i64 N) from by rw [cell_set_off (by omega)]; exact s0)
                    have HP1 := hid_ (show (w2.setCell ⟨tb, 1, none⟩ (.slice va (1 + M.length) vc)).cell? ⟨tb, 1, none⟩ = some (.slice va (1 + M.length) vc) from World.cell?_setCell_same (h := s1) ..)
                    have HP2 := hid_ (show (w2.setCell ⟨tb, 1, none⟩ (.slice va (1 + M.length) vc)).frozen? ⟨tb, 1, none⟩ = false from by rw [World.frozen?_setCell]; exact s2)
                    have HGR2 := hid_ (HO.out.setNe (a := ⟨tb, 1, none⟩) (by show tb < tb + 1; omega) (.slice va (1 + M.length) vc))
                    have HEE := hid_ (HE.out.setCell (p := ⟨tb, 1, none⟩) (by have := HTB0.out; show w3.heap.size ≤ tb; omega) (.slice va (1 + M.length) vc))
                    clear HO HE HEL HSL HB HCS
                    go_wp2_with fail
                    go_roundw
                    case rel => exact ⟨j, _, [il N F] ++ M, _, by omega, by go_num, by simp; omega, HP0.out, HP1.out, HP2.out, HGR2, HEE, hid_ (fun t ht => by
                      rcases List.mem_append.1 ht with ht | ht
                      · simp at ht; subst ht; exact ⟨r, HR2.out, HSC.out⟩
                      · exact hfw.out t ht), hid_ (fun i t hi ht => by
                      by_cases e : i = j
                      · subst e
                        rw [HR.out] at ht; injection ht with ht; subst ht
                        exact ⟨il N F, by simp, HSC.out⟩
                      · obtain ⟨u, hu, hs⟩ := hbw.out i t (by omega) ht
                        exact ⟨u, List.mem_append.2 (.inr hu), hs⟩)⟩
                    case measure => simp [intOf]
          · have hzb : (ec != 0) = true := by simpa using hz
            clear hz
            go_wp2_with (go_at_call 12; refine (awake_any _).mono ?_; rintro e w4 ⟨rfl, hx4⟩)
            go_ret
            exact ⟨rfl, EX.out.trans hx4⟩
end Go.Proofs.Ytpphaicbdeeacaa
