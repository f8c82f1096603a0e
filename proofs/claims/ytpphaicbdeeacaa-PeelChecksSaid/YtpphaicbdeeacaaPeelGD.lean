/- Walks of the reference's Stops, sets, Stopping, Core and Greatest. -/
import Derived.Test.YtpphaicbdeeacaaPeelDC
namespace Go.Proofs.Ytpphaicbdeeacaa
set_option linter.unusedVariables false
set_option linter.unusedSimpArgs false
open Go.RowKit

def stopsB (rows : List (List Int)) (l : List Int) : Bool := rows.all fun r => (shI r l).length != 1
theorem stopsB_lft {N : Nat} {rows : List (List Int)} (hr : RowsIn N rows) (f : Nat → Bool) : stopsB rows (lft N f) = decide (aloneI f rows < 0) := by
  have hin : ∀ r ∈ rows, ∀ y ∈ r, 0 ≤ y ∧ y < N := fun r hrr y hy => by
    obtain ⟨i, hi, e1⟩ := List.getElem_of_mem hrr
    obtain ⟨k, hk, e2⟩ := List.getElem_of_mem hy
    exact hr i r k y (by rw [List.getElem?_eq_getElem hi, e1]) (by rw [List.getElem?_eq_getElem hk, e2])
  rw [Bool.eq_iff_iff, decide_eq_true_iff, stops_iff hr]
  unfold stopsB
  rw [List.all_eq_true]
  constructor
  · intro h r hrr
    have := h r hrr
    rw [shI_lft f (hin r hrr)] at this
    exact alone1_not (by simpa using this)
  · intro h r hrr
    rw [shI_lft f (hin r hrr)]
    have := h r hrr
    simp only [bne_iff_ne, ne_eq]
    intro h1
    rw [alone1_one h1] at this
    cases this
theorem stopsB_at {rows : List (List Int)} {l : List Int} (h : ∀ (k : Nat) (r : List Int), k < rows.length → rows[k]? = some r → (shI r l).length ≠ 1) : stopsB rows l = true := by
  unfold stopsB
  rw [List.all_eq_true]
  intro r hr
  obtain ⟨k, hk, e⟩ := List.getElem_of_mem hr
  have := h k r hk (by rw [List.getElem?_eq_getElem hk, e])
  simpa using this
theorem stopsB_no {rows : List (List Int)} {l r : List Int} {k : Nat} (hr : rows[k]? = some r) (h : (shI r l).length = 1) : stopsB rows l = false := by
  unfold stopsB
  rw [List.all_eq_false]
  exact ⟨r, List.mem_of_getElem? hr, by simp [h]⟩

set_option maxRecDepth 100000 in
set_option maxHeartbeats 4000000 in
theorem Stops_any (w : World) (V : Int) (v lv : Value) (rows : List (List Int)) (l : List Int) (hv : MSl w v rows) (hl : ISl w lv l) (h64 : ∀ (j : Nat) (r : List Int), rows[j]? = some r → r.length ≤ 1000) (hl64 : l.length ≤ 1000) :
    Calls Try.prog 52 #[.agg #[.int .i64 V, v], lv] w fun r w' => r = .returned (.bool (stopsB rows l)) ∧ Ex w w' := by
  obtain ⟨d0, d1, e0⟩ := boxT_facts w V v
  have HV := hid_ (hv.ex e0)
  have HL := hid_ (hl.ex e0)
  obtain ⟨za, zc, rfl, z1, z2, _⟩ := hv.open
  obtain ⟨la, lc, rfl, _, _, _⟩ := hl.open
  unfold maxLen at z2
  have H64 := hid_ h64
  clear hv hl h64
  go_enter Try.func52, Try.ntmps52
  go_wp2_with fail
  obtain ⟨xb, hxb⟩ : ∃ xb, w.heap.size = xb := ⟨_, rfl⟩
  rw [hxb] at d0 d1
  try simp only [hxb]
  clear hxb
  generalize w.alloc (.cells #[.int .i64 V, .slice za rows.length zc] 31) = w0 at *
  have D1 := hid_ d1
  have E0 := hid_ e0
  have HX := hid_ (Ex.refl w0)
  clear e0 d0 d1
  go_loopw [5] (fun i' wr => ∃ i : Nat, i ≤ rows.length ∧ i' = .int .i64 i ∧ Hid (Ex w0 wr) ∧ Hid (∀ (k : Nat) (r : List Int), k < i → rows[k]? = some r → (shI r l).length ≠ 1)) (fun i' _ => rows.length - (intOf i').toNat)
  case atStart => exact ⟨0, by omega, rfl, HX, hid_ (fun k r hk => by omega)⟩
  case round =>
    clear HX
    obtain ⟨i, hi, rfl, hx, hall⟩ := hrel
    have d1 := hx.out.cell D1.out
    by_cases hil : i < rows.length
    · obtain ⟨r, hr⟩ : ∃ r, rows[i]? = some r := ⟨_, List.getElem?_eq_getElem hil⟩
      obtain ⟨_, _, e1, _, _, h3⟩ := (HV.out.ex hx.out).open
      injection e1 with e1 e2 e3
      subst e1 e3
      obtain ⟨zb, zo, rfl, hzc⟩ := h3 (by omega)
      obtain ⟨uz, c1, huz⟩ := hzc i r hr
      have HCO := hid_ (common_any wr r l _ _ huz (HL.out.ex hx.out) (H64.out i r hr) hl64)
      obtain ⟨ua, uc, rfl, _, u2, _⟩ := huz.open
      unfold maxLen at u2
      have i1 : (0 : Int) ≤ (i : Int) := by omega
      have i2 : (i : Int) < (rows.length : Int) := by omega
      clear h3 hzc huz
      by_cases h1 : (shI r l).length = 1
      · have HNO := hid_ (stopsB_no hr h1)
        rw [h1] at HCO
        generalize lastI (shI r l) = la1 at *
        clear h1 hall hr
        go_wp2_with (go_at_call 72; refine HCO.out.mono ?_; rintro e w' ⟨rfl, qc, rfl⟩)
        go_ret
        exact ⟨ret_bool HNO.out.symm, E0.out.trans (hx.out.drewN qc)⟩
      · have HALL := hid_ (show ∀ (k : Nat) (s : List Int), k < i + 1 → rows[k]? = some s → (shI s l).length ≠ 1 from fun k s hk hs => by
          by_cases e : k = i
          · subst e; rw [hr] at hs; injection hs with hs; subst hs; exact h1
          · exact hall.out k s (by omega) hs)
        obtain ⟨n1, hn1⟩ : ∃ n1, (shI r l).length = n1 := ⟨_, rfl⟩
        rw [hn1] at HCO h1
        have hb1 : (((n1 : Nat) : Int) == 1) = false := by simp; omega
        generalize lastI (shI r l) = la1 at *
        clear hn1 h1 hall hr
        go_wp2_with (go_at_call 72; refine HCO.out.mono ?_; rintro e w' ⟨rfl, qc, rfl⟩)
        go_roundw
        case rel => exact ⟨i + 1, by omega, by go_num, hid_ (hx.out.drewN qc), HALL⟩
        case measure => simp [intOf]; omega
    · obtain rfl : rows.length = i := by omega
      have HYES := hid_ (stopsB_at hall.out)
      clear hall
      go_wp2_with fail
      go_ret
      exact ⟨ret_bool HYES.out.symm, E0.out.trans hx.out⟩

set_option maxRecDepth 100000 in
set_option maxHeartbeats 4000000 in
theorem rSets_any (w : World) (V : Int) (v lv : Value) (rows : List (List Int)) (l : List Int) (hv : MSl w v rows) (hl : ISl w lv l) :
    Calls Try.prog 51 #[.agg #[.int .i64 V, v], lv] w fun r w' => r = .returned (.int .i64 (setsE V rows l)) ∧ Ex w w' := by
  obtain ⟨d0, d1, e0⟩ := boxT_facts w V v
  have HV := hid_ (hv.ex e0)
  have HL := hid_ (hl.ex e0)
  obtain ⟨za, zc, rfl, z1, z2, _⟩ := hv.open
  obtain ⟨la, lc, rfl, _, _, _⟩ := hl.open
  have HE := hid_ (show setsE V rows l = if pchkS V rows = 0 then (if risB V l = true then 0 else 6) else pchkS V rows from rfl)
  clear hv hl
  go_enter Try.func51, Try.ntmps51
  go_wp2_with fail
  obtain ⟨xb, hxb⟩ : ∃ xb, w.heap.size = xb := ⟨_, rfl⟩
  rw [hxb] at d0 d1
  try simp only [hxb]
  clear hxb
  generalize w.alloc (.cells #[.int .i64 V, .slice za rows.length zc] 31) = w0 at *
  refine (rChkT_any w0 V rows _ HV.out).mono ?_
  rintro e w1 ⟨rfl, hx1⟩
  have d0 := hx1.cell d0
  have d1 := hx1.cell d1
  have HX := hid_ (e0.trans hx1)
  have HRI := hid_ (Rising_any w1 l _ V (HL.out.ex hx1))
  clear hx1 e0
  by_cases hk : pchkS V rows = 0
  · rw [hk]
    rw [if_pos hk] at HE
    clear hk
    cases hb : risB V l with
    | true =>
      rw [hb] at HRI HE
      rw [if_pos rfl] at HE
      clear hb
      go_wp2_with (go_at_call 37; refine HRI.out.mono ?_; rintro e w' ⟨rfl, qc, rfl⟩)
      go_ret
      exact ⟨ret_int HE.out.symm, HX.out.drewN qc⟩
    | false =>
      rw [hb] at HRI HE
      rw [if_neg (by simp)] at HE
      clear hb
      go_wp2_with (go_at_call 37; refine HRI.out.mono ?_; rintro e w' ⟨rfl, qc, rfl⟩)
      go_ret
      exact ⟨ret_int HE.out.symm, HX.out.drewN qc⟩
  · have hb : (pchkS V rows == 0) = false := by simpa using hk
    rw [if_neg hk] at HE
    clear hk
    go_wp2_with fail
    go_ret
    exact ⟨ret_int HE.out.symm, HX.out⟩
end Go.Proofs.Ytpphaicbdeeacaa
