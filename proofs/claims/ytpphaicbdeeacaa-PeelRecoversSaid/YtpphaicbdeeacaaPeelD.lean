/- Walks of the package peel: Stopping, Greatest. -/
import Derived.Test.YtpphaicbdeeacaaPeelC
import Derived.Deep.RegionHeld3
namespace Go.Proofs.Ytpphaicbdeeacaa
set_option linter.unusedVariables false
set_option linter.unusedSimpArgs false
open Go.RowKit

theorem risAt_rng {n : Int} {l : List Int} {i : Nat} {x : Int} (h : risAt n l i = true) (hx : l[i]? = some x) : 0 ≤ x ∧ x < n := by
  unfold risAt at h
  rw [List.getD_eq_getElem?_getD, hx] at h
  simp at h
  omega
theorem risB_rng {n : Int} {l : List Int} (h : risB n l = true) (k : Nat) (x : Int) (hx : l[k]? = some x) : 0 ≤ x ∧ x < n :=
  risAt_rng (risB_at h (List.getElem?_eq_some_iff.1 hx).1) hx
theorem pchkS_ok {V : Int} {rows : List (List Int)} (h : pchkS V rows = 0) : ∃ N : Nat, V = N ∧ 1 ≤ N ∧ N ≤ 64 ∧ rows.length ≤ 256 ∧ RowsIn N rows ∧ ∀ r ∈ rows, risB V r = true := by
  unfold pchkS at h
  split at h
  · cases h
  · rename_i h1
    split at h
    · cases h
    · rename_i h2
      split at h
      · rename_i h3
        refine ⟨V.toNat, by omega, by omega, by omega, by omega, ?_, fun r hr => List.all_eq_true.1 h3 r hr⟩
        intro i r k x hr hx
        have := risB_rng (List.all_eq_true.1 h3 r (List.mem_of_getElem? hr)) k x hx
        omega
      · cases h
theorem pchkS_rng (V : Int) (rows : List (List Int)) : 0 ≤ pchkS V rows ∧ pchkS V rows ≤ 8 := by
  unfold pchkS
  split
  · omega
  · split
    · omega
    · split <;> omega

/-- What Stopping says. -/
def stopB (V : Int) (rows : List (List Int)) (l : List Int) : Bool := if pchkS V rows = 0 then (if risB V l = true then decide (aloneI (mkm l) rows < 0) else false) else false
def setsE (V : Int) (rows : List (List Int)) (l : List Int) : Int := if pchkS V rows = 0 then (if risB V l = true then 0 else 6) else pchkS V rows

theorem stop_1 {V : Int} {rows : List (List Int)} {l : List Int} (h : pchkS V rows ≠ 0) : stopB V rows l = false ∧ setsE V rows l = pchkS V rows := by
  unfold stopB setsE
  rw [if_neg h, if_neg h]; exact ⟨rfl, rfl⟩
theorem stop_2 {V : Int} {rows : List (List Int)} {l : List Int} (h : pchkS V rows = 0) (h2 : risB V l = false) : stopB V rows l = false ∧ setsE V rows l = 6 := by
  unfold stopB setsE
  rw [if_pos h, if_pos h, h2]; exact ⟨rfl, rfl⟩
theorem stop_3 {V : Int} {rows : List (List Int)} {l : List Int} (h : pchkS V rows = 0) (h2 : risB V l = true) : stopB V rows l = decide (aloneI (mkm l) rows < 0) ∧ setsE V rows l = 0 := by
  unfold stopB setsE
  rw [if_pos h, if_pos h, h2]; exact ⟨rfl, rfl⟩
theorem ret_bi {k : IntKind} {a b : Bool} {c d : Int} (h : a = b) (h' : c = d) : Ending.returned (.tuple #[.bool a, .int k c]) = .returned (.tuple #[.bool b, .int k d]) := by rw [h, h']

set_option maxRecDepth 100000 in
set_option maxHeartbeats 2000000 in
theorem Stopping_any (w : World) (V : Int) (rows : List (List Int)) (v : Value) (hv : MSl w v rows) (l : List Int) (lv : Value) (hl : ISl w lv l) :
    Calls Try.prog 20 #[.agg #[.int .i64 V, v], lv] w fun r w' => r = .returned (.tuple #[.bool (stopB V rows l), .int .i64 (setsE V rows l)]) ∧ Ex w w' := by
  obtain ⟨d0, d1, e0⟩ := boxT_facts w V v
  have HC := hid_ (pCheck_any _ V rows v (hv.ex e0))
  obtain ⟨za, zc, rfl, z1, z2, z3⟩ := (hv.ex e0).open
  have HV := hid_ hv
  have HL := hid_ hl
  clear hv z1 z2 z3 hl
  by_cases hk : pchkS V rows = 0
  · obtain ⟨N, rfl, hN1, hN2, hrl, hri, _⟩ := pchkS_ok hk
    have HK := hid_ hk
    rw [hk] at HC
    have HRI := hid_ hri
    clear hk hri
    have HS := hid_ (fun w' h => set_any w' l lv N h)
    obtain ⟨z, hz⟩ : ∃ z, risB N l = z := ⟨_, rfl⟩
    rw [hz] at HS
    cases z with
    | false =>
      obtain ⟨hb_, he_⟩ := stop_2 HK.out hz
      have HB := hid_ hb_
      have HE := hid_ he_
      clear hz hb_ he_
      go_enter Try.func20, Try.ntmps20
      go_wp2_with fail
      generalize w.alloc (.cells #[.int .i64 N, .slice za rows.length zc] 31) = w1 at *
      refine HC.out.mono ?_
      rintro e w2 ⟨rfl, hx2⟩
      have r0 := hx2.cell d0
      have r1 := hx2.cell d1
      have HX := hid_ (e0.trans hx2)
      clear hx2 d0 d1 e0
      go_wp2_with fail
      refine (HS.out _ (HL.out.ex HX.out)).mono ?_
      rintro e w3 ⟨rfl, rfl⟩
      go_wp2_with fail
      go_ret2
      exact ⟨ret_bi HB.out.symm HE.out.symm, HX.out⟩
    | true =>
      obtain ⟨hb_, he_⟩ := stop_3 HK.out hz
      have HB := hid_ hb_
      have HE := hid_ he_
      clear hb_ he_
      have hlr := risB_rng hz
      have HM := hid_ (fun w' h => mask_any w' N (.slice za rows.length zc) lv l hN2 h hlr)
      have HA := hid_ (fun w' iv_ h1 h2 => alone_any w' N N (mkm l) rows (.slice za rows.length zc) iv_ h1 h2 HRI.out)
      obtain ⟨y, hy⟩ : ∃ y, aloneI (mkm l) rows = y := ⟨_, rfl⟩
      rw [hy] at HA HB
      clear hz hlr hy
      obtain ⟨xb, hxb⟩ : ∃ xb, w.heap.size = xb := ⟨_, rfl⟩
      rw [hxb] at d0 d1
      have HXB := hid_ hxb
      go_enter Try.func20, Try.ntmps20
      go_wp2_with fail
      try simp only [hxb]
      clear hxb
      generalize w.alloc (.cells #[.int .i64 N, .slice za rows.length zc] 31) = w1 at *
      refine HC.out.mono ?_
      rintro e w2 ⟨rfl, hx2⟩
      have r0 := hx2.cell d0
      have r1 := hx2.cell d1
      have HX := hid_ (e0.trans hx2)
      clear hx2 d0 d1 e0
      go_wp2_with fail
      refine (HS.out _ (HL.out.ex HX.out)).mono ?_
      rintro e w3 ⟨rfl, rfl⟩
      go_wp2_with fail
      go_region_held3 (fun w' => w'.cell? ⟨xb, 0, none⟩ = some (.int .i64 N) ∧ w'.cell? ⟨xb, 1, none⟩ = some (.slice za rows.length zc) ∧ Ex w w')
        (first | exact ⟨r0, r1, HX.out.drew⟩ | exact ⟨hxm.cell r0, hxm.cell r1, HX.out.drew.trans hxm⟩ | exact ⟨hxa.cell (hxm.cell r0), hxa.cell (hxm.cell r1), (HX.out.drew.trans hxm).trans hxa⟩)
        ((first
          | (go_at_call 50; refine (HM.out _ (HL.out.ex HX.out.drew)).mono ?_; rintro e w4 ⟨g, rfl, ho, hxm⟩)
          | (go_at_call 49; refine (HA.out _ _ (HV.out.ex (HX.out.drew.trans hxm)) ho.sl).mono ?_; rintro e w5 ⟨rfl, hxa⟩)))
      go_wp2_with fail
      go_ret2
      exact ⟨ret_bi HB.out.symm HE.out.symm, (HX.out.drew.trans hxm).trans hxa⟩
  · obtain ⟨hb_, he_⟩ := stop_1 (l := l) hk
    have HB := hid_ hb_
    have HE := hid_ he_
    have hz := pchkS_rng V rows
    obtain ⟨z, hzz⟩ : ∃ z, pchkS V rows = z := ⟨_, rfl⟩
    rw [hzz] at HC HE hk hz
    have hb : (z != 0) = true := by simpa using hk
    clear hb_ he_ hzz hk
    go_enter Try.func20, Try.ntmps20
    go_wp2_with fail
    generalize w.alloc (.cells #[.int .i64 V, .slice za rows.length zc] 31) = w1 at *
    refine HC.out.mono ?_
    rintro e w2 ⟨rfl, hx2⟩
    go_wp2_with fail
    go_ret2
    exact ⟨ret_bi HB.out.symm HE.out.symm, e0.trans hx2⟩
end Go.Proofs.Ytpphaicbdeeacaa
