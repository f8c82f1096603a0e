/- Walk of peel.Greatest. -/
import Derived.Test.YtpphaicbdeeacaaPeelD
namespace Go.Proofs.Ytpphaicbdeeacaa
set_option linter.unusedVariables false
set_option linter.unusedSimpArgs false
open Go.RowKit

/-- The set f, peeled as long as some check has exactly one member, is f'. -/
inductive Peels (rows : List (List Int)) : (Nat → Bool) → (Nat → Bool) → Prop
  | done (f : Nat → Bool) : aloneI f rows < 0 → Peels rows f f
  | step (f f' : Nat → Bool) : 0 ≤ aloneI f rows → Peels rows (upd f (aloneI f rows).toNat false) f' → Peels rows f f'

theorem Peels.unique {rows : List (List Int)} {f f1 f2 : Nat → Bool} (h : Peels rows f f1) (k : Peels rows f f2) : f1 = f2 := by
  induction h generalizing f2 with
  | done f h => cases k with
    | done _ _ => rfl
    | step _ _ h' _ => omega
  | step f f' h _ ih => cases k with
    | done _ h' => omega
    | step _ _ _ k => exact ih k

theorem aloneI_some {f : Nat → Bool} {rows : List (List Int)} (h : 0 ≤ aloneI f rows) : aloneS f rows = some (aloneI f rows) := by
  unfold aloneI at *
  cases e : aloneS f rows with
  | none => rw [e] at h; simp at h
  | some x => rfl
theorem alone1_some {f : Nat → Bool} {r : List Int} {x : Int} (h : alone1 f r = some x) : inn f r = [x] := by
  unfold alone1 at h
  split at h
  · rename_i y e; injection h with h; rw [e, h]
  · cases h
theorem aloneI_mem {N : Nat} {f : Nat → Bool} {rows : List (List Int)} (hr : RowsIn N rows) (h : 0 ≤ aloneI f rows) : aloneI f rows < N ∧ f (aloneI f rows).toNat = true := by
  have h1 := aloneI_some h
  generalize aloneI f rows = x at *
  obtain ⟨r, hr1, hr2⟩ := List.exists_of_findSome?_eq_some h1
  have h2 := alone1_some hr2
  have h3 : x ∈ inn f r := by rw [h2]; simp
  unfold inn at h3
  obtain ⟨h4, h5⟩ := List.mem_filter.1 h3
  obtain ⟨i, hi, e1⟩ := List.getElem_of_mem hr1
  obtain ⟨k, hk, e2⟩ := List.getElem_of_mem h4
  exact ⟨(hr i r k x (by rw [List.getElem?_eq_getElem hi, e1]) (by rw [List.getElem?_eq_getElem hk, e2])).2, h5⟩

theorem lft_congr {f h : Nat → Bool} : ∀ (N : Nat), (∀ j, j < N → f j = h j) → lft N f = lft N h
  | 0, _ => rfl
  | N + 1, e => by rw [lft_snoc, lft_snoc, lft_congr N fun j hj => e j (by omega), e N (by omega)]
theorem lft_upd {f : Nat → Bool} {x : Nat} (hf : f x = true) : ∀ (N : Nat), x < N → (lft N (upd f x false)).length + 1 = (lft N f).length
  | 0, h => by omega
  | N + 1, h => by
    rw [lft_snoc, lft_snoc]
    by_cases e : x = N
    · subst e
      rw [lft_congr x (fun j hj => upd_ne f false (by omega)), upd_same, hf]
      simp
    · have ih := lft_upd hf N (by omega)
      rw [upd_ne f false (by omega)]
      rw [List.length_append, List.length_append]
      omega

/-- What Greatest hands back. -/
def GreL (V : Int) (rows : List (List Int)) (l L : List Int) : Prop := (setsE V rows l ≠ 0 → L = []) ∧ (setsE V rows l = 0 → ∃ f, Peels rows (mkm l) f ∧ L = lft V.toNat f)

theorem isl_nil (w : World) : ISl w (.slice none 0 0) [] := Sl.nil w 1
theorem ret_vi {k : IntKind} {u : Value} {c d : Int} (h' : c = d) : Ending.returned (.tuple #[u, .int k c]) = .returned (.tuple #[u, .int k d]) := by rw [h']

set_option maxRecDepth 100000 in
set_option maxHeartbeats 4000000 in
theorem Greatest_any (w : World) (V : Int) (rows : List (List Int)) (v : Value) (hv : MSl w v rows) (l : List Int) (lv : Value) (hl : ISl w lv l) :
    Calls Try.prog 24 #[.agg #[.int .i64 V, v], lv] w fun r w' => ∃ u L, r = .returned (.tuple #[u, .int .i64 (setsE V rows l)]) ∧ GreL V rows l L ∧ ISl w' u L ∧ Ex w w' := by
  obtain ⟨d0, d1, e0⟩ := boxT_facts w V v
  have HC := hid_ (pCheck_any _ V rows v (hv.ex e0))
  obtain ⟨za, zc, rfl, z1, z2, z3⟩ := (hv.ex e0).open
  have HV := hid_ hv
  have HL := hid_ hl
  clear hv z1 z2 z3 hl
  by_cases hk : pchkS V rows = 0
  · obtain ⟨N, rfl, hN1, hN2, hrl, hri, _⟩ := pchkS_ok hk
    have HK := hid_ hk
    rw [hk] at HC
    have HRI := hid_ hri
    clear hk hri
    have HS := hid_ (fun w' h => set_any w' l lv N h)
    obtain ⟨z, hz⟩ : ∃ z, risB N l = z := ⟨_, rfl⟩
    rw [hz] at HS
    cases z with
    | false =>
      obtain ⟨hb_, he_⟩ := stop_2 HK.out hz
      have HE := hid_ he_
      have HG := hid_ (show GreL N rows l [] from ⟨fun _ => rfl, fun h => by rw [he_] at h; cases h⟩)
      clear hz hb_ he_
      go_enter Try.func24, Try.ntmps24
      go_wp2_with fail
      generalize w.alloc (.cells #[.int .i64 N, .slice za rows.length zc] 31) = w1 at *
      refine HC.out.mono ?_
      rintro e w2 ⟨rfl, hx2⟩
      have r0 := hx2.cell d0
      have r1 := hx2.cell d1
      have HX := hid_ (e0.trans hx2)
      clear hx2 d0 d1 e0
      go_wp2_with fail
      refine (HS.out _ (HL.out.ex HX.out)).mono ?_
      rintro e w3 ⟨rfl, rfl⟩
      go_wp2_with fail
      go_ret2
      exact ⟨_, _, ret_vi HE.out.symm, HG.out, isl_nil _, HX.out⟩
    | true =>
      obtain ⟨hb_, he_⟩ := stop_3 HK.out hz
      have HE := hid_ he_
      have HG := hid_ (show ∀ f, Peels rows (mkm l) f → GreL N rows l (lft N f) from fun f h => ⟨fun h' => absurd he_ h', fun _ => ⟨f, h, by simp⟩⟩)
      clear hb_ he_
      have hlr := risB_rng hz
      have HM := hid_ (fun w' h => mask_any w' N (.slice za rows.length zc) lv l hN2 h hlr)
      have HA := hid_ (fun w' f iv_ h1 h2 => alone_any w' N N f rows (.slice za rows.length zc) iv_ h1 h2 HRI.out)
      have HLF := hid_ (fun w' f v h => left_any w' N v f hN2 h)
      clear hz hlr
      obtain ⟨xb, hxb⟩ : ∃ xb, w.heap.size = xb := ⟨_, rfl⟩
      rw [hxb] at d0 d1
      have HXB := hid_ hxb
      go_enter Try.func24, Try.ntmps24
      go_wp2_with fail
      try simp only [hxb]
      have HB1 := hid_ (show xb ≤ (w.alloc (.cells #[.int .i64 N, .slice za rows.length zc] 31)).heap.size by simp [hxb])
      clear hxb
      generalize w.alloc (.cells #[.int .i64 N, .slice za rows.length zc] 31) = w1 at *
      refine HC.out.mono ?_
      rintro e w2 ⟨rfl, hx2⟩
      have r0 := hx2.cell d0
      have r1 := hx2.cell d1
      have HX := hid_ (e0.trans hx2)
      clear hx2 d0 d1 e0
      go_wp2_with fail
      refine (HS.out _ (HL.out.ex HX.out)).mono ?_
      rintro e w3 ⟨rfl, rfl⟩
      go_wp2_with fail
      refine (HM.out _ (HL.out.ex HX.out)).mono ?_
      rintro e w4 ⟨g, rfl, ho, hx4⟩
      have ho4 := hid_ (ho.mono HX.out.size)
      have HX4 := hid_ (HX.out.trans hx4)
      have s0 := hx4.cell r0
      have s1 := hx4.cell r1
      have HGX := hid_ (show xb < g by
        have h1 := World.block_lt_of_cell? _ _ r0
        have h2 := ho.lt.1
        dsimp only at h1
        omega)
      clear ho hx4 r0 r1
      go_wp2_with fail
      refine (HA.out _ (mkm l) _ (HV.out.ex HX4.out) ho4.out.sl).mono ?_
      rintro e w5 ⟨rfl, hx5⟩
      have HO5 := hid_ (ho4.out.ex hx5)
      have HX5 := hid_ (HX4.out.trans hx5)
      have t0 := hx5.cell s0
      have t1 := hx5.cell s1
      clear hx5 s0 s1 ho4 HX4 HX
      go_wp2_with fail
      go_loopg [8] N (fun gk i' wr => ∃ f : Nat → Bool, (lft N f).length ≤ gk ∧ i' = .int .i64 (aloneI f rows) ∧ Hid (Own wr w.heap.size 4 g N (bv f)) ∧ Hid (∀ f', Peels rows f f' → Peels rows (mkm l) f') ∧ Ex w wr ∧ wr.cell? ⟨xb, 0, none⟩ = some (.int .i64 N) ∧ wr.cell? ⟨xb, 1, none⟩ = some (.slice za rows.length zc))
      case atStart => exact ⟨mkm l, lft_len _ _, rfl, HO5, hid_ (fun _ h => h), HX5.out, t0, t1⟩
      case round =>
        clear HO5 HX5 t0 t1
        obtain ⟨f, hcnt, rfl, hown, hpe, hx, r0, r1⟩ := hrel
        by_cases hge : 0 ≤ aloneI f rows
        · obtain ⟨hlt, hfx⟩ := aloneI_mem HRI.out hge
          have HST := hid_ (fun f' h => hpe.out f' (Peels.step f f' hge h))
          obtain ⟨X, hX⟩ : ∃ X : Nat, aloneI f rows = X := ⟨(aloneI f rows).toNat, by omega⟩
          rw [hX] at HST hlt hfx hge ⊢
          simp only [Int.toNat_natCast] at HST hfx
          have hXN : X < N := by omega
          have hcnt2 := lft_upd hfx N hXN
          have hf := hown.out.frz X
          have hcc := hown.out.cell hXN
          have HO := hid_ (hown.out.set X (.bool false))
          rw [bv_upd] at HO
          have HE2 := hid_ (hown.out.exSet (Nat.le_refl _) hx X (.bool false))
          have HA2 := hid_ (HA.out _ (upd f X false) _ (HV.out.ex HE2.out) HO.out.sl)
          have q0 : (wr.setCell ⟨g, X, none⟩ (.bool false)).cell? ⟨xb, 0, none⟩ = some (.int .i64 N) := by rw [World.cell?_setCell_other _ _ _ _ (by intro e; injection e; have := HGX.out; omega)]; exact r0
          have q1 : (wr.setCell ⟨g, X, none⟩ (.bool false)).cell? ⟨xb, 1, none⟩ = some (.slice za rows.length zc) := by rw [World.cell?_setCell_other _ _ _ _ (by intro e; injection e; have := HGX.out; omega)]; exact r1
          clear hX hfx hown hpe hx r0 r1
          generalize upd f X false = f1 at *
          go_wp2_with fail
          refine HA2.out.mono ?_
          rintro e w6 ⟨rfl, hx6⟩
          have HO6 := hid_ (HO.out.ex hx6)
          have p0 := hx6.cell q0
          have p1 := hx6.cell q1
          have HX6 := hid_ (HE2.out.trans hx6)
          clear HO HA2 HE2 q0 q1 hx6 hcc hf
          go_wp2_with fail
          go_roundg ((lft N f1).length)
          case rel => exact ⟨f1, by omega, rfl, HO6, HST, HX6.out, p0, p1⟩
          case measure => omega
        · have HD := hid_ (HG.out f (hpe.out f (Peels.done f (by omega))))
          have HLF2 := hid_ (HLF.out _ f _ hown.out.sl)
          have hge' : aloneI f rows < 0 := by omega
          clear hpe hge r0 r1 hown
          go_wp2_with fail
          refine HLF2.out.mono ?_
          rintro e w6 ⟨u, rfl, hu, hx6⟩
          go_wp2_with fail
          go_ret2
          exact ⟨_, _, ret_vi HE.out.symm, HD.out, hu, hx.trans hx6⟩
  · obtain ⟨hb_, he_⟩ := stop_1 (l := l) hk
    have HE := hid_ he_
    have HG := hid_ (show GreL V rows l [] from ⟨fun _ => rfl, fun h => absurd (he_ ▸ h) hk⟩)
    have hz := pchkS_rng V rows
    obtain ⟨z, hzz⟩ : ∃ z, pchkS V rows = z := ⟨_, rfl⟩
    rw [hzz] at HC HE hk hz
    have hb : (z != 0) = true := by simpa using hk
    clear hb_ he_ hzz hk
    go_enter Try.func24, Try.ntmps24
    go_wp2_with fail
    generalize w.alloc (.cells #[.int .i64 V, .slice za rows.length zc] 31) = w1 at *
    refine HC.out.mono ?_
    rintro e w2 ⟨rfl, hx2⟩
    go_wp2_with fail
    go_ret2
    exact ⟨_, _, ret_vi HE.out.symm, HG.out, isl_nil _, e0.trans hx2⟩
end Go.Proofs.Ytpphaicbdeeacaa
