/- Walk of peel.Smallest. -/
import Derived.Test.YtpphaicbdeeacaaPeelG
import Derived.Laws.EntriesVeiled
namespace Go.Proofs.Ytpphaicbdeeacaa
set_option linter.unusedVariables false
set_option linter.unusedSimpArgs false
open Go.RowKit

/-- The first nonempty stopping set found, by size. -/
def smR (N : Nat) (rows : List (List Int)) : Option (Nat → Bool) := loopS (fun s => srchS rows N s 0 fun _ => false) 1 N
def smallE (V : Int) (rows : List (List Int)) : Int := if pchkS V rows = 0 then (if 16 < V then 8 else match smR V.toNat rows with | some _ => 0 | none => 11) else pchkS V rows
def smallL (V : Int) (rows : List (List Int)) : List Int := if pchkS V rows = 0 then (if 16 < V then [] else match smR V.toNat rows with | some f => lft V.toNat f | none => []) else []

theorem small_1 {V : Int} {rows : List (List Int)} (h : pchkS V rows ≠ 0) : smallE V rows = pchkS V rows ∧ smallL V rows = [] := by
  unfold smallE smallL; rw [if_neg h, if_neg h]; exact ⟨rfl, rfl⟩
theorem small_2 {V : Int} {rows : List (List Int)} (h : pchkS V rows = 0) (h2 : 16 < V) : smallE V rows = 8 ∧ smallL V rows = [] := by
  unfold smallE smallL; rw [if_pos h, if_pos h, if_pos h2, if_pos h2]; exact ⟨rfl, rfl⟩
theorem small_3 {N : Nat} {rows : List (List Int)} (h : pchkS N rows = 0) (h2 : N ≤ 16) (h3 : smR N rows = none) : smallE N rows = 11 ∧ smallL N rows = [] := by
  unfold smallE smallL; rw [if_pos h, if_pos h, if_neg (by omega), if_neg (by omega), Int.toNat_natCast, h3]; exact ⟨rfl, rfl⟩
theorem small_4 {N : Nat} {rows : List (List Int)} {f : Nat → Bool} (h : pchkS N rows = 0) (h2 : N ≤ 16) (h3 : smR N rows = some f) : smallE N rows = 0 ∧ smallL N rows = lft N f := by
  unfold smallE smallL; rw [if_pos h, if_pos h, if_neg (by omega), if_neg (by omega), Int.toNat_natCast, h3]; exact ⟨rfl, rfl⟩

theorem shl_all : ∀ n : Fin 65, (n.val ≤ 16 → wrap64 ((2 : Int) ^ n.val) ≤ 65536) ∧ (16 < n.val → n.val ≤ 62 → 65536 < wrap64 ((2 : Int) ^ n.val)) ∧ (62 < n.val → wrap64 ((2 : Int) ^ n.val) ≤ 65536) := by decide +kernel

set_option maxRecDepth 100000 in
set_option maxHeartbeats 4000000 in
theorem Smallest_any (w : World) (V : Int) (rows : List (List Int)) (v : Value) (hv : MSl w v rows) :
    Calls Try.prog 26 #[.agg #[.int .i64 V, v]] w fun r w' => ∃ u, r = .returned (.tuple #[u, .int .i64 (smallE V rows)]) ∧ ISl w' u (smallL V rows) ∧ Ex w w' := by
  obtain ⟨d0, d1, e0⟩ := boxT_facts w V v
  have HC := hid_ (pCheck_any _ V rows v (hv.ex e0))
  obtain ⟨za, zc, rfl, z1, z2, z3⟩ := (hv.ex e0).open
  have HV := hid_ hv
  clear hv z1 z2 z3
  by_cases hk : pchkS V rows = 0
  · obtain ⟨N, rfl, hN1, hN2, hrl, hri, _⟩ := pchkS_ok hk
    have HK := hid_ hk
    rw [hk] at HC
    have HRI := hid_ hri
    clear hk hri
    obtain ⟨xb, hxb⟩ : ∃ xb, w.heap.size = xb := ⟨_, rfl⟩
    rw [hxb] at d0 d1
    have HXB := hid_ hxb
    obtain ⟨p1, p2, p3⟩ := shl_all ⟨N, by omega⟩
    dsimp only at p1 p2 p3
    by_cases h16 : N ≤ 16
    · have p1' := p1 h16
      clear p1 p2 p3
      go_enter Try.func26, Try.ntmps26
      go_wp2_with fail
      try simp only [hxb]
      clear hxb
      generalize w.alloc (.cells #[.int .i64 N, .slice za rows.length zc] 31) = w1 at *
      refine HC.out.mono ?_
      rintro e w2 ⟨rfl, hx2⟩
      have r0 := hx2.cell d0
      have r1 := hx2.cell d1
      have HX := hid_ (e0.trans hx2)
      clear hx2 d0 d1 e0
      obtain ⟨P, hP⟩ : ∃ P, wrap64 ((2 : Int) ^ N) = P := ⟨_, rfl⟩
      rw [hP] at p1'
      have b1 : decide (65536 < P) = false := by simpa using p1'
      have b2 : decide ((62 : Int) < (N : Int)) = false := by simp; omega
      go_wp2_with (at_make; refine wpList_make_arr _ rfl _ _ 73 rfl 4 (.bool false) 1 Try.underlying73 infoBool rfl _ N rfl rfl rfl (by omega) (by unfold maxLen; omega) ?_)
      intro w3 hown hx3
      have HP := hid_ hP
      clear hP
      go_wp2_with fail
      have hgl := hown.lt.2
      have HST : Hid (SmSt w ((w3.alloc (.cells #[.slice (some ⟨w2.heap.size, 0, none⟩) N N] 73)).alloc (.cells #[.func (.func 57) #[] #[.pointer (some ⟨xb, 0, none⟩), .pointer (some ⟨w3.heap.size, 0, none⟩), .pointer (some ⟨w3.heap.size + 1, 0, none⟩)]] 80))
          xb w3.heap.size (w3.heap.size + 1) w2.heap.size N (.slice za rows.length zc) (fun _ => false)) := by
        have hxw := World.block_lt_of_cell? _ _ r0
        dsimp only at hxw
        have ha : Ex w3 ((w3.alloc (.cells #[.slice (some ⟨w2.heap.size, 0, none⟩) N N] 73)).alloc (.cells #[.func (.func 57) #[] #[.pointer (some ⟨xb, 0, none⟩), .pointer (some ⟨w3.heap.size, 0, none⟩), .pointer (some ⟨w3.heap.size + 1, 0, none⟩)]] 80)) := ((Ex.refl _).alloc _).alloc _
        refine ⟨((hown.mono HX.out.size).congr (fun j _ => rfl)).ex ha, ha.cell (hx3.cell r0), ha.cell (hx3.cell r1), ?_, ?_, by omega, by omega, by omega, (HX.out.trans hx3).trans ha⟩
        · rw [World.cell?_alloc_lt _ _ _ (by simp)]; simp
        · have hs1 : (w3.alloc (.cells #[.slice (some ⟨w2.heap.size, 0, none⟩) N N] 73)).heap.size = w3.heap.size + 1 := by simp
          generalize w3.alloc (.cells #[.slice (some ⟨w2.heap.size, 0, none⟩) N N] 73) = w5 at *
          rw [← hs1]; simp
      generalize ((w3.alloc (.cells #[.slice (some ⟨w2.heap.size, 0, none⟩) N N] 73)).alloc (.cells #[.func (.func 57) #[] #[.pointer (some ⟨xb, 0, none⟩), .pointer (some ⟨w3.heap.size, 0, none⟩), .pointer (some ⟨w3.heap.size + 1, 0, none⟩)]] 80)) = w4 at *
      clear hown hx3 r0 r1 hgl HX
      obtain ⟨ib, hib⟩ : ∃ ib, w3.heap.size = ib := ⟨_, rfl⟩
      rw [hib] at HST
      simp only [hib]
      clear hib
      obtain ⟨fb, hfb⟩ : ∃ fb, ib + 1 = fb := ⟨_, rfl⟩
      rw [hfb] at HST
      simp only [hfb]
      clear hfb
      obtain ⟨g, hg⟩ : ∃ g, w2.heap.size = g := ⟨_, rfl⟩
      rw [hg] at HST
      simp only [hg]
      clear hg
      have HS1 := hid_ (fun s w' h1 h2 => Smallest1_any w xb ib fb g N rows _ hN2 HV.out HRI.out s 0 (fun _ => false) w' h1 (by omega) (fun _ _ => rfl) h2)
      have HLF := hid_ (fun w' f v h => left_any w' N v f hN2 h)
      have HSM := hid_ (show smR N rows = loopS (fun s => srchS rows N s 0 fun _ => false) 1 N from rfl)
      clear HC
      go_loopw [7] (fun s' wr => ∃ s : Nat, 1 ≤ s ∧ s ≤ N + 1 ∧ s' = .int .i64 s ∧ Hid (SmSt w wr xb ib fb g N (.slice za rows.length zc) (fun _ => false)) ∧ Hid (smR N rows = loopS (fun s => srchS rows N s 0 fun _ => false) s (N + 1 - s))) (fun s' _ => N + 1 - (intOf s').toNat)
      case atStart => exact ⟨1, by omega, by omega, rfl, HST, HSM⟩
      case round =>
        clear HST HSM
        obtain ⟨s, hs1, hs2, rfl, hst, hsm⟩ := hrel
        have r0 := hst.out.x0
        by_cases hlt : s ≤ N
        · have hlt' : (s : Int) ≤ (N : Int) := by omega
          have r1 := hst.out.f0
          have HCA := hid_ (HS1.out s _ (by omega) hst.out)
          clear hst
          cases hG : srchS rows N s 0 (fun _ => false) with
          | some f =>
            rw [hG] at HCA
            obtain ⟨he_, hb_⟩ := small_4 HK.out h16 (hsm.out.trans (loopS_some (k := N - s) hG (by omega)))
            have HE := hid_ he_
            have HG := hid_ hb_
            clear hG hsm he_ hb_
            go_wp2_with fail
            refine HCA.out.mono ?_
            rintro e w5 ⟨rfl, hs5⟩
            have q1 := hs5.i0
            have HO := hid_ hs5.own
            have HX5 := hid_ hs5.ex
            clear hs5 r0 r1
            go_wp2_with fail
            refine (HLF.out _ f _ HO.out.sl).mono ?_
            rintro e w6 ⟨u, rfl, hu, hx6⟩
            go_wp2_with fail
            go_ret2
            exact ⟨_, ret_vi HE.out.symm, by rw [HG.out]; exact hu, HX5.out.trans hx6⟩
          | none =>
            rw [hG] at HCA
            have HN := hid_ (hsm.out.trans (loopS_none (k := N + 1 - (s + 1)) hG (by omega)))
            clear hG hsm
            go_wp2_with fail
            refine HCA.out.mono ?_
            rintro e w5 ⟨rfl, hs5⟩
            have HS5 := hid_ hs5
            clear hs5 r0 r1
            go_wp2_with fail
            go_roundw
            case rel => exact ⟨s + 1, by omega, by omega, by go_num, HS5, HN⟩
            case measure => simp [intOf]; omega
        · obtain rfl : s = N + 1 := by omega
          obtain ⟨he_, hb_⟩ := small_3 HK.out h16 (by rw [hsm.out, Nat.sub_self]; rfl)
          have HE := hid_ he_
          have HG := hid_ hb_
          clear he_ hb_
          go_wp2_with fail
          go_ret2
          exact ⟨_, ret_vi HE.out.symm, by rw [HG.out]; exact isl_nil _, hst.out.ex⟩
    · obtain ⟨he_, hb_⟩ := small_2 HK.out (by omega)
      have HE := hid_ he_
      have HG := hid_ hb_
      clear he_ hb_ p1
      by_cases h62 : N ≤ 62
      · have p2' := p2 (by omega) h62
        clear p2 p3
        go_enter Try.func26, Try.ntmps26
        go_wp2_with fail
        try simp only [hxb]
        clear hxb
        generalize w.alloc (.cells #[.int .i64 N, .slice za rows.length zc] 31) = w1 at *
        refine HC.out.mono ?_
        rintro e w2 ⟨rfl, hx2⟩
        have r0 := hx2.cell d0
        have r1 := hx2.cell d1
        obtain ⟨P, hP⟩ : ∃ P, wrap64 ((2 : Int) ^ N) = P := ⟨_, rfl⟩
        rw [hP] at p2'
        go_wp2_with fail
        go_ret2
        exact ⟨_, ret_vi HE.out.symm, by rw [HG.out]; exact isl_nil _, e0.trans hx2⟩
      · have p3' := p3 (by omega)
        clear p2 p3
        go_enter Try.func26, Try.ntmps26
        go_wp2_with fail
        try simp only [hxb]
        clear hxb
        generalize w.alloc (.cells #[.int .i64 N, .slice za rows.length zc] 31) = w1 at *
        refine HC.out.mono ?_
        rintro e w2 ⟨rfl, hx2⟩
        have r0 := hx2.cell d0
        have r1 := hx2.cell d1
        obtain ⟨P, hP⟩ : ∃ P, wrap64 ((2 : Int) ^ N) = P := ⟨_, rfl⟩
        rw [hP] at p3'
        have h62' : (62 : Int) < N := by omega
        go_wp2_with fail
        go_ret2
        exact ⟨_, ret_vi HE.out.symm, by rw [HG.out]; exact isl_nil _, e0.trans hx2⟩
  · obtain ⟨he_, hb_⟩ := small_1 hk
    have HE := hid_ he_
    have HG := hid_ hb_
    have hz := pchkS_rng V rows
    obtain ⟨z, hzz⟩ : ∃ z, pchkS V rows = z := ⟨_, rfl⟩
    rw [hzz] at HC HE hk hz
    have hb : (z != 0) = true := by simpa using hk
    clear hb_ he_ hzz hk
    go_enter Try.func26, Try.ntmps26
    go_wp2_with fail
    generalize w.alloc (.cells #[.int .i64 V, .slice za rows.length zc] 31) = w1 at *
    refine HC.out.mono ?_
    rintro e w2 ⟨rfl, hx2⟩
    go_wp2_with fail
    go_ret2
    exact ⟨_, ret_vi HE.out.symm, by rw [HG.out]; exact isl_nil _, e0.trans hx2⟩
end Go.Proofs.Ytpphaicbdeeacaa
