/- Walks of the field's Pow, Field, Sub, Order, of tower.prime and tower.Frobenius. -/
/- Walks of elimination's closures: adding a multiple of a row; each. -/
import Derived.Test.YtgdmlmhpineibaaGreatZb12
import Derived.Test.YtgdmlmhpineibaaGreatZb13
import Derived.Test.YtgdmlmhpineibaaGreatZb16
namespace Go.Proofs.YtgdmlmhpineibaaGreat
set_option linter.unusedVariables false
set_option linter.unusedSimpArgs false
open Go.RowKit

theorem kpw_kpw {p m : Nat} {low : Vc} (hp : 2 ≤ p) (hm : 1 ≤ m) (x i : Nat) : ∀ e, kpw p m low (kpw p m low x i) e = kpw p m low x (i * e)
  | 0 => rfl
  | e + 1 => by
    show kmul p m low (kpw p m low (kpw p m low x i) e) (kpw p m low x i) = _
    rw [kpw_kpw hp hm x i e, ← kpw_add hp hm, Nat.mul_succ]
theorem kpw_zero {p m : Nat} {low : Vc} (hp : 1 ≤ p) : ∀ e, 1 ≤ e → kpw p m low 0 e = 0
  | e + 1, _ => by
    show kmul p m low _ 0 = 0
    rw [kmul_comm, kmul_zero hp]
section
variable {b p m x0 : Nat} {ml : List Int}
set_option maxRecDepth 100000 in
set_option maxHeartbeats 1000000 in
theorem Pow_any (w : World) (hg : GFat w b p m ml x0) (x : Int) (e : Nat) (he1 : 1 ≤ e) (he2 : e ≤ 1000) :
    Calls Tryz.prog 93 #[.pointer (some ⟨b, 0, none⟩), .int .i64 x, .int .i64 e] w (Qt w (.tuple #[.int .i64 (kpw p m (lw ml) (kin (p ^ m) x) e : Nat), .int .i64 0])) := by
  have HI0 := hid_ (in_any w hg x)
  have p2 := hg.sh.p2
  have m1 := hg.sh.m1
  have hq := hg.sh.q
  have hq1 := one_lt_q p2 m1
  have c3 := hg.c3
  obtain ⟨ev, c4, he⟩ := hg.c4
  obtain ⟨lv, f, c5, hl, hf⟩ := hg.c5
  obtain ⟨ea, ec, rfl, e1, e2, e3⟩ := he.open
  obtain ⟨la, lc, rfl, l1, l2, l3⟩ := hl.open
  rw [il_length] at *
  obtain ⟨eb, eo, rfl, e4⟩ := e3 (by omega)
  obtain ⟨lb, lo, rfl, l4⟩ := l3 (by omega)
  have hz : kin (p ^ m) x < p ^ m := kin_lt (by omega) x
  clear e3 l3 he hl
  unfold maxLen at e2 l2
  generalize kin (p ^ m) x = z at *
  have he0 : ((e : Int) == 0) = false := by simp; omega
  have heN : (e == 0) = false := by simp; omega
  have hel : decide ((e : Int) < 0) = false := decide_eq_false (by omega)
  by_cases h0 : z = 0
  · subst h0
    have HZ := hid_ (kpw_zero (m := m) (low := lw ml) (show 1 ≤ p by omega) e he1)
    clear hg c3 c4 c5 hz hq hq1 hf e4 l4 e1 e2 l1 l2
    go_enter Tryz.func93, Tryz.ntmps93
    go_wp2_with fail
    refine HI0.out.mono ?_
    rintro e w1 ⟨rfl, n0, rfl⟩
    go_wp2_with fail
    go_ret2
    rw [HZ.out]
    exact ⟨rfl, _, rfl⟩
  · have z1 : 1 ≤ z := by omega
    have hzb : ((z : Int) == 0) = false := by simp; omega
    obtain ⟨i, hi, hzi⟩ := hg.gen.all p2 m1 z1 hz
    have hlz := l4 z (f z) (il_get hz f)
    have hfz := hf i hi
    rw [hzi] at hfz
    rw [hfz] at hlz
    obtain ⟨d, hd⟩ : ∃ d, e % (p ^ m - 1) = d := ⟨_, rfl⟩
    have hdq : d < p ^ m - 1 := by rw [← hd]; exact Nat.mod_lt _ (by omega)
    obtain ⟨r, hr⟩ : ∃ r, (i * d) % (p ^ m - 1) = r := ⟨_, rfl⟩
    have hrq : r < p ^ m - 1 := by rw [← hr]; exact Nat.mod_lt _ (by omega)
    have her := e4 r _ (il_get hrq _)
    have hpr : pwI p m ml x0 r = ((kpw p m (lw ml) z e : Nat) : Int) := by
      unfold pwI
      rw [← hzi, kpw_kpw p2 m1, ← hg.gen.mod p2 m1 (i * e), ← hr, ← hd, Nat.mul_mod, Nat.mod_mod, ← Nat.mul_mod]
    rw [hpr] at her
    have T1 : Hid ((e : Int).tmod (((p ^ m : Nat) : Int) - 1) = (d : Int)) := hid_ (by
      rw [Int.tmod_eq_emod_of_nonneg (by omega), ← hd, Int.natCast_emod]
      congr 1
      omega)
    have T2 : Hid (((d : Int) + (((p ^ m : Nat) : Int) - 1)).tmod (((p ^ m : Nat) : Int) - 1) = (d : Int)) := hid_ (by
      rw [Int.tmod_eq_emod_of_nonneg (by omega), Int.add_emod_right]
      exact Int.emod_eq_of_lt (by omega) (by omega))
    have T3 : Hid (((i : Int) * d).tmod (((p ^ m : Nat) : Int) - 1) = (r : Int)) := hid_ (by
      rw [Int.tmod_eq_emod_of_nonneg (by rw [← Int.natCast_mul]; omega), ← hr, Int.natCast_emod, Int.natCast_mul]
      congr 1
      omega)
    have HID : (i : Int) * (d : Int) ≤ 256 * 256 := by
      have := Nat.mul_le_mul (show i ≤ 256 by omega) (show d ≤ 256 by omega)
      rw [← Int.natCast_mul]; omega
    have HID0 : 0 ≤ (i : Int) * (d : Int) := by rw [← Int.natCast_mul]; omega
    generalize kpw p m (lw ml) z e = kz at *
    generalize p ^ m = q at *
    have C3 := hid_ c3
    have C4 := hid_ c4
    have C5 := hid_ c5
    clear hg hf e4 l4 hfz hzi hd hr hpr h0 c3 c4 c5
    go_enter Tryz.func93, Tryz.ntmps93
    go_wp2_with fail
    refine HI0.out.mono ?_
    rintro e w1 ⟨rfl, n0, rfl⟩
    have c3 := C3.out
    have c4 := C4.out
    have c5 := C5.out
    have i0 := T1.out
    have i1 : IntKind.i64.wrap ((d : Int) + ((q : Int) - 1)) = (d : Int) + ((q : Int) - 1) := IntWalk.i64_in _ (by omega)
    have i2 : IntKind.i64.wrap ((q : Int) - 1) = (q : Int) - 1 := IntWalk.i64_in _ (by omega)
    have i3 := T2.out
    have i6 := T3.out
    have i7 : IntKind.i64.wrap ((i : Int) * (d : Int)) = (i : Int) * (d : Int) := IntWalk.i64_in _ (by omega)
    have i4 : ¬ q = 1 := by omega
    have i5 : ¬ ((q : Int) - 1 = 0) := by omega
    go_wp2_with fail
    go_quiet (fail)
    go_wp2_with fail
    go_ret2
    exact ⟨rfl, _, World.drewN_drewN _ _ _⟩
set_option maxRecDepth 100000 in
set_option maxHeartbeats 1000000 in
theorem Field_any (w : World) (hg : GFat w b p m ml x0) :
    Calls Tryz.prog 140 #[.pointer (some ⟨b, 0, none⟩)] w fun r w' => ∃ v, r = .returned (.agg #[.int .i64 p, .int .i64 m, v]) ∧ ISl w' v ml ∧ Ex w w' := by
  obtain ⟨mv, hc2, hmv⟩ := hg.c2
  have hln : ml.length ≤ 8 := by
    have h1 := hg.sh.len
    have h2 := hg.sh.m8
    split at h1 <;> omega
  have ea : Ex w (w.alloc (.cells #[.int .i64 0, .int .i64 0, .slice none 0 0] 24)) := (Ex.refl _).alloc _
  have q0 : (w.alloc (.cells #[.int .i64 0, .int .i64 0, .slice none 0 0] 24)).cell? ⟨w.heap.size, 0, none⟩ = some (.int .i64 0) := by simp
  have q1 : (w.alloc (.cells #[.int .i64 0, .int .i64 0, .slice none 0 0] 24)).cell? ⟨w.heap.size, 1, none⟩ = some (.int .i64 0) := by simp
  have q2 : (w.alloc (.cells #[.int .i64 0, .int .i64 0, .slice none 0 0] 24)).cell? ⟨w.heap.size, 2, none⟩ = some (.slice none 0 0) := by simp
  have qf0 : (w.alloc (.cells #[.int .i64 0, .int .i64 0, .slice none 0 0] 24)).frozen? ⟨w.heap.size, 0, none⟩ = false := by simp
  have qf1 : (w.alloc (.cells #[.int .i64 0, .int .i64 0, .slice none 0 0] 24)).frozen? ⟨w.heap.size, 1, none⟩ = false := by simp
  have qf2 : (w.alloc (.cells #[.int .i64 0, .int .i64 0, .slice none 0 0] 24)).frozen? ⟨w.heap.size, 2, none⟩ = false := by simp
  have HMV := hid_ (hmv.ex ea)
  have c0 := ea.cell hg.c0
  have c1 := ea.cell hg.c1
  have c2 := ea.cell hc2
  obtain ⟨ma, mc, rfl, _, m2, _⟩ := hmv.open
  unfold maxLen at m2
  clear hmv hc2 hg
  go_enter Tryz.func140, Tryz.ntmps140
  go_wp2_with fail
  obtain ⟨q, hq⟩ : ∃ q, w.heap.size = q := ⟨_, rfl⟩
  rw [hq] at q0 q1 q2 qf0 qf1 qf2
  try simp only [hq]
  have HQ := hid_ hq
  clear hq
  generalize w.alloc (.cells #[.int .i64 0, .int .i64 0, .slice none 0 0] 24) = W1 at *
  have HEA := hid_ ea
  have Q0 := hid_ q0
  have Q1 := hid_ q1
  have Q2 := hid_ q2
  have QF0 := hid_ qf0
  have QF1 := hid_ qf1
  have QF2 := hid_ qf2
  have x0' := ((Ex.refl W1).alloc (.cells #[] 3)).cell c0
  have x1' := ((Ex.refl W1).alloc (.cells #[] 3)).cell c1
  have x2' := ((Ex.refl W1).alloc (.cells #[] 3)).cell c2
  clear q0 q1 q2 qf0 qf1 qf2 ea
  go_region_law ((refine step_append_sl (by rfl) _ _ _ (by rfl) W1.heap.size 3 (.int .i64 0) 1 8 Tryz.underlying22 infoInt rfl (by decide) _ 0 [] (by rfl) (ownsRow_ex (own_lit0 W1 _) (by repeat (first | exact Ex.refl _ | apply Ex.drew))) _ ml.length (ints ml) (by rfl) (HMV.out.ex (by repeat (first | exact Ex.refl _ | apply Ex.drew | apply Ex.alloc))) (by intro u hu; obtain ⟨z, _, rfl⟩ := List.mem_map.1 hu; rfl) (by unfold maxLen; omega) (by omega) (by simp) ?_; intro v8 w8 hown8 hg8 ha8; obtain ⟨va, vcap, hv8⟩ := own_shape hown8; subst hv8; have E8 := hid_ (Ex.grown (((Ex.refl W1).alloc (.cells #[] 3)).drew) (ownsRow_ex (own_lit0 W1 3) (Ex.refl _).drew) (Nat.le_refl _) hg8); have y0 := E8.out.cell c0; have y1 := E8.out.cell c1; have y2 := E8.out.cell c2; have q0 := E8.out.cell Q0.out; have q1 := E8.out.cell Q1.out; have q2 := E8.out.cell Q2.out; have qf0 := E8.out.frz Q0.out QF0.out; have qf1 := E8.out.frz Q1.out QF1.out; have qf2 := E8.out.frz Q2.out QF2.out; have HOW := hid_ hown8; clear hown8 hg8 ha8))
  all_goals
    have HI8 := hid_ (show ISl w8 (.slice va ml.length vcap) ml from by have := isl_own HOW.out; rwa [Nat.zero_add] at this)
    have hqo : ∀ B, (Value.slice va ml.length vcap).ownBlock = some B → B ≠ q := fun B h e => by
      have h1 := (HOW.out.lt B (by rw [Nat.zero_add]; exact h)).1
      have h2 : q < W1.heap.size := World.block_lt_of_cell? _ _ Q0.out
      omega
    have HQO := hid_ hqo
    have HQW := hid_ (show w.heap.size ≤ q from Nat.le_of_eq HQ.out)
    clear hqo c0 c1 c2 x0' x1' x2' y0 y1 y2
    go_wp2_with fail
    exact bodyPost_ret (v := .agg #[.int .i64 p, .int .i64 m, .slice va ml.length vcap]) (by simp [results, Tryz.results140, go_sem, q0, q1, q2]) rfl ⟨_, rfl, Sl.other (Sl.other (Sl.other HI8.out (fun B h => HQO.out B h) _) (fun B h => HQO.out B h) _) (fun B h => HQO.out B h) _, (((HEA.out.trans E8.out).setCell (p := ⟨q, 0, none⟩) HQW.out _).setCell (p := ⟨q, 1, none⟩) HQW.out _).setCell (p := ⟨q, 2, none⟩) HQW.out _⟩
end
end Go.Proofs.YtgdmlmhpineibaaGreat
namespace Go.Proofs.YtgdmlmhpineibaaGreat
set_option linter.unusedVariables false
set_option linter.unusedSimpArgs false
open Go.RowKit

set_option maxRecDepth 100000 in
set_option maxHeartbeats 4000000 in
theorem eadd_any {p m : Nat} {ml : List Int} {b x0 : Nat} (w0 w : World) (hg : GFat w0 b p m ml x0) (hx0 : Ex w0 w) {base g R N : Nat} {blk cap : Nat → Nat} {a : Nat → Nat → Int} {avs : List Nat} (h : EM w base g R N blk cap a avs) (hb : w0.heap.size ≤ base) (hN : N ≤ 1000) (Bg Bi Bx Ba : Nat) (s i : Nat) (x : Int) (hs : s < R) (hi : i < R) (hsi : i ≠ s) (hBg : Bg ∈ avs) (hBi : Bi ∈ avs) (hBx : Bx ∈ avs) (hBa : Ba ∈ avs)
    (cg : w.cell? ⟨Bg, 0, none⟩ = some (.pointer (some ⟨b, 0, none⟩))) (ci : w.cell? ⟨Bi, 0, none⟩ = some (.int .i64 i)) (cx : w.cell? ⟨Bx, 0, none⟩ = some (.int .i64 x)) (ca : w.cell? ⟨Ba, 0, none⟩ = some (.int .i64 s)) :
    Calls Tryz.prog 181 #[.slice (some ⟨g, 0, none⟩) R R, .pointer (some ⟨Bg, 0, none⟩), .pointer (some ⟨Bi, 0, none⟩), .pointer (some ⟨Bx, 0, none⟩), .pointer (some ⟨Ba, 0, none⟩)] w (Stp w base g R N (upd a i (addF p m ml (a i) (kneg p m (kin (p ^ m) x)) (a s))) avs) := by
  have p2 := hg.sh.p2
  have c1 := h.cell hs
  have c2 := h.cell hi
  have i1 : (0 : Int) ≤ (s : Int) := by omega
  have i2 : (s : Int) < (R : Int) := by omega
  have i3 : (0 : Int) ≤ (i : Int) := by omega
  have i4 : (i : Int) < (R : Int) := by omega
  have HB := hid_ h
  have HX0 := hid_ hx0
  have HBB := hid_ hb
  have HR := hid_ (show s < R ∧ i < R ∧ i ≠ s from ⟨hs, hi, hsi⟩)
  obtain ⟨K1, hK1⟩ : ∃ K, kneg p m (kin (p ^ m) x) = K := ⟨_, rfl⟩
  have HNEG := hid_ (fun w' (h : Ex w0 w') => Neg_any w' (hg.ex h) x)
  have hK1l : K1 < p ^ m := by rw [← hK1]; exact kneg_lt (by omega) _
  rw [hK1] at HNEG ⊢
  have HADD := hid_ (show ∀ n, Calls Tryz.prog 160 #[.pointer (some ⟨b, 0, none⟩), .slice (some ⟨blk i, 0, none⟩) N (cap i), .int .i64 (K1 : Nat), .slice (some ⟨blk s, 0, none⟩) N (cap s)] (w.drewN n) fun r w' => (∃ t, r = .returned t) ∧ OwnC w' base 3 (blk i) N (cap i) (iv (addF p m ml (a i) K1 (a s))) ∧ (w.drewN n).grownBy w' (some (blk i)) from fun n => by
    have := madd_any w0 (w.drewN n) hg (hx0.drewN n) N (blk i) (cap i) base (a i) (a s) (K1 : Nat) (.slice (some ⟨blk s, 0, none⟩) N (cap s)) hb ((h.row i hi).drewN n) (((h.row s hs).drewN n).isl) (by show some (blk s) ≠ some (blk i); intro e; injection e with e; exact h.apart s i hs hi (fun e => hsi e.symm) e) hN
    rw [kin_of hK1l] at this
    exact this)
  have HCG := hid_ cg
  have HCI := hid_ ci
  have HCX := hid_ cx
  have HCA := hid_ ca
  have HC1 := hid_ c1
  have HC2 := hid_ c2
  have HNE := hid_ (show (∀ B ∈ avs, some B ≠ some (blk i)) ∧ some g ≠ some (blk i) from ⟨fun B hB e => by injection e with e; exact (h.av B hB).2.2 i hi e.symm, fun e => by injection e with e; exact h.off i hi e.symm⟩)
  clear h hs hi hsi hg hx0 hb hK1 hK1l p2
  go_enter Tryz.func181, Tryz.ntmps181
  go_wp2_with fail
  have E0 : Ex w w.drew := (Ex.refl w).drew
  have G0 : Ex w0 w.drew := HX0.out.trans E0
  go_region_held3 (fun w' => w'.cell? ⟨Bg, 0, none⟩ = some (.pointer (some ⟨b, 0, none⟩)) ∧ w'.cell? ⟨Bi, 0, none⟩ = some (.int .i64 i) ∧ w'.cell? ⟨Bx, 0, none⟩ = some (.int .i64 x) ∧ w'.cell? ⟨Ba, 0, none⟩ = some (.int .i64 s) ∧ w'.cell? ⟨g, i, none⟩ = some (.slice (some ⟨blk i, 0, none⟩) N (cap i)) ∧ w'.cell? ⟨g, s, none⟩ = some (.slice (some ⟨blk s, 0, none⟩) N (cap s)))
    (first | with_reducible exact ⟨E0.cell HCG.out, E0.cell HCI.out, E0.cell HCX.out, E0.cell HCA.out, E0.cell HC2.out, E0.cell HC1.out⟩ | with_reducible exact ⟨((Ex.refl w).drewN _).cell HCG.out, ((Ex.refl w).drewN _).cell HCI.out, ((Ex.refl w).drewN _).cell HCX.out, ((Ex.refl w).drewN _).cell HCA.out, ((Ex.refl w).drewN _).cell HC2.out, ((Ex.refl w).drewN _).cell HC1.out⟩ | with_reducible exact ⟨hgr.cell (((Ex.refl w).drewN _).cell HCG.out) (HNE.out.1 _ hBg), hgr.cell (((Ex.refl w).drewN _).cell HCI.out) (HNE.out.1 _ hBi), hgr.cell (((Ex.refl w).drewN _).cell HCX.out) (HNE.out.1 _ hBx), hgr.cell (((Ex.refl w).drewN _).cell HCA.out) (HNE.out.1 _ hBa), hgr.cell (((Ex.refl w).drewN _).cell HC2.out) HNE.out.2, hgr.cell (((Ex.refl w).drewN _).cell HC1.out) HNE.out.2⟩)
    ((first
      | (go_at_call 126; (with_reducible refine (HNEG.out _ G0).mono ?_); rintro e wx1 ⟨rfl, n1, rfl⟩)
      | (go_at_call 160; (with_reducible refine (HADD.out _).mono ?_); rintro e wx2 ⟨⟨t, rfl⟩, hown, hgr⟩)))
  have HBN := hid_ (fun n => HB.out.ex ((Ex.refl w).drewN n))
  have HRES := hid_ ((HBN.out _).rowAt HR.out.2.1 hown hgr)
  have HKP := hid_ ((HB.out.kpx ((Ex.refl w).drewN _)).trans HRES.out.2)
  have HX2 := hid_ (show ∀ w00, Ex w00 w → w00.heap.size ≤ base → Ex w00 wx2 from fun w00 hx hb => Ex.grown (hx.drewN _) ((HBN.out _).row i HR.out.2.1) hb hgr)
  have HEM := hid_ HRES.out.1
  clear hown hgr E0 G0 HRES HADD HNEG
  go_wp2_with fail
  go_end0
  exact ⟨⟨_, rfl⟩, ⟨_, _, HEM.out⟩, HKP.out, HX2.out⟩
set_option maxRecDepth 100000 in
set_option maxHeartbeats 4000000 in
theorem each_swp (w : World) {base g R N : Nat} {blk cap : Nat → Nat} {a : Nat → Nat → Int} {avs : List Nat} (h : EM w base g R N blk cap a avs) (Br Bs Bk Ba : Nat) (s k : Nat) (hs : s < R) (hk : k < R) (hsk : s ≠ k) (hBs : Bs ∈ avs) (hBk : Bk ∈ avs) (hBa : Ba ∈ avs)
    (cr : w.cell? ⟨Br, 0, none⟩ = some (.slice (some ⟨g, 0, none⟩) R R)) (cs : w.cell? ⟨Bs, 0, none⟩ = some (.slice none 0 0)) (ck : w.cell? ⟨Bk, 0, none⟩ = some (.int .i64 k)) (ca : w.cell? ⟨Ba, 0, none⟩ = some (.int .i64 s)) :
    Calls Tryz.prog 178 #[.func (.func 179) #[] #[.pointer (some ⟨Bk, 0, none⟩), .pointer (some ⟨Ba, 0, none⟩)], .pointer (some ⟨Br, 0, none⟩), .pointer (some ⟨Bs, 0, none⟩)] w (Stp w base g R N (swpA a s k) avs) := by
  have HC := hid_ (eswp_any w h Bk Ba s k hs hk hsk hBk hBa ck ca)
  have HBS := hid_ hBs
  have HCS := hid_ cs
  clear h hs hk hsk hBs hBk hBa ck ca cs
  go_enter Tryz.func178, Tryz.ntmps178
  go_wp2_with (go_at_call 179; refine HC.out.mono ?_; rintro e w2 ⟨⟨t, rfl⟩, hst, hkp, hex⟩; have hcs := hkp.cell HBS.out HCS.out)
  go_end0
  exact ⟨⟨_, rfl⟩, hst, hkp, hex⟩
set_option maxRecDepth 100000 in
set_option maxHeartbeats 4000000 in
theorem each_scl {p m : Nat} {ml : List Int} {b x0 : Nat} (w0 w : World) (hg : GFat w0 b p m ml x0) (hx0 : Ex w0 w) {base g R N : Nat} {blk cap : Nat → Nat} {a : Nat → Nat → Int} {avs : List Nat} (h : EM w base g R N blk cap a avs) (hb : w0.heap.size ≤ base) (hN : N ≤ 1000) (Br Bs Bg Bi Ba : Nat) (s : Nat) (inv : Int) (hs : s < R) (hBs : Bs ∈ avs) (hBg : Bg ∈ avs) (hBi : Bi ∈ avs) (hBa : Ba ∈ avs)
    (cr : w.cell? ⟨Br, 0, none⟩ = some (.slice (some ⟨g, 0, none⟩) R R)) (cs : w.cell? ⟨Bs, 0, none⟩ = some (.slice none 0 0)) (cg : w.cell? ⟨Bg, 0, none⟩ = some (.pointer (some ⟨b, 0, none⟩))) (ci : w.cell? ⟨Bi, 0, none⟩ = some (.int .i64 inv)) (ca : w.cell? ⟨Ba, 0, none⟩ = some (.int .i64 s)) :
    Calls Tryz.prog 178 #[.func (.func 180) #[] #[.pointer (some ⟨Bg, 0, none⟩), .pointer (some ⟨Bi, 0, none⟩), .pointer (some ⟨Ba, 0, none⟩)], .pointer (some ⟨Br, 0, none⟩), .pointer (some ⟨Bs, 0, none⟩)] w (Stp w base g R N (upd a s (sclF p m ml (kin (p ^ m) inv) (a s))) avs) := by
  have HC := hid_ (escl_any w0 w hg hx0 h hb hN Bg Bi Ba s inv hs hBg hBi hBa cg ci ca)
  have HBS := hid_ hBs
  have HCS := hid_ cs
  clear h hs hBs hBg hBi hBa cg ci ca cs hg hx0 hb
  go_enter Tryz.func178, Tryz.ntmps178
  go_wp2_with (go_at_call 180; refine HC.out.mono ?_; rintro e w2 ⟨⟨t, rfl⟩, hst, hkp, hex⟩; have hcs := hkp.cell HBS.out HCS.out)
  go_end0
  exact ⟨⟨_, rfl⟩, hst, hkp, hex⟩
set_option maxRecDepth 100000 in
set_option maxHeartbeats 4000000 in
theorem each_add {p m : Nat} {ml : List Int} {b x0 : Nat} (w0 w : World) (hg : GFat w0 b p m ml x0) (hx0 : Ex w0 w) {base g R N : Nat} {blk cap : Nat → Nat} {a : Nat → Nat → Int} {avs : List Nat} (h : EM w base g R N blk cap a avs) (hb : w0.heap.size ≤ base) (hN : N ≤ 1000) (Br Bs Bg Bi Bx Ba : Nat) (s i : Nat) (x : Int) (hs : s < R) (hi : i < R) (hsi : i ≠ s) (hBs : Bs ∈ avs) (hBg : Bg ∈ avs) (hBi : Bi ∈ avs) (hBx : Bx ∈ avs) (hBa : Ba ∈ avs)
    (cr : w.cell? ⟨Br, 0, none⟩ = some (.slice (some ⟨g, 0, none⟩) R R)) (cs : w.cell? ⟨Bs, 0, none⟩ = some (.slice none 0 0)) (cg : w.cell? ⟨Bg, 0, none⟩ = some (.pointer (some ⟨b, 0, none⟩))) (ci : w.cell? ⟨Bi, 0, none⟩ = some (.int .i64 i)) (cx : w.cell? ⟨Bx, 0, none⟩ = some (.int .i64 x)) (ca : w.cell? ⟨Ba, 0, none⟩ = some (.int .i64 s)) :
    Calls Tryz.prog 178 #[.func (.func 181) #[] #[.pointer (some ⟨Bg, 0, none⟩), .pointer (some ⟨Bi, 0, none⟩), .pointer (some ⟨Bx, 0, none⟩), .pointer (some ⟨Ba, 0, none⟩)], .pointer (some ⟨Br, 0, none⟩), .pointer (some ⟨Bs, 0, none⟩)] w (Stp w base g R N (upd a i (addF p m ml (a i) (kneg p m (kin (p ^ m) x)) (a s))) avs) := by
  have HC := hid_ (eadd_any w0 w hg hx0 h hb hN Bg Bi Bx Ba s i x hs hi hsi hBg hBi hBx hBa cg ci cx ca)
  have HBS := hid_ hBs
  have HCS := hid_ cs
  clear h hs hi hsi hBs hBg hBi hBx hBa cg ci cx ca cs hg hx0 hb
  go_enter Tryz.func178, Tryz.ntmps178
  go_wp2_with (go_at_call 181; refine HC.out.mono ?_; rintro e w2 ⟨⟨t, rfl⟩, hst, hkp, hex⟩; have hcs := hkp.cell HBS.out HCS.out)
  go_end0
  exact ⟨⟨_, rfl⟩, hst, hkp, hex⟩
end Go.Proofs.YtgdmlmhpineibaaGreat
