/- Walks of the field's Pow, Field, Sub, Order, of tower.prime and tower.Frobenius. -/
/- The state of elimination. -/
import Derived.Test.YtgdmlmhpineibaaGreatZd13
import Derived.Test.YtgdmlmhpineibaaGreatZd14
import Derived.Test.YtgdmlmhpineibaaGreatZd16
namespace Go.Proofs.YtgdmlmhpineibaaGreat
set_option linter.unusedVariables false
set_option linter.unusedSimpArgs false
open Go.RowKit

theorem kpw_kpw {p m : Nat} {low : Vc} (hp : 2 ≤ p) (hm : 1 ≤ m) (x i : Nat) : ∀ e, kpw p m low (kpw p m low x i) e = kpw p m low x (i * e)
  | 0 => rfl
  | e + 1 => by
    show kmul p m low (kpw p m low (kpw p m low x i) e) (kpw p m low x i) = _
    rw [kpw_kpw hp hm x i e, ← kpw_add hp hm, Nat.mul_succ]
theorem kpw_zero {p m : Nat} {low : Vc} (hp : 1 ≤ p) : ∀ e, 1 ≤ e → kpw p m low 0 e = 0
  | e + 1, _ => by
    show kmul p m low _ 0 = 0
    rw [kmul_comm, kmul_zero hp]
section
variable {b p m x0 : Nat} {ml : List Int}
set_option maxRecDepth 100000 in
set_option maxHeartbeats 1000000 in
theorem Pow_any (w : World) (hg : GFat w b p m ml x0) (x : Int) (e : Nat) (he1 : 1 ≤ e) (he2 : e ≤ 1000) :
    Calls Tryz.prog 93 #[.pointer (some ⟨b, 0, none⟩), .int .i64 x, .int .i64 e] w (Qt w (.tuple #[.int .i64 (kpw p m (lw ml) (kin (p ^ m) x) e : Nat), .int .i64 0])) := by
  have HI0 := hid_ (in_any w hg x)
  have p2 := hg.sh.p2
  have m1 := hg.sh.m1
  have hq := hg.sh.q
  have hq1 := one_lt_q p2 m1
  have c3 := hg.c3
  obtain ⟨ev, c4, he⟩ := hg.c4
  obtain ⟨lv, f, c5, hl, hf⟩ := hg.c5
  obtain ⟨ea, ec, rfl, e1, e2, e3⟩ := he.open
  obtain ⟨la, lc, rfl, l1, l2, l3⟩ := hl.open
  rw [il_length] at *
  obtain ⟨eb, eo, rfl, e4⟩ := e3 (by omega)
  obtain ⟨lb, lo, rfl, l4⟩ := l3 (by omega)
  have hz : kin (p ^ m) x < p ^ m := kin_lt (by omega) x
  clear e3 l3 he hl
  unfold maxLen at e2 l2
  generalize kin (p ^ m) x = z at *
  have he0 : ((e : Int) == 0) = false := by simp; omega
  have heN : (e == 0) = false := by simp; omega
  have hel : decide ((e : Int) < 0) = false := decide_eq_false (by omega)
  by_cases h0 : z = 0
  · subst h0
    have HZ := hid_ (kpw_zero (m := m) (low := lw ml) (show 1 ≤ p by omega) e he1)
    clear hg c3 c4 c5 hz hq hq1 hf e4 l4 e1 e2 l1 l2
    go_enter Tryz.func93, Tryz.ntmps93
    go_wp2_with fail
    refine HI0.out.mono ?_
    rintro e w1 ⟨rfl, n0, rfl⟩
    go_wp2_with fail
    go_ret2
    rw [HZ.out]
    exact ⟨rfl, _, rfl⟩
  · have z1 : 1 ≤ z := by omega
    have hzb : ((z : Int) == 0) = false := by simp; omega
    obtain ⟨i, hi, hzi⟩ := hg.gen.all p2 m1 z1 hz
    have hlz := l4 z (f z) (il_get hz f)
    have hfz := hf i hi
    rw [hzi] at hfz
    rw [hfz] at hlz
    obtain ⟨d, hd⟩ : ∃ d, e % (p ^ m - 1) = d := ⟨_, rfl⟩
    have hdq : d < p ^ m - 1 := by rw [← hd]; exact Nat.mod_lt _ (by omega)
    obtain ⟨r, hr⟩ : ∃ r, (i * d) % (p ^ m - 1) = r := ⟨_, rfl⟩
    have hrq : r < p ^ m - 1 := by rw [← hr]; exact Nat.mod_lt _ (by omega)
    have her := e4 r _ (il_get hrq _)
    have hpr : pwI p m ml x0 r = ((kpw p m (lw ml) z e : Nat) : Int) := by
      unfold pwI
      rw [← hzi, kpw_kpw p2 m1, ← hg.gen.mod p2 m1 (i * e), ← hr, ← hd, Nat.mul_mod, Nat.mod_mod, ← Nat.mul_mod]
    rw [hpr] at her
    have T1 : Hid ((e : Int).tmod (((p ^ m : Nat) : Int) - 1) = (d : Int)) := hid_ (by
      rw [Int.tmod_eq_emod_of_nonneg (by omega), ← hd, Int.natCast_emod]
      congr 1
      omega)
    have T2 : Hid (((d : Int) + (((p ^ m : Nat) : Int) - 1)).tmod (((p ^ m : Nat) : Int) - 1) = (d : Int)) := hid_ (by
      rw [Int.tmod_eq_emod_of_nonneg (by omega), Int.add_emod_right]
      exact Int.emod_eq_of_lt (by omega) (by omega))
    have T3 : Hid (((i : Int) * d).tmod (((p ^ m : Nat) : Int) - 1) = (r : Int)) := hid_ (by
      rw [Int.tmod_eq_emod_of_nonneg (by rw [← Int.natCast_mul]; omega), ← hr, Int.natCast_emod, Int.natCast_mul]
      congr 1
      omega)
    have HID : (i : Int) * (d : Int) ≤ 256 * 256 := by
      have := Nat.mul_le_mul (show i ≤ 256 by omega) (show d ≤ 256 by omega)
      rw [← Int.natCast_mul]; omega
    have HID0 : 0 ≤ (i : Int) * (d : Int) := by rw [← Int.natCast_mul]; omega
    generalize kpw p m (lw ml) z e = kz at *
    generalize p ^ m = q at *
    have C3 := hid_ c3
    have C4 := hid_ c4
    have C5 := hid_ c5
    clear hg hf e4 l4 hfz hzi hd hr hpr h0 c3 c4 c5
    go_enter Tryz.func93, Tryz.ntmps93
    go_wp2_with fail
    refine HI0.out.mono ?_
    rintro e w1 ⟨rfl, n0, rfl⟩
    have c3 := C3.out
    have c4 := C4.out
    have c5 := C5.out
    have i0 := T1.out
    have i1 : IntKind.i64.wrap ((d : Int) + ((q : Int) - 1)) = (d : Int) + ((q : Int) - 1) := IntWalk.i64_in _ (by omega)
    have i2 : IntKind.i64.wrap ((q : Int) - 1) = (q : Int) - 1 := IntWalk.i64_in _ (by omega)
    have i3 := T2.out
    have i6 := T3.out
    have i7 : IntKind.i64.wrap ((i : Int) * (d : Int)) = (i : Int) * (d : Int) := IntWalk.i64_in _ (by omega)
    have i4 : ¬ q = 1 := by omega
    have i5 : ¬ ((q : Int) - 1 = 0) := by omega
    go_wp2_with fail
    go_quiet (fail)
    go_wp2_with fail
    go_ret2
    exact ⟨rfl, _, World.drewN_drewN _ _ _⟩
set_option maxRecDepth 100000 in
set_option maxHeartbeats 1000000 in
theorem Field_any (w : World) (hg : GFat w b p m ml x0) :
    Calls Tryz.prog 140 #[.pointer (some ⟨b, 0, none⟩)] w fun r w' => ∃ v, r = .returned (.agg #[.int .i64 p, .int .i64 m, v]) ∧ ISl w' v ml ∧ Ex w w' := by
  obtain ⟨mv, hc2, hmv⟩ := hg.c2
  have hln : ml.length ≤ 8 := by
    have h1 := hg.sh.len
    have h2 := hg.sh.m8
    split at h1 <;> omega
  have ea : Ex w (w.alloc (.cells #[.int .i64 0, .int .i64 0, .slice none 0 0] 24)) := (Ex.refl _).alloc _
  have q0 : (w.alloc (.cells #[.int .i64 0, .int .i64 0, .slice none 0 0] 24)).cell? ⟨w.heap.size, 0, none⟩ = some (.int .i64 0) := by simp
  have q1 : (w.alloc (.cells #[.int .i64 0, .int .i64 0, .slice none 0 0] 24)).cell? ⟨w.heap.size, 1, none⟩ = some (.int .i64 0) := by simp
  have q2 : (w.alloc (.cells #[.int .i64 0, .int .i64 0, .slice none 0 0] 24)).cell? ⟨w.heap.size, 2, none⟩ = some (.slice none 0 0) := by simp
  have qf0 : (w.alloc (.cells #[.int .i64 0, .int .i64 0, .slice none 0 0] 24)).frozen? ⟨w.heap.size, 0, none⟩ = false := by simp
  have qf1 : (w.alloc (.cells #[.int .i64 0, .int .i64 0, .slice none 0 0] 24)).frozen? ⟨w.heap.size, 1, none⟩ = false := by simp
  have qf2 : (w.alloc (.cells #[.int .i64 0, .int .i64 0, .slice none 0 0] 24)).frozen? ⟨w.heap.size, 2, none⟩ = false := by simp
  have HMV := hid_ (hmv.ex ea)
  have c0 := ea.cell hg.c0
  have c1 := ea.cell hg.c1
  have c2 := ea.cell hc2
  obtain ⟨ma, mc, rfl, _, m2, _⟩ := hmv.open
  unfold maxLen at m2
  clear hmv hc2 hg
  go_enter Tryz.func140, Tryz.ntmps140
  go_wp2_with fail
  obtain ⟨q, hq⟩ : ∃ q, w.heap.size = q := ⟨_, rfl⟩
  rw [hq] at q0 q1 q2 qf0 qf1 qf2
  try simp only [hq]
  have HQ := hid_ hq
  clear hq
  generalize w.alloc (.cells #[.int .i64 0, .int .i64 0, .slice none 0 0] 24) = W1 at *
  have HEA := hid_ ea
  have Q0 := hid_ q0
  have Q1 := hid_ q1
  have Q2 := hid_ q2
  have QF0 := hid_ qf0
  have QF1 := hid_ qf1
  have QF2 := hid_ qf2
  have x0' := ((Ex.refl W1).alloc (.cells #[] 3)).cell c0
  have x1' := ((Ex.refl W1).alloc (.cells #[] 3)).cell c1
  have x2' := ((Ex.refl W1).alloc (.cells #[] 3)).cell c2
  clear q0 q1 q2 qf0 qf1 qf2 ea
  go_region_law ((refine step_append_sl (by rfl) _ _ _ (by rfl) W1.heap.size 3 (.int .i64 0) 1 8 Tryz.underlying22 infoInt rfl (by decide) _ 0 [] (by rfl) (ownsRow_ex (own_lit0 W1 _) (by repeat (first | exact Ex.refl _ | apply Ex.drew))) _ ml.length (ints ml) (by rfl) (HMV.out.ex (by repeat (first | exact Ex.refl _ | apply Ex.drew | apply Ex.alloc))) (by intro u hu; obtain ⟨z, _, rfl⟩ := List.mem_map.1 hu; rfl) (by unfold maxLen; omega) (by omega) (by simp) ?_; intro v8 w8 hown8 hg8 ha8; obtain ⟨va, vcap, hv8⟩ := own_shape hown8; subst hv8; have E8 := hid_ (Ex.grown (((Ex.refl W1).alloc (.cells #[] 3)).drew) (ownsRow_ex (own_lit0 W1 3) (Ex.refl _).drew) (Nat.le_refl _) hg8); have y0 := E8.out.cell c0; have y1 := E8.out.cell c1; have y2 := E8.out.cell c2; have q0 := E8.out.cell Q0.out; have q1 := E8.out.cell Q1.out; have q2 := E8.out.cell Q2.out; have qf0 := E8.out.frz Q0.out QF0.out; have qf1 := E8.out.frz Q1.out QF1.out; have qf2 := E8.out.frz Q2.out QF2.out; have HOW := hid_ hown8; clear hown8 hg8 ha8))
  all_goals
    have HI8 := hid_ (show ISl w8 (.slice va ml.length vcap) ml from by have := isl_own HOW.out; rwa [Nat.zero_add] at this)
    have hqo : ∀ B, (Value.slice va ml.length vcap).ownBlock = some B → B ≠ q := fun B h e => by
      have h1 := (HOW.out.lt B (by rw [Nat.zero_add]; exact h)).1
      have h2 : q < W1.heap.size := World.block_lt_of_cell? _ _ Q0.out
      omega
    have HQO := hid_ hqo
    have HQW := hid_ (show w.heap.size ≤ q from Nat.le_of_eq HQ.out)
    clear hqo c0 c1 c2 x0' x1' x2' y0 y1 y2
    go_wp2_with fail
    exact bodyPost_ret (v := .agg #[.int .i64 p, .int .i64 m, .slice va ml.length vcap]) (by simp [results, Tryz.results140, go_sem, q0, q1, q2]) rfl ⟨_, rfl, Sl.other (Sl.other (Sl.other HI8.out (fun B h => HQO.out B h) _) (fun B h => HQO.out B h) _) (fun B h => HQO.out B h) _, (((HEA.out.trans E8.out).setCell (p := ⟨q, 0, none⟩) HQW.out _).setCell (p := ⟨q, 1, none⟩) HQW.out _).setCell (p := ⟨q, 2, none⟩) HQW.out _⟩
end
end Go.Proofs.YtgdmlmhpineibaaGreat
namespace Go.Proofs.YtgdmlmhpineibaaGreat
set_option linter.unusedVariables false
set_option linter.unusedSimpArgs false
open Go.RowKit

def pI (piv : List Nat) : List Int := piv.map fun (x : Nat) => (x : Int)
theorem pI_len (piv : List Nat) : (pI piv).length = piv.length := by unfold pI; simp
theorem ownsRow_heap {w w' : World} {base : Nat} {e : TypeId} {size : Nat} {v : Value} {n : Nat} {xs : List Value} (h : w.ownsRow base e size v n xs) (hk : ∀ b, v.ownBlock = some b → w'.heap[b]? = w.heap[b]?) : w'.ownsRow base e size v n xs := by
  refine ⟨h.1, ?_⟩
  rcases h.2 with h1 | ⟨g, cap, cur, rfl, hb, hg, h3⟩
  · exact .inl h1
  · exact .inr ⟨g, cap, cur, rfl, hb, by rw [hk g rfl]; exact hg, h3⟩
def AV (pv : Value) (B4 B5 B7 : Nat) : List Nat := pv.ownBlock.toList ++ [B4, B5, B7]
structure EB (w0 w : World) (base g R N : Nat) (blk cap : Nat → Nat) (a : Nat → Nat → Int) (avs : List Nat) (B4 B5 B7 b : Nat) (pv : Value) (piv : List Nat) : Prop where
  em : EM w base g R N blk cap a avs
  i4 : B4 ∈ avs
  i5 : B5 ∈ avs
  i7 : B7 ∈ avs
  c4 : w.cell? ⟨B4, 0, none⟩ = some (.pointer (some ⟨b, 0, none⟩))
  c5 : w.cell? ⟨B5, 0, none⟩ = some (.slice (some ⟨g, 0, none⟩) R R)
  c7 : w.cell? ⟨B7, 0, none⟩ = some (.slice none 0 0)
  pvo : w.ownsRow base 3 1 pv piv.length (ints (pI piv))
  pvi : ∀ B, pv.ownBlock = some B → B ∈ avs ∧ B ≠ B4 ∧ B ≠ B5 ∧ B ≠ B7
  ex : Ex w0 w
  bs : w0.heap.size ≤ base
section
variable {w0 w : World} {base g R N : Nat} {blk cap : Nat → Nat} {a : Nat → Nat → Int} {avs : List Nat} {B4 B5 B7 b : Nat} {pv : Value} {piv : List Nat}
theorem EB.later (h : EB w0 w base g R N blk cap a avs B4 B5 B7 b pv piv) {w' : World} (hx : Ex w w') : EB w0 w' base g R N blk cap a avs B4 B5 B7 b pv piv :=
  ⟨h.em.ex hx, h.i4, h.i5, h.i7, hx.cell h.c4, hx.cell h.c5, hx.cell h.c7, ownsRow_ex h.pvo hx, h.pvi, h.ex.trans hx, h.bs⟩
theorem EB.box (h : EB w0 w base g R N blk cap a avs B4 B5 B7 b pv piv) (o : Obj) : EB w0 (w.alloc o) base g R N blk cap a (w.heap.size :: avs) B4 B5 B7 b pv piv := by
  have h1 := h.later ((Ex.refl w).alloc o)
  exact ⟨h.em.box o, List.mem_cons_of_mem _ h.i4, List.mem_cons_of_mem _ h.i5, List.mem_cons_of_mem _ h.i7, h1.c4, h1.c5, h1.c7, h1.pvo, fun B hB => by obtain ⟨k1, k2⟩ := h.pvi B hB; exact ⟨List.mem_cons_of_mem _ k1, k2⟩, h1.ex, h1.bs⟩
theorem EB.less (h : EB w0 w base g R N blk cap a avs B4 B5 B7 b pv piv) {bvs : List Nat} (hs : ∀ B ∈ bvs, B ∈ avs) (h4 : B4 ∈ bvs) (h5 : B5 ∈ bvs) (h7 : B7 ∈ bvs) (hp : ∀ B, pv.ownBlock = some B → B ∈ bvs) : EB w0 w base g R N blk cap a bvs B4 B5 B7 b pv piv :=
  ⟨h.em.less hs, h4, h5, h7, h.c4, h.c5, h.c7, h.pvo, fun B hB => ⟨hp B hB, (h.pvi B hB).2⟩, h.ex, h.bs⟩
theorem EB.toAV (h : EB w0 w base g R N blk cap a avs B4 B5 B7 b pv piv) : EB w0 w base g R N blk cap a (AV pv B4 B5 B7) B4 B5 B7 b pv piv := by
  refine h.less (fun B hB => ?_) (by unfold AV; simp) (by unfold AV; simp) (by unfold AV; simp) (fun B hB => by unfold AV; rw [hB]; simp)
  unfold AV at hB
  rcases List.mem_append.1 hB with hB | hB
  · have : pv.ownBlock = some B := by
      cases e : pv.ownBlock with
      | none => rw [e] at hB; simp at hB
      | some C => rw [e] at hB; simp at hB; rw [hB]
    exact (h.pvi B this).1
  · simp at hB
    rcases hB with rfl | rfl | rfl
    · exact h.i4
    · exact h.i5
    · exact h.i7
theorem EB.step (h : EB w0 w base g R N blk cap a avs B4 B5 B7 b pv piv) {a' : Nat → Nat → Int} {r : Ending} {w' : World} (hs : Stp w base g R N a' avs r w') : ∃ blk' cap', EB w0 w' base g R N blk' cap' a' avs B4 B5 B7 b pv piv := by
  obtain ⟨_, ⟨blk', cap', he⟩, hk, hx⟩ := hs
  exact ⟨blk', cap', he, h.i4, h.i5, h.i7, hk.cell h.i4 h.c4, hk.cell h.i5 h.c5, hk.cell h.i7 h.c7, ownsRow_heap h.pvo fun B hB => hk B (h.pvi B hB).1, h.pvi, hx w0 h.ex h.bs, h.bs⟩
/-- A store into the block of a variable of the round. -/
theorem EB.setB (h : EB w0 w base g R N blk cap a avs B4 B5 B7 b pv piv) {B : Nat} (hB : B ∈ avs) (h4 : B ≠ B4) (h5 : B ≠ B5) (h7 : B ≠ B7) (hp : pv.ownBlock ≠ some B) (hw : w0.heap.size ≤ B) (u : Value) : EB w0 (w.setCell ⟨B, 0, none⟩ u) base g R N blk cap a avs B4 B5 B7 b pv piv :=
  ⟨h.em.setBox hB u, h.i4, h.i5, h.i7, by rw [cell_setCell_ne h4]; exact h.c4, by rw [cell_setCell_ne h5]; exact h.c5, by rw [cell_setCell_ne h7]; exact h.c7, ownsRow_setCell_ne h.pvo hp u, h.pvi, h.ex.setCell (p := ⟨B, 0, none⟩) hw u, h.bs⟩
/-- A pivot more. -/
theorem EB.app (h : EB w0 w base g R N blk cap a avs B4 B5 B7 b pv piv) {c : Nat} {w' : World} {pv' : Value} (ha : Appd w w' base 3 1 pv pv' piv.length (ints (pI piv)) [.int .i64 c]) : EB w0 w' base g R N blk cap a (AV pv' B4 B5 B7) B4 B5 B7 b pv' (piv ++ [c]) := by
  have hne : ∀ B ∈ avs, (∀ C, pv.ownBlock = some C → C ≠ B) → some B ≠ pv.ownBlock := fun B _ hn e => hn B e.symm rfl
  have n4 : some B4 ≠ pv.ownBlock := fun e => (h.pvi B4 e.symm).2.1 rfl
  have n5 : some B5 ≠ pv.ownBlock := fun e => (h.pvi B5 e.symm).2.2.1 rfl
  have n7 : some B7 ≠ pv.ownBlock := fun e => (h.pvi B7 e.symm).2.2.2 rfl
  have ng : pv.ownBlock ≠ some g := fun e => (h.em.av g (h.pvi g e).1).2.1 rfl
  have nb : ∀ i, i < R → pv.ownBlock ≠ some (blk i) := fun i hi e => (h.em.av _ (h.pvi _ e).1).2.2 i hi rfl
  have hsz := ha.grow
  have l4 := (h.em.av B4 h.i4)
  have l5 := (h.em.av B5 h.i5)
  have l7 := (h.em.av B7 h.i7)
  have pnew : ∀ B, pv'.ownBlock = some B → (pv.ownBlock = some B) ∨ B = w.heap.size + 1 := fun B hB => by
    rcases ha.at_ with k | k
    · exact .inl (by rw [← k]; exact hB)
    · rw [k] at hB; injection hB with hB; exact .inr hB.symm
  have row' : ∀ i, i < R → OwnC w' base 3 (blk i) N (cap i) (iv (a i)) := fun i hi => (ha.row (h.em.row i hi) (.inr (fun e => nb i hi e.symm))).1
  have arr' : Own w' base 22 g R (rowV blk cap N) := (ha.arr h.em.arr ng).1
  refine ⟨⟨arr', row', h.em.apart, h.em.off, fun B hB => ?_⟩, by unfold AV; simp, by unfold AV; simp, by unfold AV; simp, ha.cell h.c4 n4, ha.cell h.c5 n5, ha.cell h.c7 n7, ?_, fun B hB => ⟨by unfold AV; rw [hB]; simp, ?_⟩, ha.ex h.ex h.bs, h.bs⟩
  · unfold AV at hB
    rcases List.mem_append.1 hB with hB | hB
    · have hB' : pv'.ownBlock = some B := by
        cases e : pv'.ownBlock with
        | none => rw [e] at hB; simp at hB
        | some C => rw [e] at hB; simp at hB; rw [hB]
      refine ⟨(ha.own.lt B hB').2, ?_, fun i hi => ?_⟩
      · rcases pnew B hB' with k | k
        · exact (h.em.av B (h.pvi B k).1).2.1
        · have := h.em.arr.lt.2; omega
      · rcases pnew B hB' with k | k
        · exact (h.em.av B (h.pvi B k).1).2.2 i hi
        · have := (h.em.row i hi).lt.2; omega
    · simp at hB
      rcases hB with rfl | rfl | rfl
      · exact ⟨by omega, l4.2⟩
      · exact ⟨by omega, l5.2⟩
      · exact ⟨by omega, l7.2⟩
  · have := ha.own
    rw [List.length_append, List.length_singleton]
    have e : ints (pI (piv ++ [c])) = ints (pI piv) ++ [.int .i64 c] := by simp [pI, ints]
    rw [e]; exact this
  · rcases pnew B hB with k | k
    · exact (h.pvi B k).2
    · omega
end
end Go.Proofs.YtgdmlmhpineibaaGreat
