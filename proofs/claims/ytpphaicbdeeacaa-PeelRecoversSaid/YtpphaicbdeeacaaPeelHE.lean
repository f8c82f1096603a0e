/- Walks of elimination's closures: adding a multiple of a row; each. -/
import Derived.Test.YtpphaicbdeeacaaPeelHD
namespace Go.Proofs.Ytpphaicbdeeacaa
set_option linter.unusedVariables false
set_option linter.unusedSimpArgs false
open Go.RowKit

set_option maxRecDepth 100000 in
set_option maxHeartbeats 4000000 in
theorem eadd_any {p m : Nat} {ml : List Int} {b x0 : Nat} (w0 w : World) (hg : GFat w0 b p m ml x0) (hx0 : Ex w0 w) {base g R N : Nat} {blk cap : Nat → Nat} {a : Nat → Nat → Int} {avs : List Nat} (h : EM w base g R N blk cap a avs) (hb : w0.heap.size ≤ base) (hN : N ≤ 1000) (Bg Bi Bx Ba : Nat) (s i : Nat) (x : Int) (hs : s < R) (hi : i < R) (hsi : i ≠ s) (hBg : Bg ∈ avs) (hBi : Bi ∈ avs) (hBx : Bx ∈ avs) (hBa : Ba ∈ avs)
    (cg : w.cell? ⟨Bg, 0, none⟩ = some (.pointer (some ⟨b, 0, none⟩))) (ci : w.cell? ⟨Bi, 0, none⟩ = some (.int .i64 i)) (cx : w.cell? ⟨Bx, 0, none⟩ = some (.int .i64 x)) (ca : w.cell? ⟨Ba, 0, none⟩ = some (.int .i64 s)) :
    Calls Try.prog 112 #[.slice (some ⟨g, 0, none⟩) R R, .pointer (some ⟨Bg, 0, none⟩), .pointer (some ⟨Bi, 0, none⟩), .pointer (some ⟨Bx, 0, none⟩), .pointer (some ⟨Ba, 0, none⟩)] w (Stp w base g R N (upd a i (addF p m ml (a i) (kneg p m (kin (p ^ m) x)) (a s))) avs) := by
  have p2 := hg.sh.p2
  have c1 := h.cell hs
  have c2 := h.cell hi
  have i1 : (0 : Int) ≤ (s : Int) := by omega
  have i2 : (s : Int) < (R : Int) := by omega
  have i3 : (0 : Int) ≤ (i : Int) := by omega
  have i4 : (i : Int) < (R : Int) := by omega
  have HB := hid_ h
  have HX0 := hid_ hx0
  have HBB := hid_ hb
  have HR := hid_ (show s < R ∧ i < R ∧ i ≠ s from ⟨hs, hi, hsi⟩)
  obtain ⟨K1, hK1⟩ : ∃ K, kneg p m (kin (p ^ m) x) = K := ⟨_, rfl⟩
  have HNEG := hid_ (fun w' (h : Ex w0 w') => Neg_any w' (hg.ex h) x)
  have hK1l : K1 < p ^ m := by rw [← hK1]; exact kneg_lt (by omega) _
  rw [hK1] at HNEG ⊢
  have HADD := hid_ (show ∀ n, Calls Try.prog 101 #[.pointer (some ⟨b, 0, none⟩), .slice (some ⟨blk i, 0, none⟩) N (cap i), .int .i64 (K1 : Nat), .slice (some ⟨blk s, 0, none⟩) N (cap s)] (w.drewN n) fun r w' => (∃ t, r = .returned t) ∧ OwnC w' base 3 (blk i) N (cap i) (iv (addF p m ml (a i) K1 (a s))) ∧ (w.drewN n).grownBy w' (some (blk i)) from fun n => by
    have := madd_any w0 (w.drewN n) hg (hx0.drewN n) N (blk i) (cap i) base (a i) (a s) (K1 : Nat) (.slice (some ⟨blk s, 0, none⟩) N (cap s)) hb ((h.row i hi).drewN n) (((h.row s hs).drewN n).isl) (by show some (blk s) ≠ some (blk i); intro e; injection e with e; exact h.apart s i hs hi (fun e => hsi e.symm) e) hN
    rw [kin_of hK1l] at this
    exact this)
  have HCG := hid_ cg
  have HCI := hid_ ci
  have HCX := hid_ cx
  have HCA := hid_ ca
  have HC1 := hid_ c1
  have HC2 := hid_ c2
  have HNE := hid_ (show (∀ B ∈ avs, some B ≠ some (blk i)) ∧ some g ≠ some (blk i) from ⟨fun B hB e => by injection e with e; exact (h.av B hB).2.2 i hi e.symm, fun e => by injection e with e; exact h.off i hi e.symm⟩)
  clear h hs hi hsi hg hx0 hb hK1 hK1l p2
  go_enter Try.func112, Try.ntmps112
  go_wp2_with fail
  have E0 : Ex w w.drew := (Ex.refl w).drew
  have G0 : Ex w0 w.drew := HX0.out.trans E0
  go_region_held3 (fun w' => w'.cell? ⟨Bg, 0, none⟩ = some (.pointer (some ⟨b, 0, none⟩)) ∧ w'.cell? ⟨Bi, 0, none⟩ = some (.int .i64 i) ∧ w'.cell? ⟨Bx, 0, none⟩ = some (.int .i64 x) ∧ w'.cell? ⟨Ba, 0, none⟩ = some (.int .i64 s) ∧ w'.cell? ⟨g, i, none⟩ = some (.slice (some ⟨blk i, 0, none⟩) N (cap i)) ∧ w'.cell? ⟨g, s, none⟩ = some (.slice (some ⟨blk s, 0, none⟩) N (cap s)))
    (first | with_reducible exact ⟨E0.cell HCG.out, E0.cell HCI.out, E0.cell HCX.out, E0.cell HCA.out, E0.cell HC2.out, E0.cell HC1.out⟩ | with_reducible exact ⟨((Ex.refl w).drewN _).cell HCG.out, ((Ex.refl w).drewN _).cell HCI.out, ((Ex.refl w).drewN _).cell HCX.out, ((Ex.refl w).drewN _).cell HCA.out, ((Ex.refl w).drewN _).cell HC2.out, ((Ex.refl w).drewN _).cell HC1.out⟩ | with_reducible exact ⟨hgr.cell (((Ex.refl w).drewN _).cell HCG.out) (HNE.out.1 _ hBg), hgr.cell (((Ex.refl w).drewN _).cell HCI.out) (HNE.out.1 _ hBi), hgr.cell (((Ex.refl w).drewN _).cell HCX.out) (HNE.out.1 _ hBx), hgr.cell (((Ex.refl w).drewN _).cell HCA.out) (HNE.out.1 _ hBa), hgr.cell (((Ex.refl w).drewN _).cell HC2.out) HNE.out.2, hgr.cell (((Ex.refl w).drewN _).cell HC1.out) HNE.out.2⟩)
    ((first
      | (go_at_call 69; (with_reducible refine (HNEG.out _ G0).mono ?_); rintro e wx1 ⟨rfl, n1, rfl⟩)
      | (go_at_call 101; (with_reducible refine (HADD.out _).mono ?_); rintro e wx2 ⟨⟨t, rfl⟩, hown, hgr⟩)))
  have HBN := hid_ (fun n => HB.out.ex ((Ex.refl w).drewN n))
  have HRES := hid_ ((HBN.out _).rowAt HR.out.2.1 hown hgr)
  have HKP := hid_ ((HB.out.kpx ((Ex.refl w).drewN _)).trans HRES.out.2)
  have HX2 := hid_ (show ∀ w00, Ex w00 w → w00.heap.size ≤ base → Ex w00 wx2 from fun w00 hx hb => Ex.grown (hx.drewN _) ((HBN.out _).row i HR.out.2.1) hb hgr)
  have HEM := hid_ HRES.out.1
  clear hown hgr E0 G0 HRES HADD HNEG
  go_wp2_with fail
  go_end0
  exact ⟨⟨_, rfl⟩, ⟨_, _, HEM.out⟩, HKP.out, HX2.out⟩
theorem Stp.more {w : World} {base g R N : Nat} {a' : Nat → Nat → Int} {avs : List Nat} {r : Ending} {w' : World} (h : Stp w base g R N a' avs r w') {t : Value} : Stp w base g R N a' avs (.returned t) w' := ⟨⟨t, rfl⟩, h.2⟩

set_option maxRecDepth 100000 in
set_option maxHeartbeats 4000000 in
theorem each_swp (w : World) {base g R N : Nat} {blk cap : Nat → Nat} {a : Nat → Nat → Int} {avs : List Nat} (h : EM w base g R N blk cap a avs) (Br Bs Bk Ba : Nat) (s k : Nat) (hs : s < R) (hk : k < R) (hsk : s ≠ k) (hBs : Bs ∈ avs) (hBk : Bk ∈ avs) (hBa : Ba ∈ avs)
    (cr : w.cell? ⟨Br, 0, none⟩ = some (.slice (some ⟨g, 0, none⟩) R R)) (cs : w.cell? ⟨Bs, 0, none⟩ = some (.slice none 0 0)) (ck : w.cell? ⟨Bk, 0, none⟩ = some (.int .i64 k)) (ca : w.cell? ⟨Ba, 0, none⟩ = some (.int .i64 s)) :
    Calls Try.prog 108 #[.func (.func 109) #[] #[.pointer (some ⟨Bk, 0, none⟩), .pointer (some ⟨Ba, 0, none⟩)], .pointer (some ⟨Br, 0, none⟩), .pointer (some ⟨Bs, 0, none⟩)] w (Stp w base g R N (swpA a s k) avs) := by
  have HC := hid_ (eswp_any w h Bk Ba s k hs hk hsk hBk hBa ck ca)
  have HBS := hid_ hBs
  have HCS := hid_ cs
  clear h hs hk hsk hBs hBk hBa ck ca cs
  go_enter Try.func108, Try.ntmps108
  go_wp2_with (go_at_call 109; refine HC.out.mono ?_; rintro e w2 ⟨⟨t, rfl⟩, hst, hkp, hex⟩; have hcs := hkp.cell HBS.out HCS.out)
  go_end0
  exact ⟨⟨_, rfl⟩, hst, hkp, hex⟩

set_option maxRecDepth 100000 in
set_option maxHeartbeats 4000000 in
theorem each_scl {p m : Nat} {ml : List Int} {b x0 : Nat} (w0 w : World) (hg : GFat w0 b p m ml x0) (hx0 : Ex w0 w) {base g R N : Nat} {blk cap : Nat → Nat} {a : Nat → Nat → Int} {avs : List Nat} (h : EM w base g R N blk cap a avs) (hb : w0.heap.size ≤ base) (hN : N ≤ 1000) (Br Bs Bg Bi Ba : Nat) (s : Nat) (inv : Int) (hs : s < R) (hBs : Bs ∈ avs) (hBg : Bg ∈ avs) (hBi : Bi ∈ avs) (hBa : Ba ∈ avs)
    (cr : w.cell? ⟨Br, 0, none⟩ = some (.slice (some ⟨g, 0, none⟩) R R)) (cs : w.cell? ⟨Bs, 0, none⟩ = some (.slice none 0 0)) (cg : w.cell? ⟨Bg, 0, none⟩ = some (.pointer (some ⟨b, 0, none⟩))) (ci : w.cell? ⟨Bi, 0, none⟩ = some (.int .i64 inv)) (ca : w.cell? ⟨Ba, 0, none⟩ = some (.int .i64 s)) :
    Calls Try.prog 108 #[.func (.func 110) #[] #[.pointer (some ⟨Bg, 0, none⟩), .pointer (some ⟨Bi, 0, none⟩), .pointer (some ⟨Ba, 0, none⟩)], .pointer (some ⟨Br, 0, none⟩), .pointer (some ⟨Bs, 0, none⟩)] w (Stp w base g R N (upd a s (sclF p m ml (kin (p ^ m) inv) (a s))) avs) := by
  have HC := hid_ (escl_any w0 w hg hx0 h hb hN Bg Bi Ba s inv hs hBg hBi hBa cg ci ca)
  have HBS := hid_ hBs
  have HCS := hid_ cs
  clear h hs hBs hBg hBi hBa cg ci ca cs hg hx0 hb
  go_enter Try.func108, Try.ntmps108
  go_wp2_with (go_at_call 110; refine HC.out.mono ?_; rintro e w2 ⟨⟨t, rfl⟩, hst, hkp, hex⟩; have hcs := hkp.cell HBS.out HCS.out)
  go_end0
  exact ⟨⟨_, rfl⟩, hst, hkp, hex⟩

set_option maxRecDepth 100000 in
set_option maxHeartbeats 4000000 in
theorem each_add {p m : Nat} {ml : List Int} {b x0 : Nat} (w0 w : World) (hg : GFat w0 b p m ml x0) (hx0 : Ex w0 w) {base g R N : Nat} {blk cap : Nat → Nat} {a : Nat → Nat → Int} {avs : List Nat} (h : EM w base g R N blk cap a avs) (hb : w0.heap.size ≤ base) (hN : N ≤ 1000) (Br Bs Bg Bi Bx Ba : Nat) (s i : Nat) (x : Int) (hs : s < R) (hi : i < R) (hsi : i ≠ s) (hBs : Bs ∈ avs) (hBg : Bg ∈ avs) (hBi : Bi ∈ avs) (hBx : Bx ∈ avs) (hBa : Ba ∈ avs)
    (cr : w.cell? ⟨Br, 0, none⟩ = some (.slice (some ⟨g, 0, none⟩) R R)) (cs : w.cell? ⟨Bs, 0, none⟩ = some (.slice none 0 0)) (cg : w.cell? ⟨Bg, 0, none⟩ = some (.pointer (some ⟨b, 0, none⟩))) (ci : w.cell? ⟨Bi, 0, none⟩ = some (.int .i64 i)) (cx : w.cell? ⟨Bx, 0, none⟩ = some (.int .i64 x)) (ca : w.cell? ⟨Ba, 0, none⟩ = some (.int .i64 s)) :
    Calls Try.prog 108 #[.func (.func 112) #[] #[.pointer (some ⟨Bg, 0, none⟩), .pointer (some ⟨Bi, 0, none⟩), .pointer (some ⟨Bx, 0, none⟩), .pointer (some ⟨Ba, 0, none⟩)], .pointer (some ⟨Br, 0, none⟩), .pointer (some ⟨Bs, 0, none⟩)] w (Stp w base g R N (upd a i (addF p m ml (a i) (kneg p m (kin (p ^ m) x)) (a s))) avs) := by
  have HC := hid_ (eadd_any w0 w hg hx0 h hb hN Bg Bi Bx Ba s i x hs hi hsi hBg hBi hBx hBa cg ci cx ca)
  have HBS := hid_ hBs
  have HCS := hid_ cs
  clear h hs hi hsi hBs hBg hBi hBx hBa cg ci cx ca cs hg hx0 hb
  go_enter Try.func108, Try.ntmps108
  go_wp2_with (go_at_call 112; refine HC.out.mono ?_; rintro e w2 ⟨⟨t, rfl⟩, hst, hkp, hex⟩; have hcs := hkp.cell HBS.out HCS.out)
  go_end0
  exact ⟨⟨_, rfl⟩, hst, hkp, hex⟩
end Go.Proofs.Ytpphaicbdeeacaa
