/- Walks of elimination's closures. -/
import Derived.Test.YtpphaicbdeeacaaPeelHC
import Derived.RegionTactic
import Derived.BigRegion
namespace Go.Proofs.Ytpphaicbdeeacaa
set_option linter.unusedVariables false
set_option linter.unusedSimpArgs false
open Go.RowKit

/-- What a step leaves. -/
def Stp (w : World) (base g R N : Nat) (a' : Nat → Nat → Int) (avs : List Nat) (r : Ending) (w' : World) : Prop :=
  (∃ t, r = .returned t) ∧ (∃ blk' cap', EM w' base g R N blk' cap' a' avs) ∧ Kp w w' avs ∧ ∀ w0, Ex w0 w → w0.heap.size ≤ base → Ex w0 w'

set_option maxRecDepth 100000 in
set_option maxHeartbeats 4000000 in
theorem eswp_any (w : World) {base g R N : Nat} {blk cap : Nat → Nat} {a : Nat → Nat → Int} {avs : List Nat} (h : EM w base g R N blk cap a avs) (Bk Ba : Nat) (s k : Nat) (hs : s < R) (hk : k < R) (hsk : s ≠ k) (hBk : Bk ∈ avs) (hBa : Ba ∈ avs)
    (ck : w.cell? ⟨Bk, 0, none⟩ = some (.int .i64 k)) (ca : w.cell? ⟨Ba, 0, none⟩ = some (.int .i64 s)) :
    Calls Try.prog 109 #[.slice (some ⟨g, 0, none⟩) R R, .pointer (some ⟨Bk, 0, none⟩), .pointer (some ⟨Ba, 0, none⟩)] w (Stp w base g R N (swpA a s k) avs) := by
  have c1 := h.cell hs
  have c2 := h.cell hk
  have f1 := h.arr.frz s
  have f2 := h.arr.frz k
  have i1 : (0 : Int) ≤ (s : Int) := by omega
  have i2 : (s : Int) < (R : Int) := by omega
  have i3 : (0 : Int) ≤ (k : Int) := by omega
  have i4 : (k : Int) < (R : Int) := by omega
  have n1 : ¬ s = k := hsk
  have n2 : ¬ k = s := fun e => hsk e.symm
  have ck2 : (w.setCell ⟨g, s, none⟩ (.slice (some ⟨blk k, 0, none⟩) N (cap k))).cell? ⟨Bk, 0, none⟩ = some (.int .i64 k) := by rw [cell_setCell_ne (h.av Bk hBk).2.1]; exact ck
  have ca2 : (w.setCell ⟨g, s, none⟩ (.slice (some ⟨blk k, 0, none⟩) N (cap k))).cell? ⟨Ba, 0, none⟩ = some (.int .i64 s) := by rw [cell_setCell_ne (h.av Ba hBa).2.1]; exact ca
  have ck3 : (w.setCell ⟨g, k, none⟩ (.slice (some ⟨blk s, 0, none⟩) N (cap s))).cell? ⟨Bk, 0, none⟩ = some (.int .i64 k) := by rw [cell_setCell_ne (h.av Bk hBk).2.1]; exact ck
  have ca3 : (w.setCell ⟨g, k, none⟩ (.slice (some ⟨blk s, 0, none⟩) N (cap s))).cell? ⟨Ba, 0, none⟩ = some (.int .i64 s) := by rw [cell_setCell_ne (h.av Ba hBa).2.1]; exact ca
  have HE := hid_ (h.ex (Ex.refl w).drew)
  have HS := hid_ (HE.out.swp hs hk hsk)
  have HM := hid_ (h.ex (Ex.refl w).drew |>.arr.set s (rowV blk cap N k))
  have HK2 := hid_ (show Kp (w.drew.setCell ⟨g, s, none⟩ (rowV blk cap N k)) ((w.drew.setCell ⟨g, s, none⟩ (rowV blk cap N k)).setCell ⟨g, k, none⟩ (rowV blk cap N s)) avs from fun B hB => Below.heap_setCell _ ⟨g, k, none⟩ _ B (fun e => (h.av B hB).2.1 e.symm))
  have HX2 := hid_ (show ∀ w0, Ex w0 w → w0.heap.size ≤ base → Ex w0 ((w.drew.setCell ⟨g, s, none⟩ (rowV blk cap N k)).setCell ⟨g, k, none⟩ (rowV blk cap N s)) from fun w0 hx hb => HM.out.exSet hb (HE.out.arr.exSet hb hx.drew s _) k _)
  have HB := hid_ h
  have HR := hid_ (show s < R ∧ k < R ∧ s ≠ k from ⟨hs, hk, hsk⟩)
  clear h hs hk hsk
  go_enter Try.func109, Try.ntmps109
  go_wp2_with fail
  go_region
  all_goals
    go_wp2_with fail
    go_end0
    refine ⟨⟨_, rfl⟩, ⟨_, _, HS.out⟩, ?_, fun w0 hx hb => ?_⟩
    · exact ((HB.out.kpx (Ex.refl w).drew).trans (HE.out.kpg s (rowV blk cap N k))).trans (HK2.out)
    · exact (HX2.out w0 hx hb)

set_option maxRecDepth 100000 in
set_option maxHeartbeats 4000000 in
theorem escl_any {p m : Nat} {ml : List Int} {b x0 : Nat} (w0 w : World) (hg : GFat w0 b p m ml x0) (hx0 : Ex w0 w) {base g R N : Nat} {blk cap : Nat → Nat} {a : Nat → Nat → Int} {avs : List Nat} (h : EM w base g R N blk cap a avs) (hb : w0.heap.size ≤ base) (hN : N ≤ 1000) (Bg Bi Ba : Nat) (s : Nat) (inv : Int) (hs : s < R) (hBg : Bg ∈ avs) (hBi : Bi ∈ avs) (hBa : Ba ∈ avs)
    (cg : w.cell? ⟨Bg, 0, none⟩ = some (.pointer (some ⟨b, 0, none⟩))) (ci : w.cell? ⟨Bi, 0, none⟩ = some (.int .i64 inv)) (ca : w.cell? ⟨Ba, 0, none⟩ = some (.int .i64 s)) :
    Calls Try.prog 110 #[.slice (some ⟨g, 0, none⟩) R R, .pointer (some ⟨Bg, 0, none⟩), .pointer (some ⟨Bi, 0, none⟩), .pointer (some ⟨Ba, 0, none⟩)] w (Stp w base g R N (upd a s (sclF p m ml (kin (p ^ m) inv) (a s))) avs) := by
  have c1 := h.cell hs
  have f1 := h.arr.frz s
  have i1 : (0 : Int) ≤ (s : Int) := by omega
  have i2 : (s : Int) < (R : Int) := by omega
  obtain ⟨k1, k2⟩ := (h.row s hs).caps
  unfold maxLen at k2
  have HB := hid_ h
  have HR := hid_ hs
  have HX0 := hid_ hx0
  have HBB := hid_ hb
  have HSC := hid_ (fun w' (hx : Ex w w') => Scale_any w' (hg.ex (hx0.trans hx)) N (a s) inv (.slice (some ⟨blk s, 0, none⟩) N (cap s)) (((h.row s hs).isl).ex hx) hN)
  have HCA := hid_ ca
  have HF1 := hid_ f1
  have HC1 := hid_ c1
  clear h hs hg hx0 hb
  go_enter Try.func110, Try.ntmps110
  go_wp2_with fail
  have E0 : Ex w w.drew := (Ex.refl w).drew
  go_region_law
    ((first
      | (go_simp; go_at_call 111; (with_reducible refine (HSC.out _ E0).mono ?_); rintro e wx ⟨gg, rfl, hown, hy⟩; have hca2 := hy.cell (E0.cell HCA.out); have hc2 := hy.cell (E0.cell HC1.out); have hf2 := hy.frz (E0.cell HC1.out) (E0.frz HC1.out HF1.out))))
  all_goals
    have EX := hid_ (E0.trans hy)
    have HBX := hid_ (HB.out.ex EX.out)
    have hlt := hown.lt.1
    have HPUT := hid_ (HBX.out.put HR.out (hown.mono (b' := base) (by have := HB.out.arr.lt; have := E0.size; omega) : OwnC wx base 3 gg N N _) (fun i hi _ e => by have := (HB.out.row i hi).lt.2; have := E0.size; omega) (fun e => by have := HB.out.arr.lt.2; have := E0.size; omega) (fun B hB e => by have := (HB.out.av B hB).1; have := E0.size; omega))
    have HKP := hid_ ((HB.out.kpx EX.out).trans (HBX.out.kpg s (.slice (some ⟨gg, 0, none⟩) N N)))
    have HX2 := hid_ (show ∀ w0, Ex w0 w → w0.heap.size ≤ base → Ex w0 (wx.setCell ⟨g, s, none⟩ (.slice (some ⟨gg, 0, none⟩) N N)) from fun w0 hx hb => HBX.out.arr.exSet hb (hx.trans EX.out) s _)
    clear hown hy hca2 hc2 hf2 hlt E0 ca c1 f1
    go_wp2_with fail
    go_end0
    exact ⟨⟨_, rfl⟩, ⟨_, _, HPUT.out⟩, HKP.out, HX2.out⟩
end Go.Proofs.Ytpphaicbdeeacaa
