/- Walk of codewrightref31.Inverse. -/
/- Walk of codewrightref31.Compose (printed by gen_cmp.py). -/
/- Walks of chapter 31's short, EquivalenceMaps and EquivalenceComposes. -/
/- Plain: the end of EquivalenceFound. -/
/- Walk of codewrightref31.Small. -/
/- The walk of codewrightref12.Field. -/
/- The walk of codewrightref12.Make. -/
/- Walk of code.Dual. -/
/- The walk of codewrightref12.Check. -/
import Derived.Deep.CutRange
import Derived.Deep.RegionHeld3
import Derived.Test.YtgdmlmhpineibaaGreatZd09
import Derived.Test.YtgdmlmhpineibaaGreatZd15
import Derived.Test.YtgdmlmhpineibaaGreatZd17
import Derived.Test.YtgdmlmhpineibaaGreatZd22
import Derived.Test.YtgdmlmhpineibaaGreatZd29
import Derived.Test.YtgdmlmhpineibaaGreatZd30
import Derived.Test.YtgdmlmhpineibaaGreatZd31
import Derived.Test.YtgdmlmhpineibaaGreatZd32
import Derived.Test.YtgdmlmhpineibaaGreatZd33
import Derived.Test.YtgdmlmhpineibaaGreatZd44
import Derived.Test.YtgdmlmhpineibaaGreatZd45
import Derived.Test.YtgdmlmhpineibaaGreatZd47
import Derived.Test.YtgdmlmhpineibaaGreatZd49
import Derived.Test.YtgdmlmhpineibaaGreatZd50
namespace Go.Proofs.YtgdmlmhpineibaaGreat
set_option linter.unusedVariables false
set_option linter.unusedSimpArgs false
open Go.RowKit

end Go.Proofs.YtgdmlmhpineibaaGreat
namespace Go.Proofs.YtgdmlmhpineibaaGreat
set_option linter.unusedVariables false
set_option linter.unusedSimpArgs false
open Go.RowKit

end Go.Proofs.YtgdmlmhpineibaaGreat
namespace Go.Proofs.YtgdmlmhpineibaaGreat
set_option linter.unusedVariables false
set_option linter.unusedSimpArgs false
open Go.RowKit

end Go.Proofs.YtgdmlmhpineibaaGreat
namespace Go.Proofs.YtgdmlmhpineibaaGreat
set_option linter.unusedVariables false
set_option linter.unusedSimpArgs false
open Go.RowKit

theorem mchk_of {q N : Nat} {rows : List (List Int)} (hN : N ≤ 256) (hr : rows.length ≤ 256) (h : ∀ r ∈ rows, r.length = N ∧ entS q r = 0) : mchkS q N rows = 0 := by
  unfold mchkS
  rw [if_neg (by omega), if_pos (List.all_eq_true.2 fun r hr => by simp [(h r hr).1]), if_pos (List.all_eq_true.2 fun r hr => by simp [(h r hr).2])]
theorem imgF_ent {p m : Nat} {ml pl ul : List Int} {fr N : Nat} {x : List Int} (h : MonOK p m ml pl ul fr N) : entS (p ^ m) (il N (imgF p m ml pl ul fr x N)) = 0 := entS_of fun y hy => by
  obtain ⟨i, hi, rfl⟩ := List.getElem_of_mem hy
  rw [il_len] at hi
  obtain ⟨z, h1, h2⟩ := img_ent h (x := x) i hi
  rw [List.getD_eq_getElem?_getD, List.getElem?_eq_getElem (by rw [il_len]; exact hi)] at h1
  have h1' : (il N (imgF p m ml pl ul fr x N))[i]'(by rw [il_len]; exact hi) = z := h1
  rw [h1']; omega
theorem imL_ok {p m : Nat} {ml pl ul : List Int} {fr N : Nat} {l1 : List (List Int)} (h : MonOK p m ml pl ul fr N) : ∀ r ∈ imL p m ml pl ul fr N l1 l1.length, r.length = N ∧ entS (p ^ m) r = 0 := fun r hr => by
  unfold imL at hr
  obtain ⟨x, _, rfl⟩ := List.mem_map.1 hr
  exact ⟨il_len _ _, imgF_ent h⟩
theorem newE_img {p m : Nat} {ml pl ul : List Int} {fr N : Nat} {l1 : List (List Int)} (hc : chkS p m ml = 0) (hl : l1.length ≤ 256) (h : MonOK p m ml pl ul fr N) : newE p m ml N (imL p m ml pl ul fr N l1 l1.length) = 0 := by
  have h1 : canE p m ml N (imL p m ml pl ul fr N l1 l1.length) = 0 := by
    unfold canE
    rw [if_neg (fun h => h hc)]
    have e : (p : Int).toNat ^ (m : Int).toNat = p ^ m := by simp
    rw [e]
    exact mchk_of (by have := h.n2; omega) (by rw [imL_len (Nat.le_refl _)]; exact hl) (imL_ok h)
  unfold newE
  rw [if_neg (fun h => h h1)]
  unfold lenE
  rw [if_neg (by have := h.n1; have := h.n2; omega)]
/-- The canonical rows of anything pass. -/
theorem codO_can {p m N : Nat} {ml : List Int} {R : Nat} {a a' : Nat → Nat → Int} {piv : List Nat} (hF : FldB p m ml) (hn1 : 1 ≤ N) (hn2 : N ≤ 64) (hR : R ≤ 256) (h : ElO p m ml N R a a' piv) : CodO p m ml N (rowsL N piv.length a') 0 := by
  have hc : chkS p m ml = 0 := (chk_iff _ _ _).2 hF
  have hmk : mchkS (p ^ m) N (rowsL N piv.length a') = 0 := mchk_of (by omega) (by rw [rowsL_len]; have := (elo_rows h).1; omega) (elo_rows h).2
  have hce : canE p m ml N (rowsL N piv.length a') = 0 := by
    unfold canE
    rw [if_neg (fun h => h hc)]
    have e : (p : Int).toNat ^ (m : Int).toNat = p ^ m := by simp
    rw [e]; exact hmk
  have hl : lenE N = 0 := by unfold lenE; rw [if_neg (by omega)]
  have hlen := (elo_rows h).1
  obtain ⟨c, hcN, hP, hend, hS⟩ := h
  have hPV : PV p m piv.length N (rowsF (rowsL N piv.length a')) piv c := by
    have e : ∀ i j, i < piv.length → j < N → rowsF (rowsL N piv.length a') i j = a' i j := fun i j hi hj => rowsF_rowsL hi hj
    have hjl : ∀ j q : Nat, piv[j]? = some q → j < piv.length := fun j q hq => (List.getElem?_eq_some_iff.1 hq).1
    refine ⟨Nat.le_refl _, fun i hi j hj => ?_, hP.lt, fun j q hq => ?_, fun j q i hq hi hne => ?_, fun i j h1 h2 _ => by omega, fun j q k hq hk => ?_, hP.asc⟩
    · rw [e i j hi hj]; exact hP.rng i (by omega) j hj
    · rw [e j q (hjl j q hq) (by have := hP.lt j q hq; omega)]; exact hP.one j q hq
    · rw [e i q hi (by have := hP.lt j q hq; omega)]; exact hP.zer j q i hq (by omega) hne
    · rw [e j k (hjl j q hq) (by have := hP.lt j q hq; omega)]; exact hP.lead j q k hq hk
  refine .inr (.inr ⟨hc, hl, .inr ⟨hce, p, m, N, piv, rowsF (rowsL N piv.length a'), rfl, rfl, rfl, hF, hmk, ?_, ?_⟩⟩)
  · rw [rowsL_len]; exact elO_self hPV hcN rfl
  · have h5 : rowsL N piv.length (rowsF (rowsL N piv.length a')) = rowsL N piv.length a' := by
      have := rowsL_rowsF (N := N) (rows := rowsL N piv.length a') fun r hr => by
        unfold rowsL at hr
        obtain ⟨i, _, rfl⟩ := List.mem_map.1 hr
        exact il_len _ _
      rw [rowsL_len] at this
      exact this
    rw [if_pos h5]
section
variable {p m : Nat} {ml : List Int} {n : Nat} {l1 l2 : List (List Int)} {pl sl : List Int}
end
/-- What Apply hands back for a code and a map. -/
theorem app_ok {p m N fr : Nat} {ml pl ul : List Int} {rows : List (List Int)} {b0 : Nat} {r : Ending} {w' : World} (h : AppR p m ml N rows pl ul fr b0 r w') (ho : CodO p m ml N rows 0) (hmon : monS p m ml N pl ul fr = 0) :
    ∃ (piv : List Nat) (a' : Nat → Nat → Int) (rv v' : Value), r = .returned (.tuple #[.agg #[.int .i64 p, .int .i64 m, v', .int .i64 N, rv], .int .i64 0]) ∧ ElO p m ml N (imL p m ml pl ul fr N rows rows.length).length (rowsF (imL p m ml pl ul fr N rows rows.length)) a' piv ∧ ISl w' v' ml ∧ MSl w' rv (rowsL N piv.length a') := by
  obtain ⟨e1, ho1, h⟩ := h
  obtain rfl := codO_uniq ho1 ho
  have him : imA p m ml pl ul fr N rows = imL p m ml pl ul fr N rows rows.length := by unfold imA; simp
  obtain ⟨p2, m2, N2, f2, j1, j2, j3, j4, hf, hc0, hM⟩ := monOK_of hmon
  obtain rfl : p = p2 := by omega
  obtain rfl : m = m2 := by omega
  obtain rfl : N = N2 := by omega
  obtain rfl : fr = f2 := by omega
  rcases h with ⟨h, _⟩ | ⟨_, h, _⟩ | ⟨_, _, h⟩
  · exact absurd rfl h
  · exact absurd hmon h
  · rw [him] at h
    rcases h with ⟨h, _⟩ | ⟨_, pn, mn, N', piv, a', rv, v', e1, e2, e3, _, _, hr, hel, hv, hrv, _⟩
    · exact absurd (newE_img hc0 (codO_rows ho).1 hM) h
    · obtain rfl : p = pn := by omega
      obtain rfl : m = mn := by omega
      obtain rfl : N = N' := by omega
      exact ⟨piv, a', rv, v', hr, hel, hv, hrv⟩
theorem slot_at {w : World} {v : Value} {l : List Int} (h : ISl w v l) {i : Nat} (hi : i < l.length) : ∃ b o, (∃ c, v = .slice (some ⟨b, o, none⟩) l.length c) ∧ w.cell? ⟨b, o + i, none⟩ = some (.int .i64 (l.getD i 0)) := by
  obtain ⟨a, c, rfl, -, -, h3⟩ := h.open
  obtain ⟨b, o, rfl, h4⟩ := h3 (by omega)
  exact ⟨b, o, ⟨c, rfl⟩, h4 i _ (get_getD hi)⟩
end Go.Proofs.YtgdmlmhpineibaaGreat
namespace Go.Proofs.YtgdmlmhpineibaaGreat
set_option linter.unusedVariables false
set_option linter.unusedSimpArgs false
open Go.RowKit

end Go.Proofs.YtgdmlmhpineibaaGreat
namespace Go.Proofs.YtgdmlmhpineibaaGreat
set_option linter.unusedVariables false
set_option linter.unusedSimpArgs false
open Go.RowKit

end Go.Proofs.YtgdmlmhpineibaaGreat
namespace Go.Proofs.YtgdmlmhpineibaaGreat
set_option linter.unusedVariables false
set_option linter.unusedSimpArgs false
open Go.RowKit

theorem MSlF.set5 {b0 : Nat} {w : World} {v : Value} {rows : List (List Int)} (h : MSlF b0 w v rows) {q : Nat} (hq : q < b0) (a b c d e : Value) : MSlF b0 (set5 w q a b c d e) v rows :=
  ((((h.low (A := ⟨q, 0, none⟩) hq a).low (A := ⟨q, 1, none⟩) hq b).low (A := ⟨q, 2, none⟩) hq c).low (A := ⟨q, 3, none⟩) hq d).low (A := ⟨q, 4, none⟩) hq e
end Go.Proofs.YtgdmlmhpineibaaGreat
namespace Go.Proofs.YtgdmlmhpineibaaGreat
set_option linter.unusedVariables false
set_option linter.unusedSimpArgs false
open Go.RowKit

/-- A new matrix box. -/
structure BxMx (w : World) (b : Nat) : Prop where
  c0 : w.cell? ⟨b, 0, none⟩ = some (.int .i64 0)
  c1 : w.cell? ⟨b, 1, none⟩ = some (.slice none 0 0)
  f0 : w.frozen? ⟨b, 0, none⟩ = false
  f1 : w.frozen? ⟨b, 1, none⟩ = false
theorem BxMx.new (w : World) : BxMx (w.alloc (.cells #[.int .i64 0, .slice none 0 0] 113)) w.heap.size := ⟨by simp, by simp, by simp, by simp⟩
theorem BxMx.ex {w w' : World} {b : Nat} (h : BxMx w b) (hx : Ex w w') : BxMx w' b := ⟨hx.cell h.c0, hx.cell h.c1, hx.frz h.c0 h.f0, hx.frz h.c1 h.f1⟩
theorem BxMx.set {w : World} {b : Nat} (h : BxMx w b) (x y : Value) : ((w.setCell ⟨b, 0, none⟩ x).setCell ⟨b, 1, none⟩ y).cell? ⟨b, 0, none⟩ = some x ∧ ((w.setCell ⟨b, 0, none⟩ x).setCell ⟨b, 1, none⟩ y).cell? ⟨b, 1, none⟩ = some y :=
  ⟨by rw [cell_set_off (by decide)]; exact World.cell?_setCell_same _ _ _ h.c0, World.cell?_setCell_same _ _ _ (by rw [cell_set_off (by decide)]; exact h.c1)⟩
/-- What Dual hands back. -/
def DulR (p m : Int) (ml : List Int) (n : Int) (rows : List (List Int)) (r : Ending) (w' : World) : Prop :=
  ∃ e1 : Int, CodO p m ml n rows e1 ∧
    ((e1 ≠ 0 ∧ r = .returned (.tuple #[.agg #[.int .i64 0, .int .i64 0, .slice none 0 0, .int .i64 0, .slice none 0 0], .int .i64 e1])) ∨
     (e1 = 0 ∧ ∃ (pn mn N : Nat) (ks : List (List Int)) (kv v' : Value), p = pn ∧ m = mn ∧ n = N ∧ r = .returned (.tuple #[.agg #[.int .i64 pn, .int .i64 mn, v', .int .i64 N, kv], .int .i64 0]) ∧ KerF pn mn ml N rows ks ∧ ISl w' v' ml ∧ MSl w' kv ks))
set_option maxRecDepth 100000 in
set_option maxHeartbeats 8000000 in
theorem codeDual_any (w : World) (p m : Int) (ml : List Int) (mv : Value) (hmv : ISl w mv ml) (n : Int) (rows : List (List Int)) (v : Value) (hv : MSl w v rows) :
    Calls Tryz.prog 42 #[.agg #[.int .i64 p, .int .i64 m, mv, .int .i64 n, v]] w fun r w' => DulR p m ml n rows r w' ∧ Ex w w' := by
  obtain ⟨c0, c1, c2, c3, c4, ea⟩ := boxC_facts w p m mv n v
  have asz : (w.alloc (.cells #[.int .i64 p, .int .i64 m, mv, .int .i64 n, v] 47)).heap.size = w.heap.size + 1 := by simp
  have HX := hid_ ea
  have HM := hid_ hmv
  have HV := hid_ hv
  obtain ⟨va, vc, rfl, -, q1, -⟩ := hv.open
  obtain ⟨ma, mc, rfl, -, q2, -⟩ := hmv.open
  unfold maxLen at q1 q2
  obtain ⟨B, hB⟩ : ∃ B, w.heap.size = B := ⟨_, rfl⟩
  rw [hB] at c0 c1 c2 c3 c4 asz
  clear hmv hv ea
  go_enter Tryz.func42, Tryz.ntmps42
  go_upto_region 1 with fail
  try simp only [hB]
  have HB := hid_ hB
  clear hB
  generalize w.alloc (.cells #[.int .i64 p, .int .i64 m, .slice ma ml.length mc, .int .i64 n, .slice va rows.length vc] 47) = wB at *
  have bq := BxC.new wB
  rw [asz] at bq
  have ec : Ex wB _ := e_al wB (.cells #[.int .i64 0, .int .i64 0, .slice none 0 0, .int .i64 0, .slice none 0 0] 47)
  have csz : (wB.alloc (.cells #[.int .i64 0, .int .i64 0, .slice none 0 0, .int .i64 0, .slice none 0 0] 47)).heap.size = B + 1 + 1 := by simp [asz]
  try simp only [asz]
  generalize wB.alloc (.cells #[.int .i64 0, .int .i64 0, .slice none 0 0, .int .i64 0, .slice none 0 0] 47) = wC at *
  have HALL := hid_ (fun w' (h : Ex wC w') => (⟨h.cell (ec.cell c0), h.cell (ec.cell c1), h.cell (ec.cell c2), h.cell (ec.cell c3), h.cell (ec.cell c4)⟩ : _ ∧ _ ∧ _ ∧ _ ∧ _))
  have BQ := hid_ bq
  have HXC := hid_ (HX.out.trans ec)
  have CSZ := hid_ csz
  have HCK := hid_ (codeCheck_any wC p m ml _ (HM.out.ex HXC.out) n rows _ (HV.out.ex HXC.out))
  clear c0 c1 c2 c3 c4 bq ec csz asz HX
  obtain ⟨c0, c1, c2, c3, c4⟩ := HALL.out wC (Ex.refl _)
  go_wp2_with fail
  refine HCK.out.mono ?_
  rintro e w2 ⟨⟨e1, rfl, ho1⟩, hx2⟩
  clear c0 c1 c2 c3 c4 HCK
  obtain ⟨c0, c1, c2, c3, c4⟩ := HALL.out w2 hx2
  have HX2 := hid_ hx2
  have HO1 := hid_ ho1
  clear hx2 ho1
  by_cases h1 : e1 = 0
  · subst h1
    obtain ⟨pn, mn, N, rfl, rfl, rfl, hsh, hI, n1, n64, k256, hrw⟩ := codO_two HO1.out
    have HFB := hid_ (codO_fld HO1.out).1
    have HGN := hid_ (fun (w' : World) (h : Ex w2 w') => gen_any w' pn mn (.slice ma ml.length mc) N rows _ (HV.out.ex ((HXC.out.trans HX2.out).trans h)))
    have HKN := hid_ (fun (w' : World) (h : Ex w2 w') => KernelF_any pn mn N ml _ w' (HM.out.ex ((HXC.out.trans HX2.out).trans h)) rows _ (HV.out.ex ((HXC.out.trans HX2.out).trans h)) HFB.out (mchk_of (by omega) k256 hrw) n1)
    have hml : ml.length ≤ 1000 := by have h := hsh.len; have h8 := hsh.m8; rw [h]; split <;> omega
    have HOF := hid_ (fun (w' : World) (h : Ex w2 w') (ks : List (List Int)) (kv : Value) (hk : MSl w' kv ks) => codeOf_any w' pn mn ml _ (HM.out.ex ((HXC.out.trans HX2.out).trans h)) hml N ks kv hk 0)
    have HBW := hid_ (show B + 1 < w2.heap.size from World.block_lt_of_cell? _ _ (BQ.out.ex HX2.out).c0)
    clear hsh hI n1 n64 k256 hrw hml
    go_upto_region 4 with fail
    go_cut [5, 6] from 13 to 20 (fun s5 s6 wx => ∃ (G : Nat) (ks : List (List Int)) (ka : Option Addr) (kc : Nat), s5 = .pointer (some ⟨G, 0, none⟩) ∧ s6 = .int .i64 0 ∧ Hid (KerF pn mn ml N rows ks) ∧ Hid (wx.cell? ⟨G, 0, none⟩ = some (.int .i64 N) ∧ wx.cell? ⟨G, 1, none⟩ = some (.slice ka ks.length kc)) ∧ Hid (MSlF w2.heap.size wx (.slice ka ks.length kc) ks) ∧ Hid (Ex w2 wx))
    case first =>
      have c0x := fun o => ((Ex.refl w2).alloc o).cell c0
      have c1x := fun o => ((Ex.refl w2).alloc o).cell c1
      have c2x := fun o => ((Ex.refl w2).alloc o).cell c2
      have c3x := fun o => ((Ex.refl w2).alloc o).cell c3
      have c4x := fun o => ((Ex.refl w2).alloc o).cell c4
      have C0 := hid_ c0
      have C1 := hid_ c1
      have C2 := hid_ c2
      go_region_law ((first
        | (go_simp; go_at_call 80; (first | (with_reducible refine (HGN.out _ (Ex.refl w2).drew).mono ?_; rintro e w3 ⟨rfl, hx3⟩; have G1 := hid_ ((Ex.refl w2).drew.trans hx3)) | (with_reducible refine (HGN.out _ ((Ex.refl w2).alloc _).drew).mono ?_; rintro e w3 ⟨rfl, hx3⟩; have G1 := hid_ (((Ex.refl w2).alloc _).drew.trans hx3); have BX := hid_ (((BxMx.new w2).ex (Ex.refl _).drew).ex hx3); have HLE := hid_ (show w2.heap.size ≤ w2.heap.size ∧ w2.heap.size < w3.heap.size from ⟨Nat.le_refl _, World.block_lt_of_cell? _ _ BX.out.c0⟩))); have d0 := G1.out.cell C0.out; have d1 := G1.out.cell C1.out; have d2 := G1.out.cell C2.out; have d0x := fun o => (G1.out.alloc o).cell C0.out; have d1x := fun o => (G1.out.alloc o).cell C1.out; have d2x := fun o => (G1.out.alloc o).cell C2.out; clear hx3)
        | ((first | (go_simp; go_at_call 79) | go_at_call 79 | skip); (first
            | (refine (HKN.out _ G1.out).mono ?_; rintro e w4 ⟨ks, kv, rfl, hker, hmf, hx4⟩; have G2 := hid_ (G1.out.trans hx4); have HMF := hid_ hmf; have HLK := hid_ (show w2.heap.size ≤ w3.heap.size from G1.out.size); (try (have BX := hid_ (BX.out.ex hx4))))
            | (refine (HKN.out _ (G1.out.alloc _)).mono ?_; rintro e w4 ⟨ks, kv, rfl, hker, hmf, hx4⟩; have G2 := hid_ ((G1.out.alloc _).trans hx4); have HMF := hid_ hmf; have HLE := hid_ (show w2.heap.size ≤ w3.heap.size ∧ w3.heap.size < (w3.alloc (.cells #[.int .i64 0, .slice none 0 0] 113)).heap.size from ⟨G1.out.size, by simp⟩); have HLK := hid_ (show w2.heap.size ≤ (w3.alloc (.cells #[.int .i64 0, .slice none 0 0] 113)).heap.size from by have := G1.out.size; simp; omega); have BX := hid_ ((BxMx.new w3).ex hx4))
            ); obtain ⟨ka, kc, rfl, -, -, -⟩ := hmf.msl.open; have HKE := hid_ hker; (try (have b0 := BX.out.c0; have b1 := BX.out.c1; have f0 := BX.out.f0; have f1 := BX.out.f1)); clear hker hmf hx4; go_simp)))
      all_goals go_wp2_with fail
      all_goals go_meet
      all_goals first
        | (obtain ⟨k0, k1⟩ := BX.out.set (.int .i64 N) (.slice ka ks.length kc)
           have hle := HLE.out
           exact ⟨_, ks, ka, kc, rfl, rfl, HKE.out, hid_ ⟨k0, k1⟩, hid_ (((HMF.out.low (by first | exact hle.2 | (show _ < _; omega)) _).low (by first | exact hle.2 | (show _ < _; omega)) _).mono (by first | exact HLK.out | omega)), hid_ ((G2.out.setCell (by first | exact hle.1 | (show _ ≤ _; omega)) _).setCell (by first | exact hle.1 | (show _ ≤ _; omega)) _)⟩)
        | exact ⟨_, ks, ka, kc, rfl, rfl, HKE.out, hid_ ⟨by simp, by simp⟩, hid_ ((HMF.out.mono (by first | exact HLK.out | omega)).ex ((Ex.refl _).alloc _)), hid_ (G2.out.alloc _)⟩
    case rest =>
      obtain ⟨G, ks, ka, kc, rfl, rfl, hke, hgc, hmf, hxc⟩ := hcut
      clear c0 c1 c2 c3 c4
      obtain ⟨c0, c1, c2, c3, c4⟩ := HALL.out wc (HX2.out.trans hxc.out)
      obtain ⟨g0, g1⟩ := hgc.out
      have HF := hid_ (HOF.out wc hxc.out ks _ hmf.out.msl)
      have BQ2 := hid_ (BQ.out.ex (HX2.out.trans hxc.out))
      have XC := hid_ ((HXC.out.trans HX2.out).trans hxc.out)
      clear hgc
      go_wp2_with fail
      refine HF.out.mono ?_
      rintro e w5 ⟨ho, hx5⟩
      rcases ho with ⟨h, _⟩ | ⟨_, v', rfl, hv', hb'⟩
      · exact absurd rfl h
      · obtain ⟨q0, q1, q2, q3, q4, qf0, qf1, qf2, qf3, qf4⟩ := BQ2.out.ex hx5
        obtain ⟨xa, xc, rfl, -, -, -⟩ := hv'.open
        have hw := HB.out
        have hlt := HBW.out
        have hsz := hxc.out.size
        have HVV := hid_ (set5_isl (q := B + 1) hv' (fun C h => by have := hb' C h; omega) (.int .i64 pn) (.int .i64 mn) (.slice xa ml.length xc) (.int .i64 N) (.slice ka ks.length kc))
        have HMM := hid_ ((hmf.out.ex hx5).set5 (q := B + 1) hlt (.int .i64 pn) (.int .i64 mn) (.slice xa ml.length xc) (.int .i64 N) (.slice ka ks.length kc)).msl
        have X5 := hid_ (XC.out.trans hx5)
        clear hv' hb' hx5 c0 c1 c2 c3 c4 g0 g1
        go_wp2_with fail
        exact bodyPost_ret (v := .tuple #[.agg #[.int .i64 pn, .int .i64 mn, .slice xa ml.length xc, .int .i64 N, .slice ka ks.length kc], .int .i64 0]) (by simp [results, Tryz.results42, go_sem, q0, q1, q2, q3, q4]) rfl ⟨⟨0, HO1.out, .inr ⟨rfl, pn, mn, N, ks, _, _, rfl, rfl, rfl, rfl, hke.out, HVV.out, HMM.out⟩⟩, set5_ex X5.out (by omega) _ _ _ _ _⟩
  · have k1 : (e1 != 0) = true := by simpa using h1
    obtain ⟨q0, q1, q2, q3, q4, qf0, qf1, qf2, qf3, qf4⟩ := BQ.out.ex HX2.out
    have H1 := hid_ h1
    have hw := HB.out
    clear h1
    go_wp2_with fail
    exact bodyPost_ret (v := .tuple #[.agg #[.int .i64 0, .int .i64 0, .slice none 0 0, .int .i64 0, .slice none 0 0], .int .i64 e1]) (by simp [results, Tryz.results42, go_sem, q0, q1, q2, q3, q4]) rfl ⟨⟨e1, HO1.out, .inl ⟨H1.out, rfl⟩⟩, set5_ex (HXC.out.trans HX2.out) (by omega) _ _ _ _ _⟩
end Go.Proofs.YtgdmlmhpineibaaGreat
namespace Go.Proofs.YtgdmlmhpineibaaGreat
set_option linter.unusedVariables false
set_option linter.unusedSimpArgs false
open Go.RowKit

set_option maxRecDepth 100000 in
set_option maxHeartbeats 4000000 in
theorem rChk12_any (w : World) (p m : Int) (ml : List Int) (mv : Value) (hmv : ISl w mv ml) (n : Int) (rows : List (List Int)) (v : Value) (hv : MSl w v rows) :
    Calls Tryz.prog 40 #[.agg #[.int .i64 p, .int .i64 m, mv, .int .i64 n, v]] w fun r w' => (∃ e : Int, r = .returned (.int .i64 e) ∧ CodO p m ml n rows e) ∧ Ex w w' := by
  obtain ⟨a0, a1, a2, a3, a4, ea⟩ := boxC_facts w p m mv n v
  have HFC := hid_ (fun (w' : World) (h : Ex w w') => rCheck_any p m ml mv w' (hmv.ex h))
  have HSC := hid_ (fun (w' : World) (h : Ex w w') => rChk10_any p m ml mv w' (hmv.ex h) n rows v (hv.ex h))
  obtain ⟨za, zc, rfl, -, z2, -⟩ := hv.open
  unfold maxLen at z2
  obtain ⟨ma, mc, rfl, -, m2, -⟩ := hmv.open
  unfold maxLen at m2
  have HE := hid_ ea
  obtain ⟨F, hF⟩ : ∃ F, chkS p m ml = F := ⟨_, rfl⟩
  have hF1 : F = 0 ∨ F = 1 := by
    rw [← hF]; unfold chkS; split <;> omega
  have HCO := hid_ (show ∀ e, ((F ≠ 0 ∧ e = 1) ∨ (F = 0 ∧ lenE n ≠ 0 ∧ e = lenE n) ∨ (F = 0 ∧ lenE n = 0 ∧ SpcO p m ml n rows e)) → CodO p m ml n rows e from fun e h => by unfold CodO; rw [hF]; exact h)
  rw [hF] at HFC
  clear hmv hv ea hF
  go_enter Tryz.func40, Tryz.ntmps40
  go_wp2_with fail
  obtain ⟨xb, hxb⟩ : ∃ xb, w.heap.size = xb := ⟨_, rfl⟩
  rw [hxb] at a0 a1 a2 a3 a4
  try simp only [hxb]
  clear hxb
  generalize w.alloc (.cells #[.int .i64 p, .int .i64 m, .slice ma ml.length mc, .int .i64 n, .slice za rows.length zc] 47) = w1 at *
  refine (HFC.out w1 HE.out).mono ?_
  rintro e w2 ⟨rfl, hx2⟩
  have A0 := hid_ (hx2.cell a0)
  have A1 := hid_ (hx2.cell a1)
  have A2 := hid_ (hx2.cell a2)
  have A3 := hid_ (hx2.cell a3)
  have A4 := hid_ (hx2.cell a4)
  have HX2 := hid_ (HE.out.trans hx2)
  clear a0 a1 a2 a3 a4 hx2 HFC HE
  rcases hF1 with h1 | h1
  · subst h1
    have a3 := A3.out
    by_cases h2 : n < 1
    · have HR := hid_ (HCO.out 4 (.inr (.inl ⟨rfl, by unfold lenE; rw [if_pos (.inl h2)]; decide, by unfold lenE; rw [if_pos (.inl h2)]⟩)))
      clear HSC HCO
      go_wp2_with fail
      go_ret
      exact ⟨⟨_, rfl, HR.out⟩, HX2.out⟩
    · by_cases h3 : 64 < n
      · have HR := hid_ (HCO.out 4 (.inr (.inl ⟨rfl, by unfold lenE; rw [if_pos (.inr h3)]; decide, by unfold lenE; rw [if_pos (.inr h3)]⟩)))
        clear HSC HCO
        have b1 : decide (n < 1) = false := by simp; omega
        go_wp2_with fail
        go_ret
        exact ⟨⟨_, rfl, HR.out⟩, HX2.out⟩
      · have HCO2 := hid_ (fun e h => HCO.out e (.inr (.inr ⟨rfl, by unfold lenE; rw [if_neg (by omega)], h⟩)))
        have b1 : decide (n < 1) = false := by simp; omega
        have b2 : decide (64 < n) = false := by simp; omega
        have a0 := A0.out
        have a1 := A1.out
        have a2 := A2.out
        have a4 := A4.out
        clear HCO
        go_wp2_with fail
        refine (HSC.out w2 HX2.out).mono ?_
        rintro e w3 ⟨⟨e, rfl, he⟩, hx3⟩
        have HR := hid_ (HCO2.out e he)
        have HX3 := hid_ (HX2.out.trans hx3)
        clear he hx3
        go_wp2_with fail
        go_ret
        exact ⟨⟨_, rfl, HR.out⟩, HX3.out⟩
  · subst h1
    have HR := hid_ (HCO.out 1 (.inl ⟨by decide, rfl⟩))
    clear HSC HCO
    go_wp2_with fail
    go_ret
    exact ⟨⟨_, rfl, HR.out⟩, HX2.out⟩
end Go.Proofs.YtgdmlmhpineibaaGreat
