/- Walks of the reference of the package field: divides. -/
import Derived.Test.YtpphaicbdeeacaaFldW
import Derived.Test.YtpphaicbdeeacaaLibE
namespace Go.Proofs.Ytpphaicbdeeacaa
set_option linter.unusedVariables false
set_option linter.unusedSimpArgs false
open Go.RowKit

/-- The coefficients of the monic polynomial with the low coefficients ml. -/
def mon (ml : List Int) : Vc := fun j => if j < ml.length then ml.getD j 0 else if j = ml.length then 1 else 0
/-- Does the monic polynomial with the d low coefficients low divide the one with the low coefficients ml? -/
def dvB (p d : Nat) (low : Vc) (ml : List Int) : Bool := (List.range d).all fun j => ap d low (ml.length + 1) (mon ml) one_ j % (p : Int) == 0

def RdE (p d : Nat) (low : Vc) (i j : Nat) (c0 c : Vc) : Prop := EqM p (fun t => ap d low i c one_ t) (fun t => ap d low i c0 one_ t - c0 i * sXn d low (i - d) (ap d low j low one_) t)

theorem dv_end {p d : Nat} {low : Vc} {ml : List Int} {c : Vc} (hc : ∀ j, 0 ≤ c j ∧ c j < p) (h : EqM p (ap d low d c one_) (ap d low (ml.length + 1) (mon ml) one_)) :
    dvB p d low ml = (List.range d).all fun j => c j == 0 := by
  unfold dvB
  rw [Bool.eq_iff_iff, List.all_eq_true, List.all_eq_true]
  have key : ∀ j, j < d → ap d low (ml.length + 1) (mon ml) one_ j % (p : Int) = c j := fun j hj => by
    rw [← h j, ap_one d c (Nat.le_refl _)]
    dsimp only
    rw [if_pos hj]
    exact Int.emod_eq_of_lt (hc j).1 (hc j).2
  constructor
  · intro h1 j hj
    have := h1 j hj
    rwa [key j (List.mem_range.1 hj)] at this
  · intro h1 j hj
    have := h1 j hj
    rwa [key j (List.mem_range.1 hj)]

theorem mon_ints (ml : List Int) : ints ml ++ [.int .i64 1] = vs (ml.length + 1) (iv (mon ml)) := by
  apply List.ext_getElem?
  intro j
  by_cases h1 : j < ml.length
  · rw [List.getElem?_append_left (by rw [ints_length]; exact h1), vs_get (by omega)]
    unfold iv mon
    rw [if_pos h1]
    simp [ints, h1, List.getD_eq_getElem?_getD]
  · rw [List.getElem?_append_right (by rw [ints_length]; omega), ints_length]
    by_cases h2 : j = ml.length
    · subst h2
      rw [vs_get (by omega)]
      unfold iv mon
      simp
    · rw [show (vs (ml.length + 1) (iv (mon ml)))[j]? = none by rw [List.getElem?_eq_none_iff, vs_length]; omega]
      rw [List.getElem?_eq_none_iff]; simp; omega

set_option maxRecDepth 100000 in
set_option maxHeartbeats 4000000 in
theorem divides_any (p d : Nat) (low : Vc) (ml : List Int) (lv mv : Value) (w : World) (hp : 2 ≤ p) (hp' : p ≤ 256) (hd : 1 ≤ d) (hdm : d ≤ ml.length) (hm8 : ml.length ≤ 8)
    (hlv : ISl w lv (il d low)) (hlr : ∀ j, 0 ≤ low j ∧ low j < p) (hmv : ISl w mv ml) (hmr : ∀ x ∈ ml, 0 ≤ x ∧ x < p) :
    Calls Try.prog 107 #[lv, mv, .int .i64 p] w fun r w' => r = .returned (.bool (dvB p d low ml)) ∧ Ex w w' := by
  obtain ⟨la, lc, rfl, l1, l2, l3⟩ := hlv.open
  rw [il_length] at *
  obtain ⟨lb, lo, rfl, l4⟩ := l3 (by omega)
  have L4 := hid_ (fun j (hj : j < d) => l4 j _ (il_get hj low))
  have HMV := hid_ hmv
  have HMON := hid_ (show ∀ j, 0 ≤ mon ml j ∧ mon ml j < p from fun j => by
    unfold mon
    split
    · rename_i h
      rw [List.getD_eq_getElem?_getD, List.getElem?_eq_getElem h]
      exact hmr _ (List.getElem_mem h)
    · split <;> omega)
  have HDE := hid_ (fun c h1 h2 => dv_end (p := p) (d := d) (low := low) (ml := ml) (c := c) h1 h2)
  have HMI := hid_ (mon_ints ml)
  have HLR := hid_ hlr
  have hmi : ∀ u ∈ ints ml, u.oneCell' = true := by
    intro u hu; obtain ⟨z, _, rfl⟩ := List.mem_map.1 hu; rfl
  have HON := hid_ hmi
  unfold maxLen at l2
  clear hlv hmv hmr l3 l4 hlr hmi
  go_enter Try.func107, Try.ntmps107
  go_wp2_with (at_builtin; refine wpList_append_sl _ rfl _ _ 22 rfl w.heap.size 3 (.int .i64 0) 1 8 Try.underlying22 infoInt rfl (by decide) _ 0 [] rfl (own_lit0 w 3) mv ml.length (ints ml) rfl (HMV.out.ex ((Ex.refl w).alloc _)) HON.out (by unfold maxLen; omega) (by omega) (by simp) ?_)
  intro v1 w1 hown1 hg1 ha1
  have hx1 : Ex w w1 := Ex.grown ((Ex.refl w).alloc _) (own_lit0 w 3) (Nat.le_refl _) hg1
  obtain ⟨va, vc, rfl⟩ := own_shape hown1
  have HX1 := hid_ hx1
  have HO1 := hid_ hown1
  have HB1 := hid_ hx1.size
  clear hg1 ha1 hown1 hx1
  go_wp2_with (at_builtin; refine wpList_append1 _ rfl _ _ 22 rfl w.heap.size 3 (.int .i64 0) 1 8 Try.underlying22 infoInt rfl (by decide) _ ml.length _ rfl HO1.out [.int .i64 1] 3 _ rfl (by simp) rfl (by simp [Value.oneCell']) (by unfold maxLen; omega) (by omega) HB1.out ?_)
  intro v2 w2 happ
  have hown2 := happ.own
  rw [HMI.out] at hown2
  obtain ⟨g, cap, rfl, hown⟩ := ownC_of hown2 (by omega)
  have hx2 := happ.ex HX1.out (Nat.le_refl _)
  have hcap := hown.caps
  obtain ⟨k1, k2⟩ := hcap
  unfold maxLen at k2
  have HOW := hid_ hown
  have HTOP := hid_ (show ∀ j, ml.length + 1 ≤ j → j < ml.length + 1 → mon ml j = 0 from fun j a b => by omega)
  have HRST := hid_ (show ∀ (a : Nat) (c : Nat → Int), RdE p d low a 0 c c from fun a c => red_start (m := d) (low := low) p c)
  have HRSP := hid_ (show ∀ (a j : Nat) (c c0 : Nat → Int), d ≤ a → j < d → RdE p d low a j c0 c → c a = c0 a → RdE p d low a (j + 1) c0 (updI c (a - d + j) ((c (a - d + j) + ((p : Int) - c a) * low j) % (p : Int))) from fun a j c c0 h1 h2 h3 h4 => red_step (m := d) (low := low) (T := c0) h1 h2 h3 h4)
  have HRRW := hid_ (show ∀ (a : Nat) (c c0 : Nat → Int) (T : Vc), d ≤ a → EqM p (ap d low (a + 1) c0 one_) T → RdE p d low a d c0 c → EqM p (ap d low a c one_) T from fun a c c0 T h1 h2 h3 => red_row (m := d) (low := low) hd h1 h2 h3)
  have HUG := hid_ (show ∀ (a : Nat) (c : Nat → Int) v, ap d low a (updI c a v) one_ = ap d low a c one_ from fun a c v => ap_upd_ge (Nat.le_refl _))
  obtain ⟨T, hTT⟩ : ∃ T, ap d low (ml.length + 1) (mon ml) one_ = T := ⟨_, rfl⟩
  rw [hTT] at HDE
  have HI0 := hid_ (show EqM p (ap d low (ml.length + 1) (mon ml) one_) T by rw [hTT]; exact EqM.refl _ _)
  clear hTT
  clear happ hown2 hown HX1 HO1 HB1
  go_wp2_with fail
  go_loopw [9, 10, 11] (fun i' _ _ wr => ∃ (a : Nat) (c : Nat → Int), d ≤ a ∧ a ≤ ml.length + 1 ∧ i' = .int .i64 ((a : Int) - 1) ∧ Hid (OwnC wr w.heap.size 3 g (ml.length + 1) cap (iv c)) ∧ Hid (∀ j, 0 ≤ c j ∧ c j < p) ∧ Hid (EqM p (ap d low a c one_) T) ∧ Hid (∀ j, a ≤ j → j < ml.length + 1 → c j = 0) ∧ Ex w wr) (fun i' _ _ _ => (intOf i' + 1).toNat)
  case atStart => exact ⟨ml.length + 1, mon ml, by omega, by omega, by go_num, HOW, HMON, HI0, HTOP, hx2⟩
  case round =>
    clear HOW HI0 HTOP hx2
    obtain ⟨a, c, ha1, ha2, rfl, hoc, hcr, hT, hz, hx⟩ := hrel
    by_cases hai : d < a
    · obtain ⟨b, rfl⟩ : ∃ b, a = b + 1 := ⟨a - 1, by omega⟩
      have eb : (((b + 1 : Nat)) : Int) - 1 = b := by omega
      rw [eb]
      have hdb : d ≤ b := by omega
      have hdb' : (d : Int) ≤ (b : Int) := by omega
      have hbM : b < ml.length + 1 := by omega
      have hvb0 : wr.cell? ⟨g, b, none⟩ = some (.int .i64 (c b)) := hoc.out.cell hbM
      clear eb hai
      obtain ⟨wo, rfl⟩ : ∃ wo : World, wo = wr := ⟨_, rfl⟩
      have HR0 := hid_ (HRST.out b c)
      go_wp2_with fail
      clear hvb0
      go_loopw [11] (fun j' wr => ∃ (j : Nat) (c' : Nat → Int), j ≤ d ∧ j' = .int .i64 j ∧ Hid (OwnC wr w.heap.size 3 g (ml.length + 1) cap (iv c')) ∧ Hid (∀ j, 0 ≤ c' j ∧ c' j < p) ∧ Hid (RdE p d low b j c c') ∧ Hid (∀ l, b ≤ l → c' l = c l) ∧ Ex w wr) (fun j' _ => d - (intOf j').toNat)
      case atStart => exact ⟨0, c, by omega, rfl, hoc, hcr, HR0, hid_ (fun l _ => rfl), hx⟩
      case round =>
        clear hoc hx HR0
        obtain ⟨j, c', hj, rfl, hoc, hcr', hre, hcb, hx⟩ := hrel
        by_cases hlj : j < d
        · have hlw := hx.cell (L4.out j hlj)
          have HCV2 := hid_ (HRSP.out b j c' c hdb hlj hre.out (hcb.out b (Nat.le_refl _)))
          have hjN : b - d + j < ml.length + 1 := by omega
          have hjb : b - d + j < b := by omega
          have hvj : wr.cell? ⟨g, b - d + j, none⟩ = some (.int .i64 (c' (b - d + j))) := hoc.out.cell hjN
          have hvf := hoc.out.frz (b - d + j)
          have hcbb := hcb.out b (Nat.le_refl _)
          rw [hcbb] at HCV2
          obtain ⟨u1, u2⟩ := hcr.out b
          obtain ⟨v1, v2⟩ := hcr'.out (b - d + j)
          obtain ⟨q1, q2⟩ := HLR.out j
          obtain ⟨D, hD⟩ : ∃ D, (c' (b - d + j) + ((p : Int) - c b) * low j) % (p : Int) = D := ⟨_, rfl⟩
          have hD1 : 0 ≤ D ∧ D < p := by rw [← hD]; exact ⟨Int.emod_nonneg _ (by omega), Int.emod_lt_of_pos _ (by omega)⟩
          rw [hD] at HCV2
          have HSO := hid_ (hoc.out.set (b - d + j) (.int .i64 D))
          have HSX := hid_ (hoc.out.exSet (Nat.le_refl _) hx (b - d + j) (.int .i64 D))
          have HRN := hid_ (show ∀ l, 0 ≤ upd c' (b - d + j) D l ∧ upd c' (b - d + j) D l < p from fun l => by
            unfold upd; split
            · exact hD1
            · exact hcr'.out l)
          have HCB := hid_ (show ∀ l, b ≤ l → upd c' (b - d + j) D l = c l from fun l hl => by rw [upd_ne _ _ (by omega)]; exact hcb.out l hl)
          generalize low j = lj at *
          generalize c b = cb at *
          have e3 : 0 ≤ ((p : Int) - cb) * lj := Int.mul_nonneg (by omega) q1
          have e4 : ((p : Int) - cb) * lj ≤ 65536 := by
            have := Int.mul_le_mul (show (p : Int) - cb ≤ 256 by omega) (show lj ≤ 256 by omega) q1 (by omega)
            omega
          have i1 : IntKind.i64.wrap ((b : Int) - d) = (b : Int) - d := IntWalk.i64_in _ (by omega)
          have i2 : IntKind.i64.wrap ((b : Int) - d + j) = (b : Int) - d + j := IntWalk.i64_in _ (by omega)
          have i3 : IntKind.i64.wrap ((p : Int) - cb) = (p : Int) - cb := IntWalk.i64_in _ (by omega)
          have i4 : IntKind.i64.wrap (((p : Int) - cb) * lj) = ((p : Int) - cb) * lj := IntWalk.i64_in _ (by omega)
          have i5 : IntKind.i64.wrap (c' (b - d + j) + ((p : Int) - cb) * lj) = c' (b - d + j) + ((p : Int) - cb) * lj := IntWalk.i64_in _ (by omega)
          have i6 : (c' (b - d + j) + ((p : Int) - cb) * lj).tmod (p : Int) = D := by rw [Int.tmod_eq_emod_of_nonneg (by omega)]; exact hD
          have i7 : ((b : Int) - d + j).toNat = b - d + j := by omega
          have i8 : 0 ≤ (b : Int) - d + j := by omega
          have i9 : (b : Int) - d + j < (ml.length : Int) + 1 := by omega
          have p0 : ¬ p = 0 := by omega
          clear hD hjb hcbb
          go_wp2_with fail
          go_still_tail 26, (by kernel_rfl)
          change wpList _ _ _ _ _ wr.drew
          go_wp2_with fail
          go_roundw
          case rel => exact ⟨j + 1, upd c' (b - d + j) D, by omega, by go_num, hid_ (by have := HSO.out.drew; rwa [iv_upd] at this), HRN, HCV2, HCB, HSX.out.drew⟩
          case measure => simp [intOf]; omega
        · obtain rfl : j = d := by omega
          have HT2 := hid_ (HRRW.out b c' c _ hdb hT.out hre.out)
          have hvf := hoc.out.frz b
          have hvb := hoc.out.cell hbM
          have HSO := hid_ (hoc.out.set b (.int .i64 0))
          have HSX := hid_ (hoc.out.exSet (Nat.le_refl _) hx b (.int .i64 0))
          have HRN := hid_ (show ∀ l, 0 ≤ upd c' b 0 l ∧ upd c' b 0 l < p from fun l => by
            unfold upd; split
            · omega
            · exact hcr'.out l)
          have HT3 := hid_ (show EqM p (ap j low b (upd c' b 0) one_) T from by
            have e := HUG.out b c' 0
            show EqM p (ap j low b (updI c' b 0) one_) T
            rw [e]; exact HT2.out)
          have HZ := hid_ (show ∀ l, b ≤ l → l < ml.length + 1 → upd c' b 0 l = 0 from fun l h1 h2 => by
            by_cases e : l = b
            · subst e; exact upd_same _ _ _
            · rw [upd_ne _ _ e, hcb.out l h1]; exact hz.out l (by omega) h2)
          go_wp2_with fail
          go_roundw
          case rel => exact ⟨b, upd c' b 0, hdb, by omega, rfl, hid_ (by have := HSO.out; rwa [iv_upd] at this), HRN, HT3, HZ, HSX.out⟩
          case measure => simp [intOf]
    · obtain rfl : a = d := by omega
      have HFIN := hid_ (HDE.out c hcr.out hT.out)
      go_wp2_with fail
      go_loopw [12] (fun i' wr => ∃ i : Nat, i ≤ ml.length + 1 ∧ i' = .int .i64 i ∧ Hid (∀ j, j < i → c j = 0) ∧ Hid (OwnC wr w.heap.size 3 g (ml.length + 1) cap (iv c)) ∧ Ex w wr) (fun i' _ => ml.length + 1 - (intOf i').toNat)
      case atStart => exact ⟨0, by omega, rfl, hid_ (fun j h => by omega), hoc, hx⟩
      case round =>
        clear hoc hx
        obtain ⟨i, hi, rfl, hall, hoc, hx⟩ := hrel
        by_cases hlt : i < ml.length + 1
        · have hvi : wr.cell? ⟨g, i, none⟩ = some (.int .i64 (c i)) := hoc.out.cell hlt
          by_cases h0 : c i = 0
          · have hvi' : wr.cell? ⟨g, i, none⟩ = some (.int .i64 0) := by rw [hvi, h0]
            have HA := hid_ (show ∀ j, j < i + 1 → c j = 0 from fun j hj => by
              by_cases e : j = i
              · subst e; exact h0
              · exact hall.out j (by omega))
            clear hvi h0
            go_wp2_with fail
            go_roundw
            case rel => exact ⟨i + 1, by omega, by go_num, HA, hoc, hx⟩
            case measure => simp [intOf]; omega
          · have hb : ((c i) == 0) = false := by simpa using h0
            have hia : i < a := by
              rcases Nat.lt_or_ge i a with e | e
              · exact e
              · exact absurd (hz.out i e hlt) h0
            have HF := hid_ (show dvB p a low ml = false by
              rw [HFIN.out, List.all_eq_false]
              exact ⟨i, List.mem_range.2 hia, by simpa using h0⟩)
            clear h0
            generalize c i = ci at *
            go_wp2_with fail
            go_ret
            exact ⟨ret_bool HF.out.symm, hx⟩
        · have HF := hid_ (show dvB p a low ml = true by
            rw [HFIN.out, List.all_eq_true]
            intro j hj
            have := hall.out j (by have := List.mem_range.1 hj; omega)
            simp [this])
          go_wp2_with fail
          go_ret
          exact ⟨ret_bool HF.out.symm, hx⟩
end Go.Proofs.Ytpphaicbdeeacaa
