/- Walks of Inverse and Cycles, of the program and of the reference (printed by gen_cyc.py). -/
import Derived.Test.YtgfdhclpffakfaaGreatZa03
import Derived.Test.YtgfdhclpffakfaaGreatZa12
namespace Go.Proofs.YtgfdhclpffakfaaGreat
set_option linter.unusedVariables false
set_option linter.unusedSimpArgs false
open Go.RowKit

/-- The function of a list. -/
def fnL (l : List Int) : Nat → Nat := fun i => if i < l.length then (l.getD i 0).toNat else i
theorem fnL_li {n : Nat} {f : Nat → Nat} (hf : IsP n f) : fnL (li n f) = f := funext fun i => by
  unfold fnL
  rw [li_len]
  by_cases hi : i < n
  · rw [if_pos hi, List.getD_eq_getElem?_getD, li_get hi]; rfl
  · rw [if_neg hi, hf.off i (by omega)]
def invS (l : List Int) : List Int × Int := if pchk l ≠ 0 then ([], pchk l) else (li l.length (invP l.length (fnL l)), 0)
def cycS (l : List Int) : List (List Int) × Int := if pchk l ≠ 0 then ([], pchk l) else (cycsK l.length (fnL l) l.length, 0)
def InvR (l : List Int) (r : Ending) (w' : World) : Prop := ∃ v, r = .returned (.tuple #[v, .int .i64 (invS l).2]) ∧ ISl w' v (invS l).1
theorem invR_of {l k : List Int} {e : Int} {v : Value} {w' : World} (h : invS l = (k, e)) (hv : ISl w' v k) : InvR l (.returned (.tuple #[v, .int .i64 e])) w' := ⟨v, by rw [h], by rw [h]; exact hv⟩
def CycR (l : List Int) (r : Ending) (w' : World) : Prop := ∃ v, r = .returned (.tuple #[v, .int .i64 (cycS l).2]) ∧ MSl w' v (cycS l).1
theorem cycR_of {l : List Int} {k : List (List Int)} {e : Int} {v : Value} {w' : World} (h : cycS l = (k, e)) (hv : MSl w' v k) : CycR l (.returned (.tuple #[v, .int .i64 e])) w' := ⟨v, by rw [h], by rw [h]; exact hv⟩
theorem msl_nil (w : World) : MSl w (.slice none 0 0) [] := ⟨[], Sl.nil w 1, fun i r u h => by simp at h⟩
/-- The cells of a permutation's slice. -/
theorem isl_li_at {w : World} {a : Option Addr} {n cap : Nat} {f : Nat → Nat} (h : ISl w (.slice a n cap) (li n f)) (hn : 0 < n) : ∃ b o, a = some ⟨b, o, none⟩ ∧ b < w.heap.size ∧ ∀ j, j < n → w.cell? ⟨b, o + j, none⟩ = some (.int .i64 (f j : Int)) := by
  obtain ⟨a', cap', e, _, _, h2⟩ := isl_li h
  injection e with e1 e2 e3
  subst e1
  obtain ⟨b, o, h3, h4⟩ := h2 hn
  exact ⟨b, o, h3, World.block_lt_of_cell? _ _ (h4 0 hn), h4⟩
/-- A list of rows of the call's own, a row that grows apart from it, and marks. -/
structure RowSt (w0 wr : World) (base g n : Nat) (sf : Nat → Bool) (cyv : Value) (cyc : List Int) (cv : Value) (M : List (List Int)) (vals : List Value) : Prop where
  sn : Own wr w0.heap.size 4 g n (bv sf)
  cy : wr.ownsRow base 3 1 cyv cyc.length (ints cyc)
  m : MRows wr base cv M vals
  ap1 : Aprt cyv cv
  ap2 : ∀ u ∈ vals, Aprt u cyv
  gb : g < base
  ex : Ex w0 wr
  wb : base ≤ wr.heap.size
section
variable {w0 wr : World} {base g n : Nat} {sf : Nat → Bool} {cyv : Value} {cyc : List Int} {cv : Value} {M : List (List Int)} {vals : List Value}
theorem RowSt.later (h : RowSt w0 wr base g n sf cyv cyc cv M vals) {w' : World} (hx : Ex wr w') : RowSt w0 w' base g n sf cyv cyc cv M vals :=
  ⟨h.sn.ex hx, ownsRow_ex h.cy hx, h.m.ex hx, h.ap1, h.ap2, h.gb, h.ex.trans hx, Nat.le_trans h.wb hx.size⟩
theorem RowSt.congr (h : RowSt w0 wr base g n sf cyv cyc cv M vals) {sf' : Nat → Bool} (hc : ∀ x, x < n → sf x = sf' x) : RowSt w0 wr base g n sf' cyv cyc cv M vals :=
  ⟨h.sn.bcongr hc, h.cy, h.m, h.ap1, h.ap2, h.gb, h.ex, h.wb⟩
theorem RowSt.mark (h : RowSt w0 wr base g n sf cyv cyc cv M vals) (x : Nat) : RowSt w0 (wr.setCell ⟨g, x, none⟩ (.bool true)) base g n (upd sf x true) cyv cyc cv M vals :=
  ⟨by rw [← bv_upd]; exact h.sn.set x _, ownsRow_setCell_ne h.cy (fun e => by have := (h.cy.lt _ e).1; have := h.gb; dsimp only at *; omega) _, h.m.setNe h.gb _, h.ap1, h.ap2, h.gb, h.sn.exSet (Nat.le_refl _) h.ex x _, by have := h.wb; simpa [World.setCell] using this⟩
theorem RowSt.app (h : RowSt w0 wr base g n sf cyv cyc cv M vals) {x : Int} {w' : World} {v' : Value} (ha : Appd wr w' base 3 1 cyv v' cyc.length (ints cyc) [.int .i64 x]) : RowSt w0 w' base g n sf v' (cyc ++ [x]) cv M vals := by
  have hne : cyv.ownBlock ≠ some g := fun e => by have := (h.cy.lt _ e).1; have := h.gb; omega
  have hcv := ha.row h.m.cvo h.ap1.symm
  have hn := h.m.len
  have key : ∀ u ∈ vals, ∃ L : List Int, wr.ownsRow base 3 1 u L.length (ints L) := fun u hu => by
    obtain ⟨i, hi, e⟩ := List.getElem_of_mem hu
    exact ⟨_, h.m.row i (M[i]'(by omega)) u (List.getElem?_eq_getElem _) (by rw [List.getElem?_eq_getElem hi, e])⟩
  refine ⟨(ha.arr h.sn hne).1, ?_, ⟨hcv.1, fun i r u h1 h2 => (ha.row (h.m.row i r u h1 h2) (h.ap2 u (List.mem_of_getElem? h2))).1, h.m.apart⟩, hcv.2.symm, fun u hu => ?_, h.gb, ha.ex h.ex (by have := h.gb; have := h.sn.lt.1; omega), by have := ha.grow; have := h.wb; omega⟩
  · have := ha.own
    rw [List.length_append]
    simpa [ints] using this
  · obtain ⟨L, hL⟩ := key u hu
    exact (ha.row hL (h.ap2 u hu)).2
theorem RowSt.push (h : RowSt w0 wr base g n sf cyv cyc cv M vals) {w' : World} {v' : Value} (ha : Appd wr w' base 32 1 cv v' M.length vals [cyv]) : RowSt w0 w' base g n sf (.slice none 0 0) [] v' (M ++ [cyc]) (vals ++ [cyv]) := by
  have hne : cv.ownBlock ≠ some g := fun e => by have := (h.m.cvo.lt _ e).1; have := h.gb; omega
  refine ⟨(ha.arr h.sn hne).1, World.ownsRow_nil _ _ _ _, h.m.app h.cy h.ap1 ha, Aprt.nil _, fun u _ => ?_, h.gb, ha.ex h.ex (by have := h.gb; have := h.sn.lt.1; omega), by have := ha.grow; have := h.wb; omega⟩
  exact (Aprt.nil u).symm
theorem RowSt.drop (h : RowSt w0 wr base g n sf cyv cyc cv M vals) : RowSt w0 wr base g n sf (.slice none 0 0) [] cv M vals :=
  ⟨h.sn, World.ownsRow_nil _ _ _ _, h.m, Aprt.nil _, fun u _ => (Aprt.nil u).symm, h.gb, h.ex, h.wb⟩
theorem RowSt.start {w1 : World} {n : Nat} (h : Own w1 w0.heap.size 4 w0.heap.size n (fun _ => .bool false)) (hx : Ex w0 w1) {sf : Nat → Bool} (hs : ∀ x, x < n → sf x = false) : RowSt w0 w1 (w0.heap.size + 1) w0.heap.size n sf (.slice none 0 0) [] (.slice none 0 0) [] [] :=
  ⟨h.congr fun j hj => by show _ = Value.bool (sf j); rw [hs j hj], World.ownsRow_nil _ _ _ _, MRows.nil _ _, Aprt.nil _, fun u h' => absurd h' (List.not_mem_nil), by omega, hx, by have := h.lt.2; omega⟩
end

set_option maxRecDepth 100000 in
set_option maxHeartbeats 1000000 in
theorem Inverse_any (w : World) (l : List Int) (v : Value) (hl : ISl w v l) :
    Calls Tryz.prog 15 #[v] w fun r w' => InvR l r w' ∧ Ex w w' := by
  have HL := hid_ hl
  obtain ⟨a, cap, rfl, _, _, _⟩ := hl.open
  have HCH := hid_ (Check_any w l _ hl)
  obtain ⟨e, he⟩ : ∃ e, pchk l = e := ⟨_, rfl⟩
  rw [he] at HCH
  clear hl
  by_cases h0 : e = 0
  · subst h0
    obtain ⟨n, f, h1, h2, hn, hf, rfl⟩ := pchk_ok he
    have HP := hid_ (show invS (li n f) = (li n (invP n f), 0) from by unfold invS; rw [he, if_neg (by decide), fnL_li hf, li_len])
    have HIV := hid_ (fun w1 (h : Ex w w1) => inverse_any w1 n f _ (HL.out.ex h) (by omega) hf)
    rw [li_len] at HIV HCH ⊢
    clear he hn hf
    go_enter Tryz.func15, Tryz.ntmps15
    go_wp2_with (first | (go_at_call 28; refine HCH.out.mono ?_; rintro e w1 ⟨rfl, hx1⟩; have HX1 := hid_ hx1; clear hx1) | (go_at_call 43; refine (HIV.out _ HX1.out).mono ?_; rintro e w2 ⟨g, rfl, hown, hx2⟩; have HOW := hid_ hown.li; have HX2 := hid_ (HX1.out.trans hx2); clear hown hx2))
    go_ret2
    exact ⟨invR_of HP.out HOW.out, HX2.out⟩
  · have HP := hid_ (show invS l = ([], e) from by unfold invS; rw [he, if_pos h0])
    have hb : (e != 0) = true := by simpa using h0
    clear h0 he
    go_enter Tryz.func15, Tryz.ntmps15
    go_wp2_with (go_at_call 28; refine HCH.out.mono ?_; rintro e w1 ⟨rfl, hx1⟩; have HX1 := hid_ hx1; clear hx1)
    go_ret2
    exact ⟨invR_of HP.out (isl_nil _), HX1.out⟩
set_option maxRecDepth 100000 in
set_option maxHeartbeats 2000000 in
theorem Cycles_any (w : World) (l : List Int) (v : Value) (hl : ISl w v l) :
    Calls Tryz.prog 16 #[v] w fun r w' => CycR l r w' ∧ Ex w w' := by
  have HL := hid_ hl
  obtain ⟨a, cap, rfl, _, _, _⟩ := hl.open
  have HCH := hid_ (Check_any w l _ hl)
  obtain ⟨e, he⟩ : ∃ e, pchk l = e := ⟨_, rfl⟩
  rw [he] at HCH
  clear hl
  by_cases h0 : e = 0
  · subst h0
    obtain ⟨n, f, h1, h2, hn, hf, rfl⟩ := pchk_ok he
    have HP := hid_ (show cycS (li n f) = (cycsK n f n, 0) from by unfold cycS; rw [he, if_neg (by decide), fnL_li hf, li_len])
    have HF := hid_ hf
    rw [li_len] at HCH HL ⊢
    clear he hn hf
    go_enter Tryz.func16, Tryz.ntmps16
    go_wp2_with (first | (go_at_call 28; refine HCH.out.mono ?_; rintro e w1 ⟨rfl, hx1⟩; have HX1 := hid_ hx1; clear hx1) | (at_make; refine wpList_make_arr _ rfl _ _ 81 rfl 4 (.bool false) 1 Tryz.underlying81 infoBool rfl _ n rfl rfl rfl (by omega) (by unfold maxLen; omega) ?_))
    skip
    intro w3 hown hx3
    have HS := hid_ (RowSt.start hown hx3 (sf := seenI n f 0) fun x _ => seenI_zero x)
    try simp only [World.drewN_heap] at HS
    clear hown hx3
    obtain ⟨g, hg⟩ : ∃ g, w1.heap.size = g := ⟨_, rfl⟩
    try simp only [hg] at HS ⊢
    have HN := hid_ (show n ≤ 64 from h2)
    clear hg
    go_wp2_with fail
    go_loopw [20, 8, 5] (fun i' cy' cv' wr => ∃ (i : Nat) (cyv : Value) (cyc : List Int) (vals : List Value), i ≤ n ∧ i' = .int .i64 i ∧ Hid (RowSt w1 wr (g + 1) g n (seenI n f i) (.slice none 0 0) [] cv' (cycsK n f i) vals)) (fun i' _ _ _ => n - (intOf i').toNat)
    case atStart => exact ⟨0, .slice none 0 0, [], _, by omega, rfl, HS⟩
    case round =>
      clear HS
      obtain ⟨i, _, _, vals, hi, rfl, hst⟩ := hrel
      obtain ⟨cva, cvc, hcv⟩ := own_shape hst.out.m.cvo
      subst hcv
      have HCL := hid_ (cycsK_len n f i)
      by_cases hin : i < n
      · have i1 : (0 : Int) ≤ (i : Int) := by omega
        have i2 : (i : Int) < (n : Int) := by omega
        cases hm : minP n f i with
        | false =>
          have c1 : wr.cell? ⟨g, i, none⟩ = some (.bool true) := by
            rw [hst.out.sn.cell hin]; show some (Value.bool (seenI n f i i)) = _; rw [seenI_self HF.out hin, hm]; rfl
          have HS := hid_ (hst.out.congr fun x hx => seenI_nomin HF.out hin hx hm)
          have HCE := hid_ (show cycsK n f (i + 1) = cycsK n f i from by rw [cycsK_succ, hm]; simp)
          clear hst hm
          go_wp2_with fail
          go_loopw [8, 9] (fun cy' x' w2 => cy' = .slice none 0 0 ∧ x' = .int .i64 i ∧ w2 = wr) (fun _ _ _ => 0)
          case atStart => exact ⟨rfl, rfl, rfl⟩
          case round =>
            obtain ⟨rfl, rfl, rfl⟩ := hrel
            go_wp2_with fail
            go_roundw
            case rel => first | exact ⟨i + 1, .slice none 0 0, [], vals, by omega, by go_num, by rw [HCE.out]; exact HS⟩ | ((repeat apply Exists.intro); exact ⟨⟨i + 1, .slice none 0 0, [], vals, by omega, by go_num, by rw [HCE.out]; exact HS⟩, rfl⟩)
            case measure => simp [intOf]; omega
        | true =>
          have hL := perP_facts HF.out hin
          obtain ⟨L, hLe⟩ : ∃ L, perP n f i = L := ⟨_, rfl⟩
          have HLE := hid_ hLe
          rw [hLe] at hL
          have hLn : L ≤ n := hL.2.1
          have HL1 := hid_ hL.1
          have HM := hid_ hm
          have HS0 := hid_ (hst.out.congr (sf' := seenK n f i 0) fun x _ => by rw [seenK_zero])
          clear hst hm hL hLe
          go_wp2_with fail
          go_loopg [8, 9] L (fun gk cy' x' w2 => ∃ (k : Nat), k ≤ L ∧ L - k ≤ gk ∧ x' = .int .i64 (pwP f k i : Int) ∧ Hid (RowSt w1 w2 (g + 1) g n (seenK n f i k) cy' (cycK f i k) (.slice cva (cycsK n f i).length cvc) (cycsK n f i) vals))
          case atStart => exact ⟨0, by omega, by omega, rfl, HS0⟩
          case round =>
            clear HS0
            obtain ⟨k, hk, hgk, rfl, hst⟩ := hrel
            have hxn : pwP f k i < n := (isP_pw HF.out k).lt i hin
            have HAT := hid_ (seenK_at HF.out hin HM.out (by rw [HLE.out]; exact hk))
            have HSX := hid_ (show pwP f (k + 1) i = f (pwP f k i) from rfl)
            obtain ⟨x, hx⟩ : ∃ x, pwP f k i = x := ⟨_, rfl⟩
            rw [hx] at hxn HAT HSX ⊢
            have c2 := hst.out.sn.cell hxn
            have c3 := hst.out.sn.frz x
            have i3 : (0 : Int) ≤ (x : Int) := by omega
            have i4 : (x : Int) < (n : Int) := by omega
            rw [show bv (seenK n f i k) x = .bool (decide (k = L)) from by show Value.bool (seenK n f i k x) = _; rw [HAT.out, HLE.out]] at c2
            obtain ⟨cya, cyc, hcy⟩ := own_shape hst.out.cy
            subst hcy
            by_cases hkL : k < L
            · rw [decide_eq_false (by omega)] at c2
              obtain ⟨b, o, rfl, hbl, hc⟩ := isl_li_at (HL.out.ex HX1.out) (by omega)
              have HPX := hid_ ((hst.out.ex).cell (hc x hxn))
              have HM2 := hid_ (hst.out.mark x)
              have HPC := hid_ (hc x hxn)
              have HSB := hid_ (show g + 1 ≤ (wr.setCell ⟨g, x, none⟩ (.bool true)).heap.size from HM2.out.wb)
              have HCK := hid_ (cycK_succ f i k)
              have hck : (cycK f i k).length ≤ 64 := by rw [cycK_len]; have := HN.out; omega
              rw [hx] at HCK
              have HXE := hid_ hx
              have HKL := hid_ hkL
              clear hc hst hkL hx
              generalize hWW : wr.setCell ⟨g, x, none⟩ (.bool true) = wm at *
              go_wp2_with (at_builtin; refine wpList_append1 _ rfl _ _ 32 rfl (g + 1) 3 (.int .i64 0) 1 8 Tryz.underlying32 infoInt rfl (by decide) _ (cycK f i k).length _ rfl HM2.out.cy [.int .i64 (x : Int)] 3 _ rfl (by simp) rfl (by simp [Value.oneCell']) (by unfold maxLen; omega) (by omega) HSB.out ?_)
              intro cy2 w4 happ
              have HM3 := hid_ (HM2.out.app happ)
              have c5 := HM3.out.ex.cell HPC.out
              clear happ
              go_wp2_with fail
              go_roundg (gk - 1)
              case rel => exact ⟨k + 1, by have := HKL.out; omega, by have := HKL.out; omega, by rw [HSX.out], by rw [HCK.out]; exact HM3.out.congr fun y _ => by rw [seenK_succ, HXE.out]; rfl⟩
              case measure => have := HKL.out; omega
            · obtain rfl : k = L := by omega
              rw [decide_eq_true rfl] at c2
              have HS := hid_ (hst.out.congr (sf' := seenI n f (i + 1)) fun y hy => by have := seenI_min HF.out hin hy HM.out; rw [HLE.out] at this; exact this)
              have HCY := hid_ (show cycK f i k = cycP n f i from by unfold cycK cycP; rw [HLE.out])
              have HKN := hid_ (show (cycK f i k).length = k from cycK_len f i k)
              clear hst hkL hk hgk hx
              by_cases hk1 : 1 < k
              · have HCE := hid_ (show cycsK n f (i + 1) = cycsK n f i ++ [cycK f i k] from by rw [cycsK_succ, if_pos ⟨HM.out, by rw [HLE.out]; exact hk1⟩, HCY.out])
                have hb1 : decide (1 < ((cycK f i k).length : Int)) = true := by rw [HKN.out]; simp; omega
                have hb2 : decide (1 < (cycK f i k).length) = true := by rw [HKN.out]; simp; omega
                have HSB := hid_ HS.out.wb
                have hml : (cycsK n f i).length ≤ 64 := by have := HCL.out; have := HN.out; omega
                clear hk1
                go_wp2_with (at_builtin; refine wpList_append1 _ rfl _ _ 46 rfl (g + 1) 32 (.slice none 0 0) 1 24 Tryz.underlying46 infoIntsL rfl (by decide) _ (cycsK n f i).length _ rfl HS.out.m.cvo [.slice cya (cycK f i k).length cyc] 32 _ rfl (by simp) rfl (by simp [Value.oneCell']) (by unfold maxLen; omega) (by omega) HSB.out ?_)
                intro cv2 w4 happ
                have HS2 := hid_ (HS.out.push happ)
                clear happ
                go_wp2_with fail
                go_roundw
                case rel => exact ⟨i + 1, .slice none 0 0, [], vals ++ [.slice cya (cycK f i k).length cyc], by omega, by go_num, by rw [HCE.out]; exact HS2⟩
                case measure => simp [intOf]; omega
              · have HCE := hid_ (show cycsK n f (i + 1) = cycsK n f i from by
                  rw [cycsK_succ, if_neg, List.append_nil]
                  rintro ⟨_, h⟩
                  rw [HLE.out] at h
                  exact hk1 h)
                have hb1 : decide (1 < ((cycK f i k).length : Int)) = false := by rw [HKN.out]; simp; omega
                have hb2 : decide (1 < (cycK f i k).length) = false := by rw [HKN.out]; simp; omega
                have HS2 := hid_ HS.out.drop
                clear hk1
                go_wp2_with fail
                go_roundw
                case rel => exact ⟨i + 1, .slice none 0 0, [], vals, by omega, by go_num, by rw [HCE.out]; exact HS2⟩
                case measure => simp [intOf]; omega
      · obtain rfl : i = n := by omega
        have HMS := hid_ (hst.out.m.msl)
        have HX := hid_ (HX1.out.trans hst.out.ex)
        clear hst
        go_wp2_with fail
        go_ret2
        exact ⟨cycR_of HP.out HMS.out, HX.out⟩
  · have HP := hid_ (show cycS l = ([], e) from by unfold cycS; rw [he, if_pos h0])
    have hb : (e != 0) = true := by simpa using h0
    clear h0 he
    go_enter Tryz.func16, Tryz.ntmps16
    go_wp2_with (go_at_call 28; refine HCH.out.mono ?_; rintro e w1 ⟨rfl, hx1⟩; have HX1 := hid_ hx1; clear hx1)
    go_ret2
    exact ⟨cycR_of HP.out (msl_nil _), HX1.out⟩
end Go.Proofs.YtgfdhclpffakfaaGreat
