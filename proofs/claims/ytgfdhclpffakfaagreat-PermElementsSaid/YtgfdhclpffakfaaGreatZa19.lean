/- Walk of perm.newTower; insert at all measures. -/
import Derived.Deep.RegionHeld3
import Derived.Test.YtgfdhclpffakfaaGreatZa18
namespace Go.Proofs.YtgfdhclpffakfaaGreat
set_option linter.unusedVariables false
set_option linter.unusedSimpArgs false
open Go.RowKit

theorem vis_all {base n tb rb gb : Nat} {rr : Nat → Nat} (hn1 : 1 ≤ n) (hn : n ≤ 64) : ∀ m, VisOK base n tb rb gb rr m
  | 0 => fun w mb t q u b hmu hb => by
    have h1 : 1 * (n + 1) ≤ (n - b) * (n + 1) := Nat.mul_le_mul_right _ (by omega)
    unfold muT at hmu
    omega
  | m + 1 => vis_step hn1 hn m (vis_all hn1 hn m) (ins_of_vis hn1 hn m (vis_all hn1 hn m))
theorem ins_all {base n tb rb gb : Nat} {rr : Nat → Nat} (hn1 : 1 ≤ n) (hn : n ≤ 64) (m : Nat) : InsOK base n tb rb gb rr m := ins_of_vis hn1 hn m (vis_all hn1 hn m)
theorem infoIntsL2 : (Tryz.prog.info? 46).map (fun i => (i.zero, i.size, i.bytes)) = some (some (.slice none 0 0), 1, 24) := by kernel_rfl
/-- The new tower behind b levels. -/
structure NT (w0 wr : World) (n tb rb gb b : Nat) (rr : Nat → Nat) (V : Nat → Nat → Value) : Prop where
  c0 : wr.cell? ⟨tb, 0, none⟩ = some (.int .i64 n)
  c1 : wr.cell? ⟨tb, 1, none⟩ = some (.slice (some ⟨rb, 0, none⟩) n n)
  c2 : wr.cell? ⟨tb, 2, none⟩ = some (.slice (some ⟨gb, 0, none⟩) n n)
  ro : Own wr w0.heap.size 46 rb n (fun c => if c < b then .slice (some ⟨rr c, 0, none⟩) n n else .slice none 0 0)
  row : ∀ c, c < b → Own wr w0.heap.size 32 (rr c) n (V c)
  nilv : ∀ c x, c < b → x < n → x ≠ c → V c x = .slice none 0 0
  idv : ∀ c, c < b → ∃ g, V c c = .slice (some ⟨g, 0, none⟩) n n ∧ Own wr w0.heap.size 3 g n (iv fun i => (idP i : Int)) ∧ g ≠ gb ∧ g ≠ rb ∧ ∀ d, d < b → g ≠ rr d
  go : Own wr w0.heap.size 46 gb n (fun _ => .slice none 0 0)
  d1 : tb ≠ rb ∧ tb ≠ gb ∧ rb ≠ gb
  d2 : ∀ c, c < b → rr c ≠ tb ∧ rr c ≠ rb ∧ rr c ≠ gb
  d3 : ∀ c d, c < b → d < b → rr c = rr d → c = d
  ex : Ex w0 wr
/-- A round: the row rx is made, stored, and its own point filled. -/
theorem NT.next {w0 wr w2 w4 : World} {n tb rb gb b rx gi : Nat} {rr : Nat → Nat} {V : Nat → Nat → Value} (h : NT w0 wr n tb rb gb b rr V) (hb : b < n)
    (hx2 : Ex wr w2) (hr : Own w2 wr.heap.size 32 rx n (fun _ => .slice none 0 0))
    (hx4 : Ex (w2.setCell ⟨rb, b, none⟩ (.slice (some ⟨rx, 0, none⟩) n n)) w4) (hi : Own w4 (w2.setCell ⟨rb, b, none⟩ (.slice (some ⟨rx, 0, none⟩) n n)).heap.size 3 gi n (iv fun i => (idP i : Int))) :
    NT w0 (w4.setCell ⟨rx, b, none⟩ (.slice (some ⟨gi, 0, none⟩) n n)) n tb rb gb (b + 1) (upd rr b rx) (fun c => if c = b then upd (fun _ => .slice none 0 0) b (.slice (some ⟨gi, 0, none⟩) n n) else V c) := by
  have hs3 : (w2.setCell ⟨rb, b, none⟩ (.slice (some ⟨rx, 0, none⟩) n n)).heap.size = w2.heap.size := by simp [World.setCell]
  have hrl := hr.lt
  have hil := hi.lt
  rw [hs3] at hil
  have hz2 := hx2.size
  have hz0 := h.ex.size
  have hbk : ∀ {a : Addr} {u : Value}, wr.cell? a = some u → a.block < wr.heap.size := fun k => World.block_lt_of_cell? _ _ k
  have htb := hbk h.c0
  have hrb := h.ro.lt.2
  have hgb := h.go.lt.2
  have hne : rx ≠ tb ∧ rx ≠ rb ∧ rx ≠ gb := by dsimp only at htb; omega
  have stp : ∀ {a : Addr} {u : Value}, wr.cell? a = some u → a.block ≠ rb → (w4.setCell ⟨rx, b, none⟩ (.slice (some ⟨gi, 0, none⟩) n n)).cell? a = some u := fun {a u} k k2 => by
    have k3 := hbk k
    rw [World.cell?_setCell_other _ _ _ _ (by intro e; have : rx = a.block := by rw [← e]
                                              omega)]
    refine hx4.cell ?_
    rw [World.cell?_setCell_other _ _ _ _ (by intro e; exact k2 (by rw [← e]))]
    exact hx2.cell k
  have own : ∀ {e : TypeId} {g m : Nat} {c : Nat → Value}, Own wr w0.heap.size e g m c → g ≠ rb → Own (w4.setCell ⟨rx, b, none⟩ (.slice (some ⟨gi, 0, none⟩) n n)) w0.heap.size e g m c := fun {e g m c} k k2 => by
    have k3 := k.lt.2
    exact (((k.ex hx2).other (a := ⟨rb, b, none⟩) k2 _).ex hx4).other (a := ⟨rx, b, none⟩) (by show g ≠ rx; omega) _
  have hxr : Own w4 w0.heap.size 32 rx n (fun _ => .slice none 0 0) := ((hr.other (a := ⟨rb, b, none⟩) hne.2.1 _).ex hx4).mono hz0
  have ex3 : Ex w0 w4 := ((h.ex.trans hx2).setCell (p := ⟨rb, b, none⟩) h.ro.lt.1 _).trans hx4
  refine ⟨stp h.c0 h.d1.1, stp h.c1 h.d1.1, stp h.c2 h.d1.1, ?_, fun c hc => ?_, fun c x hc hx hxc => ?_, fun c hc => ?_, own h.go (Ne.symm h.d1.2.2), h.d1, fun c hc => ?_, fun c d hc hd e => ?_, hxr.exSet (Nat.le_refl _) ex3 b _⟩
  · have k := (((h.ro.ex hx2).set b (.slice (some ⟨rx, 0, none⟩) n n)).ex hx4).other (a := ⟨rx, b, none⟩) (by show rb ≠ rx; exact Ne.symm hne.2.1) (.slice (some ⟨gi, 0, none⟩) n n)
    refine k.congr fun j hj => ?_
    unfold upd
    dsimp only
    by_cases e : j = b
    · subst e; rw [if_pos rfl, if_pos (by omega), if_pos rfl]
    · rw [if_neg e, if_neg e]
      by_cases e2 : j < b
      · rw [if_pos e2, if_pos (by omega)]
      · rw [if_neg e2, if_neg (by omega)]
  · by_cases e : c = b
    · subst e
      rw [upd_same, if_pos rfl]
      exact hxr.set c _
    · rw [upd_ne _ _ e, if_neg e]
      exact own (h.row c (by omega)) (h.d2 c (by omega)).2.1
  · show (if c = b then upd (fun _ => .slice none 0 0) b (.slice (some ⟨gi, 0, none⟩) n n) else V c) x = _
    by_cases e : c = b
    · subst e; rw [if_pos rfl, upd_ne _ _ hxc]
    · rw [if_neg e]; exact h.nilv c x (by omega) hx hxc
  · show ∃ g, (if c = b then upd (fun _ => .slice none 0 0) b (.slice (some ⟨gi, 0, none⟩) n n) else V c) c = _ ∧ _
    have hgi : gi ≠ rx := by omega
    by_cases e : c = b
    · subst e
      rw [if_pos rfl, upd_same]
      refine ⟨gi, rfl, (hi.mono (by rw [hs3]; omega)).other (a := ⟨rx, c, none⟩) hgi _, by omega, by omega, fun d hd => ?_⟩
      unfold upd
      split
      · exact hgi
      · have := (h.row d (by omega)).lt.2; omega
    · rw [if_neg e]
      obtain ⟨g, g1, g2, g3, g4, g5⟩ := h.idv c (by omega)
      refine ⟨g, g1, own g2 g4, g3, g4, fun d hd => ?_⟩
      unfold upd
      split
      · have := g2.lt.2; omega
      · exact g5 d (by omega)
  · unfold upd
    split
    · exact hne
    · exact h.d2 c (by omega)
  · unfold upd at e
    split at e <;> split at e
    · omega
    · have := (h.row d (by omega)).lt.2; omega
    · have := (h.row c (by omega)).lt.2; omega
    · exact h.d3 c d (by omega) (by omega) e
/-- The finished new tower. -/
theorem NT.fin {w0 wr : World} {n tb rb gb : Nat} {rr : Nat → Nat} {V : Nat → Nat → Value} (hn : 1 ≤ n) (h : NT w0 wr n tb rb gb n rr V) : ∃ mb, TwM wr w0.heap.size n tb rb gb rr (fun _ => .slice none 0 0) V mb (newT n) := by
  have hmem : ∀ B, B ∈ gb :: (List.range n).map rr ↔ B = gb ∨ ∃ c, c < n ∧ rr c = B := fun B => by
    rw [List.mem_cons, List.mem_map]
    simp only [List.mem_range]
  refine ⟨gb :: (List.range n).map rr, h.c0, h.c1, h.c2, fun hm => ?_, fun b hb => ?_, fun hm => ?_, h.row, fun b x hb hx => ?_, h.go, fun b hb => ⟨[], World.ownsRow_nil _ _ _ _, fun i f u h1 => by simp [newT] at h1⟩, (hmem gb).2 (.inl rfl), fun b hb => (hmem _).2 (.inr ⟨b, hb, rfl⟩), fun b B hb e => (by cases e), fun b hb => Ne.symm (h.d2 b hb).2.2, h.d3, fun b c B hb hc e => (by cases e), fun B hB => ?_⟩
  · rcases (hmem tb).1 hm with e | ⟨c, hc, e⟩
    · exact h.d1.2.1 e
    · exact (h.d2 c hc).1 e
  · have := h.ro.cell hb
    rw [this, if_pos hb]
  · rcases (hmem rb).1 hm with e | ⟨c, hc, e⟩
    · exact h.d1.2.2 e
    · exact (h.d2 c hc).2.1 e
  · show RepV wr _ n (if b < n ∧ x = b then some idP else none) (V b x)
    by_cases e : x = b
    · subst e
      rw [if_pos ⟨hb, rfl⟩]
      obtain ⟨g, g1, g2, g3, g4, g5⟩ := h.idv x hb
      rw [g1]
      exact PV.of g2.li hn fun B e => by
        injection e with e
        have e : g = B := e
        subst e
        intro hm
        rcases (hmem g).1 hm with e | ⟨c, hc, e⟩
        · exact g3 e
        · exact g5 c hc e.symm
    · rw [if_neg (fun h => e h.2)]
      exact h.nilv b x hb hx e
  · rcases (hmem B).1 hB with e | ⟨c, hc, e⟩
    · subst e; exact h.go.lt
    · subst e; exact (h.row c hc).lt
theorem NT.start {w a c : World} {n rb gb : Nat} (hx1 : Ex w a) (hx2 : Ex a c) (hr : Own c w.heap.size 46 rb n (fun _ => .slice none 0 0)) (hg : Own c w.heap.size 46 gb n (fun _ => .slice none 0 0)) (hne : rb ≠ gb) :
    NT w (c.alloc (.cells #[.int .i64 n, .slice (some ⟨rb, 0, none⟩) n n, .slice (some ⟨gb, 0, none⟩) n n] 104)) n c.heap.size rb gb 0 (fun _ => 0) (fun _ _ => .slice none 0 0) := by
  have h1 := hr.lt.2
  have h2 := hg.lt.2
  refine ⟨by simp, by simp, by simp, (hr.alloc _).congr fun j hj => by rw [if_neg (by omega)], fun c hc => by omega, fun c x hc => by omega, fun c hc => by omega, hg.alloc _, ⟨by omega, by omega, hne⟩, fun c hc => by omega, fun c d hc => by omega, (hx1.trans hx2).alloc _⟩
set_option maxRecDepth 100000 in
set_option maxHeartbeats 4000000 in
theorem newTower_any (w : World) (n : Nat) (hn1 : 1 ≤ n) (hn : n ≤ 64) :
    Calls Tryz.prog 46 #[.int .i64 n] w fun r w' => ∃ tb rb gb rr mb, r = .returned (.pointer (some ⟨tb, 0, none⟩)) ∧ TwR w' w.heap.size n tb rb gb rr mb (newT n) ∧ Ex w w' := by
  go_enter Tryz.func46, Tryz.ntmps46
  go_upto_region 1 with fail
  go_cut [3] from 5 to 12 (fun s3 wx => ∃ tb rb gb, s3 = .pointer (some ⟨tb, 0, none⟩) ∧ Hid (NT w wx n tb rb gb 0 (fun _ => 0) (fun _ _ => .slice none 0 0)))
  case first =>
    have H0 : Hid True := trivial
    go_region_held3 (fun w' => True) (exact trivial)
      ((refine upon_make_arr 102 46 (.slice none 0 0) 24 Tryz.underlying102 infoIntsL2 rfl n (by omega) (by unfold maxLen; omega) ?_; intro wm hown hx; (first | (clear H0; have O1 := hid_ hown; have X1 := hid_ hx; clear hown hx) | (have O2 := hid_ hown; have X2 := hid_ hx; clear hown hx)); go_simp))
    all_goals
      have Y1 := ((Ex.refl w).drew).trans X1.out
      have L1 := O1.out.lt.2
      have P1 := O1.out.ex X2.out
      have P2 := O2.out.mono (Y1.size)
      go_wp2_with fail
      go_meet
      first
      | exact ⟨_, _, _, rfl, hid_ (NT.start Y1 X2.out P1 P2 (by show w.heap.size ≠ _; have := Y1.size; have h9 : w.heap.size < _ := L1; omega))⟩
      | exact ⟨_, _, _, rfl, hid_ (NT.start Y1 X2.out P2 P1 (by show _ ≠ w.heap.size; have := Y1.size; have h9 : w.heap.size < _ := L1; omega))⟩
  case rest =>
    obtain ⟨tb, rb, gb, rfl, hnt⟩ := hcut
    go_wp2_with fail
    go_loopw [13] (fun b' wr => ∃ (b : Nat) (rr : Nat → Nat) (V : Nat → Nat → Value), b ≤ n ∧ b' = .int .i64 b ∧ Hid (NT w wr n tb rb gb b rr V)) (fun b' _ => n - (intOf b').toNat)
    case atStart => exact ⟨0, _, _, by omega, rfl, hnt⟩
    case round =>
      clear hnt
      obtain ⟨b, rr, V, hb, rfl, hnt⟩ := hrel
      by_cases hbn : b < n
      · have c1 := hnt.out.c1
        have c3 : wr.cell? ⟨rb, b, none⟩ = some (.slice none 0 0) := by rw [hnt.out.ro.cell hbn, if_neg (by omega)]
        have f3 := hnt.out.ro.frz b
        have i1 : (0 : Int) ≤ (b : Int) := by omega
        have i2 : (b : Int) < (n : Int) := by omega
        have E0 : Ex wr wr.drew := (Ex.refl wr).drew
        go_upto_region 5 with fail
        go_cut [4] from 16 to 24 (fun s4 wx => s4 = .int .i64 b ∧ Hid (∃ rx w2, wx = w2.setCell ⟨rb, b, none⟩ (.slice (some ⟨rx, 0, none⟩) n n) ∧ Ex wr w2 ∧ Own w2 wr.heap.size 32 rx n (fun _ => .slice none 0 0)))
        case first =>
          go_region_with (refine upon_make_arr 46 32 (.slice none 0 0) 24 Tryz.underlying46 infoIntsL rfl n (by omega) (by unfold maxLen; omega) ?_; intro wm hown hx; have E1 := E0.trans hx; have HOW := hid_ hown; have k1 := E1.cell c1; have k3 := E1.cell c3; have g3 := E1.frz c3 f3; clear hown; go_simp)
          all_goals
            go_wp2_with fail
            go_meet
            exact ⟨rfl, hid_ ⟨wr.heap.size, wm, rfl, E1, HOW.out⟩⟩
        case rest =>
          obtain ⟨rfl, hc5⟩ := hcut
          obtain ⟨rx, w2, rfl, hx2, hr⟩ := hc5.out
          have HX2 := hid_ hx2
          have HR := hid_ hr
          have HNT := hid_ hnt.out
          have hrx := hr.lt
          have hnr : rx ≠ rb := by have := hnt.out.ro.lt.2; omega
          have c1 := hx2.cell c1
          have c6 : (w2.setCell ⟨rb, b, none⟩ (.slice (some ⟨rx, 0, none⟩) n n)).cell? ⟨tb, 1, none⟩ = some (.slice (some ⟨rb, 0, none⟩) n n) := by
            rw [World.cell?_setCell_other _ _ _ _ (by intro e; exact hnt.out.d1.1 (by injection e with e; exact e.symm))]; exact c1
          have c7 : (w2.setCell ⟨rb, b, none⟩ (.slice (some ⟨rx, 0, none⟩) n n)).cell? ⟨rb, b, none⟩ = some (.slice (some ⟨rx, 0, none⟩) n n) := by
            rw [((hnt.out.ro.ex hx2).set b _).cell hbn, upd_same]
          have hr3 := hr.other (a := ⟨rb, b, none⟩) hnr (.slice (some ⟨rx, 0, none⟩) n n)
          have c8 := hr3.cell hbn
          have f8 := hr3.frz b
          clear hc5 hx2 hr c1 c3 f3 E0
          generalize hW3 : w2.setCell ⟨rb, b, none⟩ (.slice (some ⟨rx, 0, none⟩) n n) = w3 at *
          have HW3 := hid_ hW3
          have E0 : Ex w3 w3.drew := (Ex.refl w3).drew
          have HID := hid_ (fun w4 => identity_any w4 n (by omega))
          clear hW3
          go_wp2_with fail
          go_region_with (go_at_call 36; (with_reducible refine (HID.out _).mono ?_); rintro e wx1 ⟨gi, rfl, hown, hy1⟩; have E1 := E0.trans hy1; have HOW := hid_ hown; have k6 := E1.cell c6; have k7 := E1.cell c7; have k8 := E1.cell c8; have g8 := E1.frz c8 f8; clear hown)
          all_goals
            have HNX := hid_ (HNT.out.next (gi := gi) (w4 := wx1) hbn HX2.out HR.out (by rw [HW3.out]; exact E1) (by rw [HW3.out]; exact HOW.out))
            clear c6 c7 c8 f8 k6 k7 k8 g8 hr3
            go_wp2_with fail
            go_roundw
            case rel => first | exact ⟨b + 1, _, _, by omega, by go_num, HNX⟩ | ((repeat apply Exists.intro); exact ⟨⟨b + 1, _, _, by omega, by go_num, HNX⟩, rfl⟩)
            case measure => simp [intOf]; omega
      · obtain rfl : b = n := by omega
        have HFI := hid_ (hnt.out.fin hn1)
        have HX := hid_ hnt.out.ex
        clear hnt
        go_wp2_with fail
        go_ret
        obtain ⟨mb, hm⟩ := HFI.out
        exact ⟨tb, rb, gb, rr, mb, rfl, ⟨_, _, hm⟩, HX.out⟩
end Go.Proofs.YtgfdhclpffakfaaGreat
