/- The iterator's inner closure: what it yields, level by level. -/
/- Walk of the reference's Few at chains. -/
import Derived.RangeFuncCalls
import Derived.Shelf.RegionOpen
import Derived.RangeFuncLeaves
import Derived.WalkKit
import Derived.OwnWalkIn
import Derived.TacticsInMore
import Derived.Test.YtgfdhclpffakfaaGreatZa25
import Derived.Test.YtgfdhclpffakfaaGreatZa30
import Derived.Test.YtgfdhclpffakfaaGreatZa37
import Derived.Test.YtgfdhclpffakfaaGreatZa38
import Derived.Test.YtgfdhclpffakfaaGreatZa42
namespace Go.Proofs.YtgfdhclpffakfaaGreat
set_option linter.unusedVariables false
set_option linter.unusedSimpArgs false
open Go.RowKit

/-- An element as it is yielded: the slice, and what it holds. -/
abbrev Yl := Value × (Nat → Nat)
def encY (x : Yl) : Array Value := #[x.1]
/-- What is told of a yielded element. -/
def PrY (n : Nat) (E : List (Nat → Nat)) (pre : List Yl) (x : Yl) (A : World) : Prop := ISl A x.1 (li n x.2) ∧ (pre.map (·.2) ++ [x.2]) <+: E
/-- What the closure reads. -/
structure ElC (w0 A : World) (M : Nat → Prop) (tb yb fb l : Nat) (n : Nat) (lv : Value) : Prop where
  ex : Ex w0 A
  t0 : A.cell? ⟨tb, 0, none⟩ = some (.int .i64 n)
  t1 : A.cell? ⟨tb, 1, none⟩ = some lv
  y0 : A.cell? ⟨yb, 0, none⟩ = some (.func (.yield l) #[] #[])
  f0 : A.cell? ⟨fb, 0, none⟩ = some (.func (.func 31) #[] #[.pointer (some ⟨tb, 0, none⟩), .pointer (some ⟨yb, 0, none⟩), .pointer (some ⟨fb, 0, none⟩)])
  nt : ¬ M tb
  ny : ¬ M yb
  nf : ¬ M fb
  lo : ∀ k, M k → w0.heap.size ≤ k ∧ k < A.heap.size
section
variable {w0 A B : World} {M : Nat → Prop} {tb yb fb l n : Nat} {lv : Value}
theorem ElC.kps (h : ElC w0 A M tb yb fb l n lv) (hk : Kps M A B) : ElC w0 B M tb yb fb l n lv :=
  ⟨Kps.ex h.ex hk fun k e => (h.lo k e).1, hk.cell h.t0 h.nt, hk.cell h.t1 h.nt, hk.cell h.y0 h.ny, hk.cell h.f0 h.nf, h.nt, h.ny, h.nf, fun k e => ⟨(h.lo k e).1, Nat.lt_of_lt_of_le (h.lo k e).2 hk.size⟩⟩
theorem ElC.exx (h : ElC w0 A M tb yb fb l n lv) (hx : Ex A B) : ElC w0 B M tb yb fb l n lv := h.kps (.ofEx hx)
end
/-- The closure's contract. -/
def FrmC (w0 : World) (M : Nat → Prop) (tb yb fb l n : Nat) (lv : Value) (J Jx : List Yl → World → Prop) (E es : List (Nat → Nat)) (k : Nat) (p : Nat → Nat) : Prop :=
  ∀ (pre : List Yl) (pv : Value) (W : World), J pre W → ElC w0 W M tb yb fb l n lv → ISl W pv (li n p) → (∀ X, pv.ownBlock = some X → ¬ M X) → (pre.map (·.2) ++ es) <+: E →
    Calls Tryz.prog 31 #[.int .i64 k, pv, .pointer (some ⟨tb, 0, none⟩), .pointer (some ⟨yb, 0, none⟩), .pointer (some ⟨fb, 0, none⟩)] W fun e B =>
      ∃ b : Bool, e = .returned (.bool b) ∧ Kps M W B ∧ (b = true → ∃ ys : List Yl, ys.map (·.2) = es ∧ J (pre ++ ys) B) ∧ (b = false → ∃ ys : List Yl, ys.map (·.2) <+: es ∧ Jx (pre ++ ys) B)
def HY (n : Nat) (M : Nat → Prop) (l : Nat) (J Jx : List Yl → World → Prop) (E : List (Nat → Nat)) : Prop :=
  ∀ m pre x A, J pre A → PrY n E pre x A → YieldAt Fence.wide m Tryz.prog l (encY x) A fun e B => (e = .returned (.bool true) ∧ J (pre ++ [x]) B ∧ Kps M A B) ∨ (e = .returned (.bool false) ∧ Jx (pre ++ [x]) B ∧ Kps M A B)
theorem li_self (n : Nat) (p : Nat → Nat) : il n (fun j => (li n p).getD j 0) = li n p := il_congr fun j hj => il_getD hj _
section
attribute [local go_sem] Oper.semAt_some
set_option maxRecDepth 100000 in
set_option maxHeartbeats 4000000 in
theorem from_leaf {w0 : World} {M : Nat → Prop} {tb yb fb l n : Nat} {J Jx : List Yl → World → Prop} {E : List (Nat → Nat)} (hJ : ∀ s A B, J s A → Ex A B → J s B) (hY : HY n M l J Jx E) (hn1 : 1 ≤ n) (hn : n ≤ 64) (la : Option Addr) (ln lc : Nat) (p : Nat → Nat) : FrmC w0 M tb yb fb l n (.slice la ln lc) J Jx E [p] ln p := by
  intro pre pv W hj hc hp hnp hpre
  have hy : ∀ (m : Nat) (v : Value) (A : World), J pre A → ISl A v (li n p) → YieldAt Fence.wide m Tryz.prog l #[v] A fun e B => ∃ b : Bool, e = .returned (.bool b) ∧ Kps M A B ∧ (b = true → J (pre ++ [(v, p)]) B) ∧ (b = false → Jx (pre ++ [(v, p)]) B) := fun m v A h1 h2 => YieldAt.mono (hY m pre (v, p) A h1 ⟨h2, hpre⟩) fun e B h => by
    rcases h with ⟨rfl, h3, h4⟩ | ⟨rfl, h3, h4⟩
    · exact ⟨true, rfl, h4, fun _ => h3, fun h => by cases h⟩
    · exact ⟨false, rfl, h4, fun h => (by cases h), fun _ => h3⟩
  obtain ⟨pa, pc, rfl, p1, p2, -⟩ := isl_li hp
  unfold maxLen at p2
  have ha : Ex W (W.alloc (.cells #[.slice pa n pc] 32)) := (Ex.refl W).alloc _
  have b0 : (W.alloc (.cells #[.slice pa n pc] 32)).cell? ⟨W.heap.size, 0, none⟩ = some (.slice pa n pc) := by simp
  have c1 := ha.cell hc.t1
  have y0 := ha.cell hc.y0
  have HP := hid_ (hp.ex ha)
  have HJ1 := hid_ (hJ _ _ _ hj ha)
  have HKA := hid_ (Kps.ofEx (M := M) ha)
  have HYY := hid_ hy
  have HJJ := hid_ hJ
  have hdd : ∀ k : Nat, (Fence.wide.depth.isSome = true → 1 ≤ k) := fun k h => by cases h
  obtain ⟨X, hX⟩ : ∃ X, W.heap.size = X := ⟨_, rfl⟩
  rw [hX] at b0
  have HC1 := hid_ (fun (V : World) (h : Ex (W.alloc (.cells #[.slice pa n pc] 32)) V) => (⟨h.cell b0, h.cell y0⟩ : _ ∧ _))
  have HCL := hid_ (fun (V : World) (h : Ex (W.alloc (.cells #[.slice pa n pc] 32)) V) => Clone_any V (li n p) _ (HP.out.ex h) (by rw [li_len]; omega) (by rw [li_len]; omega))
  simp only [li_len] at HCL
  have G0 : Ex (W.alloc (.cells #[.slice pa n pc] 32)) (W.alloc (.cells #[.slice pa n pc] 32)).drew := (Ex.refl _).drew
  have hmo : Tryz.prog.follows .mixedOrders = true := by kernel_rfl
  clear hc hp hj hnp hpre hy hY hJ
  refine (callsIn_wide (n := 3)).1 ?_
  refine callsIn_of_wp Tryz.func31 rfl trivial ?_ rfl
  simp only [Tryz.ntmps31, List.size_toArray, List.length_cons, List.length_nil, Nat.reduceAdd, Nat.reduceSub, Array.replicate_succ, Array.replicate_zero, List.push_toArray, List.append_toArray, List.nil_append, List.cons_append]
  gi_wp2
  gi_region_with_o (first
    | (refine ⟨trivial, ?_⟩; gi_at_call 32; refine (callsIn_wide.2 (HCL.out _ G0)).mono ?_; rintro e V ⟨g, cap, rfl, ho, hx⟩
       obtain ⟨d0, d1⟩ := HC1.out V (G0.trans hx)
       have HV := hid_ (show ISl V (.slice (some ⟨g, 0, none⟩) n cap) (li n p) from by have := ho.isl; rw [li_self] at this; exact this)
       have HGX := hid_ (G0.trans hx)
       obtain ⟨fn, tmps, assign, body, hyl, hR⟩ := HYY.out 2 _ V (HJJ.out _ _ _ HJ1.out HGX.out) HV.out)
    | (refine hR.mono ?_; clear hR; rintro e B ⟨bb, rfl, hKB, hT, hF⟩))
  all_goals gi_wp2
  all_goals go_ret
  all_goals exact ⟨bb, rfl, (HKA.out.trans (Kps.ofEx HGX.out)).trans hKB, fun e => ⟨[(.slice (some ⟨g, 0, none⟩) n cap, p)], rfl, hT e⟩, fun e => ⟨[(.slice (some ⟨g, 0, none⟩) n cap, p)], List.prefix_rfl, hF e⟩⟩
end
end Go.Proofs.YtgfdhclpffakfaaGreat
namespace Go.Proofs.YtgfdhclpffakfaaGreat
set_option linter.unusedVariables false
set_option linter.unusedSimpArgs false
open Go.RowKit

def FewCR (d : Int) (L : List Lv) (r : Ending) : Prop := ∃ b : Bool, r = .returned (.bool b) ∧ (b = true → (d ≤ 6 ∨ 64 < d) ∧ (gensL L).length ≤ 200)
theorem fewCR_no (d : Int) (L : List Lv) : FewCR d L (.returned (.bool false)) := ⟨false, rfl, fun h => by cases h⟩
set_option maxRecDepth 100000 in
set_option maxHeartbeats 4000000 in
theorem rFew2_any (w : World) (d : Int) (L : List Lv) (lv : Value) (hL : LSl w lv L) :
    Calls Tryz.prog 5 #[.agg #[.int .i64 d, lv], .int .i64 6] w fun r w' => FewCR d L r ∧ Ex w w' := by
  obtain ⟨d0, d1, e0⟩ := boxCh_facts w d lv
  obtain ⟨za, zc, rfl, z1, z2, z3⟩ := (hL.ex e0).open3
  unfold maxLen at z2
  have Z3 := hid_ z3
  clear z3 hL
  by_cases hd : 6 < d ∧ d ≤ 64
  · have b1 : decide (6 < d) = true := by simp; omega
    have b2 : decide (d ≤ 64) = true := by simp; omega
    go_enter Tryz.func5, Tryz.ntmps5
    go_wp2_with fail
    go_ret
    exact ⟨fewCR_no _ _, e0⟩
  · have hd6 : d ≤ 6 ∨ 64 < d := by omega
    have HD6 := hid_ hd6
    by_cases hl70 : L.length ≤ 70
    · have b3 : decide (70 < (L.length : Int)) = false := by simp; omega
      have b4 : decide (70 < L.length) = false := by simp; omega
      have HG0 := hid_ (show ∀ i, i ≤ L.length → (∀ l ∈ L.take i, l.reps.length ≤ 1000) → (gensL (L.take i)).length ≤ 1000 * i from fun i hi => by
        intro h
        have key : ∀ K : List Lv, (∀ l ∈ K, l.reps.length ≤ 1000) → (gensL K).length ≤ 1000 * K.length := by
          intro K
          induction K with
          | nil => intro _; exact Nat.le_refl _
          | cons a K ih =>
            intro hk
            have h1 := ih fun l hl => hk l (List.mem_cons_of_mem _ hl)
            have h2 := hk a (List.mem_cons_self ..)
            unfold gensL at h1 ⊢
            rw [List.flatMap_cons, List.length_append, List.length_cons]
            omega
        have := key _ h
        rw [List.length_take, Nat.min_eq_left hi] at this
        exact this)
      have hcase : decide (6 < d) = false ∨ (decide (6 < d) = true ∧ decide (d ≤ 64) = false) := by
        rcases hd6 with h | h
        · exact .inl (decide_eq_false (by omega))
        · exact .inr ⟨decide_eq_true (by omega), decide_eq_false (by omega)⟩
      clear hd hd6
      go_enter Tryz.func5, Tryz.ntmps5
      rcases hcase with b1 | ⟨b1, b2⟩
      all_goals
        go_wp2_with fail
        obtain ⟨q, hq⟩ : ∃ q, w.heap.size = q := ⟨_, rfl⟩
        rw [hq] at d0 d1
        try simp only [hq]
        clear hq
        generalize w.alloc (.cells #[.int .i64 d, .slice za L.length zc] 24) = w1 at *
        have HE0 := hid_ e0
        have D1 := hid_ d1
        clear e0 d0 d1
        go_loopw [5, 6] (fun n' i' wr => ∃ (i : Nat), i ≤ L.length ∧ i' = .int .i64 i ∧ n' = .int .i64 ((gensL (L.take i)).length : Int) ∧ Hid (∀ l ∈ L.take i, l.reps.length ≤ 1000) ∧ Hid (Ex w1 wr)) (fun _ i' _ => L.length - (intOf i').toNat)
        case atStart => exact ⟨0, by omega, rfl, rfl, hid_ (fun l h => by simp at h), hid_ (Ex.refl _)⟩
        case round =>
          obtain ⟨i, hi, rfl, rfl, hall, hex⟩ := hrel
          have d1 := hex.out.cell D1.out
          have hg1 := HG0.out i hi hall.out
          obtain ⟨G, hG⟩ : ∃ G, (gensL (L.take i)).length = G := ⟨_, rfl⟩
          rw [hG] at hg1 ⊢
          have HGE := hid_ hG
          clear hG
          by_cases hil : i < L.length
          · obtain ⟨l, hl⟩ : ∃ l, L[i]? = some l := ⟨_, List.getElem?_eq_getElem hil⟩
            obtain ⟨zb, zo, rfl, hzc⟩ := Z3.out (by omega)
            obtain ⟨u, r, c0, c1, c2, hu, hr⟩ := hzc i l hl
            have c1 := hex.out.cell c1
            have c2 := hex.out.cell c2
            obtain ⟨oa, oc, rfl, _, o2, _⟩ := hu.open
            unfold maxLen at o2
            have hrx := hr.ex hex.out
            obtain ⟨ra, rc, rfl, _, r2, _⟩ := hr.open
            unfold maxLen at r2
            have HFW := hid_ (FewL_any wr 0 l.reps _ hrx 1000 (by omega) (by omega))
            have i1 : (0 : Int) ≤ (i : Int) := by omega
            have i2 : (i : Int) < (L.length : Int) := by omega
            have HGT := hid_ (gensL_take hl)
            have HTK := hid_ (show l.reps.length ≤ 1000 → ∀ x ∈ L.take (i + 1), x.reps.length ≤ 1000 from fun h x hx => by
              rw [List.take_add_one, hl] at hx
              rcases List.mem_append.1 hx with h1 | h1
              · exact hall.out x h1
              · rw [List.mem_singleton.1 h1]; exact h)
            clear hzc hl hu hr hrx hall c0
            by_cases ho : 100 < (l.orb.length : Int)
            · have e1 : decide (100 < (l.orb.length : Int)) = true := by simpa using ho
              go_wp2_with fail
              go_ret
              exact ⟨fewCR_no _ _, HE0.out.trans hex.out⟩
            · have e1 : decide (100 < (l.orb.length : Int)) = false := by simpa using ho
              clear ho
              go_wp2_with fail
              refine HFW.out.mono ?_
              rintro e w5 ⟨⟨bb, rfl, hbb⟩, hx5⟩
              have c1 := hx5.cell c1
              have c2 := hx5.cell c2
              have d1 := hx5.cell d1
              have HX5 := hid_ (hex.out.trans hx5)
              clear hx5
              cases bb with
              | false =>
                clear hbb
                go_wp2_with fail
                go_ret
                exact ⟨fewCR_no _ _, HE0.out.trans HX5.out⟩
              | true =>
                have hle := hbb rfl
                have HTK2 := hid_ (HTK.out (by omega))
                have HLG := hid_ (show (gensL (L.take (i + 1))).length = G + l.reps.length from by rw [HGT.out, List.length_append, HGE.out])
                clear hbb
                go_wp2_with fail
                go_roundw
                case rel => exact ⟨i + 1, by omega, by go_num, by rw [HLG.out]; go_num, HTK2, HX5⟩
                case measure => simp [intOf]; omega
          · obtain rfl : i = L.length := by omega
            have hGL : (gensL L).length = G := by have := HGE.out; rwa [List.take_length] at this
            have HGL := hid_ hGL
            clear hGL hall
            go_wp2_with fail
            go_ret
            exact ⟨⟨_, rfl, fun h => ⟨HD6.out, by rw [HGL.out]; have := of_decide_eq_true h; omega⟩⟩, HE0.out.trans hex.out⟩
    · have b3 : decide (70 < (L.length : Int)) = true := by simp; omega
      have b4 : decide (70 < L.length) = true := by simp; omega
      have hcase : decide (6 < d) = false ∨ (decide (6 < d) = true ∧ decide (d ≤ 64) = false) := by
        rcases hd6 with h | h
        · exact .inl (decide_eq_false (by omega))
        · exact .inr ⟨decide_eq_true (by omega), decide_eq_false (by omega)⟩
      clear hd hd6
      go_enter Tryz.func5, Tryz.ntmps5
      rcases hcase with b1 | ⟨b1, b2⟩
      all_goals
        go_wp2_with fail
        go_ret
        exact ⟨fewCR_no _ _, e0⟩
end Go.Proofs.YtgfdhclpffakfaaGreat
