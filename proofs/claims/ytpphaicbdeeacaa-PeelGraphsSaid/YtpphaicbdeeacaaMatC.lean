/- Walks of the reference of the package matrix: Entries, Check. -/
import Derived.Test.YtpphaicbdeeacaaMatB
namespace Go.Proofs.Ytpphaicbdeeacaa
set_option linter.unusedVariables false
set_option linter.unusedSimpArgs false
open Go.RowKit

section
variable {p m : Nat} {ml : List Int} {mv : Value}

theorem isI_isB (hf : FSh p m ml) (x : Int) : isI p m x = isB (p ^ m) x := by unfold isI isB; rw [hf.ord]

set_option maxRecDepth 100000 in
set_option maxHeartbeats 1000000 in
theorem rEntries_any (w : World) (hf : FSh p m ml) (l : List Int) (v : Value) (hl : ISl w v l) :
    Calls Try.prog 71 #[.agg #[.int .i64 p, .int .i64 m, mv], v] w fun r w' => r = .returned (.int .i64 (entS (p ^ m) l)) ∧ Ex w w' := by
  obtain ⟨d0, d1, d2, e0, _⟩ := box_facts w p m mv
  obtain ⟨a, cap, rfl, s1, s2, s3⟩ := (hl.ex e0).open
  have S3 := hid_ s3
  have HIS := hid_ (fun w' x => by have := rIs_any p m x mv w'; rw [isI_isB hf] at this; exact this)
  have HE := hid_ (show entS (p ^ m) l = if (l.all fun x => isB (p ^ m) x) = true then 0 else 2 from rfl)
  unfold maxLen at s2
  clear hl s3 hf
  go_enter Try.func71, Try.ntmps71
  go_wp2_with fail
  obtain ⟨xb, hxb⟩ : ∃ xb, w.heap.size = xb := ⟨_, rfl⟩
  rw [hxb] at d0 d1 d2
  try simp only [hxb]
  generalize w.alloc (.cells #[.int .i64 p, .int .i64 m, mv] 24) = w1 at *
  clear hxb
  go_loopw [5] (fun i' wr => ∃ i : Nat, i ≤ l.length ∧ i' = .int .i64 i ∧ Hid (∀ (j : Nat) (x : Int), j < i → l[j]? = some x → isB (p ^ m) x = true) ∧ Ex w1 wr) (fun i' _ => l.length - (intOf i').toNat)
  case atStart => exact ⟨0, by omega, rfl, hid_ (fun j x h => by omega), Ex.refl _⟩
  case round =>
    obtain ⟨i, hi, rfl, hall, hx⟩ := hrel
    by_cases hlt : i < l.length
    · obtain ⟨x, hxx⟩ : ∃ x, l[i]? = some x := ⟨_, List.getElem?_eq_getElem hlt⟩
      obtain ⟨bb, o, rfl, hc⟩ := S3.out (by omega)
      have c1 := hx.cell (hc i x hxx)
      have r0 := hx.cell d0
      have r1 := hx.cell d1
      have r2 := hx.cell d2
      have HI2 := hid_ (fun w' => HIS.out w' x)
      have HXX := hid_ hxx
      obtain ⟨bo, hbo⟩ : ∃ bo, isB (p ^ m) x = bo := ⟨_, rfl⟩
      rw [hbo] at HI2
      have HBO := hid_ hbo
      clear hc hxx hbo
      go_wp2_with fail
      go_region_held3 (fun w' => w'.cell? ⟨xb, 0, none⟩ = some (.int .i64 p) ∧ w'.cell? ⟨xb, 1, none⟩ = some (.int .i64 m) ∧ w'.cell? ⟨xb, 2, none⟩ = some mv ∧ w'.cell? ⟨bb, o + i, none⟩ = some (.int .i64 x) ∧ Ex w1 w')
        (first | exact ⟨r0, r1, r2, c1, hx.drew⟩ | exact ⟨hx1.cell r0, hx1.cell r1, hx1.cell r2, hx1.cell c1, hx.drew.trans hx1⟩)
        ((go_at_call 33; refine (HI2.out _).mono ?_; rintro e w2 ⟨rfl, hx1⟩))
      have hE := (‹_ ∧ _ ∧ _ ∧ _ ∧ Ex w1 _›).2.2.2.2
      cases bo with
      | true =>
        have HA := hid_ (show ∀ (j : Nat) (y : Int), j < i + 1 → l[j]? = some y → isB (p ^ m) y = true from fun j y hj hy => by
          by_cases e : j = i
          · subst e; rw [HXX.out] at hy; injection hy with hy; subst hy; exact HBO.out
          · exact hall.out j y (by omega) hy)
        go_wp2_with fail
        go_roundw
        case rel => exact ⟨i + 1, by omega, by go_num, HA, hE⟩
        case measure => simp [intOf]; omega
      | false =>
        have HF := hid_ (show entS (p ^ m) l = 2 by
          rw [HE.out, if_neg]
          intro h
          have := List.all_eq_true.1 h x (List.mem_of_getElem? HXX.out)
          rw [HBO.out] at this; cases this)
        go_wp2_with fail
        go_ret
        exact ⟨ret_int HF.out.symm, e0.trans hE⟩
    · obtain rfl : i = l.length := by omega
      have HF := hid_ (show entS (p ^ m) l = 0 by
        rw [HE.out, if_pos]
        rw [List.all_eq_true]
        intro y hy
        obtain ⟨j, hj, e⟩ := List.getElem_of_mem hy
        exact hall.out j y hj (by rw [List.getElem?_eq_getElem hj, e]))
      go_wp2_with fail
      go_ret
      exact ⟨ret_int HF.out.symm, e0.trans hx⟩
end
end Go.Proofs.Ytpphaicbdeeacaa
