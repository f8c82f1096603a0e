/- Slices of slices of ints; walks of the package matrix: entries, check. -/
import Derived.Test.YtpphaicbdeeacaaFldJ
namespace Go.Proofs.Ytpphaicbdeeacaa
set_option linter.unusedVariables false
set_option linter.unusedSimpArgs false
open Go.RowKit

/-- A slice of slices of ints that reads as a list of lists. -/
def MSl (w : World) (v : Value) (rows : List (List Int)) : Prop := ∃ vals : List Value, Sl w v rows.length 1 vals ∧ ∀ (i : Nat) (r : List Int) (u : Value), rows[i]? = some r → vals[i]? = some u → ISl w u r
theorem MSl.ex {w w' : World} {v : Value} {rows : List (List Int)} (h : MSl w v rows) (hx : Ex w w') : MSl w' v rows := by
  obtain ⟨vals, h1, h2⟩ := h
  exact ⟨vals, h1.ex hx, fun i r u a b => (h2 i r u a b).ex hx⟩
theorem MSl.open {w : World} {v : Value} {rows : List (List Int)} (h : MSl w v rows) : ∃ a cap, v = .slice a rows.length cap ∧ rows.length ≤ cap ∧ cap ≤ maxLen ∧
    (0 < rows.length → ∃ b o, a = some ⟨b, o, none⟩ ∧ ∀ (i : Nat) (r : List Int), rows[i]? = some r → ∃ u, w.cell? ⟨b, o + i, none⟩ = some u ∧ ISl w u r) := by
  obtain ⟨vals, ⟨h1, a, cap, h2, h3, h4, h5⟩, h6⟩ := h
  refine ⟨a, cap, h2, h3, h4, fun hn => ?_⟩
  obtain ⟨b, o, h7, h8⟩ := h5 hn
  refine ⟨b, o, h7, fun i r hr => ?_⟩
  have hi := (List.getElem?_eq_some_iff.1 hr).1
  have hu : vals[i]? = some vals[i] := List.getElem?_eq_getElem (by omega)
  exact ⟨_, h8 i _ hu, h6 i r _ hr hu⟩

/-- The error of a list's entries. -/
def entS (q : Nat) (l : List Int) : Int := if (l.all fun x => isB q x) = true then 0 else 2

section
variable {b p m x0 : Nat} {ml : List Int}

set_option maxRecDepth 100000 in
set_option maxHeartbeats 1000000 in
theorem entries_any (w : World) (hg : GFat w b p m ml x0) (l : List Int) (v : Value) (hl : ISl w v l) :
    Calls Try.prog 82 #[.pointer (some ⟨b, 0, none⟩), v] w fun r w' => r = .returned (.int .i64 (entS (p ^ m) l)) ∧ Ex w w' := by
  obtain ⟨a, cap, rfl, s1, s2, s3⟩ := hl.open
  have S3 := hid_ s3
  have HG := hid_ hg
  have HE := hid_ (show entS (p ^ m) l = if (l.all fun x => isB (p ^ m) x) = true then 0 else 2 from rfl)
  unfold maxLen at s2
  clear hl s3 hg
  go_enter Try.func82, Try.ntmps82
  go_wp2_with fail
  go_loopw [6, 9] (fun _ i' wr => ∃ i : Nat, i ≤ l.length ∧ i' = .int .i64 i ∧ Hid (∀ (j : Nat) (x : Int), j < i → l[j]? = some x → isB (p ^ m) x = true) ∧ Ex w wr) (fun _ i' _ => l.length - (intOf i').toNat)
  case atStart => exact ⟨0, by omega, rfl, hid_ (fun j x h => by omega), Ex.refl _⟩
  case round =>
    obtain ⟨i, hi, rfl, hall, hx⟩ := hrel
    by_cases hlt : i < l.length
    · obtain ⟨x, hxx⟩ : ∃ x, l[i]? = some x := ⟨_, List.getElem?_eq_getElem hlt⟩
      obtain ⟨bb, o, rfl, hc⟩ := S3.out (by omega)
      have c1 := hx.cell (hc i x hxx)
      have HIS := hid_ (Is_any wr (HG.out.ex hx) x)
      by_cases hb : isB (p ^ m) x = true
      · have HA := hid_ (show ∀ (j : Nat) (y : Int), j < i + 1 → l[j]? = some y → isB (p ^ m) y = true from fun j y hj hy => by
          by_cases e : j = i
          · subst e; rw [hxx] at hy; injection hy with hy; subst hy; exact hb
          · exact hall.out j y (by omega) hy)
        rw [hb] at HIS
        clear hc hxx hb
        go_wp2_with fail
        refine HIS.out.mono ?_
        rintro e w2 ⟨rfl, n, rfl⟩
        go_wp2_with fail
        go_roundw
        case rel => exact ⟨i + 1, by omega, by go_num, HA, hx.drewN n⟩
        case measure => simp [intOf]; omega
      · have HF := hid_ (show entS (p ^ m) l = 2 by
          rw [HE.out, if_neg]
          intro h
          exact hb (List.all_eq_true.1 h x (List.mem_of_getElem? hxx)))
        have hb' : isB (p ^ m) x = false := by simpa using hb
        rw [hb'] at HIS
        clear hc hxx hb hb'
        go_wp2_with fail
        refine HIS.out.mono ?_
        rintro e w2 ⟨rfl, n, rfl⟩
        go_wp2_with fail
        go_ret
        exact ⟨ret_int HF.out.symm, hx.drewN n⟩
    · obtain rfl : i = l.length := by omega
      have HF := hid_ (show entS (p ^ m) l = 0 by
        rw [HE.out, if_pos]
        rw [List.all_eq_true]
        intro y hy
        obtain ⟨j, hj, e⟩ := List.getElem_of_mem hy
        exact hall.out j y hj (by rw [List.getElem?_eq_getElem hj, e]))
      go_wp2_with fail
      go_ret
      exact ⟨ret_int HF.out.symm, hx⟩

/-- The error of a matrix's shape and entries. -/
def mchkS (q : Nat) (cols : Int) (rows : List (List Int)) : Int :=
  if cols < 0 ∨ 256 < cols ∨ 256 < (rows.length : Int) then 3
  else if (rows.all fun r => decide ((r.length : Int) = cols)) = true then (if (rows.all fun r => entS q r == 0) = true then 0 else 2) else 3

theorem boxM_facts (w : World) (c : Int) (v : Value) : (w.alloc (.cells #[.int .i64 c, v] 27)).cell? ⟨w.heap.size, 0, none⟩ = some (.int .i64 c) ∧
    (w.alloc (.cells #[.int .i64 c, v] 27)).cell? ⟨w.heap.size, 1, none⟩ = some v ∧ Ex w (w.alloc (.cells #[.int .i64 c, v] 27)) :=
  ⟨by simp, by simp, (Ex.refl _).alloc _⟩

theorem entS_ne {q : Nat} {l : List Int} : entS q l = 0 ∨ entS q l = 2 := by unfold entS; split <;> simp

set_option maxRecDepth 100000 in
set_option maxHeartbeats 2000000 in
theorem mcheck_any (w : World) (hg : GFat w b p m ml x0) (cols : Int) (rows : List (List Int)) (v : Value) (hv : MSl w v rows) :
    Calls Try.prog 98 #[.pointer (some ⟨b, 0, none⟩), .agg #[.int .i64 cols, v]] w fun r w' => r = .returned (.int .i64 (mchkS (p ^ m) cols rows)) ∧ Ex w w' := by
  obtain ⟨d0, d1, e0⟩ := boxM_facts w cols v
  have HE := hid_ (show mchkS (p ^ m) cols rows = if cols < 0 ∨ 256 < cols ∨ 256 < (rows.length : Int) then 3
  else if (rows.all fun r => decide ((r.length : Int) = cols)) = true then (if (rows.all fun r => entS (p ^ m) r == 0) = true then 0 else 2) else 3 from rfl)
  have hv1 := hv.ex e0
  have HG := hid_ (hg.ex e0)
  obtain ⟨a, cap, rfl, s1, s2, s3⟩ := hv1.open
  have S3 := hid_ s3
  unfold maxLen at s2
  clear hv hv1 s3 hg
  by_cases h : cols < 0 ∨ 256 < cols ∨ 256 < (rows.length : Int)
  · have HR := hid_ (show mchkS (p ^ m) cols rows = 3 by rw [HE.out, if_pos h])
    have hc : cols < 0 ∨ (0 ≤ cols ∧ 256 < cols) ∨ (0 ≤ cols ∧ cols ≤ 256 ∧ 256 < (rows.length : Int)) := by omega
    clear h HE
    rcases hc with hc | ⟨h1, h2⟩ | ⟨h1, h2, h3⟩
    all_goals
      go_enter Try.func98, Try.ntmps98
      go_wp2_with fail
      go_ret
      exact ⟨ret_int HR.out.symm, e0⟩
  · have h1 : 0 ≤ cols := by omega
    have h2 : cols ≤ 256 := by omega
    have h3 : (rows.length : Int) ≤ 256 := by omega
    have HE2 := hid_ (show mchkS (p ^ m) cols rows = if (rows.all fun r => decide ((r.length : Int) = cols)) = true then (if (rows.all fun r => entS (p ^ m) r == 0) = true then 0 else 2) else 3 by rw [HE.out, if_neg h])
    clear h HE
    go_enter Try.func98, Try.ntmps98
    go_wp2_with fail
    generalize w.alloc (.cells #[.int .i64 cols, .slice a rows.length cap] 27) = w1 at *
    go_loopw [6, 27] (fun _ i' wr => ∃ i : Nat, i ≤ rows.length ∧ i' = .int .i64 i ∧ Hid (∀ (j : Nat) (r : List Int), j < i → rows[j]? = some r → (r.length : Int) = cols) ∧ Ex w1 wr) (fun _ i' _ => rows.length - (intOf i').toNat)
    case atStart => exact ⟨0, by omega, rfl, hid_ (fun j x h => by omega), Ex.refl _⟩
    case round =>
      obtain ⟨i, hi, rfl, hall, hx⟩ := hrel
      have r0 := hx.cell d0
      have r1 := hx.cell d1
      by_cases hlt : i < rows.length
      · obtain ⟨r, hr⟩ : ∃ r, rows[i]? = some r := ⟨_, List.getElem?_eq_getElem hlt⟩
        obtain ⟨bb, o, rfl, hc⟩ := S3.out (by omega)
        obtain ⟨u, c1, hu⟩ := hc i r hr
        obtain ⟨ua, uc, rfl, u1, u2, u3⟩ := hu.open
        have c2 := hx.cell c1
        unfold maxLen at u2
        by_cases hl : (r.length : Int) = cols
        · have hb : ((r.length : Int) != cols) = false := by simpa using hl
          have HA := hid_ (show ∀ (j : Nat) (s : List Int), j < i + 1 → rows[j]? = some s → (s.length : Int) = cols from fun j s hj hs => by
            by_cases e : j = i
            · subst e; rw [hr] at hs; injection hs with hs; subst hs; exact hl
            · exact hall.out j s (by omega) hs)
          clear hl hc c1 hu u3 hr
          go_wp2_with fail
          go_roundw
          case rel => exact ⟨i + 1, by omega, by go_num, HA, hx⟩
          case measure => simp [intOf]; omega
        · have hb : ((r.length : Int) != cols) = true := by simpa using hl
          have HF := hid_ (show mchkS (p ^ m) cols rows = 3 by
            rw [HE2.out, if_neg]
            intro h
            have := List.all_eq_true.1 h r (List.mem_of_getElem? hr)
            exact hl (by simpa using this))
          clear hl hc c1 hu u3 hr
          go_wp2_with fail
          go_ret
          exact ⟨ret_int HF.out.symm, e0.trans hx⟩
      · obtain rfl : i = rows.length := by omega
        have HE3 := hid_ (show mchkS (p ^ m) cols rows = if (rows.all fun r => entS (p ^ m) r == 0) = true then 0 else 2 by
          rw [HE2.out, if_pos]
          rw [List.all_eq_true]
          intro r hr
          obtain ⟨j, hj, e⟩ := List.getElem_of_mem hr
          exact decide_eq_true (hall.out j r hj (by rw [List.getElem?_eq_getElem hj, e])))
        clear hall
        go_wp2_with fail
        obtain ⟨wo, rfl⟩ : ∃ wo : World, wo = wr := ⟨_, rfl⟩
        clear r0 r1
        go_loopw [8, 9, 40] (fun _ _ i' wr => ∃ i : Nat, i ≤ rows.length ∧ i' = .int .i64 i ∧ Hid (∀ (j : Nat) (r : List Int), j < i → rows[j]? = some r → entS (p ^ m) r = 0) ∧ Ex w1 wr) (fun _ _ i' _ => rows.length - (intOf i').toNat)
        case atStart => exact ⟨0, by omega, rfl, hid_ (fun j x h => by omega), hx⟩
        case round =>
          clear hx
          obtain ⟨i, hi, rfl, hall, hx⟩ := hrel
          have r0 := hx.cell d0
          have r1 := hx.cell d1
          by_cases hlt : i < rows.length
          · obtain ⟨r, hr⟩ : ∃ r, rows[i]? = some r := ⟨_, List.getElem?_eq_getElem hlt⟩
            obtain ⟨bb, o, rfl, hc⟩ := S3.out (by omega)
            obtain ⟨u, c1, hu⟩ := hc i r hr
            obtain ⟨ua, uc, rfl, u1, u2, u3⟩ := hu.open
            have c2 := hx.cell c1
            unfold maxLen at u2
            have HEN := hid_ (entries_any wr (HG.out.ex hx) r _ (hu.ex hx))
            by_cases hl : entS (p ^ m) r = 0
            · have HA := hid_ (show ∀ (j : Nat) (s : List Int), j < i + 1 → rows[j]? = some s → entS (p ^ m) s = 0 from fun j s hj hs => by
                by_cases e : j = i
                · subst e; rw [hr] at hs; injection hs with hs; subst hs; exact hl
                · exact hall.out j s (by omega) hs)
              rw [hl] at HEN
              clear hl hc c1 hu u3 hr
              go_wp2_with fail
              refine HEN.out.mono ?_
              rintro e w3 ⟨rfl, hx3⟩
              go_wp2_with fail
              go_roundw
              case rel => exact ⟨i + 1, by omega, by go_num, HA, hx.trans hx3⟩
              case measure => simp [intOf]; omega
            · have hl2 : entS (p ^ m) r = 2 := by rcases entS_ne (q := p ^ m) (l := r) with e | e; exact absurd e hl; exact e
              have HF := hid_ (show mchkS (p ^ m) cols rows = 2 by
                rw [HE3.out, if_neg]
                intro h
                have := List.all_eq_true.1 h r (List.mem_of_getElem? hr)
                exact hl (by simpa using this))
              rw [hl2] at HEN
              clear hl hl2 hc c1 hu u3 hr
              go_wp2_with fail
              refine HEN.out.mono ?_
              rintro e w3 ⟨rfl, hx3⟩
              go_wp2_with fail
              go_ret
              exact ⟨ret_int HF.out.symm, e0.trans (hx.trans hx3)⟩
          · obtain rfl : i = rows.length := by omega
            have HF := hid_ (show mchkS (p ^ m) cols rows = 0 by
              rw [HE3.out, if_pos]
              rw [List.all_eq_true]
              intro r hr
              obtain ⟨j, hj, e⟩ := List.getElem_of_mem hr
              rw [hall.out j r hj (by rw [List.getElem?_eq_getElem hj, e])]; rfl)
            go_wp2_with fail
            go_ret
            exact ⟨ret_int HF.out.symm, e0.trans hx⟩
end
end Go.Proofs.Ytpphaicbdeeacaa
