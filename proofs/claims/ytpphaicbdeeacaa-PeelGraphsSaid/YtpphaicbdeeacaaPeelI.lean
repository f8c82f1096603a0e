/- Walk of peel.neighbors: a slice of slices that the call has made itself and appends to, row by row. -/
import Derived.Test.YtpphaicbdeeacaaPeelE
import Derived.Deep.RegionLaw
import Derived.Deep.CutRange
namespace Go.Proofs.Ytpphaicbdeeacaa
set_option linter.unusedVariables false
set_option linter.unusedSimpArgs false
open Go.RowKit

theorem infoInts : (Try.prog.info? 22).map (fun i => (i.zero, i.size, i.bytes)) = some (some (.slice none 0 0), 1, 24) := by kernel_rfl

/-- An array of the call's own of slices of its own, in blocks of their own, that read as the lists L i. -/
structure Rows_ (w : World) (base g n : Nat) (c : Nat → Value) (L : Nat → List Int) : Prop where
  arr : Own w base 22 g n c
  row : ∀ i, i < n → w.ownsRow base 3 1 (c i) (L i).length (ints (L i))
  apart : ∀ i j, i < n → j < n → i ≠ j → Aprt (c i) (c j)
  off : ∀ i, i < n → (c i).ownBlock ≠ some g

theorem Rows_.ex {w w' : World} {base g n : Nat} {c : Nat → Value} {L : Nat → List Int} (h : Rows_ w base g n c L) (hx : Ex w w') : Rows_ w' base g n c L :=
  ⟨h.arr.ex hx, fun i hi => ownsRow_ex (h.row i hi) hx, h.apart, h.off⟩
theorem ownsRow_mono {w : World} {base b' : Nat} {e : TypeId} {size : Nat} {v : Value} {n : Nat} {xs : List Value} (h : w.ownsRow base e size v n xs) (hb : b' ≤ base) : w.ownsRow b' e size v n xs := by
  refine ⟨h.1, ?_⟩
  rcases h.2 with h1 | ⟨g', cap, cur, h1, h2, h3⟩
  · exact .inl h1
  · exact .inr ⟨g', cap, cur, h1, Nat.le_trans hb h2, h3⟩
theorem Rows_.mono {w : World} {base b' g n : Nat} {c : Nat → Value} {L : Nat → List Int} (h : Rows_ w base g n c L) (hb : b' ≤ base) : Rows_ w b' g n c L :=
  ⟨h.arr.mono hb, fun i hi => ownsRow_mono (h.row i hi) hb, h.apart, h.off⟩
/-- Append x to row i and store the new slice there. -/
theorem Rows_.app {w w' : World} {base g n : Nat} {c : Nat → Value} {L : Nat → List Int} (h : Rows_ w base g n c L) {i : Nat} (hi : i < n) {v' : Value} {x : Int}
    (ha : Appd w w' base 3 1 (c i) v' (L i).length (ints (L i)) [.int .i64 x]) :
    Rows_ (w'.setCell ⟨g, i, none⟩ v') base g n (upd c i v') (upd L i (L i ++ [x])) := by
  have h1 := ha.arr h.arr (h.off i hi)
  have hother : ∀ j, j < n → j ≠ i → w'.ownsRow base 3 1 (c j) (L j).length (ints (L j)) ∧ Aprt (c j) v' := fun j hj hne => ha.row (h.row j hj) (h.apart j i hj hi hne)
  refine ⟨h1.1.set i v', fun j hj => ?_, fun j k hj hk hne => ?_, fun j hj => ?_⟩
  · by_cases e : j = i
    · subst e
      rw [upd_same, upd_same]
      have := ha.own
      have := ownsRow_setCell_ne this (a := ⟨g, j, none⟩) h1.2 v'
      rw [List.length_append]
      simpa [ints] using this
    · rw [upd_ne _ _ e, upd_ne _ _ e]
      exact ownsRow_setCell_ne (hother j hj e).1 (h.off j hj) v'
  · by_cases e : j = i
    · subst e
      rw [upd_same, upd_ne _ _ (fun e => hne e.symm)]
      exact (hother k hk (fun e => hne e.symm)).2.symm
    · rw [upd_ne _ _ e]
      by_cases e2 : k = i
      · subst e2; rw [upd_same]; exact (hother j hj e).2
      · rw [upd_ne _ _ e2]; exact h.apart j k hj hk hne
  · by_cases e : j = i
    · subst e; rw [upd_same]; exact h1.2
    · rw [upd_ne _ _ e]; exact h.off j hj

theorem appd_of {w w' : World} {o : Obj} {base : Nat} {e : TypeId} {size : Nat} {v v' : Value} {n : Nat} {xs news : List Value} (old : w.ownsRow base e size v n xs) (hown : w'.ownsRow base e size v' (n + 1) (xs ++ news))
    (hg : ((w.alloc o).drew).grownBy w' v.ownBlock) (ha : v'.ownBlock = v.ownBlock ∨ v'.ownBlock = some ((w.alloc o).drew).heap.size) : Appd w w' base e size v v' n xs news :=
  ⟨hown, ⟨o, ⟨hg.os, hg.tape, hg.output, hg.size, hg.block⟩⟩, by simpa using ha, old⟩
/-- The neighbours after the first j checks and k entries of check j. -/
def addE (N j : Nat) (L : Nat → List Int) (X : Nat) : Nat → List Int :=
  let L1 := upd L X (L X ++ [((N + j : Nat) : Int)])
  upd L1 (N + j) (L1 (N + j) ++ [(X : Int)])
def nbRow (N j : Nat) (L : Nat → List Int) (r : List Int) : Nat → List Int := r.foldl (fun L x => addE N j L x.toNat) L
def nbAll (N : Nat) (rows : List (List Int)) : Nat → List Int := (rows.zipIdx).foldl (fun L p => nbRow N p.2 L p.1) fun _ => []
def nbK (N : Nat) (rows : List (List Int)) (j : Nat) : Nat → List Int := ((rows.zipIdx).take j).foldl (fun L p => nbRow N p.2 L p.1) fun _ => []
def nbRK (N j : Nat) (L : Nat → List Int) (r : List Int) (k : Nat) : Nat → List Int := nbRow N j L (r.take k)
theorem nbRK_succ {N j : Nat} {L : Nat → List Int} {r : List Int} {k X : Nat} (h : r[k]? = some (X : Int)) : nbRK N j L r (k + 1) = addE N j (nbRK N j L r k) X := by
  unfold nbRK nbRow
  rw [List.take_add_one, h, List.foldl_append]; rfl
theorem nbK_succ {N j : Nat} {rows : List (List Int)} {r : List Int} (h : rows[j]? = some r) : nbK N rows (j + 1) = nbRow N j (nbK N rows j) r := by
  unfold nbK
  rw [List.take_add_one, List.getElem?_zipIdx, h, List.foldl_append]
  simp

theorem addE_len (N j : Nat) (L : Nat → List Int) (X i : Nat) : (addE N j L X i).length ≤ (L i).length + 2 := by
  unfold addE
  generalize ((N + j : Nat) : Int) = y
  generalize (X : Int) = x
  unfold upd
  split
  · rename_i h; subst h
    split
    · rename_i h; subst h; simp
    · simp
  · split
    · rename_i h; subst h; simp
    · omega
theorem nbRow_len (N j : Nat) (r : List Int) : ∀ (L : Nat → List Int) (i : Nat), (nbRow N j L r i).length ≤ (L i).length + 2 * r.length := by
  induction r with
  | nil => intro L i; simp [nbRow]
  | cons x r ih =>
    intro L i
    have h1 := ih (addE N j L x.toNat) i
    have h2 := addE_len N j L x.toNat i
    unfold nbRow at *
    rw [List.foldl_cons, List.length_cons]
    omega
theorem nbK_len (N : Nat) (rows : List (List Int)) (h : ∀ (i : Nat) (r : List Int), rows[i]? = some r → r.length ≤ 64) : ∀ (j : Nat), j ≤ rows.length → ∀ i, (nbK N rows j i).length ≤ 128 * j
  | 0, _, i => by simp [nbK]
  | j + 1, hj, i => by
    have hr : rows[j]? = some (rows[j]'(by omega)) := List.getElem?_eq_getElem (by omega)
    rw [nbK_succ hr]
    have h1 := nbRow_len N j (rows[j]'(by omega)) (nbK N rows j) i
    have h2 := nbK_len N rows h j (by omega) i
    have h3 := h j _ hr
    omega
theorem nbK_all (N : Nat) (rows : List (List Int)) : nbK N rows rows.length = nbAll N rows := by
  unfold nbK nbAll
  rw [List.take_of_length_le (by simp)]
theorem nbRK_all (N j : Nat) (L : Nat → List Int) (r : List Int) : nbRK N j L r r.length = nbRow N j L r := by
  unfold nbRK
  rw [List.take_length]
theorem nbRK_len (N j : Nat) (L : Nat → List Int) (r : List Int) (k i : Nat) (hk : k ≤ r.length) : (nbRK N j L r k i).length ≤ (L i).length + 2 * k := by
  unfold nbRK
  have := nbRow_len N j (r.take k) L i
  rw [List.length_take] at this
  omega

set_option maxRecDepth 100000 in
set_option maxHeartbeats 4000000 in
theorem neighbors_any (w : World) (N : Nat) (rows : List (List Int)) (v : Value) (hN : N ≤ 64) (hN1 : 1 ≤ N) (hC : rows.length ≤ 256) (hv : MSl w v rows) (hr : RowsIn N rows) (h64 : ∀ (i : Nat) (r : List Int), rows[i]? = some r → r.length ≤ 64) :
    Calls Try.prog 45 #[.agg #[.int .i64 N, v]] w fun r w' => ∃ g c, r = .returned (.slice (some ⟨g, 0, none⟩) (N + rows.length) (N + rows.length)) ∧ Rows_ w' w.heap.size g (N + rows.length) c (nbAll N rows) ∧ Ex w w' := by
  obtain ⟨d0, d1, e0⟩ := boxT_facts w N v
  obtain ⟨a, cap, rfl, s1, s2, s3⟩ := hv.open
  have S3 := hid_ s3
  have HR := hid_ hr
  have H64 := hid_ h64
  unfold maxLen at s2
  clear hv s3 hr h64
  obtain ⟨xb, hxb⟩ : ∃ xb, w.heap.size = xb := ⟨_, rfl⟩
  rw [hxb] at d0 d1
  obtain ⟨M, hM⟩ : ∃ M, N + rows.length = M := ⟨_, rfl⟩
  have hM' : (N : Int) + (rows.length : Int) = (M : Int) := by omega
  go_enter Try.func45, Try.ntmps45
  go_wp2_with (at_make; refine wpList_make_arr _ rfl _ _ 25 rfl 22 (.slice none 0 0) 24 Try.underlying25 infoInts rfl _ M rfl rfl rfl (by omega) (by unfold maxLen; omega) ?_)
  intro w3 hown hx3
  have r0 := hx3.cell d0
  have r1 := hx3.cell d1
  have hsz : (w.alloc (.cells #[.int .i64 N, .slice a rows.length cap] 31)).heap.size = xb + 1 := by simp [hxb]
  have HSZ := hid_ hsz
  have HXB := hid_ hxb
  have HM := hid_ hM
  clear hsz hxb hM
  generalize w.alloc (.cells #[.int .i64 N, .slice a rows.length cap] 31) = w1 at *
  obtain ⟨g, hg⟩ : ∃ g, xb + 1 = g := ⟨_, rfl⟩
  have HB : Hid (w1.heap.size ≤ g) := hid_ (by have := HSZ.out; omega)
  have HR0 : Hid (Rows_ w3 g g M (fun _ => .slice none 0 0) (nbK N rows 0)) := by
    rw [hg] at hown
    exact hid_ ⟨hown, fun i hi => World.ownsRow_nil _ _ _ _, fun i j _ _ _ => Aprt.nil _, fun i hi => by simp [Value.ownBlock]⟩
  try simp only [hg]
  have HG := hid_ hg
  clear hown hg
  go_wp2_with fail
  go_loopw [18] (fun j' wr => ∃ (j : Nat) (c : Nat → Value), j ≤ rows.length ∧ j' = .int .i64 j ∧ Hid (Rows_ wr g g M c (nbK N rows j)) ∧ Ex w1 wr) (fun j' _ => rows.length - (intOf j').toNat)
  case atStart => exact ⟨0, _, by omega, rfl, HR0, hx3⟩
  case round =>
    clear HR0 hx3 r0 r1
    obtain ⟨j, c, hj, rfl, hrows, hx⟩ := hrel
    have r0 := hx.cell d0
    have r1 := hx.cell d1
    by_cases hlt : j < rows.length
    · obtain ⟨r, hrr⟩ : ∃ r, rows[j]? = some r := ⟨_, List.getElem?_eq_getElem hlt⟩
      obtain ⟨bb, o, rfl, hc⟩ := S3.out (by omega)
      obtain ⟨u, c1, hu⟩ := hc j r hrr
      have c1' := (e0.trans hx).cell c1
      obtain ⟨ua, uc, rfl, u1, u2, u3⟩ := hu.open
      have U3 := hid_ u3
      have HRR := hid_ (fun k x h => HR.out j r k x hrr h)
      have HNK := hid_ (nbK_succ (N := N) hrr)
      have hr64 := H64.out j r hrr
      have HKL := hid_ (nbK_len N rows H64.out j hj)
      unfold maxLen at u2
      clear hc hu u3 hrr c1
      obtain ⟨L, hL⟩ : ∃ L, nbK N rows j = L := ⟨_, rfl⟩
      rw [hL] at hrows HNK HKL
      clear hL
      obtain ⟨wo, rfl⟩ : ∃ wo : World, wo = wr := ⟨_, rfl⟩
      go_wp2_with fail
      clear c1' r0 r1
      go_loopw [25] (fun k' wr => ∃ (k : Nat) (c : Nat → Value), k ≤ r.length ∧ k' = .int .i64 k ∧ Hid (Rows_ wr g g M c (nbRK N j L r k)) ∧ Ex w1 wr) (fun k' _ => r.length - (intOf k').toNat)
      case atStart => exact ⟨0, c, by omega, rfl, hrows, hx⟩
      case round =>
        clear hrows hx
        obtain ⟨k, c, hk, rfl, hrows, hx⟩ := hrel
        have r0 := hx.cell d0
        have r1 := hx.cell d1
        by_cases hkl : k < r.length
        · obtain ⟨x, hxx⟩ : ∃ x, r[k]? = some x := ⟨_, List.getElem?_eq_getElem hkl⟩
          obtain ⟨x1, x2⟩ := HRR.out k x hxx
          obtain ⟨X, rfl⟩ : ∃ X : Nat, x = X := ⟨x.toNat, by omega⟩
          obtain ⟨rb, ro, rfl, hrc⟩ := U3.out (by omega)
          have c2 := (e0.trans hx).cell (hrc k X hxx)
          have HLN := hid_ (show ∀ i, (nbRK N j L r k i).length ≤ 40000 from fun i => by have h1 := nbRK_len N j L r k i hk; have h2 := HKL.out i; omega)
          have HNX := hid_ (nbRK_succ (N := N) (j := j) (L := L) hxx)
          have hXN : X < N := by omega
          have hXM : X < M := by have := HM.out; omega
          have hJM : N + j < M := by have := HM.out; omega
          clear hrc hxx x1 x2
          obtain ⟨L1, hL1⟩ : ∃ L1, nbRK N j L r k = L1 := ⟨_, rfl⟩
          rw [hL1] at hrows HNX HLN
          clear hL1
          have v1 := hrows.out.arr.cell hXM
          have f1 := hrows.out.arr.frz X
          have i1 : IntKind.i64.wrap ((N : Int) + j) = (N : Int) + j := IntWalk.i64_in _ (by omega)
          have q1 : (0 : Int) ≤ (X : Int) := by omega
          have q2 : (X : Int) < (M : Int) := by omega
          go_upto_region 8 with fail
          go_cut [25] from 25 to 58 (fun s25 wx => s25 = .int .i64 k ∧ Hid (∃ c', Rows_ wx g g M c' (upd L1 X (L1 X ++ [((N + j : Nat) : Int)]))) ∧ Ex w1 wx)
          case first =>
            have hrow := hid_ (hrows.out.row X hXM)
            have hlen : (L1 X).length + 1 ≤ 100000 := by have := HLN.out X; omega
            have HBW : Hid (g ≤ ((wr.alloc (.cells #[.int .i64 ((N : Int) + j)] 3)).drew).heap.size) := hid_ (by have := hrows.out.arr.lt.2; simp; omega)
            have vA := ((Ex.refl wr).alloc (.cells #[.int .i64 ((N : Int) + j)] 3)).cell v1
            go_region_law
              ((refine step_append_sl (by rfl) _ _ _ (by rfl) g 3 (.int .i64 0) 1 8 Try.underlying22 infoInt rfl (by decide) (c X) (L1 X).length (ints (L1 X)) (by rfl) (ownsRow_ex hrow.out (((Ex.refl wr).alloc (.cells #[.int .i64 ((N : Int) + j)] 3)).drew)) _ 1 [.int .i64 ((N : Int) + j)] (by rfl) (Sl.own (own_lit1 wr (.int .i64 ((N : Int) + j)) 3)) (by simp [Value.oneCell']) (by unfold maxLen; omega) (by omega) (HBW.out) ?_; intro v8 w8 hown8 hg8 ha8; have HAP := appd_of hrow.out hown8 hg8 ha8; have HX8 := HAP.ex hx HB.out; have HC8 := (HAP.arr hrows.out.arr (hrows.out.off X hXM)).1.cell hXM; have HF8 := (HAP.arr hrows.out.arr (hrows.out.off X hXM)).1.frz X; have HRW := hid_ (hrows.out.app hXM HAP); obtain ⟨va, vc, hv8⟩ := own_shape hown8; subst hv8; clear hown8 hg8 ha8 HAP))
            all_goals
              go_wp2_with fail
              go_meet
              exact ⟨rfl, hid_ ⟨_, HRW.out⟩, HX8.setCell (p := ⟨g, X, none⟩) HB.out _⟩
          case rest =>
            obtain ⟨rfl, hR2, hx2⟩ := hcut
            obtain ⟨c2_, hrows2⟩ := hR2.out
            obtain ⟨L2, hL2⟩ : ∃ L2, upd L1 X (L1 X ++ [((N + j : Nat) : Int)]) = L2 := ⟨_, rfl⟩
            have HLN2 := hid_ (show (L2 (N + j)).length + 1 ≤ 100000 from by
              have h1 := HLN.out (N + j)
              have h2 := HLN.out X
              rw [← hL2]; unfold upd; split
              · rw [List.length_append, List.length_singleton]; omega
              · omega)
            have HNX2 := hid_ (show nbRK N j L r (k + 1) = upd L2 (N + j) (L2 (N + j) ++ [(X : Int)]) by rw [HNX.out, ← hL2]; rfl)
            rw [hL2] at hR2 hrows2
            have HRW2 := hid_ hrows2
            clear hR2 hrows2 HNX hrows hx r0 r1 v1 f1 i1 HLN hL2
            have r0 := hx2.cell d0
            have v1 := HRW2.out.arr.cell hJM
            have f1 := HRW2.out.arr.frz (N + j)
            have i1 : IntKind.i64.wrap ((N : Int) + j) = (N : Int) + j := IntWalk.i64_in _ (by omega)
            have i2 : ((N : Int) + j).toNat = N + j := by omega
            have i3 : (0 : Int) ≤ (N : Int) + j := by omega
            have i4 : (N : Int) + j < (M : Int) := by omega
            go_wp2_with fail
            have hrow := hid_ (HRW2.out.row (N + j) hJM)
            have hlen := HLN2.out
            have HBW : Hid (g ≤ ((wc.alloc (.cells #[.int .i64 (X : Int)] 3)).drew).heap.size) := hid_ (by have := HRW2.out.arr.lt.2; simp; omega)
            have vA := ((Ex.refl wc).alloc (.cells #[.int .i64 (X : Int)] 3)).cell v1
            have rA := ((Ex.refl wc).alloc (.cells #[.int .i64 (X : Int)] 3)).cell r0
            go_region_law
              ((refine step_append_sl (by rfl) _ _ _ (by rfl) g 3 (.int .i64 0) 1 8 Try.underlying22 infoInt rfl (by decide) (c2_ (N + j)) (L2 (N + j)).length (ints (L2 (N + j))) (by rfl) (ownsRow_ex hrow.out (((Ex.refl wc).alloc (.cells #[.int .i64 (X : Int)] 3)).drew)) _ 1 [.int .i64 (X : Int)] (by rfl) (Sl.own (own_lit1 wc (.int .i64 (X : Int)) 3)) (by simp [Value.oneCell']) (by unfold maxLen; omega) (by omega) (HBW.out) ?_; intro v8 w8 hown8 hg8 ha8; have HAP := appd_of hrow.out hown8 hg8 ha8; have HX8 := HAP.ex hx2 HB.out; have HC0 := HX8.cell d0; have HC8 := (HAP.arr HRW2.out.arr (HRW2.out.off (N + j) hJM)).1.cell hJM; have HF8 := (HAP.arr HRW2.out.arr (HRW2.out.off (N + j) hJM)).1.frz (N + j); have HRW := hid_ (HRW2.out.app hJM HAP); obtain ⟨va, vc, hv8⟩ := own_shape hown8; subst hv8; clear hown8 hg8 ha8 HAP))
            all_goals
              have HX9 := hid_ (HX8.setCell (p := ⟨g, N + j, none⟩) HB.out (.slice va ((L2 (N + j)).length + 1) vc))
              clear HX8 HC8 HF8 HC0 vA rA
              go_wp2_with fail
              go_roundw
              case rel => exact ⟨k + 1, _, by omega, by go_num, hid_ (by rw [HNX2.out]; exact HRW.out), HX9.out⟩
              case measure => simp [intOf]; omega
        · obtain rfl : k = r.length := by omega
          rw [nbRK_all] at hrows
          have HRW := hid_ (show Rows_ wr g g M c (nbK N rows (j + 1)) by rw [HNK.out]; exact hrows.out)
          clear hrows
          go_wp2_with fail
          go_roundw
          case rel => exact ⟨j + 1, c, by omega, by go_num, HRW, hx⟩
          case measure => simp [intOf]; omega
    · obtain rfl : j = rows.length := by omega
      have HRW := hid_ (show Rows_ wr w.heap.size g M c (nbAll N rows) by rw [← nbK_all]; exact hrows.out.mono (by have h1 := HG.out; have h2 := HXB.out; omega))
      clear hrows
      go_wp2_with fail
      go_ret
      exact ⟨g, c, by rw [HM.out]; rfl, by rw [HM.out]; exact HRW.out, e0.trans hx⟩
end Go.Proofs.Ytpphaicbdeeacaa
