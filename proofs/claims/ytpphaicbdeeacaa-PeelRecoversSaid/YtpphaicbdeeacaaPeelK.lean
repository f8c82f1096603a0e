/- Walk of peel.neighbors: a slice of slices that the call has made itself and appends to, row by row. -/
/- Walk of peel.around: a search in breadth. -/
/- Walk of peel.Girth. -/
import Derived.Test.YtpphaicbdeeacaaPeelE
import Derived.Deep.RegionLaw
import Derived.Deep.CutRange
namespace Go.Proofs.Ytpphaicbdeeacaa
set_option linter.unusedVariables false
set_option linter.unusedSimpArgs false
open Go.RowKit

theorem infoInts : (Try.prog.info? 22).map (fun i => (i.zero, i.size, i.bytes)) = some (some (.slice none 0 0), 1, 24) := by kernel_rfl

/-- An array of the call's own of slices of its own, in blocks of their own, that read as the lists L i. -/
structure Rows_ (w : World) (base g n : Nat) (c : Nat → Value) (L : Nat → List Int) : Prop where
  arr : Own w base 22 g n c
  row : ∀ i, i < n → w.ownsRow base 3 1 (c i) (L i).length (ints (L i))
  apart : ∀ i j, i < n → j < n → i ≠ j → Aprt (c i) (c j)
  off : ∀ i, i < n → (c i).ownBlock ≠ some g

theorem Rows_.ex {w w' : World} {base g n : Nat} {c : Nat → Value} {L : Nat → List Int} (h : Rows_ w base g n c L) (hx : Ex w w') : Rows_ w' base g n c L :=
  ⟨h.arr.ex hx, fun i hi => ownsRow_ex (h.row i hi) hx, h.apart, h.off⟩
theorem ownsRow_mono {w : World} {base b' : Nat} {e : TypeId} {size : Nat} {v : Value} {n : Nat} {xs : List Value} (h : w.ownsRow base e size v n xs) (hb : b' ≤ base) : w.ownsRow b' e size v n xs := by
  refine ⟨h.1, ?_⟩
  rcases h.2 with h1 | ⟨g', cap, cur, h1, h2, h3⟩
  · exact .inl h1
  · exact .inr ⟨g', cap, cur, h1, Nat.le_trans hb h2, h3⟩
theorem Rows_.mono {w : World} {base b' g n : Nat} {c : Nat → Value} {L : Nat → List Int} (h : Rows_ w base g n c L) (hb : b' ≤ base) : Rows_ w b' g n c L :=
  ⟨h.arr.mono hb, fun i hi => ownsRow_mono (h.row i hi) hb, h.apart, h.off⟩
/-- Append x to row i and store the new slice there. -/
theorem Rows_.app {w w' : World} {base g n : Nat} {c : Nat → Value} {L : Nat → List Int} (h : Rows_ w base g n c L) {i : Nat} (hi : i < n) {v' : Value} {x : Int}
    (ha : Appd w w' base 3 1 (c i) v' (L i).length (ints (L i)) [.int .i64 x]) :
    Rows_ (w'.setCell ⟨g, i, none⟩ v') base g n (upd c i v') (upd L i (L i ++ [x])) := by
  have h1 := ha.arr h.arr (h.off i hi)
  have hother : ∀ j, j < n → j ≠ i → w'.ownsRow base 3 1 (c j) (L j).length (ints (L j)) ∧ Aprt (c j) v' := fun j hj hne => ha.row (h.row j hj) (h.apart j i hj hi hne)
  refine ⟨h1.1.set i v', fun j hj => ?_, fun j k hj hk hne => ?_, fun j hj => ?_⟩
  · by_cases e : j = i
    · subst e
      rw [upd_same, upd_same]
      have := ha.own
      have := ownsRow_setCell_ne this (a := ⟨g, j, none⟩) h1.2 v'
      rw [List.length_append]
      simpa [ints] using this
    · rw [upd_ne _ _ e, upd_ne _ _ e]
      exact ownsRow_setCell_ne (hother j hj e).1 (h.off j hj) v'
  · by_cases e : j = i
    · subst e
      rw [upd_same, upd_ne _ _ (fun e => hne e.symm)]
      exact (hother k hk (fun e => hne e.symm)).2.symm
    · rw [upd_ne _ _ e]
      by_cases e2 : k = i
      · subst e2; rw [upd_same]; exact (hother j hj e).2
      · rw [upd_ne _ _ e2]; exact h.apart j k hj hk hne
  · by_cases e : j = i
    · subst e; rw [upd_same]; exact h1.2
    · rw [upd_ne _ _ e]; exact h.off j hj

theorem appd_of {w w' : World} {o : Obj} {base : Nat} {e : TypeId} {size : Nat} {v v' : Value} {n : Nat} {xs news : List Value} (old : w.ownsRow base e size v n xs) (hown : w'.ownsRow base e size v' (n + 1) (xs ++ news))
    (hg : ((w.alloc o).drew).grownBy w' v.ownBlock) (ha : v'.ownBlock = v.ownBlock ∨ v'.ownBlock = some ((w.alloc o).drew).heap.size) : Appd w w' base e size v v' n xs news :=
  ⟨hown, ⟨o, ⟨hg.os, hg.tape, hg.output, hg.size, hg.block⟩⟩, by simpa using ha, old⟩
/-- The neighbours after the first j checks and k entries of check j. -/
def addE (N j : Nat) (L : Nat → List Int) (X : Nat) : Nat → List Int :=
  let L1 := upd L X (L X ++ [((N + j : Nat) : Int)])
  upd L1 (N + j) (L1 (N + j) ++ [(X : Int)])
def nbRow (N j : Nat) (L : Nat → List Int) (r : List Int) : Nat → List Int := r.foldl (fun L x => addE N j L x.toNat) L
def nbAll (N : Nat) (rows : List (List Int)) : Nat → List Int := (rows.zipIdx).foldl (fun L p => nbRow N p.2 L p.1) fun _ => []
def nbK (N : Nat) (rows : List (List Int)) (j : Nat) : Nat → List Int := ((rows.zipIdx).take j).foldl (fun L p => nbRow N p.2 L p.1) fun _ => []
def nbRK (N j : Nat) (L : Nat → List Int) (r : List Int) (k : Nat) : Nat → List Int := nbRow N j L (r.take k)
theorem nbRK_succ {N j : Nat} {L : Nat → List Int} {r : List Int} {k X : Nat} (h : r[k]? = some (X : Int)) : nbRK N j L r (k + 1) = addE N j (nbRK N j L r k) X := by
  unfold nbRK nbRow
  rw [List.take_add_one, h, List.foldl_append]; rfl
theorem nbK_succ {N j : Nat} {rows : List (List Int)} {r : List Int} (h : rows[j]? = some r) : nbK N rows (j + 1) = nbRow N j (nbK N rows j) r := by
  unfold nbK
  rw [List.take_add_one, List.getElem?_zipIdx, h, List.foldl_append]
  simp

theorem addE_len (N j : Nat) (L : Nat → List Int) (X i : Nat) : (addE N j L X i).length ≤ (L i).length + 2 := by
  unfold addE
  generalize ((N + j : Nat) : Int) = y
  generalize (X : Int) = x
  unfold upd
  split
  · rename_i h; subst h
    split
    · rename_i h; subst h; simp
    · simp
  · split
    · rename_i h; subst h; simp
    · omega
theorem nbRow_len (N j : Nat) (r : List Int) : ∀ (L : Nat → List Int) (i : Nat), (nbRow N j L r i).length ≤ (L i).length + 2 * r.length := by
  induction r with
  | nil => intro L i; simp [nbRow]
  | cons x r ih =>
    intro L i
    have h1 := ih (addE N j L x.toNat) i
    have h2 := addE_len N j L x.toNat i
    unfold nbRow at *
    rw [List.foldl_cons, List.length_cons]
    omega
theorem nbK_len (N : Nat) (rows : List (List Int)) (h : ∀ (i : Nat) (r : List Int), rows[i]? = some r → r.length ≤ 64) : ∀ (j : Nat), j ≤ rows.length → ∀ i, (nbK N rows j i).length ≤ 128 * j
  | 0, _, i => by simp [nbK]
  | j + 1, hj, i => by
    have hr : rows[j]? = some (rows[j]'(by omega)) := List.getElem?_eq_getElem (by omega)
    rw [nbK_succ hr]
    have h1 := nbRow_len N j (rows[j]'(by omega)) (nbK N rows j) i
    have h2 := nbK_len N rows h j (by omega) i
    have h3 := h j _ hr
    omega
theorem nbK_all (N : Nat) (rows : List (List Int)) : nbK N rows rows.length = nbAll N rows := by
  unfold nbK nbAll
  rw [List.take_of_length_le (by simp)]
theorem nbRK_all (N j : Nat) (L : Nat → List Int) (r : List Int) : nbRK N j L r r.length = nbRow N j L r := by
  unfold nbRK
  rw [List.take_length]
theorem nbRK_len (N j : Nat) (L : Nat → List Int) (r : List Int) (k i : Nat) (hk : k ≤ r.length) : (nbRK N j L r k i).length ≤ (L i).length + 2 * k := by
  unfold nbRK
  have := nbRow_len N j (r.take k) L i
  rw [List.length_take] at this
  omega

set_option maxRecDepth 100000 in
set_option maxHeartbeats 4000000 in
theorem neighbors_any (w : World) (N : Nat) (rows : List (List Int)) (v : Value) (hN : N ≤ 64) (hN1 : 1 ≤ N) (hC : rows.length ≤ 256) (hv : MSl w v rows) (hr : RowsIn N rows) (h64 : ∀ (i : Nat) (r : List Int), rows[i]? = some r → r.length ≤ 64) :
    Calls Try.prog 45 #[.agg #[.int .i64 N, v]] w fun r w' => ∃ g c, r = .returned (.slice (some ⟨g, 0, none⟩) (N + rows.length) (N + rows.length)) ∧ Rows_ w' w.heap.size g (N + rows.length) c (nbAll N rows) ∧ Ex w w' := by
  obtain ⟨d0, d1, e0⟩ := boxT_facts w N v
  obtain ⟨a, cap, rfl, s1, s2, s3⟩ := hv.open
  have S3 := hid_ s3
  have HR := hid_ hr
  have H64 := hid_ h64
  unfold maxLen at s2
  clear hv s3 hr h64
  obtain ⟨xb, hxb⟩ : ∃ xb, w.heap.size = xb := ⟨_, rfl⟩
  rw [hxb] at d0 d1
  obtain ⟨M, hM⟩ : ∃ M, N + rows.length = M := ⟨_, rfl⟩
  have hM' : (N : Int) + (rows.length : Int) = (M : Int) := by omega
  go_enter Try.func45, Try.ntmps45
  go_wp2_with (at_make; refine wpList_make_arr _ rfl _ _ 25 rfl 22 (.slice none 0 0) 24 Try.underlying25 infoInts rfl _ M rfl rfl rfl (by omega) (by unfold maxLen; omega) ?_)
  intro w3 hown hx3
  have r0 := hx3.cell d0
  have r1 := hx3.cell d1
  have hsz : (w.alloc (.cells #[.int .i64 N, .slice a rows.length cap] 31)).heap.size = xb + 1 := by simp [hxb]
  have HSZ := hid_ hsz
  have HXB := hid_ hxb
  have HM := hid_ hM
  clear hsz hxb hM
  generalize w.alloc (.cells #[.int .i64 N, .slice a rows.length cap] 31) = w1 at *
  obtain ⟨g, hg⟩ : ∃ g, xb + 1 = g := ⟨_, rfl⟩
  have HB : Hid (w1.heap.size ≤ g) := hid_ (by have := HSZ.out; omega)
  have HR0 : Hid (Rows_ w3 g g M (fun _ => .slice none 0 0) (nbK N rows 0)) := by
    rw [hg] at hown
    exact hid_ ⟨hown, fun i hi => World.ownsRow_nil _ _ _ _, fun i j _ _ _ => Aprt.nil _, fun i hi => by simp [Value.ownBlock]⟩
  try simp only [hg]
  have HG := hid_ hg
  clear hown hg
  go_wp2_with fail
  go_loopw [18] (fun j' wr => ∃ (j : Nat) (c : Nat → Value), j ≤ rows.length ∧ j' = .int .i64 j ∧ Hid (Rows_ wr g g M c (nbK N rows j)) ∧ Ex w1 wr) (fun j' _ => rows.length - (intOf j').toNat)
  case atStart => exact ⟨0, _, by omega, rfl, HR0, hx3⟩
  case round =>
    clear HR0 hx3 r0 r1
    obtain ⟨j, c, hj, rfl, hrows, hx⟩ := hrel
    have r0 := hx.cell d0
    have r1 := hx.cell d1
    by_cases hlt : j < rows.length
    · obtain ⟨r, hrr⟩ : ∃ r, rows[j]? = some r := ⟨_, List.getElem?_eq_getElem hlt⟩
      obtain ⟨bb, o, rfl, hc⟩ := S3.out (by omega)
      obtain ⟨u, c1, hu⟩ := hc j r hrr
      have c1' := (e0.trans hx).cell c1
      obtain ⟨ua, uc, rfl, u1, u2, u3⟩ := hu.open
      have U3 := hid_ u3
      have HRR := hid_ (fun k x h => HR.out j r k x hrr h)
      have HNK := hid_ (nbK_succ (N := N) hrr)
      have hr64 := H64.out j r hrr
      have HKL := hid_ (nbK_len N rows H64.out j hj)
      unfold maxLen at u2
      clear hc hu u3 hrr c1
      obtain ⟨L, hL⟩ : ∃ L, nbK N rows j = L := ⟨_, rfl⟩
      rw [hL] at hrows HNK HKL
      clear hL
      obtain ⟨wo, rfl⟩ : ∃ wo : World, wo = wr := ⟨_, rfl⟩
      go_wp2_with fail
      clear c1' r0 r1
      go_loopw [25] (fun k' wr => ∃ (k : Nat) (c : Nat → Value), k ≤ r.length ∧ k' = .int .i64 k ∧ Hid (Rows_ wr g g M c (nbRK N j L r k)) ∧ Ex w1 wr) (fun k' _ => r.length - (intOf k').toNat)
      case atStart => exact ⟨0, c, by omega, rfl, hrows, hx⟩
      case round =>
        clear hrows hx
        obtain ⟨k, c, hk, rfl, hrows, hx⟩ := hrel
        have r0 := hx.cell d0
        have r1 := hx.cell d1
        by_cases hkl : k < r.length
        · obtain ⟨x, hxx⟩ : ∃ x, r[k]? = some x := ⟨_, List.getElem?_eq_getElem hkl⟩
          obtain ⟨x1, x2⟩ := HRR.out k x hxx
          obtain ⟨X, rfl⟩ : ∃ X : Nat, x = X := ⟨x.toNat, by omega⟩
          obtain ⟨rb, ro, rfl, hrc⟩ := U3.out (by omega)
          have c2 := (e0.trans hx).cell (hrc k X hxx)
          have HLN := hid_ (show ∀ i, (nbRK N j L r k i).length ≤ 40000 from fun i => by have h1 := nbRK_len N j L r k i hk; have h2 := HKL.out i; omega)
          have HNX := hid_ (nbRK_succ (N := N) (j := j) (L := L) hxx)
          have hXN : X < N := by omega
          have hXM : X < M := by have := HM.out; omega
          have hJM : N + j < M := by have := HM.out; omega
          clear hrc hxx x1 x2
          obtain ⟨L1, hL1⟩ : ∃ L1, nbRK N j L r k = L1 := ⟨_, rfl⟩
          rw [hL1] at hrows HNX HLN
          clear hL1
          have v1 := hrows.out.arr.cell hXM
          have f1 := hrows.out.arr.frz X
          have i1 : IntKind.i64.wrap ((N : Int) + j) = (N : Int) + j := IntWalk.i64_in _ (by omega)
          have q1 : (0 : Int) ≤ (X : Int) := by omega
          have q2 : (X : Int) < (M : Int) := by omega
          go_upto_region 8 with fail
          go_cut [25] from 25 to 58 (fun s25 wx => s25 = .int .i64 k ∧ Hid (∃ c', Rows_ wx g g M c' (upd L1 X (L1 X ++ [((N + j : Nat) : Int)]))) ∧ Ex w1 wx)
          case first =>
            have hrow := hid_ (hrows.out.row X hXM)
            have hlen : (L1 X).length + 1 ≤ 100000 := by have := HLN.out X; omega
            have HBW : Hid (g ≤ ((wr.alloc (.cells #[.int .i64 ((N : Int) + j)] 3)).drew).heap.size) := hid_ (by have := hrows.out.arr.lt.2; simp; omega)
            have vA := ((Ex.refl wr).alloc (.cells #[.int .i64 ((N : Int) + j)] 3)).cell v1
            go_region_law
              ((refine step_append_sl (by rfl) _ _ _ (by rfl) g 3 (.int .i64 0) 1 8 Try.underlying22 infoInt rfl (by decide) (c X) (L1 X).length (ints (L1 X)) (by rfl) (ownsRow_ex hrow.out (((Ex.refl wr).alloc (.cells #[.int .i64 ((N : Int) + j)] 3)).drew)) _ 1 [.int .i64 ((N : Int) + j)] (by rfl) (Sl.own (own_lit1 wr (.int .i64 ((N : Int) + j)) 3)) (by simp [Value.oneCell']) (by unfold maxLen; omega) (by omega) (HBW.out) ?_; intro v8 w8 hown8 hg8 ha8; have HAP := appd_of hrow.out hown8 hg8 ha8; have HX8 := HAP.ex hx HB.out; have HC8 := (HAP.arr hrows.out.arr (hrows.out.off X hXM)).1.cell hXM; have HF8 := (HAP.arr hrows.out.arr (hrows.out.off X hXM)).1.frz X; have HRW := hid_ (hrows.out.app hXM HAP); obtain ⟨va, vc, hv8⟩ := own_shape hown8; subst hv8; clear hown8 hg8 ha8 HAP))
            all_goals
              go_wp2_with fail
              go_meet
              exact ⟨rfl, hid_ ⟨_, HRW.out⟩, HX8.setCell (p := ⟨g, X, none⟩) HB.out _⟩
          case rest =>
            obtain ⟨rfl, hR2, hx2⟩ := hcut
            obtain ⟨c2_, hrows2⟩ := hR2.out
            obtain ⟨L2, hL2⟩ : ∃ L2, upd L1 X (L1 X ++ [((N + j : Nat) : Int)]) = L2 := ⟨_, rfl⟩
            have HLN2 := hid_ (show (L2 (N + j)).length + 1 ≤ 100000 from by
              have h1 := HLN.out (N + j)
              have h2 := HLN.out X
              rw [← hL2]; unfold upd; split
              · rw [List.length_append, List.length_singleton]; omega
              · omega)
            have HNX2 := hid_ (show nbRK N j L r (k + 1) = upd L2 (N + j) (L2 (N + j) ++ [(X : Int)]) by rw [HNX.out, ← hL2]; rfl)
            rw [hL2] at hR2 hrows2
            have HRW2 := hid_ hrows2
            clear hR2 hrows2 HNX hrows hx r0 r1 v1 f1 i1 HLN hL2
            have r0 := hx2.cell d0
            have v1 := HRW2.out.arr.cell hJM
            have f1 := HRW2.out.arr.frz (N + j)
            have i1 : IntKind.i64.wrap ((N : Int) + j) = (N : Int) + j := IntWalk.i64_in _ (by omega)
            have i2 : ((N : Int) + j).toNat = N + j := by omega
            have i3 : (0 : Int) ≤ (N : Int) + j := by omega
            have i4 : (N : Int) + j < (M : Int) := by omega
            go_wp2_with fail
            have hrow := hid_ (HRW2.out.row (N + j) hJM)
            have hlen := HLN2.out
            have HBW : Hid (g ≤ ((wc.alloc (.cells #[.int .i64 (X : Int)] 3)).drew).heap.size) := hid_ (by have := HRW2.out.arr.lt.2; simp; omega)
            have vA := ((Ex.refl wc).alloc (.cells #[.int .i64 (X : Int)] 3)).cell v1
            have rA := ((Ex.refl wc).alloc (.cells #[.int .i64 (X : Int)] 3)).cell r0
            go_region_law
              ((refine step_append_sl (by rfl) _ _ _ (by rfl) g 3 (.int .i64 0) 1 8 Try.underlying22 infoInt rfl (by decide) (c2_ (N + j)) (L2 (N + j)).length (ints (L2 (N + j))) (by rfl) (ownsRow_ex hrow.out (((Ex.refl wc).alloc (.cells #[.int .i64 (X : Int)] 3)).drew)) _ 1 [.int .i64 (X : Int)] (by rfl) (Sl.own (own_lit1 wc (.int .i64 (X : Int)) 3)) (by simp [Value.oneCell']) (by unfold maxLen; omega) (by omega) (HBW.out) ?_; intro v8 w8 hown8 hg8 ha8; have HAP := appd_of hrow.out hown8 hg8 ha8; have HX8 := HAP.ex hx2 HB.out; have HC0 := HX8.cell d0; have HC8 := (HAP.arr HRW2.out.arr (HRW2.out.off (N + j) hJM)).1.cell hJM; have HF8 := (HAP.arr HRW2.out.arr (HRW2.out.off (N + j) hJM)).1.frz (N + j); have HRW := hid_ (HRW2.out.app hJM HAP); obtain ⟨va, vc, hv8⟩ := own_shape hown8; subst hv8; clear hown8 hg8 ha8 HAP))
            all_goals
              have HX9 := hid_ (HX8.setCell (p := ⟨g, N + j, none⟩) HB.out (.slice va ((L2 (N + j)).length + 1) vc))
              clear HX8 HC8 HF8 HC0 vA rA
              go_wp2_with fail
              go_roundw
              case rel => exact ⟨k + 1, _, by omega, by go_num, hid_ (by rw [HNX2.out]; exact HRW.out), HX9.out⟩
              case measure => simp [intOf]; omega
        · obtain rfl : k = r.length := by omega
          rw [nbRK_all] at hrows
          have HRW := hid_ (show Rows_ wr g g M c (nbK N rows (j + 1)) by rw [HNK.out]; exact hrows.out)
          clear hrows
          go_wp2_with fail
          go_roundw
          case rel => exact ⟨j + 1, c, by omega, by go_num, HRW, hx⟩
          case measure => simp [intOf]; omega
    · obtain rfl : j = rows.length := by omega
      have HRW := hid_ (show Rows_ wr w.heap.size g M c (nbAll N rows) by rw [← nbK_all]; exact hrows.out.mono (by have h1 := HG.out; have h2 := HXB.out; omega))
      clear hrows
      go_wp2_with fail
      go_ret
      exact ⟨g, c, by rw [HM.out]; rfl, by rw [HM.out]; exact HRW.out, e0.trans hx⟩
end Go.Proofs.Ytpphaicbdeeacaa
namespace Go.Proofs.Ytpphaicbdeeacaa
set_option linter.unusedVariables false
set_option linter.unusedSimpArgs false
open Go.RowKit

/-- The state of the search. -/
structure BSt where
  far : Nat → Int
  par : Nat → Int
  q : List Int
  best : Int
def bstep (v : Nat) (s : BSt) (x : Int) : BSt :=
  if s.far x.toNat < 0 then ⟨upd s.far x.toNat (s.far v + 1), upd s.par x.toNat v, s.q ++ [x], s.best⟩
  else if x ≠ s.par v ∧ (s.best = 0 ∨ s.far v + s.far x.toNat + 1 < s.best) then ⟨s.far, s.par, s.q, s.far v + s.far x.toNat + 1⟩ else s
def bvert (L : Nat → List Int) (s : BSt) (v : Nat) : BSt := (L v).foldl (bstep v) s
def bK (L : Nat → List Int) (s : BSt) (v k : Nat) : BSt := ((L v).take k).foldl (bstep v) s
/-- From place k of the queue on, the search ends with best = b. -/
inductive Bfs (L : Nat → List Int) : Nat → BSt → Int → Prop
  | done (k : Nat) (s : BSt) : s.q.length ≤ k → Bfs L k s s.best
  | step (k : Nat) (s : BSt) (v : Nat) (b : Int) : s.q[k]? = some (v : Int) → Bfs L (k + 1) (bvert L s v) b → Bfs L k s b
def bInit (v : Nat) : BSt := ⟨upd (fun _ => -1) v 0, upd (fun _ => 0) v (-1), [(v : Int)], 0⟩

theorem Bfs.unique {L : Nat → List Int} {k : Nat} {s : BSt} {b c : Int} (h : Bfs L k s b) (h2 : Bfs L k s c) : b = c := by
  induction h generalizing c with
  | done k s h => cases h2 with
    | done _ _ _ => rfl
    | step _ _ v _ hv _ => have := (List.getElem?_eq_some_iff.1 hv).1; omega
  | step k s v b hv _ ih => cases h2 with
    | done _ _ h => have := (List.getElem?_eq_some_iff.1 hv).1; omega
    | step _ _ v2 _ hv2 h2 =>
      rw [hv] at hv2; injection hv2 with e
      have : v = v2 := by omega
      subst this
      exact ih h2

theorem bK_zero (L : Nat → List Int) (s : BSt) (v : Nat) : bK L s v 0 = s := rfl
theorem bK_succ {L : Nat → List Int} {s : BSt} {v k : Nat} {x : Int} (h : (L v)[k]? = some x) : bK L s v (k + 1) = bstep v (bK L s v k) x := by
  unfold bK; rw [List.take_add_one, h, List.foldl_append]; rfl
theorem bK_all (L : Nat → List Int) (s : BSt) (v : Nat) : bK L s v (L v).length = bvert L s v := by
  unfold bK bvert; rw [List.take_length]

structure BOk (M : Nat) (s : BSt) : Prop where
  far : ∀ i, -1 ≤ s.far i ∧ s.far i ≤ s.q.length
  q : ∀ (k : Nat) (x : Int), s.q[k]? = some x → 0 ≤ x ∧ x < M
  cnt : s.q.length = (lft M fun i => decide (0 ≤ s.far i)).length
  best : 0 ≤ s.best ∧ s.best ≤ 2 * M + 1

theorem lft_put {f : Nat → Bool} {x : Nat} (hf : f x = false) : ∀ (N : Nat), x < N → (lft N (upd f x true)).length = (lft N f).length + 1
  | 0, h => by omega
  | N + 1, h => by
    rw [lft_snoc, lft_snoc]
    by_cases e : x = N
    · subst e
      rw [lft_congr x (fun j hj => upd_ne f true (by omega)), upd_same, hf]
      simp
    · have ih := lft_put hf N (by omega)
      rw [upd_ne f true (by omega)]
      rw [List.length_append, List.length_append]
      omega
theorem BOk.qM {M : Nat} {s : BSt} (h : BOk M s) : s.q.length ≤ M := by rw [h.cnt]; exact lft_len _ _
theorem BOk.new {M : Nat} {s : BSt} (h : BOk M s) {v X : Nat} (hX : X < M) (hf : s.far X < 0) : BOk M ⟨upd s.far X (s.far v + 1), upd s.par X v, s.q ++ [(X : Int)], s.best⟩ := by
  refine ⟨fun i => ?_, fun k x hx => ?_, ?_, h.best⟩
  · have h1 := h.far i
    have h2 := h.far v
    simp only [List.length_append, List.length_singleton]
    unfold upd; split <;> omega
  · simp only at hx
    rw [List.getElem?_append] at hx
    split at hx
    · exact h.q k x hx
    · have : x = X := by
        have := List.mem_of_getElem? hx
        simpa using this
      omega
  · simp only [List.length_append, List.length_singleton]
    rw [h.cnt, ← lft_put (x := X) (by simpa using hf) M hX]
    congr 1
    refine lft_congr M fun j _ => ?_
    unfold upd
    by_cases e : j = X
    · subst e
      have := h.far v
      simp; omega
    · simp [e]
theorem BOk.upb {M : Nat} {s : BSt} (h : BOk M s) (v X : Nat) (hX : 0 ≤ s.far X) (hb : s.far v + s.far X + 1 ≤ 2 * M + 1) (h0 : 0 ≤ s.far v + s.far X + 1) : BOk M ⟨s.far, s.par, s.q, s.far v + s.far X + 1⟩ :=
  ⟨h.far, h.q, h.cnt, h0, hb⟩
theorem bstep_new {v X : Nat} {s : BSt} (h : s.far X < 0) : bstep v s (X : Int) = ⟨upd s.far X (s.far v + 1), upd s.par X v, s.q ++ [(X : Int)], s.best⟩ := by
  unfold bstep; rw [Int.toNat_natCast, if_pos h]
theorem bstep_upb {v X : Nat} {s : BSt} (h : 0 ≤ s.far X) (h1 : (X : Int) ≠ s.par v) (h2 : s.best = 0 ∨ s.far v + s.far X + 1 < s.best) : bstep v s (X : Int) = ⟨s.far, s.par, s.q, s.far v + s.far X + 1⟩ := by
  unfold bstep; rw [Int.toNat_natCast, if_neg (by omega), if_pos ⟨h1, h2⟩]
theorem bstep_same {v X : Nat} {s : BSt} (h : 0 ≤ s.far X) (h1 : ¬ ((X : Int) ≠ s.par v ∧ (s.best = 0 ∨ s.far v + s.far X + 1 < s.best))) : bstep v s (X : Int) = s := by
  unfold bstep; rw [Int.toNat_natCast, if_neg (by omega), if_neg h1]
theorem BOk.init {M v : Nat} (h : v < M) : BOk M (bInit v) := by
  refine ⟨fun i => ?_, fun k x hx => ?_, ?_, ?_⟩
  · unfold bInit upd; simp only [List.length_singleton]; split <;> omega
  · have : x = v := by
      have := List.mem_of_getElem? hx
      simpa [bInit] using this
    omega
  · have h1 : (lft M (upd (fun _ => false) v true)).length = (lft M fun _ => false).length + 1 := lft_put rfl M h
    have h2 : (lft M fun _ => false) = [] := by simp [lft]
    rw [h2] at h1
    show (1 : Nat) = _
    rw [show (1 : Nat) = (lft M (upd (fun _ => false) v true)).length by rw [h1]; rfl]
    congr 1
    refine lft_congr M fun j _ => ?_
    unfold upd bInit upd
    by_cases e : j = v <;> simp [e]
  · simp only [bInit]; omega

structure BMem (w1 wr : World) (base g1 g2 M : Nat) (qv : Value) (s : BSt) : Prop where
  far : Own wr base 3 g1 M (iv s.far)
  par : Own wr base 3 g2 M (iv s.par)
  q : wr.ownsRow base 3 1 qv s.q.length (ints s.q)
  n1 : qv.ownBlock ≠ some g1
  n2 : qv.ownBlock ≠ some g2
  n12 : g1 ≠ g2
  ex : Ex w1 wr
  base_ : w1.heap.size ≤ base

theorem BMem.later {w1 wr w' : World} {base g1 g2 M : Nat} {qv : Value} {s : BSt} (h : BMem w1 wr base g1 g2 M qv s) (hx : Ex wr w') : BMem w1 w' base g1 g2 M qv s :=
  ⟨h.far.ex hx, h.par.ex hx, ownsRow_ex h.q hx, h.n1, h.n2, h.n12, h.ex.trans hx, h.base_⟩
theorem BMem.setFar {w1 wr : World} {base g1 g2 M : Nat} {qv : Value} {s : BSt} (h : BMem w1 wr base g1 g2 M qv s) (j : Nat) (y : Int) :
    BMem w1 (wr.setCell ⟨g1, j, none⟩ (.int .i64 y)) base g1 g2 M qv ⟨upd s.far j y, s.par, s.q, s.best⟩ :=
  ⟨by rw [← iv_upd]; exact h.far.set j _, h.par.other (by simpa using h.n12.symm) _, ownsRow_setCell_ne h.q h.n1 _, h.n1, h.n2, h.n12, h.far.exSet h.base_ h.ex j _, h.base_⟩
theorem BMem.setPar {w1 wr : World} {base g1 g2 M : Nat} {qv : Value} {s : BSt} (h : BMem w1 wr base g1 g2 M qv s) (j : Nat) (y : Int) :
    BMem w1 (wr.setCell ⟨g2, j, none⟩ (.int .i64 y)) base g1 g2 M qv ⟨s.far, upd s.par j y, s.q, s.best⟩ :=
  ⟨h.far.other (by simpa using h.n12) _, by rw [← iv_upd]; exact h.par.set j _, ownsRow_setCell_ne h.q h.n2 _, h.n1, h.n2, h.n12, h.par.exSet h.base_ h.ex j _, h.base_⟩
theorem BMem.app {w1 wr w' : World} {base g1 g2 M : Nat} {qv qv' : Value} {s : BSt} {x : Int} (h : BMem w1 wr base g1 g2 M qv s) (ha : Appd wr w' base 3 1 qv qv' s.q.length (ints s.q) [.int .i64 x]) :
    BMem w1 w' base g1 g2 M qv' ⟨s.far, s.par, s.q ++ [x], s.best⟩ := by
  have h1 := ha.arr h.far h.n1
  have h2 := ha.arr h.par h.n2
  refine ⟨h1.1, h2.1, ?_, h1.2, h2.2, h.n12, ha.ex h.ex h.base_, h.base_⟩
  have := ha.own
  simp only [List.length_append, List.length_singleton]
  simpa [ints] using this
theorem BMem.best {w1 wr : World} {base g1 g2 M : Nat} {qv : Value} {s : BSt} (h : BMem w1 wr base g1 g2 M qv s) (b : Int) : BMem w1 wr base g1 g2 M qv ⟨s.far, s.par, s.q, b⟩ :=
  ⟨h.far, h.par, h.q, h.n1, h.n2, h.n12, h.ex, h.base_⟩

set_option maxRecDepth 100000 in
set_option maxHeartbeats 4000000 in
theorem around_any (w : World) (M fr : Nat) (v : Value) (rows : List (List Int)) (hv : MSl w v rows) (hM : rows.length = M) (hM1 : M ≤ 1000) (hfr : fr < M) (hr : RowsIn M rows) :
    Calls Try.prog 46 #[v, .int .i64 fr] w fun r w' => ∃ b, r = .returned (.int .i64 b) ∧ Bfs (fun i => rows.getD i []) 0 (bInit fr) b ∧ 0 ≤ b ∧ b ≤ 2 * M + 1 ∧ Ex w w' := by
  obtain ⟨a, cap, rfl, s1, s2, s3⟩ := hv.open
  have S3 := hid_ s3
  have HR := hid_ hr
  rw [hM] at s1 S3 ⊢
  have HM := hid_ hM
  have HI := hid_ (BOk.init hfr)
  obtain ⟨L, hL⟩ : ∃ L : Nat → List Int, (fun i => rows.getD i []) = L := ⟨_, rfl⟩
  rw [hL]
  have HL := hid_ (show ∀ (i : Nat) (r : List Int), rows[i]? = some r → L i = r from fun i r h => by rw [← hL]; show rows.getD i [] = r; rw [List.getD_eq_getElem?_getD, h]; rfl)
  clear hL
  unfold maxLen at s2
  clear hv s3 hr hM
  go_enter Try.func46, Try.ntmps46
  go_wp2_with (at_make; refine wpList_make_arr _ rfl _ _ 22 rfl 3 (.int .i64 0) 8 Try.underlying22 infoInt rfl _ M rfl rfl rfl (by omega) (by unfold maxLen; omega) ?_)
  intro w2 hown2 hx2
  have hlt2 : w.heap.size < w2.heap.size := hown2.lt.2
  go_wp2_with (at_make; refine wpList_make_arr _ rfl _ _ 22 rfl 3 (.int .i64 0) 8 Try.underlying22 infoInt rfl _ M rfl rfl rfl (by omega) (by unfold maxLen; omega) ?_)
  intro w3 hown3 hx3
  have hb0 : w.heap.size ≤ w2.heap.size := hx2.size
  have hown3 := hown3.mono hb0
  have hown2 := hown2.ex hx3
  have ex3 := hx2.trans hx3
  have HWS := hid_ (Nat.le_refl w.heap.size)
  obtain ⟨g2, hg2⟩ : ∃ g2, w2.heap.size = g2 := ⟨_, rfl⟩
  rw [hg2] at hown3 hlt2
  try simp only [hg2]
  clear hg2 hx2 hx3 hb0
  obtain ⟨g1, hg1⟩ : ∃ g1, w.heap.size = g1 := ⟨_, rfl⟩
  rw [hg1] at hown2 hown3 hlt2 HWS
  try simp only [hg1]
  have HBASE := hid_ (show w.heap.size ≤ g1 by omega)
  clear hg1
  have HF := hid_ (hown2.icongr (f := fun _ => 0) (h := fun j => if j < 0 then -1 else 0) (fun j _ => by simp))
  have HP := hid_ hown3
  clear hown2 hown3
  go_wp2_with fail
  go_loopw [22] (fun i' wr => ∃ i : Nat, i ≤ M ∧ i' = .int .i64 i ∧ Hid (Own wr g1 3 g1 M (iv fun j => if j < i then -1 else 0)) ∧ Hid (Own wr g1 3 g2 M (iv fun _ => 0)) ∧ Ex w wr) (fun i' _ => M - (intOf i').toNat)
  case atStart => exact ⟨0, by omega, rfl, HF, HP, ex3⟩
  case round =>
    clear HF HP ex3
    obtain ⟨i, hi, rfl, hf, hp, hx⟩ := hrel
    by_cases hlt : i < M
    · have c1 := hf.out.cell hlt
      have c2 := hf.out.frz i
      have HF2 := hid_ (hf.out.set i (.int .i64 (-1)))
      have HP2 := hid_ (hp.out.other (a := ⟨g1, i, none⟩) (show g2 ≠ g1 by omega) (.int .i64 (-1)))
      have HX2 := hid_ (hf.out.exSet HBASE.out hx i (.int .i64 (-1)))
      clear hf hp hx
      go_wp2_with fail
      go_roundw
      case rel => exact ⟨i + 1, by omega, by go_num, hid_ (by
        have := HF2.out
        rw [iv_upd] at this
        refine this.icongr fun j hj => ?_
        unfold upd
        dsimp only
        by_cases e : j = i
        · subst e; rw [if_pos rfl, if_pos (by omega)]
        · rw [if_neg e]
          by_cases e2 : j < i
          · rw [if_pos e2, if_pos (by omega)]
          · rw [if_neg e2, if_neg (by omega)]), HP2, HX2.out⟩
      case measure => simp [intOf]; omega
    · obtain rfl : M = i := by omega
      have c1 := hf.out.cell hfr
      have c2 := hf.out.frz fr
      have HF1 := hid_ (hf.out.icongr (h := fun _ => -1) (fun j hj => by rw [if_pos hj]))
      have c3 := hp.out.cell hfr
      have HP1 := hid_ (hp.out.other (a := ⟨g1, fr, none⟩) (show g2 ≠ g1 by omega) (.int .i64 0))
      have HF2 := hid_ (HF1.out.set fr (.int .i64 0))
      have c4 := HP1.out.cell hfr
      have c5 := HP1.out.frz fr
      have HP2 := hid_ (HP1.out.set fr (.int .i64 (-1)))
      have HF3 := hid_ (HF2.out.other (a := ⟨g2, fr, none⟩) (show g1 ≠ g2 by omega) (.int .i64 (-1)))
      have HX2 := hid_ (HP1.out.exSet HBASE.out (HF1.out.exSet HBASE.out hx fr (.int .i64 0)) fr (.int .i64 (-1)))
      clear hf hp hx HF1
      go_wp2_with fail
      have HBM : Hid (BMem w ((wr.setCell ⟨g1, fr, none⟩ (.int .i64 0)).setCell ⟨g2, fr, none⟩ (.int .i64 (-1))) g1 g1 g2 M (.slice none 0 0) ⟨(bInit fr).far, (bInit fr).par, [], 0⟩) := hid_
        ⟨by have := HF3.out; rwa [iv_upd] at this, by have := HP2.out; rwa [iv_upd] at this, World.ownsRow_nil _ _ _ _, by simp [Value.ownBlock], by simp [Value.ownBlock], by omega, HX2.out, HBASE.out⟩
      have HS6 : ((wr.setCell ⟨g1, fr, none⟩ (.int .i64 0)).setCell ⟨g2, fr, none⟩ (.int .i64 (-1))).heap.size = wr.heap.size := by simp [World.setCell]
      have HG1 := HF3.out.lt.2
      have HG2 := HP2.out.lt.2
      clear c1 c2 c3 c4 c5 HP1 HF2 HP2 HF3 HX2
      generalize (wr.setCell ⟨g1, fr, none⟩ (.int .i64 0)).setCell ⟨g2, fr, none⟩ (.int .i64 (-1)) = w5 at *
      have HBM2 : Hid (BMem w (w5.alloc (.cells #[.int .i64 fr] 3)) g1 g1 g2 M (.slice (some ⟨wr.heap.size, 0, none⟩) 1 1) (bInit fr)) := by
        have h1 := HBM.out.later ((Ex.refl _).alloc (.cells #[.int .i64 fr] 3))
        have h2 := own_lit1 w5 (.int .i64 fr) 3
        rw [HS6] at h2 HG1 HG2
        exact hid_ ⟨h1.far, h1.par, ownsRow_mono h2 (by omega), by simp [Value.ownBlock]; omega, by simp [Value.ownBlock]; omega, h1.n12, h1.ex, h1.base_⟩
      clear HBM HS6 HG1 HG2
      generalize w5.alloc (.cells #[.int .i64 fr] 3) = w6 at *
      obtain ⟨qb, hqb⟩ : ∃ qb, wr.heap.size = qb := ⟨_, rfl⟩
      rw [hqb] at HBM2
      try simp only [hqb]
      clear hqb
      go_loopw [8, 9, 10] (fun qv b' k' wr => ∃ (st : BSt) (k : Nat), b' = .int .i64 st.best ∧ k' = .int .i64 k ∧ k ≤ st.q.length ∧ Hid (BMem w wr g1 g1 g2 M qv st) ∧ Hid (BOk M st) ∧ Hid (∀ b, Bfs L k st b → Bfs L 0 (bInit fr) b)) (fun _ _ k' _ => M - (intOf k').toNat)
      case atStart => exact ⟨bInit fr, 0, rfl, rfl, by omega, HBM2, HI, hid_ (fun _ h => h)⟩
      case round =>
        clear HBM2
        obtain ⟨st, k, rfl, rfl, hkq, hm, hok, hbf⟩ := hrel
        have hqM := hok.out.qM
        obtain ⟨hb1, hb2⟩ := hok.out.best
        by_cases hlt : k < st.q.length
        · obtain ⟨x, hx⟩ : ∃ x, st.q[k]? = some x := ⟨_, List.getElem?_eq_getElem hlt⟩
          obtain ⟨x1, x2⟩ := hok.out.q k x hx
          obtain ⟨V, rfl⟩ : ∃ V : Nat, x = V := ⟨x.toNat, by omega⟩
          have hVM : V < M := by omega
          obtain ⟨qg, qc, hqv, q1, q2⟩ := own_open hm.out.q (by omega)
          subst hqv
          have c1 : wr.cell? ⟨qg, k, none⟩ = some (.int .i64 V) := by
            rw [World.ownsRow.cellAt hm.out.q k (by omega), ints_get hx]
          obtain ⟨r, hrr⟩ : ∃ r, rows[V]? = some r := ⟨_, List.getElem?_eq_getElem (by rw [HM.out]; exact hVM)⟩
          obtain ⟨rb, ro, rfl, hrc⟩ := S3.out (by omega)
          obtain ⟨u, d1, hu⟩ := hrc V r hrr
          have d1' := hm.out.ex.cell d1
          obtain ⟨ua, uc, rfl, u1, u2, u3⟩ := hu.open
          have U3 := hid_ u3
          have HRR := hid_ (fun j x h => HR.out V r j x hrr h)
          have HLV := hid_ (HL.out V r hrr)
          have HBF := hid_ (fun b h => hbf.out b (Bfs.step k st V b hx h))
          unfold maxLen at u2 q2
          clear hx x1 x2 hrr hrc d1 hu u3 hbf
          obtain ⟨wo, rfl⟩ : ∃ wo : World, wo = wr := ⟨_, rfl⟩
          go_wp2_with fail
          clear c1 d1'
          go_loopw [8, 9, 52] (fun qv b' j' wr => ∃ (s2 : BSt) (j : Nat), j ≤ r.length ∧ b' = .int .i64 s2.best ∧ j' = .int .i64 j ∧ st.q.length ≤ s2.q.length ∧ Hid (BMem w wr g1 g1 g2 M qv s2) ∧ Hid (BOk M s2) ∧ Hid (s2 = bK L st V j)) (fun _ _ j' _ => r.length - (intOf j').toNat)
          case atStart => exact ⟨st, 0, by omega, rfl, rfl, by omega, hm, hok, hid_ (bK_zero _ _ _).symm⟩
          case round =>
            clear hm hok hb1 hb2
            obtain ⟨s2, j, hj, rfl, rfl, hqq, hm, hok, hsk⟩ := hrel
            have hqM2 := hok.out.qM
            obtain ⟨hb1, hb2⟩ := hok.out.best
            by_cases hjl : j < r.length
            · obtain ⟨x, hx⟩ : ∃ x, r[j]? = some x := ⟨_, List.getElem?_eq_getElem hjl⟩
              obtain ⟨x1, x2⟩ := HRR.out j x hx
              obtain ⟨X, rfl⟩ : ∃ X : Nat, x = X := ⟨x.toNat, by omega⟩
              have hXM : X < M := by omega
              obtain ⟨sb, so, rfl, hsc⟩ := U3.out (by omega)
              have c1 := hm.out.ex.cell (hsc j X hx)
              have HSK := hid_ (show bK L st V (j + 1) = bstep V s2 (X : Int) by rw [hsk.out]; exact bK_succ (by rw [HLV.out]; exact hx))
              have cX : wr.cell? ⟨g1, X, none⟩ = some (.int .i64 (s2.far X)) := hm.out.far.cell hXM
              have cV : wr.cell? ⟨g1, V, none⟩ = some (.int .i64 (s2.far V)) := hm.out.far.cell hVM
              have cp : wr.cell? ⟨g2, V, none⟩ = some (.int .i64 (s2.par V)) := hm.out.par.cell hVM
              have fX := hm.out.far.frz X
              have fp := hm.out.par.frz X
              have cpX := hm.out.par.cell hXM
              obtain ⟨fX1, fX2⟩ := hok.out.far X
              obtain ⟨fV1, fV2⟩ := hok.out.far V
              clear hx x1 x2 hsc hsk
              by_cases hneg : s2.far X < 0
              · have HNEW := hid_ (bstep_new (v := V) hneg)
                have HOK2 := hid_ (hok.out.new (v := V) hXM hneg)
                have HM2 := hid_ ((hm.out.setFar X (s2.far V + 1)).setPar X V)
                have hpm := (hm.out.setFar X (s2.far V + 1)).par
                have fp2 := hpm.frz X
                have cp2 := hpm.cell hXM
                have HS2 := hid_ (Nat.le_of_lt HM2.out.far.lt.2)
                clear hm hok hpm
                go_wp2_with (at_builtin; refine wpList_append1 _ rfl _ _ 22 rfl g1 3 (.int .i64 0) 1 8 Try.underlying22 infoInt rfl (by decide) _ s2.q.length _ rfl HM2.out.q [.int .i64 X] 3 _ rfl (by simp [World.setCell]) rfl (by simp [Value.oneCell']) (by unfold maxLen; omega) (by omega) HS2.out ?_)
                intro q8 w8 happ
                have HM3 := hid_ (HM2.out.app happ)
                have HNW := hid_ HNEW
                clear happ HNEW HM2 fX fp cX cV cp cpX fp2 cp2 c1
                go_wp2_with fail
                go_roundw
                case rel => exact ⟨_, j + 1, by omega, by rfl, by go_num, by simp; omega, HM3, HOK2, hid_ (by rw [HSK.out, HNW.out])⟩
                case measure => simp [intOf]; omega
              · have hneg' : 0 ≤ s2.far X := by omega
                have HS1 := hid_ (bstep_same (v := V) hneg')
                have HU1 := hid_ (bstep_upb (v := V) hneg')
                have HOK2 := hid_ (hok.out.upb V X hneg' (by omega) (by omega))
                have i1 : IntKind.i64.wrap (s2.far V + s2.far X) = s2.far V + s2.far X := IntWalk.i64_in _ (by omega)
                have i2 : IntKind.i64.wrap (s2.far V + s2.far X + 1) = s2.far V + s2.far X + 1 := IntWalk.i64_in _ (by omega)
                have HMB := hid_ (hm.out.best (s2.far V + s2.far X + 1))
                clear hneg fX fp cpX
                by_cases hp : (X : Int) = s2.par V
                · have HR2 := hid_ (HS1.out (fun h => h.1 hp))
                  have b1 : ((X : Int) != s2.par V) = false := by simpa using hp
                  have HMM := hid_ hm.out
                  clear hp
                  go_wp2_with fail
                  go_quiet (fail)
                  go_wp2_with fail
                  go_roundw
                  case rel => exact ⟨s2, j + 1, by omega, rfl, by go_num, hqq, hid_ (HMM.out.later ((Ex.refl _).drewN _)), hok, hid_ (by rw [HSK.out, HR2.out])⟩
                  case measure => simp [intOf]; omega
                · have b1 : ((X : Int) != s2.par V) = true := by simpa using hp
                  by_cases hb0 : s2.best = 0
                  · have HR2 := hid_ (HU1.out hp (.inl hb0))
                    have b2 : (s2.best == 0) = true := by simpa using hb0
                    clear hp hb0
                    go_wp2_with fail
                    go_quiet (fail)
                    go_wp2_with fail
                    go_quiet (fail)
                    go_wp2_with fail
                    go_roundw
                    case rel => exact ⟨(⟨s2.far, s2.par, s2.q, s2.far V + s2.far X + 1⟩ : BSt), j + 1, by omega, by rfl, by go_num, hqq, hid_ (HMB.out.later ((Ex.refl _).drewN _)), HOK2, hid_ (by rw [HSK.out, HR2.out])⟩
                    case measure => simp [intOf]; omega
                  · have b2 : (s2.best == 0) = false := by simpa using hb0
                    by_cases hl : s2.far V + s2.far X + 1 < s2.best
                    · have HR2 := hid_ (HU1.out hp (.inr hl))
                      have b3 : decide (s2.far V + s2.far X + 1 < s2.best) = true := by simpa using hl
                      clear hp hb0
                      go_wp2_with fail
                      go_quiet (fail)
                      go_wp2_with fail
                      go_quiet (fail)
                      go_wp2_with fail
                      go_roundw
                      case rel => exact ⟨(⟨s2.far, s2.par, s2.q, s2.far V + s2.far X + 1⟩ : BSt), j + 1, by omega, by rfl, by go_num, hqq, hid_ (HMB.out.later ((Ex.refl _).drewN _)), HOK2, hid_ (by rw [HSK.out, HR2.out])⟩
                      case measure => simp [intOf]; omega
                    · have HR2 := hid_ (HS1.out (fun h => h.2.elim hb0 hl))
                      have b3 : decide (s2.far V + s2.far X + 1 < s2.best) = false := by simpa using hl
                      clear hp hb0 hl
                      go_wp2_with fail
                      go_quiet (fail)
                      go_wp2_with fail
                      go_roundw
                      case rel => exact ⟨s2, j + 1, by omega, rfl, by go_num, hqq, hid_ (hm.out.later ((Ex.refl _).drewN _)), hok, hid_ (by rw [HSK.out, HR2.out])⟩
                      case measure => simp [intOf]; omega
            · obtain rfl : j = r.length := by omega
              have HE := hid_ (show s2 = bvert L st V by rw [hsk.out, ← HLV.out]; exact bK_all _ _ _)
              have HB2 := hid_ (show ∀ b, Bfs L (k + 1) s2 b → Bfs L 0 (bInit fr) b by rw [HE.out]; exact HBF.out)
              clear hsk
              go_wp2_with fail
              go_roundw
              case rel => exact ⟨s2, k + 1, rfl, by go_num, by omega, hm, hok, HB2⟩
              case measure => simp [intOf]; omega
        · have HD := hid_ (hbf.out _ (Bfs.done k st (by omega)))
          obtain ⟨qa, qc, hqv⟩ := own_shape hm.out.q
          subst hqv
          have HX := hid_ hm.out.ex
          clear hm hok hbf
          go_wp2_with fail
          go_ret
          exact ⟨_, rfl, HD.out, hb1, hb2, HX.out⟩
end Go.Proofs.Ytpphaicbdeeacaa
namespace Go.Proofs.Ytpphaicbdeeacaa
set_option linter.unusedVariables false
set_option linter.unusedSimpArgs false
open Go.RowKit

/-- The neighbours of all vertices, as a list of lists. -/
def nbM (N : Nat) (rows : List (List Int)) : List (List Int) := (List.range (N + rows.length)).map (nbAll N rows)
def nbL (N : Nat) (rows : List (List Int)) (i : Nat) : List Int := (nbM N rows).getD i []
theorem nbM_get {N : Nat} {rows : List (List Int)} {i : Nat} (h : i < N + rows.length) : (nbM N rows)[i]? = some (nbAll N rows i) := by simp [nbM, h]
theorem nbL_eq {N : Nat} {rows : List (List Int)} {i : Nat} (h : i < N + rows.length) : nbL N rows i = nbAll N rows i := by
  unfold nbL; rw [List.getD_eq_getElem?_getD, nbM_get h]; rfl

theorem Rows_.msl {w : World} {base g n : Nat} {c : Nat → Value} {L : Nat → List Int} (h : Rows_ w base g n c L) : MSl w (.slice (some ⟨g, 0, none⟩) n n) ((List.range n).map L) := by
  refine ⟨vs n c, ?_, fun i r u hr hu => ?_⟩
  · have := h.arr.sl
    simpa using this
  · have hi : i < n := by
      have := (List.getElem?_eq_some_iff.1 hr).1
      simpa using this
    have h1 : r = L i := by simp [hi] at hr; exact hr.symm
    have h2 : u = c i := by rw [vs_get hi] at hu; injection hu with hu; exact hu.symm
    subst h1 h2
    exact Sl.own (h.row i hi)

theorem addE_in {N j M : Nat} {L : Nat → List Int} {X : Nat} (hX : X < N) (hj : N + j < M) (h : ∀ i x, x ∈ L i → 0 ≤ x ∧ x < M) (i : Nat) (x : Int) (hx : x ∈ addE N j L X i) : 0 ≤ x ∧ x < M := by
  unfold addE at hx
  unfold upd at hx
  split at hx
  · rename_i e
    rw [List.mem_append] at hx
    rcases hx with hx | hx
    · split at hx
      · rw [List.mem_append] at hx
        rcases hx with hx | hx
        · exact h _ _ hx
        · simp at hx; omega
      · exact h _ _ hx
    · simp at hx; omega
  · split at hx
    · rw [List.mem_append] at hx
      rcases hx with hx | hx
      · exact h _ _ hx
      · simp at hx; omega
    · exact h _ _ hx
theorem nbRow_in {N j M : Nat} (hj : N + j < M) : ∀ (r : List Int) (L : Nat → List Int), (∀ x ∈ r, 0 ≤ x ∧ x < N) → (∀ i x, x ∈ L i → 0 ≤ x ∧ x < M) → ∀ i x, x ∈ nbRow N j L r i → 0 ≤ x ∧ x < M
  | [], L, _, h, i, x, hx => h i x hx
  | y :: r, L, hr, h, i, x, hx => by
    unfold nbRow at hx
    rw [List.foldl_cons] at hx
    have hy := hr y (List.mem_cons_self ..)
    exact nbRow_in hj r _ (fun z hz => hr z (List.mem_cons_of_mem _ hz)) (addE_in (by omega) hj h) i x hx
theorem nbK_in {N M : Nat} {rows : List (List Int)} (hM : N + rows.length = M) (hr : RowsIn N rows) : ∀ (j : Nat), j ≤ rows.length → ∀ i x, x ∈ nbK N rows j i → 0 ≤ x ∧ x < M
  | 0, _, i, x, hx => by simp [nbK] at hx
  | j + 1, hj, i, x, hx => by
    have hrr : rows[j]? = some (rows[j]'(by omega)) := List.getElem?_eq_getElem (by omega)
    rw [nbK_succ hrr] at hx
    refine nbRow_in (M := M) (by omega) _ _ (fun y hy => ?_) (nbK_in hM hr j (by omega)) i x hx
    obtain ⟨k, hk, e⟩ := List.getElem_of_mem hy
    exact hr j _ k y hrr (by rw [List.getElem?_eq_getElem hk, e])
theorem nbM_rowsIn {N : Nat} {rows : List (List Int)} (hr : RowsIn N rows) : RowsIn (N + rows.length) (nbM N rows) := by
  intro i r k x h1 h2
  have hi : i < N + rows.length := by
    have := (List.getElem?_eq_some_iff.1 h1).1
    simpa [nbM] using this
  rw [nbM_get hi] at h1
  injection h1 with h1
  subst h1
  have := nbK_in (M := N + rows.length) rfl hr rows.length (Nat.le_refl _) i x (by rw [nbK_all]; exact List.mem_of_getElem? h2)
  omega

theorem risAt_lt {n : Int} {l : List Int} {i : Nat} (h : risAt n l i = true) : 0 ≤ l.getD i 0 ∧ l.getD i 0 < n ∧ (0 < i → l.getD (i - 1) 0 < l.getD i 0) := by
  unfold risAt at h; exact of_decide_eq_true h
theorem risB_ge {n : Int} {l : List Int} (h : risB n l = true) : ∀ i, i < l.length → (i : Int) ≤ l.getD i 0
  | 0, hi => by have := risAt_lt (risB_at h hi); omega
  | i + 1, hi => by
    have h1 := risAt_lt (risB_at h hi)
    have h2 := risB_ge h i (by omega)
    have h3 := h1.2.2 (by omega)
    rw [Nat.add_sub_cancel] at h3
    omega
theorem risB_len {N : Nat} {l : List Int} (h : risB N l = true) : l.length ≤ N := by
  rcases Nat.eq_zero_or_pos l.length with h0 | h0
  · omega
  · have h1 := risB_ge h (l.length - 1) (by omega)
    have h2 := risAt_lt (risB_at h (i := l.length - 1) (by omega))
    omega

def gmin (g n : Int) : Int := if 0 < n ∧ (g = 0 ∨ n < g) then n else g
/-- The least length found from the first k variables. -/
inductive GirK (L : Nat → List Int) : Nat → Int → Prop
  | zero : GirK L 0 0
  | succ (k : Nat) (g n : Int) : GirK L k g → Bfs L 0 (bInit k) n → GirK L (k + 1) (gmin g n)
theorem GirK.unique {L : Nat → List Int} : ∀ {k : Nat} {a b : Int}, GirK L k a → GirK L k b → a = b
  | 0, _, _, .zero, .zero => rfl
  | k + 1, _, _, .succ _ g n h1 h2, .succ _ g' n' h3 h4 => by rw [GirK.unique h1 h3, Bfs.unique h2 h4]
def GirOut (V : Int) (rows : List (List Int)) (n : Int) : Prop := (pchkS V rows ≠ 0 → n = 0) ∧ (pchkS V rows = 0 → GirK (nbL V.toNat rows) V.toNat n)

set_option maxRecDepth 100000 in
set_option maxHeartbeats 4000000 in
theorem Girth_any (w : World) (V : Int) (rows : List (List Int)) (v : Value) (hv : MSl w v rows) :
    Calls Try.prog 18 #[.agg #[.int .i64 V, v]] w fun r w' => ∃ n, r = .returned (.tuple #[.int .i64 n, .int .i64 (pchkS V rows)]) ∧ GirOut V rows n ∧ Ex w w' := by
  obtain ⟨d0, d1, e0⟩ := boxT_facts w V v
  have HC := hid_ (pCheck_any _ V rows v (hv.ex e0))
  obtain ⟨za, zc, rfl, z1, z2, z3⟩ := (hv.ex e0).open
  have HV := hid_ hv
  clear hv z1 z2 z3
  by_cases hk : pchkS V rows = 0
  · obtain ⟨N, rfl, hN1, hN2, hrl, hri, hris⟩ := pchkS_ok hk
    have HK := hid_ (show ∀ n, GirK (nbL N rows) N n → GirOut N rows n from fun n h => ⟨fun h' => absurd hk h', fun _ => by simpa using h⟩)
    rw [hk] at HC ⊢
    have HNB := hid_ (fun w' h => neighbors_any w' N rows (.slice za rows.length zc) hN2 hN1 hrl h hri (fun i r hr => Nat.le_trans (risB_len (hris r (List.mem_of_getElem? hr))) hN2))
    have HAR := hid_ (fun w' fr v (h1 : MSl w' v (nbM N rows)) (h2 : fr < N) => around_any w' (N + rows.length) fr v (nbM N rows) h1 (by simp [nbM]) (by omega) (by omega) (nbM_rowsIn hri))
    clear hk hri hris
    obtain ⟨xb, hxb⟩ : ∃ xb, w.heap.size = xb := ⟨_, rfl⟩
    rw [hxb] at d0 d1
    go_enter Try.func18, Try.ntmps18
    go_wp2_with fail
    try simp only [hxb]
    clear hxb
    generalize w.alloc (.cells #[.int .i64 N, .slice za rows.length zc] 31) = w1 at *
    refine HC.out.mono ?_
    rintro e w2 ⟨rfl, hx2⟩
    have r0 := hx2.cell d0
    have r1 := hx2.cell d1
    have HX := hid_ (e0.trans hx2)
    clear hx2 d0 d1 e0
    go_wp2_with fail
    refine (HNB.out _ (HV.out.ex HX.out)).mono ?_
    rintro e w3 ⟨g, c, rfl, hrows, hx3⟩
    have HMS := hid_ (show MSl w3 (.slice (some ⟨g, 0, none⟩) (N + rows.length) (N + rows.length)) (nbM N rows) from hrows.msl)
    have s0 := hx3.cell r0
    have s1 := hx3.cell r1
    have HX3 := hid_ (HX.out.trans hx3)
    obtain ⟨M, hM⟩ : ∃ M, N + rows.length = M := ⟨_, rfl⟩
    have hMN : N ≤ M := by omega
    have hM3 : M ≤ 320 := by omega
    rw [hM] at HMS HAR
    simp only [hM]
    clear hrows hx3 r0 r1 HX hM
    have EX3 : Ex w3 w3 := Ex.refl _
    go_wp2_with fail
    go_loopw [6, 18] (fun b' k' wr => ∃ (k : Nat) (b : Int), k ≤ N ∧ k' = .int .i64 k ∧ b' = .int .i64 b ∧ 0 ≤ b ∧ b ≤ 1000 ∧ Hid (GirK (nbL N rows) k b) ∧ Ex w3 wr) (fun _ k' _ => N - (intOf k').toNat)
    case atStart => exact ⟨0, 0, by omega, rfl, rfl, by omega, by omega, hid_ .zero, EX3⟩
    case round =>
      clear EX3
      obtain ⟨k, b, hkN, rfl, rfl, hb1, hb2, hgk, hx⟩ := hrel
      by_cases hlt : k < N
      · have HCA := hid_ (HAR.out wr k _ (HMS.out.ex hx) hlt)
        go_wp2_with fail
        refine HCA.out.mono ?_
        rintro e w4 ⟨n, rfl, hn, hn1, hn2, hx4⟩
        have HG := hid_ (GirK.succ k b n hgk.out hn)
        have HX4 := hid_ (hx.trans hx4)
        clear hn hx4 hgk hx HCA
        unfold gmin at HG
        by_cases h0 : 0 < n
        · by_cases h1 : b = 0
          · rw [if_pos ⟨h0, .inl h1⟩] at HG
            have t1 : (b == 0) = true := by simpa using h1
            clear h1
            go_wp2_with fail
            go_roundw
            case rel => exact ⟨k + 1, n, by omega, by go_num, rfl, by omega, by omega, HG, HX4.out⟩
            case measure => simp [intOf]; omega
          · have t1 : (b == 0) = false := by simpa using h1
            by_cases h2 : n < b
            · rw [if_pos ⟨h0, .inr h2⟩] at HG
              clear h1
              go_wp2_with fail
              go_roundw
              case rel => exact ⟨k + 1, n, by omega, by go_num, rfl, by omega, by omega, HG, HX4.out⟩
              case measure => simp [intOf]; omega
            · rw [if_neg (fun h => h.2.elim h1 h2)] at HG
              have h2' : b ≤ n := by omega
              clear h1 h2
              go_wp2_with fail
              go_roundw
              case rel => exact ⟨k + 1, b, by omega, by go_num, rfl, by omega, by omega, HG, HX4.out⟩
              case measure => simp [intOf]; omega
        · rw [if_neg (fun h => h0 h.1)] at HG
          have h0' : n ≤ 0 := by omega
          clear h0
          go_wp2_with fail
          go_roundw
          case rel => exact ⟨k + 1, b, by omega, by go_num, rfl, by omega, by omega, HG, HX4.out⟩
          case measure => simp [intOf]; omega
      · obtain rfl : N = k := by omega
        have HG := hid_ (HK.out b hgk.out)
        clear hgk
        go_wp2_with fail
        go_ret2
        exact ⟨_, rfl, HG.out, HX3.out.trans hx⟩
  · have HG := hid_ (show GirOut V rows 0 from ⟨fun _ => rfl, fun h => absurd h hk⟩)
    have hz := pchkS_rng V rows
    obtain ⟨z, hzz⟩ : ∃ z, pchkS V rows = z := ⟨_, rfl⟩
    rw [hzz] at HC hk hz ⊢
    have hb : (z != 0) = true := by simpa using hk
    clear hzz hk
    go_enter Try.func18, Try.ntmps18
    go_wp2_with fail
    generalize w.alloc (.cells #[.int .i64 V, .slice za rows.length zc] 31) = w1 at *
    refine HC.out.mono ?_
    rintro e w2 ⟨rfl, hx2⟩
    go_wp2_with fail
    go_ret2
    exact ⟨_, rfl, HG.out, e0.trans hx2⟩
end Go.Proofs.Ytpphaicbdeeacaa
