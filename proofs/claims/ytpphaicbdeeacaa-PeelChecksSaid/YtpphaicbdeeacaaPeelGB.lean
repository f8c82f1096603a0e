/- Walk of the reference's path: a search in breadth beside an edge. -/
import Derived.Test.YtpphaicbdeeacaaPeelGA
import Derived.Test.YtpphaicbdeeacaaPeelV
namespace Go.Proofs.Ytpphaicbdeeacaa
set_option linter.unusedVariables false
set_option linter.unusedSimpArgs false
open Go.RowKit

/-- The distances, and the queue. -/
structure QM (w1 wr : World) (base g M : Nat) (qv : Value) (far : Nat → Int) (q : List Int) : Prop where
  far : Own wr base 3 g M (iv far)
  q : wr.ownsRow base 3 1 qv q.length (ints q)
  n1 : qv.ownBlock ≠ some g
  ex : Ex w1 wr
  base_ : w1.heap.size ≤ base
theorem QM.later {w1 wr w' : World} {base g M : Nat} {qv : Value} {far : Nat → Int} {q : List Int} (h : QM w1 wr base g M qv far q) (hx : Ex wr w') : QM w1 w' base g M qv far q :=
  ⟨h.far.ex hx, ownsRow_ex h.q hx, h.n1, h.ex.trans hx, h.base_⟩
theorem QM.setFar {w1 wr : World} {base g M : Nat} {qv : Value} {far : Nat → Int} {q : List Int} (h : QM w1 wr base g M qv far q) (j : Nat) (y : Int) : QM w1 (wr.setCell ⟨g, j, none⟩ (.int .i64 y)) base g M qv (upd far j y) q :=
  ⟨by rw [← iv_upd]; exact h.far.set j _, ownsRow_setCell_ne h.q h.n1 _, h.n1, h.far.exSet h.base_ h.ex j _, h.base_⟩
theorem QM.app {w1 wr w' : World} {base g M : Nat} {qv qv' : Value} {far : Nat → Int} {q : List Int} {x : Int} (h : QM w1 wr base g M qv far q) (ha : Appd wr w' base 3 1 qv qv' q.length (ints q) [.int .i64 x]) : QM w1 w' base g M qv' far (q ++ [x]) := by
  have h1 := ha.arr h.far h.n1
  refine ⟨h1.1, ?_, h1.2, ha.ex h.ex h.base_, h.base_⟩
  have := ha.own
  simp only [List.length_append, List.length_singleton]
  simpa [ints] using this

set_option maxRecDepth 100000 in
set_option maxHeartbeats 16000000 in
theorem rPath_any (w : World) (N : Nat) (rows : List (List Int)) (v : Value) (hv : MSl w v rows) (hN : N ≤ 64) (hC : rows.length ≤ 256) (hr : RowsIn N rows) (i x : Nat) (hi : i < rows.length) (hxN : x < N) :
    Calls Try.prog 47 #[.agg #[.int .i64 N, v], .int .i64 i, .int .i64 x] w fun r w' => ∃ d, r = .returned (.int .i64 d) ∧ PthO N rows i x d ∧ d ≤ 320 ∧ Ex w w' := by
  obtain ⟨d0, d1, e0⟩ := boxT_facts w N v
  have HV := hid_ hv
  obtain ⟨za, zc, rfl, z1, z2, _⟩ := hv.open
  have HR := hid_ hr
  unfold maxLen at z2
  obtain ⟨xb, hxb⟩ : ∃ xb, w.heap.size = xb := ⟨_, rfl⟩
  rw [hxb] at d0 d1
  obtain ⟨M, hM⟩ : ∃ M, N + rows.length = M := ⟨_, rfl⟩
  have hM' : (N : Int) + (rows.length : Int) = (M : Int) := by omega
  have hMB : M ≤ 320 := by omega
  clear hv hr
  go_enter Try.func47, Try.ntmps47
  go_wp2_with (at_make; refine wpList_make_arr _ rfl _ _ 22 rfl 3 (.int .i64 0) 8 Try.underlying22 infoInt rfl _ M rfl rfl rfl (by omega) (by unfold maxLen; omega) ?_)
  intro w3 hown hx3
  try simp only [hxb] at hown hx3 ⊢
  try simp only [hxb]
  have hsz : (w.alloc (.cells #[.int .i64 N, .slice za rows.length zc] 31)).heap.size = xb + 1 := by simp [hxb]
  generalize w.alloc (.cells #[.int .i64 N, .slice za rows.length zc] 31) = w1 at *
  try simp only [hsz] at hown ⊢
  have HSZ := hid_ hsz
  have E0 := hid_ e0
  have D0 := hid_ d0
  have D1 := hid_ d1
  have HM := hid_ hM
  have HZ3 := hid_ (show ∀ (j : Nat) (r : List Int), rows[j]? = some r → ∃ zb zo uz, za = some ⟨zb, zo, none⟩ ∧ w1.cell? ⟨zb, zo + j, none⟩ = some uz ∧ ISl w1 uz r from fun j r h => by
    obtain ⟨_, _, e1, _, _, h3⟩ := (HV.out.ex E0.out).open
    injection e1 with e1 e2 e3
    subst e1 e3
    obtain ⟨zb, zo, h4, h5⟩ := h3 (by have := (List.getElem?_eq_some_iff.1 h).1; omega)
    obtain ⟨u, h6, h7⟩ := h5 j r h
    exact ⟨zb, zo, u, h4, h6, h7⟩)
  have HO := hid_ (show Own w3 (xb + 1) 3 (xb + 1) M (iv fun y => if y < 0 then (-1 : Int) else 0) from hown.icongr (fun j _ => by simp))
  have HX := hid_ hx3
  have c0 := hx3.cell d0
  have c1 := hx3.cell d1
  clear hown hx3 hsz e0 hxb hM
  go_wp2_with fail
  go_loopw [9] (fun k' wr => ∃ k : Nat, k ≤ M ∧ k' = .int .i64 k ∧ Hid (Own wr (xb + 1) 3 (xb + 1) M (iv fun y => if y < k then (-1 : Int) else 0)) ∧ Hid (Ex w1 wr)) (fun k' _ => M - (intOf k').toNat)
  case atStart => exact ⟨0, by omega, rfl, HO, HX⟩
  case round =>
    clear HO HX c0 c1
    obtain ⟨k, hk, rfl, hown, hx⟩ := hrel
    by_cases hlt : k < M
    · have c1 := hown.out.cell hlt
      have c2 := hown.out.frz k
      have i1 : (0 : Int) ≤ (k : Int) := by omega
      have i2 : (k : Int) < (M : Int) := by omega
      have HO := hid_ (hown.out.set k (.int .i64 (-1)))
      have HX := hid_ (hown.out.exSet (a := w1) (by have := HSZ.out; omega) hx.out k (.int .i64 (-1)))
      clear hown hx
      go_wp2_with fail
      go_roundw
      case rel => exact ⟨k + 1, by omega, by go_num, hid_ (HO.out.congr fun y hy => by
        by_cases e : y = k
        · subst e; rw [upd_same]; show _ = Value.int .i64 (if y < y + 1 then (-1 : Int) else 0); rw [if_pos (by omega)]
        · rw [upd_ne _ _ e]; show Value.int .i64 (if y < k then (-1 : Int) else 0) = Value.int .i64 (if y < k + 1 then (-1 : Int) else 0)
          by_cases h : y < k
          · rw [if_pos h, if_pos (by omega)]
          · rw [if_neg h, if_neg (by omega)]), HX⟩
      case measure => simp [intOf]; omega
    · obtain rfl : M = k := by omega
      have hO : Own wr (xb + 1) 3 (xb + 1) M (iv fun _ => (-1 : Int)) := hown.out.icongr (fun y hy => by rw [if_pos hy])
      have hNi : N + i < M := by have := HM.out; omega
      have c1 : wr.cell? ⟨xb + 1, N + i, none⟩ = some (.int .i64 (-1)) := hO.cell hNi
      have c2 := hO.frz (N + i)
      have c0 := hx.out.cell D0.out
      have i1 : IntKind.i64.wrap ((N : Int) + i) = (N : Int) + i := IntWalk.i64_in _ (by omega)
      have i2 : ((N : Int) + i).toNat = N + i := by omega
      have i3 : (0 : Int) ≤ (N : Int) + i := by omega
      have i4 : (N : Int) + i < (M : Int) := by omega
      have hlt := hO.lt
      have HO := hid_ (show Own (wr.setCell ⟨xb + 1, N + i, none⟩ (.int .i64 0)) (xb + 1) 3 (xb + 1) M (iv (upd (fun _ => (-1 : Int)) (N + i) 0)) from by rw [← iv_upd]; exact hO.set (N + i) _)
      have HX := hid_ (hO.exSet (a := w1) (by have := HSZ.out; omega) hx.out (N + i) (.int .i64 0))
      have hszW : (wr.setCell ⟨xb + 1, N + i, none⟩ (.int .i64 0)).heap.size = wr.heap.size := by simp
      have HQ0 : Hid (QM w1 ((wr.setCell ⟨xb + 1, N + i, none⟩ (.int .i64 0)).alloc (.cells #[.int .i64 ((N : Int) + i)] 3)) (xb + 1) (xb + 1) M (.slice (some ⟨wr.heap.size, 0, none⟩) 1 1) (upd (fun _ => (-1 : Int)) (N + i) 0) [((N + i : Nat) : Int)]) := by
        refine hid_ ⟨HO.out.alloc _, ?_, ?_, HX.out.alloc _, by have := HSZ.out; omega⟩
        · have h1 := own_lit1 (wr.setCell ⟨xb + 1, N + i, none⟩ (.int .i64 0)) (.int .i64 ((N : Int) + i)) 3
          rw [hszW] at h1
          have h2 := ownsRow_mono h1 (b' := xb + 1) (by omega)
          have e : ints [((N + i : Nat) : Int)] = [.int .i64 ((N : Int) + i)] := by simp [ints]
          rw [e]; exact h2
        · show some wr.heap.size ≠ some (xb + 1)
          intro e; injection e with e; omega
      have HPO := hid_ (PO.init (N := N) (rows := rows) (i := i) (v := x) hi)
      have HM1 := hid_ HM.out
      clear hO hown hx hlt HO HX
      go_wp2_with fail
      clear c1 c2
      go_loopw [10, 11] (fun qv k' wr => ∃ (far : Nat → Int) (q : List Int) (k : Nat), k ≤ q.length ∧ k' = .int .i64 k ∧ Hid (QM w1 wr (xb + 1) (xb + 1) M qv far q) ∧ Hid (PO N rows i x far q k)) (fun _ k' _ => M - (intOf k').toNat)
      case atStart => exact ⟨_, _, 0, by simp, rfl, HQ0, HPO⟩
      case round =>
        clear HQ0 HPO c0
        obtain ⟨far, q, k, hk, rfl, hm, hpo⟩ := hrel
        obtain ⟨qa, qc, hqv⟩ := own_shape hm.out.q
        subst hqv
        have hqM : q.length ≤ M := by
          obtain ⟨D, h1, _⟩ := hpo.out
          have := h1.qM
          have := HM1.out
          omega
        by_cases hkl : k < q.length
        · obtain ⟨X, hX⟩ : ∃ X : Nat, q[k]? = some (X : Int) := by
            obtain ⟨D, h1, _⟩ := hpo.out
            have := h1.bi.nn _ (List.getElem_mem hkl)
            exact ⟨(q[k]).toNat, by rw [List.getElem?_eq_getElem hkl]; congr 1; omega⟩
          obtain ⟨qb, qc', hqe, _⟩ := own_open hm.out.q (by omega)
          injection hqe with hqe1 hqe2 hqe3
          subst hqe1 hqe3
          have cq : wr.cell? ⟨qb, k, none⟩ = some (.int .i64 X) := by rw [World.ownsRow.cellAt hm.out.q k (by omega), ints_get hX]
          have HIN := hid_ (hpo.out.enter hX)
          have hXM : X < M := by
            have := HIN.out.pi.lt HR.out hi HIN.out.x0
            have := HM1.out
            omega
          have i5 : (0 : Int) ≤ (k : Int) := by omega
          have i6 : (k : Int) < (q.length : Int) := by omega
          have HKQ := hid_ hkl
          clear hpo hX hkl
          go_wp2_with fail
          clear cq
          go_loopw [10, 13] (fun qv j' wr => ∃ (far : Nat → Int) (q : List Int) (j : Nat), j ≤ rows.length ∧ j' = .int .i64 j ∧ Hid (QM w1 wr (xb + 1) (xb + 1) M qv far q) ∧ Hid (PIn N rows i x far q k X j 0)) (fun _ j' _ => rows.length - (intOf j').toNat)
          case atStart => exact ⟨far, q, 0, by omega, rfl, hm, HIN⟩
          case round =>
            clear hm HIN HKQ i6 hqM hk
            obtain ⟨far, q, j, hj, rfl, hm, hin⟩ := hrel
            have c1 := hm.out.ex.cell D1.out
            by_cases hjl : j < rows.length
            · obtain ⟨r, hr⟩ : ∃ r, rows[j]? = some r := ⟨_, List.getElem?_eq_getElem hjl⟩
              obtain ⟨zb, zo, uz, rfl, hz1, hz2⟩ := HZ3.out j r hr
              obtain ⟨ua, uc, rfl, u1, u2, u3⟩ := hz2.open
              have U3 := hid_ u3
              have HZ1 := hid_ hz1
              have HRJ := hid_ hr
              unfold maxLen at u2
              have j1 : (0 : Int) ≤ (j : Int) := by omega
              have j2 : (j : Int) < (rows.length : Int) := by omega
              clear u3 hz1 hz2 hr
              go_wp2_with fail
              go_loopw [10, 14] (fun qv a' wr => ∃ (far : Nat → Int) (q : List Int) (a : Nat), a ≤ r.length ∧ a' = .int .i64 a ∧ Hid (QM w1 wr (xb + 1) (xb + 1) M qv far q) ∧ Hid (PIn N rows i x far q k X j a)) (fun _ a' _ => r.length - (intOf a').toNat)
              case atStart => exact ⟨far, q, 0, by omega, rfl, hm, hin⟩
              case round =>
                clear hm hin c1
                obtain ⟨far, q, a, ha, rfl, hm, hin⟩ := hrel
                have c1 := hm.out.ex.cell D1.out
                have c2 := hm.out.ex.cell HZ1.out
                by_cases hal : a < r.length
                · obtain ⟨y, hy⟩ : ∃ y, r[a]? = some y := ⟨_, List.getElem?_eq_getElem hal⟩
                  obtain ⟨y1, y2⟩ := HR.out j r a y HRJ.out hy
                  obtain ⟨Y, rfl⟩ : ∃ Y : Nat, y = Y := ⟨y.toNat, by omega⟩
                  obtain ⟨rb, ro, rfl, hrc⟩ := U3.out (by omega)
                  have c3 := hm.out.ex.cell (hrc a Y hy)
                  have hm1 := HM1.out
                  have hYM : Y < M := by omega
                  have hJM : N + j < M := by omega
                  have cX : wr.cell? ⟨xb + 1, X, none⟩ = some (.int .i64 (far X)) := hm.out.far.cell hXM
                  have cY : wr.cell? ⟨xb + 1, Y, none⟩ = some (.int .i64 (far Y)) := hm.out.far.cell hYM
                  have cJ : wr.cell? ⟨xb + 1, N + j, none⟩ = some (.int .i64 (far (N + j))) := hm.out.far.cell hJM
                  have fY := hm.out.far.frz Y
                  have fJ := hm.out.far.frz (N + j)
                  have rX := hin.out.pi.rng X
                  have rY := hin.out.pi.rng Y
                  have rJ := hin.out.pi.rng (N + j)
                  have hqM2 := hin.out.pi.qM
                  have w1_ : IntKind.i64.wrap (far X + 1) = far X + 1 := IntWalk.i64_in _ (by omega)
                  have w2_ : IntKind.i64.wrap ((N : Int) + j) = (N : Int) + j := IntWalk.i64_in _ (by omega)
                  have w3_ : ((N : Int) + j).toNat = N + j := by omega
                  have w4_ : (0 : Int) ≤ (N : Int) + j := by omega
                  have w5_ : (N : Int) + j < (M : Int) := by omega
                  have k1 : (0 : Int) ≤ (a : Int) := by omega
                  have k2 : (a : Int) < (r.length : Int) := by omega
                  have k3 : (0 : Int) ≤ (Y : Int) := by omega
                  have k4 : (Y : Int) < (M : Int) := by omega
                  have k5 : (0 : Int) ≤ (X : Int) := by omega
                  have k6 : (X : Int) < (M : Int) := by omega
                  have HY := hid_ hy
                  have HS2 := hid_ (Nat.le_of_lt hm.out.far.lt.2)
                  obtain ⟨qa2, qc2, hqv2⟩ := own_shape hm.out.q
                  subst hqv2
                  clear hy hrc hm1
                  by_cases he : j = i ∧ Y = x
                  · have HIN := hid_ (hin.out.skip HRJ.out HY.out (.inl he))
                    have b1 : ((j : Int) == (i : Int)) = true := by simp [he.1]
                    have b2 : (j == i) = true := by simp [he.1]
                    have b3 : ((Y : Int) == (x : Int)) = true := by simp [he.2]
                    have b4 : (Y == x) = true := by simp [he.2]
                    clear he hin
                    go_wp2_with fail
                    go_roundw
                    case rel => exact ⟨far, q, a + 1, by omega, by go_num, hm, HIN⟩
                    case measure => simp [intOf]; omega
                  · have hcase : (((j : Int) == (i : Int)) = false ∧ (j == i) = false) ∨ ((((j : Int) == (i : Int)) = true ∧ (j == i) = true) ∧ ((Y : Int) == (x : Int)) = false ∧ (Y == x) = false) := by
                      by_cases e : j = i
                      · right
                        have : Y ≠ x := fun e2 => he ⟨e, e2⟩
                        refine ⟨⟨by simp [e], by simp [e]⟩, by simp; omega, by simp; omega⟩
                      · left
                        exact ⟨by simp; omega, by simp; omega⟩
                    go_upto_region 20 with fail
                    go_cut [84] from 59 to 136 (fun s84 wx => s84 = .bool false ∧ wx = wr)
                    case first =>
                      rcases hcase with ⟨b01, b02⟩ | ⟨⟨b01, b02⟩, b03, b04⟩
                      all_goals
                        clear cX cY cJ fY fJ
                        go_wp2_with fail
                        go_meet
                        exact ⟨rfl, rfl⟩
                    case rest =>
                      obtain ⟨rfl, rfl⟩ := hcut
                      clear hcase
                      by_cases hJ : X = N + j
                      · have b1 : ((X : Int) == (N : Int) + (j : Int)) = true := by simp; omega
                        have b2 : ((X : Int) == (Y : Int)) = false := by simp; omega
                        have b3 : (X == Y) = false := by simp; omega
                        by_cases hf : far Y < 0
                        · have HIN := hid_ (hin.out.new HR.out HRJ.out HY.out (.inl ⟨hJ, rfl⟩) he hxN hf)
                          have HM2 := hid_ (hm.out.setFar Y (far X + 1))
                          have HS2 := hid_ (Nat.le_of_lt HM2.out.far.lt.2)
                          have b4 : decide (far Y < 0) = true := by simp; omega
                          clear hm hin he hJ cJ fJ
                          go_wp2_with (at_builtin; refine wpList_append1 _ rfl _ _ 22 rfl (xb + 1) 3 (.int .i64 0) 1 8 Try.underlying22 infoInt rfl (by decide) _ q.length _ rfl HM2.out.q [.int .i64 Y] 3 _ rfl (by simp [World.setCell]) rfl (by simp [Value.oneCell']) (by unfold maxLen; omega) (by omega) HS2.out ?_)
                          intro q8 w8 happ
                          have HM3 := hid_ (HM2.out.app happ)
                          clear happ HM2 fY cX cY c1 c2 c3
                          go_wp2_with fail
                          go_roundw
                          case rel => exact ⟨_, _, a + 1, by omega, by go_num, HM3, HIN⟩
                          case measure => simp [intOf]; omega
                        · have HIN := hid_ (hin.out.old HR.out HRJ.out HY.out (.inl ⟨hJ, rfl⟩) (by omega))
                          have b4 : decide (far Y < 0) = false := by simp; omega
                          clear hin he hJ
                          go_wp2_with fail
                          go_roundw
                          case rel => exact ⟨far, q, a + 1, by omega, by go_num, hm, HIN⟩
                          case measure => simp [intOf]; omega
                      · have b1 : ((X : Int) == (N : Int) + (j : Int)) = false := by simp; omega
                        by_cases hY2 : X = Y
                        · have b2 : ((X : Int) == (Y : Int)) = true := by simp; omega
                          have b3 : (X == Y) = true := by simp; omega
                          by_cases hf : far (N + j) < 0
                          · have HIN := hid_ (hin.out.new HR.out HRJ.out HY.out (.inr ⟨hY2, rfl⟩) he hxN hf)
                            have HM2 := hid_ (hm.out.setFar (N + j) (far X + 1))
                            have HS2 := hid_ (Nat.le_of_lt HM2.out.far.lt.2)
                            have b4 : decide (far (N + j) < 0) = true := by simp; omega
                            clear hm hin he hJ hY2 cY fY
                            go_wp2_with (at_builtin; refine wpList_append1 _ rfl _ _ 22 rfl (xb + 1) 3 (.int .i64 0) 1 8 Try.underlying22 infoInt rfl (by decide) _ q.length _ rfl HM2.out.q [.int .i64 ((N : Int) + j)] 3 _ rfl (by simp [World.setCell]) rfl (by simp [Value.oneCell']) (by unfold maxLen; omega) (by omega) HS2.out ?_)
                            intro q8 w8 happ
                            have HM3 := hid_ (HM2.out.app happ)
                            have HPC := hid_ (show ((N + j : Nat) : Int) = (N : Int) + j from by push_cast; rfl)
                            clear happ HM2 fJ cX cJ c1 c2 c3
                            go_wp2_with fail
                            go_roundw
                            case rel => exact ⟨_, _, a + 1, by omega, by go_num, HM3, hid_ (by rw [← HPC.out]; exact HIN.out)⟩
                            case measure => simp [intOf]; omega
                          · have HIN := hid_ (hin.out.old HR.out HRJ.out HY.out (.inr ⟨hY2, rfl⟩) (by omega))
                            have b4 : decide (far (N + j) < 0) = false := by simp; omega
                            clear hin he hJ hY2
                            go_wp2_with fail
                            go_roundw
                            case rel => exact ⟨far, q, a + 1, by omega, by go_num, hm, HIN⟩
                            case measure => simp [intOf]; omega
                        · have b2 : ((X : Int) == (Y : Int)) = false := by simp; omega
                          have b3 : (X == Y) = false := by simp; omega
                          have HIN := hid_ (hin.out.skip HRJ.out HY.out (.inr ⟨hJ, hY2⟩))
                          clear hin he hJ hY2
                          go_wp2_with fail
                          go_roundw
                          case rel => exact ⟨far, q, a + 1, by omega, by go_num, hm, HIN⟩
                          case measure => simp [intOf]; omega
                · obtain rfl : r.length = a := by omega
                  have HIN := hid_ (hin.out.row HRJ.out rfl)
                  clear hin
                  go_wp2_with fail
                  go_roundw
                  case rel => exact ⟨far, q, j + 1, by omega, by go_num, hm, HIN⟩
                  case measure => simp [intOf]; omega
            · obtain rfl : rows.length = j := by omega
              have HPO := hid_ (hin.out.leave rfl rfl)
              have hkq := (List.getElem?_eq_some_iff.1 hin.out.kq).1
              have hqM3 := hin.out.pi.qM
              have hm1 := HM1.out
              clear hin
              go_wp2_with fail
              go_roundw
              case rel => exact ⟨far, q, k + 1, by omega, by go_num, hm, HPO⟩
              case measure => simp [intOf]; omega
        · have HF := hid_ (hpo.out.fin (by omega) hxN)
          have hxM : x < M := by have := HM1.out; omega
          have cv : wr.cell? ⟨xb + 1, x, none⟩ = some (.int .i64 (far x)) := hm.out.far.cell hxM
          have HX := hid_ (E0.out.trans hm.out.ex)
          have hrng : far x ≤ 320 := by
            obtain ⟨D, h1, _⟩ := hpo.out
            have := (h1.rng x).2
            omega
          have k3 : (0 : Int) ≤ (x : Int) := by omega
          have k4 : (x : Int) < (M : Int) := by omega
          clear hpo hm
          by_cases hf : far x < 0
          · rw [if_pos hf] at HF
            have hm0 : max (far x) 0 = 0 := by omega
            have hm1 : (0 : Int) ≤ 320 := by omega
            clear hrng
            go_wp2_with fail
            all_goals first | (go_ret; exact ⟨0, ret_int (by omega), HF.out, hm1, HX.out⟩) | (exfalso; omega)
          · rw [if_neg hf] at HF
            have hm0 : max (far x) 0 = far x := by omega
            go_wp2_with fail
            all_goals first | (go_ret; exact ⟨far x, ret_int (by omega), HF.out, hrng, HX.out⟩) | (exfalso; omega)
end Go.Proofs.Ytpphaicbdeeacaa
