/- Walk of the law PeelForest. -/
import Derived.Test.YtpphaicbdeeacaaPeelFC
import Derived.Test.YtpphaicbdeeacaaPeelV
namespace Go.Proofs.Ytpphaicbdeeacaa
set_option linter.unusedVariables false
set_option linter.unusedSimpArgs false
open Go.RowKit

theorem ris_len {N : Nat} {l : List Int} (h : risB N l = true) : l.length ≤ N := by
  have key : ∀ k, k < l.length → ∃ x, l[k]? = some x ∧ (k : Int) ≤ x := fun k => by
    induction k with
    | zero =>
      intro hk
      refine ⟨_, List.getElem?_eq_getElem hk, ?_⟩
      exact (risB_rng h 0 _ (List.getElem?_eq_getElem hk)).1
    | succ k ih =>
      intro hk
      obtain ⟨x, hx, hx2⟩ := ih (by omega)
      refine ⟨_, List.getElem?_eq_getElem hk, ?_⟩
      have := ris_lt h (show k < k + 1 by omega) hx (List.getElem?_eq_getElem hk)
      omega
  by_cases e : l.length = 0
  · omega
  · obtain ⟨x, hx, hx2⟩ := key (l.length - 1) (by omega)
    have := (risB_rng h _ x hx).2
    omega
def lb1 (lab : Nat → Int) (a b : Int) (i x : Nat) : Int := if x < i then (if lab x = a then b else lab x) else lab x

set_option maxRecDepth 100000 in
set_option maxHeartbeats 4000000 in
theorem PeelForest_any (w : World) (V : Int) (v : Value) (rows : List (List Int)) (hv : MSl w v rows) :
    Calls Try.prog 9 #[.agg #[.int .i64 V, v]] w fun r w' => r = .returned (.bool true) ∧ Ex w w' := by
  obtain ⟨d0, d1, e0⟩ := boxT_facts w V v
  have HV := hid_ hv
  obtain ⟨za, zc, rfl, _, z2, _⟩ := hv.open
  unfold maxLen at z2
  obtain ⟨xb, hxb⟩ : ∃ xb, w.heap.size = xb := ⟨_, rfl⟩
  rw [hxb] at d0 d1
  clear hv
  go_enter Try.func9, Try.ntmps9
  go_wp2_with fail
  try simp only [hxb]
  clear hxb
  generalize w.alloc (.cells #[.int .i64 V, .slice za rows.length zc] 31) = w0 at *
  have EX := hid_ e0
  clear e0
  refine (awake_any w0).mono ?_
  rintro e w1 ⟨rfl, hx1⟩
  have d0 := hx1.cell d0
  have d1 := hx1.cell d1
  have EX := hid_ (EX.out.trans hx1)
  clear hx1
  go_wp2_with fail
  refine (FewT_any w1 V rows _ (HV.out.ex EX.out)).mono ?_
  rintro e w2 ⟨bb, rfl, hx2⟩
  have d0 := hx2.cell d0
  have d1 := hx2.cell d1
  have EX := hid_ (EX.out.trans hx2)
  clear hx2
  cases bb with
  | false =>
    go_wp2_with (go_at_call 12; refine (awake_any _).mono ?_; rintro e w3 ⟨rfl, hx3⟩)
    go_ret
    exact ⟨rfl, EX.out.trans hx3⟩
  | true =>
    go_wp2_with fail
    refine (rChkT_any w2 V rows _ (HV.out.ex EX.out)).mono ?_
    rintro e w3 ⟨rfl, hx3⟩
    have d0 := hx3.cell d0
    have d1 := hx3.cell d1
    have EX := hid_ (EX.out.trans hx3)
    clear hx3
    by_cases hk : pchkS V rows = 0
    · have HK := hid_ hk
      obtain ⟨N, rfl, hN1, hN2, hrl, hri, hris⟩ := pchkS_ok hk
      have HRI := hid_ hri
      have HRIS := hid_ hris
      have HGI := hid_ (fun w' (h : Ex w w') => Girth_any w' N rows _ (HV.out.ex h))
      rw [hk] at HGI ⊢
      clear hk hri hris
      go_wp2_with fail
      refine (HGI.out w3 EX.out).mono ?_
      rintro e w4 ⟨n, rfl, hg, hx4⟩
      have d0 := hx4.cell d0
      have d1 := hx4.cell d1
      have EX := hid_ (EX.out.trans hx4)
      have HG := hid_ hg
      have HD0 := hid_ d0
      have HD1 := hid_ d1
      obtain ⟨M, hM⟩ : ∃ M, N + rows.length = M := ⟨_, rfl⟩
      have hM' : (N : Int) + (rows.length : Int) = (M : Int) := by omega
      clear hx4 hg HGI
      go_wp2_with (at_make; refine wpList_make_arr _ rfl _ _ 22 rfl 3 (.int .i64 0) 8 Try.underlying22 infoInt rfl _ M rfl rfl rfl (by omega) (by unfold maxLen; omega) ?_)
      intro w5 hown hx5
      obtain ⟨g, hgg⟩ : ∃ g, w4.heap.size = g := ⟨_, rfl⟩
      have HSZ := hid_ hgg
      rw [hgg] at hown
      try simp only [hgg]
      have HM := hid_ hM
      have HO := hid_ (show Own w5 g 3 g M (iv fun x => if x < 0 then (x : Int) else 0) from hown.icongr (fun j _ => by simp))
      have HX := hid_ hx5
      have HMB := hid_ (show M ≤ 320 from by omega)
      clear hown hx5 hgg d0 d1 hM
      go_wp2_with fail
      go_loopw [47] (fun i' wr => ∃ i : Nat, i ≤ M ∧ i' = .int .i64 i ∧ Hid (Own wr g 3 g M (iv fun x => if x < i then (x : Int) else 0)) ∧ Hid (Ex w4 wr)) (fun i' _ => M - (intOf i').toNat)
      case atStart => exact ⟨0, by omega, rfl, HO, HX⟩
      case round =>
        clear HO HX
        obtain ⟨i, hi, rfl, hown, hx⟩ := hrel
        by_cases hlt : i < M
        · have c1 := hown.out.cell hlt
          have c2 := hown.out.frz i
          have i1 : (0 : Int) ≤ (i : Int) := by omega
          have i2 : (i : Int) < (M : Int) := by omega
          have hm := HMB.out
          have HO := hid_ (hown.out.set i (.int .i64 i))
          have HX := hid_ (hown.out.exSet (a := w4) (by have := HSZ.out; omega) hx.out i (.int .i64 i))
          clear hown hx
          go_wp2_with fail
          go_roundw
          case rel => exact ⟨i + 1, by omega, by go_num, hid_ (HO.out.congr fun x hx => by
            by_cases e : x = i
            · subst e; rw [upd_same]; show _ = Value.int .i64 (if x < x + 1 then (x : Int) else 0); rw [if_pos (by omega)]
            · rw [upd_ne _ _ e]; show Value.int .i64 (if x < i then (x : Int) else 0) = Value.int .i64 (if x < i + 1 then (x : Int) else 0)
              by_cases h : x < i
              · rw [if_pos h, if_pos (by omega)]
              · rw [if_neg h, if_neg (by omega)]), HX⟩
          case measure => simp [intOf]; omega
        · obtain rfl : i = M := by omega
          have HO := hid_ (show Own wr g 3 g i (iv fun x => (x : Int)) from hown.out.icongr (fun x hx => by rw [if_pos hx]))
          have HU0 := hid_ (show Uf N rows 0 0 (fun x => (x : Int)) 0 0 from Uf.zero fun _ _ => rfl)
          have d1 := hx.out.cell HD1.out
          clear hown
          go_wp2_with fail
          have HR64 := hid_ (show ∀ (j : Nat) (r : List Int), rows[j]? = some r → r.length ≤ 64 from fun j r h => by
            have := ris_len (HRIS.out r (List.mem_of_getElem? h)); omega)
          have hm := HMB.out
          clear d1
          go_loopw [6, 8, 58] (fun p' e' j' wr => ∃ (j : Nat) (lab : Nat → Int) (e s : Nat), j ≤ rows.length ∧ j' = .int .i64 j ∧ e' = .int .i64 e ∧ p' = .int .i64 ((i : Int) - s) ∧ s ≤ e ∧ e ≤ 64 * j ∧ Hid (Own wr g 3 g i (iv lab)) ∧ Hid (Uf N rows j 0 lab e s) ∧ Hid (Ex w4 wr)) (fun _ _ j' _ => rows.length - (intOf j').toNat)
          case atStart => exact ⟨0, _, 0, 0, by omega, rfl, rfl, by go_num, by omega, by omega, HO, HU0, hx⟩
          case round =>
            clear HO HU0 hx
            obtain ⟨j, lab, e, s, hj, rfl, rfl, rfl, hse, he, hown, huf, hx⟩ := hrel
            by_cases hlt : j < rows.length
            · obtain ⟨r, hr⟩ : ∃ r, rows[j]? = some r := ⟨_, List.getElem?_eq_getElem hlt⟩
              obtain ⟨_, _, e1, _, _, h3⟩ := (HV.out.ex EX.out).open
              injection e1 with e1 e2 e3
              subst e1 e3
              obtain ⟨zb, zo, rfl, hzc⟩ := h3 (by omega)
              obtain ⟨uz, c1, huz⟩ := hzc j r hr
              have c1 := hx.out.cell c1
              have c0 := hx.out.cell HD1.out
              obtain ⟨ua, uc, rfl, u1, u2, u3⟩ := huz.open
              unfold maxLen at u2
              have hr64 := HR64.out j r hr
              have HR := hid_ hr
              have U3 := hid_ u3
              have i1 : (0 : Int) ≤ (j : Int) := by omega
              have i2 : (j : Int) < (rows.length : Int) := by omega
              clear h3 hzc huz u3 hr
              go_wp2_with fail
              go_loopw [6, 8, 65] (fun p' e' k' wr2 => ∃ (k : Nat) (lab : Nat → Int) (e s : Nat), k ≤ r.length ∧ k' = .int .i64 k ∧ e' = .int .i64 e ∧ p' = .int .i64 ((i : Int) - s) ∧ s ≤ e ∧ e ≤ 64 * j + k ∧ Hid (Own wr2 g 3 g i (iv lab)) ∧ Hid (Uf N rows j k lab e s) ∧ Hid (Ex w4 wr2)) (fun _ _ k' _ => r.length - (intOf k').toNat)
              case atStart => exact ⟨0, lab, e, s, by omega, rfl, rfl, rfl, hse, by omega, hown, huf, hx⟩
              case round =>
                clear hown huf hx hse he c0 c1
                obtain ⟨k, lab, e, s, hk, rfl, rfl, rfl, hse, he, hown, huf, hx⟩ := hrel
                by_cases hkl : k < r.length
                · obtain ⟨x, hxx⟩ : ∃ x, r[k]? = some x := ⟨_, List.getElem?_eq_getElem hkl⟩
                  obtain ⟨x1, x2⟩ := HRI.out j r k x HR.out hxx
                  obtain ⟨X, rfl⟩ : ∃ X : Nat, x = X := ⟨x.toNat, by omega⟩
                  obtain ⟨rb, ro, rfl, hrc⟩ := U3.out (by omega)
                  have c1 := hx.out.cell (hrc k X hxx)
                  have hXN : X < N := by omega
                  have hm3 := HM.out
                  have cX : wr.cell? ⟨g, X, none⟩ = some (.int .i64 (lab X)) := hown.out.cell (show X < i by omega)
                  have cJ : wr.cell? ⟨g, N + j, none⟩ = some (.int .i64 (lab (N + j))) := hown.out.cell (show N + j < i by omega)
                  have c0 := hx.out.cell HD0.out
                  have j1 : IntKind.i64.wrap ((N : Int) + j) = (N : Int) + j := IntWalk.i64_in _ (by omega)
                  have j2 : ((N : Int) + j).toNat = N + j := by omega
                  have j3 : (0 : Int) ≤ (N : Int) + j := by omega
                  have j4 : (N : Int) + j < (i : Int) := by omega
                  have j5 : (0 : Int) ≤ (X : Int) := by omega
                  have j6 : (X : Int) < (i : Int) := by omega
                  have k1 : (0 : Int) ≤ (k : Int) := by omega
                  have k2 : (k : Int) < (r.length : Int) := by omega
                  have HXX := hid_ hxx
                  clear hrc hxx hm3
                  go_upto_region 21 with fail
                  go_quiet (fail)
                  have hE : Hid (Ex w4 (wr.drewN nq)) := hid_ (hx.out.drewN nq)
                  have HOW := hid_ (hown.out.drewN nq)
                  clear hx hown c0 c1 cX cJ
                  generalize wr.drewN nq = W at *
                  by_cases hl : lab X = lab (N + j)
                  · have HUF := hid_ (huf.out.skip HRI.out HR.out HXX.out (HRIS.out r (List.mem_of_getElem? HR.out)) hl)
                    have hb : (lab X == lab (N + j)) = true := by simp [hl]
                    clear hl huf
                    go_wp2_with fail
                    go_roundw
                    case rel => exact ⟨k + 1, lab, e + 1, s, by omega, by go_num, by go_num, rfl, by omega, by omega, HOW, HUF, hE⟩
                    case measure => simp [intOf]; omega
                  · have HUF := hid_ (huf.out.join HRI.out HR.out HXX.out (HRIS.out r (List.mem_of_getElem? HR.out)) hl)
                    have hb : (lab X == lab (N + j)) = false := by simpa using hl
                    obtain ⟨A, hA⟩ : ∃ A, lab X = A := ⟨_, rfl⟩
                    obtain ⟨B, hB⟩ : ∃ B, lab (N + j) = B := ⟨_, rfl⟩
                    rw [hA, hB] at hb HUF
                    simp only [hA, hB]
                    have HO0 := hid_ (show Own W g 3 g i (iv (lb1 lab A B 0)) from HOW.out.icongr fun x _ => by unfold lb1; rw [if_neg (by omega)])
                    clear hl huf hA hB
                    go_wp2_with fail
                    go_loopw [89] (fun q' wr3 => ∃ q : Nat, q ≤ i ∧ q' = .int .i64 q ∧ Hid (Own wr3 g 3 g i (iv (lb1 lab A B q))) ∧ Hid (Ex w4 wr3)) (fun q' _ => i - (intOf q').toNat)
                    case atStart => exact ⟨0, by omega, rfl, HO0, hE⟩
                    case round =>
                      clear HO0 HOW hE
                      obtain ⟨q, hq, rfl, hown, hx⟩ := hrel
                      by_cases hql : q < i
                      · have q1 : (0 : Int) ≤ (q : Int) := by omega
                        have q2 : (q : Int) < (i : Int) := by omega
                        have c2 := hown.out.frz q
                        have e1 : lb1 lab A B q q = lab q := by unfold lb1; rw [if_neg (by omega)]
                        have c1 : wr.cell? ⟨g, q, none⟩ = some (.int .i64 (lab q)) := by rw [hown.out.cell hql]; show some (Value.int .i64 (lb1 lab A B q q)) = _; rw [e1]
                        by_cases ha : lab q = A
                        · have hb2 : (lab q == A) = true := by simp [ha]
                          have HO := hid_ (hown.out.set q (.int .i64 B))
                          have HX := hid_ (hown.out.exSet (a := w4) (by have := HSZ.out; omega) hx.out q (.int .i64 B))
                          have HE1 := hid_ ha
                          clear ha hown hx e1
                          go_wp2_with fail
                          go_roundw
                          case rel => exact ⟨q + 1, by omega, by go_num, hid_ (HO.out.congr fun x hx => by
                            by_cases e : x = q
                            · subst e; rw [upd_same]; show _ = Value.int .i64 (lb1 lab A B (x + 1) x); unfold lb1; rw [if_pos (by omega), if_pos HE1.out]
                            · rw [upd_ne _ _ e]; show Value.int .i64 (lb1 lab A B q x) = Value.int .i64 (lb1 lab A B (q + 1) x)
                              unfold lb1
                              by_cases h : x < q
                              · rw [if_pos h, if_pos (show x < q + 1 by omega)]
                              · rw [if_neg h, if_neg (show ¬ x < q + 1 by omega)]), HX⟩
                          case measure => simp [intOf]; omega
                        · have hb2 : (lab q == A) = false := by simpa using ha
                          have HO := hid_ (show Own wr g 3 g i (iv (lb1 lab A B (q + 1))) from hown.out.icongr fun x hx => by
                            unfold lb1
                            by_cases e : x = q
                            · subst e; rw [if_neg (show ¬ x < x by omega), if_pos (show x < x + 1 by omega), if_neg ha]
                            · by_cases h : x < q
                              · rw [if_pos h, if_pos (show x < q + 1 by omega)]
                              · rw [if_neg h, if_neg (show ¬ x < q + 1 by omega)])
                          clear ha hown e1
                          go_wp2_with fail
                          go_roundw
                          case rel => exact ⟨q + 1, by omega, by go_num, HO, hx⟩
                          case measure => simp [intOf]; omega
                      · obtain rfl : q = i := by omega
                        have HO := hid_ (show Own wr g 3 g q (iv (fun x => if lab x = A then B else lab x)) from hown.out.icongr fun x hx => by unfold lb1; rw [if_pos hx])
                        clear hown
                        go_wp2_with fail
                        go_roundw
                        case rel => exact ⟨k + 1, _, e + 1, s + 1, by omega, by go_num, by go_num, by go_num, by omega, by omega, HO, HUF, hx⟩
                        case measure => simp [intOf]; omega
                · obtain rfl : k = r.length := by omega
                  have HUF := hid_ (huf.out.cong fun x y => Pe.row HR.out)
                  clear huf
                  go_wp2_with fail
                  go_roundw
                  case rel => exact ⟨j + 1, lab, e, s, by omega, by go_num, rfl, rfl, hse, by omega, hown, HUF, hx⟩
                  case measure => simp [intOf]; omega
            · obtain rfl : j = rows.length := by omega
              obtain ⟨f1, f2, f3⟩ := forest HK.out HG.out huf.out
              clear huf hown
              have w1 : IntKind.i64.wrap ((i : Int) - ((i : Int) - s)) = (s : Int) := by rw [IntWalk.i64_in _ (by omega)]; omega
              have w2 : (i : Int) - ((i : Int) - s) = (s : Int) := by omega
              have HXX := hid_ hx
              clear hx
              by_cases hn : n = 0
              · subst hn
                have he2 : e = s := f1.1 rfl
                subst he2
                have hb1 : ((e : Int) == (e : Int)) = true := by simp
                clear f1 f2 f3
                go_wp2_with fail
                go_ret
                exact ⟨rfl, EX.out.trans HXX.out⟩
              · have hb1 : (n == 0) = false := by simpa using hn
                have hb2 : ((e : Int) == (s : Int)) = false := by
                  have : e ≠ s := fun h => hn (f1.2 h)
                  simp; omega
                have hb4 : decide (4 ≤ n) = true := by simp; omega
                have hb5 : n.tmod 2 = 0 := by
                  have h1 : 0 ≤ n := by omega
                  rw [Int.tmod_eq_emod_of_nonneg h1]; exact f2
                have hb6 : (4 : Int) ≤ n := by omega
                clear f1 f2 f3 hn
                go_wp2_with fail
                go_ret
                exact ⟨rfl, EX.out.trans HXX.out⟩
    · have hb : (pchkS V rows != 0) = true := by simpa using hk
      clear hk
      go_wp2_with (go_at_call 12; refine (awake_any _).mono ?_; rintro e w4 ⟨rfl, hx4⟩)
      go_ret
      exact ⟨rfl, EX.out.trans hx4⟩
end Go.Proofs.Ytpphaicbdeeacaa
