/- Walk of perm.Orbits. -/
import Derived.Test.YtgfdhclpffakfaaGreatZa14
import Derived.Test.YtgfdhclpffakfaaGreatZa15
namespace Go.Proofs.YtgfdhclpffakfaaGreat
set_option linter.unusedVariables false
set_option linter.unusedSimpArgs false
open Go.RowKit

/-- What slices.Sort leaves of a row of the call's own. -/
def SortOK : Prop := ∀ (w : World) (base : Nat) (v : Value) (l : List Int), w.ownsRow base 3 1 v l.length (ints l) → 1 ≤ l.length → l.length ≤ 1000 →
  Calls Tryz.prog 45 #[v] w fun r w' => r = .returned (.tuple #[]) ∧ w'.ownsRow base 3 1 v l.length (ints (l.mergeSort fun x y => decide (x ≤ y))) ∧ w.grownBy w' v.ownBlock
theorem ownsRow_mono {w : World} {base base' : Nat} {e : TypeId} {size : Nat} {v : Value} {n : Nat} {xs : List Value} (h : w.ownsRow base e size v n xs) (hb : base' ≤ base) : w.ownsRow base' e size v n xs := by
  refine ⟨h.1, ?_⟩
  rcases h.2 with h1 | ⟨g', cap, cur, h1, h2, h3⟩
  · exact .inl h1
  · exact .inr ⟨g', cap, cur, h1, Nat.le_trans hb h2, h3⟩
section
variable {w0 wr : World} {base g n : Nat} {sf : Nat → Bool} {cyv : Value} {cyc : List Int} {cv : Value} {M : List (List Int)} {vals : List Value}
/-- A row that begins as a literal of one number. -/
theorem RowSt.lit (h : RowSt w0 wr base g n sf cyv cyc cv M vals) (x : Int) : RowSt w0 (wr.alloc (.cells #[.int .i64 x] 3)) base g n sf (.slice (some ⟨wr.heap.size, 0, none⟩) 1 1) [x] cv M vals := by
  have hx : Ex wr (wr.alloc (.cells #[.int .i64 x] 3)) := (Ex.refl _).alloc _
  have h2 := h.later hx
  refine ⟨h2.sn, ?_, h2.m, ?_, fun u hu => ?_, h2.gb, h2.ex, h2.wb⟩
  · have := own_lit1 wr (.int .i64 x) 3
    exact ownsRow_mono this h.wb
  · right
    intro e
    have := (h.m.cvo.lt wr.heap.size e.symm).2
    omega
  · unfold Aprt
    cases e : u.ownBlock with
    | none => exact .inl rfl
    | some b =>
      right
      intro e2
      injection e2 with e2
      have e2 : b = wr.heap.size := e2
      have hn := h.m.len
      obtain ⟨i, hi, ei⟩ := List.getElem_of_mem hu
      have := ((h.m.row i (M[i]'(by omega)) u (List.getElem?_eq_getElem _) (by rw [List.getElem?_eq_getElem hi, ei])).lt b e).2
      omega
/-- Behind a call that rewrites the row alone. -/
theorem RowSt.turn (h : RowSt w0 wr base g n sf cyv cyc cv M vals) {w' : World} {l : List Int} (hl : l.length = cyc.length) (ho : w'.ownsRow base 3 1 cyv cyc.length (ints l)) (hg : wr.grownBy w' cyv.ownBlock) : RowSt w0 w' base g n sf cyv l cv M vals := by
  have hne : cyv.ownBlock ≠ some g := fun e => by have := (h.cy.lt _ e).1; have := h.gb; omega
  refine ⟨h.sn.kept hg (.inr fun e => hne e.symm), by rw [hl]; exact ho, ⟨h.m.cvo.kept hg h.ap1.symm, fun i r u h1 h2 => (h.m.row i r u h1 h2).kept hg (h.ap2 u (List.mem_of_getElem? h2)), h.m.apart⟩, h.ap1, h.ap2, h.gb, Ex.grown h.ex h.cy (by have := h.gb; have := h.sn.lt.1; omega) hg, Nat.le_trans h.wb hg.size⟩
end

/-- The numbers of a list as ints. -/
def il' (q : List Nat) : List Int := q.map fun (x : Nat) => (x : Int)
theorem il'_len (q : List Nat) : (il' q).length = q.length := by unfold il'; simp
theorem il'_get {q : List Nat} {k x : Nat} (h : q[k]? = some x) : (il' q)[k]? = some (x : Int) := by unfold il'; rw [List.getElem?_map, h]; rfl
theorem il'_app (q : List Nat) (x : Nat) : il' (q ++ [x]) = il' q ++ [(x : Int)] := by unfold il'; simp
/-- Sorting a list that holds an orbit. -/
theorem sort_orb {n : Nat} {S : List (Nat → Nat)} (hS : ∀ s ∈ S, IsP n s) {i : Nat} (hi : i < n) {q : List Nat} (hnd : q.Nodup) (hq : ∀ y, y ∈ q ↔ RchS S i y) : (il' q).mergeSort (fun x y => decide (x ≤ y)) = orbL n S i := by
  have hp : ((il' q).mergeSort fun x y => decide (x ≤ y)).Perm (il' q) := List.mergeSort_perm _ _
  have hs : ((il' q).mergeSort fun x y => decide (x ≤ y)).Pairwise fun x y => decide (x ≤ y) = true := List.pairwise_mergeSort (fun a b c h1 h2 => by simp at *; omega) (fun a b => by simp; omega) _
  have hnd2 : ((il' q).mergeSort fun x y => decide (x ≤ y)).Nodup := hp.nodup_iff.2 (by
    unfold il'
    rw [List.nodup_iff_pairwise_ne] at hnd ⊢
    exact List.pairwise_map.2 (hnd.imp fun {a b} h e => h (by omega)))
  generalize (il' q).mergeSort (fun x y => decide (x ≤ y)) = m at *
  obtain ⟨r, hr⟩ : ∃ r : List Nat, m = il' r := by
    refine ⟨m.map Int.toNat, ?_⟩
    unfold il'
    rw [List.map_map]
    have : ∀ x ∈ m, ((fun (x : Nat) => (x : Int)) ∘ Int.toNat) x = x := fun x hx => by
      obtain ⟨y, _, rfl⟩ := List.mem_map.1 (hp.mem_iff.1 hx)
      rfl
    rw [List.map_congr_left this, List.map_id']
  subst hr
  unfold orbL
  show il' r = il' _
  congr 1
  refine asc_uniq ?_ (orbN_asc n S i) fun x => ?_
  · have h1 : (il' r).Pairwise (fun x y => decide (x ≤ y) = true ∧ x ≠ y) := hs.and (List.nodup_iff_pairwise_ne.1 hnd2)
    unfold il' at h1
    rw [List.pairwise_map] at h1
    exact h1.imp fun {a b} h => by have := of_decide_eq_true h.1; have := h.2; omega
  · rw [mem_orbN]
    have h2 : x ∈ r ↔ (x : Int) ∈ il' r := by
      unfold il'
      rw [List.mem_map]
      exact ⟨fun h => ⟨x, h, rfl⟩, fun ⟨y, hy, e⟩ => by have : y = x := by omega
                                                        subst this; exact hy⟩
    have h3 : x ∈ q ↔ (x : Int) ∈ il' q := by
      unfold il'
      rw [List.mem_map]
      exact ⟨fun h => ⟨x, h, rfl⟩, fun ⟨y, hy, e⟩ => by have : y = x := by omega
                                                        subst this; exact hy⟩
    rw [h2, hp.mem_iff, ← h3, hq]
    exact ⟨fun h => ⟨h.lt hS hi, h⟩, fun h => h.2⟩
open Classical in
/-- The marks behind a search. -/
noncomputable def seenQ (S : List (Nat → Nat)) (i : Nat) (q : List Nat) : Nat → Bool := fun x => decide (SeenS S i x ∨ x ∈ q)
open Classical in
theorem seenQ_nil (S : List (Nat → Nat)) (i x : Nat) : seenQ S i [] x = decide (SeenS S i x) := by unfold seenQ; simp
open Classical in
theorem seenQ_upd (S : List (Nat → Nat)) (i : Nat) (q : List Nat) (x : Nat) : upd (seenQ S i q) x true = seenQ S i (q ++ [x]) := by
  funext y
  unfold upd seenQ
  by_cases h : y = x
  · subst h; simp
  · simp [h]
open Classical in
theorem seenQ_fin {n : Nat} {S : List (Nat → Nat)} (hS : ∀ s ∈ S, IsP n s) {i : Nat} {q : List Nat} (hq : ∀ y, y ∈ q ↔ RchS S i y) (x : Nat) : seenQ S i q x = seenQ S (i + 1) [] x := by
  unfold seenQ
  rw [Bool.eq_iff_iff]
  simp only [decide_eq_true_eq, List.not_mem_nil, or_false]
  rw [seenS_next hS, hq]
open Classical in
theorem seenQ_no {n : Nat} {S : List (Nat → Nat)} (hS : ∀ s ∈ S, IsP n s) {i : Nat} (h : ¬ LstS S i) (x : Nat) : seenQ S i [] x = seenQ S (i + 1) [] x := by
  unfold seenQ
  rw [Bool.eq_iff_iff]
  simp only [decide_eq_true_eq, List.not_mem_nil, or_false]
  exact (seenS_no hS h).symm
/-- What Orbits returns. -/
noncomputable def orbS (n : Int) (rows : List (List Int)) : List (List Int) × Int := if gchk n rows ≠ 0 then ([], gchk n rows) else (orbsK n.toNat (rows.map fnL) n.toNat, 0)
def OrbR (n : Int) (rows : List (List Int)) (r : Ending) (w' : World) : Prop := ∃ v, r = .returned (.tuple #[v, .int .i64 (orbS n rows).2]) ∧ MSl w' v (orbS n rows).1
theorem orbR_of {n : Int} {rows k : List (List Int)} {e : Int} {v : Value} {w' : World} (h : orbS n rows = (k, e)) (hv : MSl w' v k) : OrbR n rows (.returned (.tuple #[v, .int .i64 e])) w' := ⟨v, by rw [h], by rw [h]; exact hv⟩
theorem map_fnL {N : Nat} {S : List (Nat → Nat)} (hS : ∀ s ∈ S, IsP N s) : (S.map (li N)).map fnL = S := by
  rw [List.map_map]
  have : ∀ s ∈ S, (fnL ∘ li N) s = s := fun s hs => fnL_li (hS s hs)
  rw [List.map_congr_left this, List.map_id']
set_option maxRecDepth 100000 in
set_option maxHeartbeats 4000000 in
theorem Orbits_any (hso : SortOK) (w : World) (n : Int) (rows : List (List Int)) (v : Value) (hv : MSl w v rows) (hrl : rows.length ≤ 1000) :
    Calls Tryz.prog 18 #[.int .i64 n, v] w fun r w' => OrbR n rows r w' ∧ Ex w w' := by
  have HV := hid_ hv
  have HG := hid_ (generators_any w n rows v hv)
  obtain ⟨a, cap, rfl, _, s2, _⟩ := hv.open
  unfold maxLen at s2
  obtain ⟨e, he⟩ : ∃ e, gchk n rows = e := ⟨_, rfl⟩
  rw [he] at HG
  clear hv
  by_cases h0 : e = 0
  · subst h0
    obtain ⟨N, rfl, hN1, hN2, S, hSr, hS⟩ := gchk_ok he
    have HP := hid_ (show orbS N rows = (orbsK N S N, 0) from by unfold orbS; rw [he, if_neg (by decide), hSr, map_fnL hS]; rfl)
    have HS := hid_ hS
    have HSR := hid_ hSr
    have HN := hid_ hN2
    have hSl : S.length = rows.length := by rw [hSr]; simp
    have HSL := hid_ hSl
    clear he hS hSr hSl
    go_enter Tryz.func18, Tryz.ntmps18
    go_wp2_with (first | (go_at_call 44; refine HG.out.mono ?_; rintro e w1 ⟨rfl, hx1⟩; have HX1 := hid_ hx1; clear hx1) | (at_make; refine wpList_make_arr _ rfl _ _ 81 rfl 4 (.bool false) 1 Tryz.underlying81 infoBool rfl _ N rfl rfl rfl (by omega) (by unfold maxLen; omega) ?_))
    intro w3 hown hx3
    have HST := hid_ (RowSt.start hown hx3 (sf := seenQ S 0 []) fun x _ => by
      rw [seenQ_nil]; simp [SeenS])
    clear hown hx3
    obtain ⟨g, hg⟩ : ∃ g, w1.heap.size = g := ⟨_, rfl⟩
    try simp only [hg] at HST ⊢
    clear hg
    go_wp2_with fail
    go_loopw [24, 8, 10] (fun i' cv' oy' wr => ∃ (i : Nat) (vals : List Value), i ≤ N ∧ i' = .int .i64 i ∧ Hid (RowSt w1 wr (g + 1) g N (seenQ S i []) (.slice none 0 0) [] cv' (orbsK N S i) vals)) (fun i' _ _ _ => N - (intOf i').toNat)
    case atStart => exact ⟨0, _, by omega, rfl, HST⟩
    case round =>
      clear HST
      obtain ⟨i, vals, hi, rfl, hst⟩ := hrel
      obtain ⟨cva, cvc, hcv⟩ := own_shape hst.out.m.cvo
      subst hcv
      have HCL := hid_ (orbsK_len N S i)
      by_cases hin : i < N
      · have i1 : (0 : Int) ≤ (i : Int) := by omega
        have i2 : (i : Int) < (N : Int) := by omega
        have c2 := hst.out.sn.frz i
        by_cases hl : LstS S i
        · have c1 : wr.cell? ⟨g, i, none⟩ = some (.bool false) := by
            rw [hst.out.sn.cell hin]; show some (Value.bool (seenQ S i [] i)) = _
            rw [seenQ_nil]
            have : ¬ SeenS S i i := fun h => seenS_self.1 h hl
            simp [this]
          have HL := hid_ hl
          have hsz : (wr.setCell ⟨g, i, none⟩ (.bool true)).heap.size = wr.heap.size := by simp [World.setCell]
          have HM2 := hid_ (((hst.out.mark i).congr (sf' := seenQ S i [i]) fun x _ => by rw [seenQ_upd]; rfl).lit (i : Int))
          rw [hsz] at HM2
          have HSR0 := hid_ (Srch.start N S i)
          clear hst hl hsz
          go_wp2_with fail
          generalize (wr.setCell ⟨g, i, none⟩ (.bool true)).alloc (.cells #[.int .i64 (i : Int)] 3) = wm at *
          go_loopg [10, 11] N (fun gk oy' k' wr => ∃ (q : List Nat) (k : Nat), k ≤ (il' q).length ∧ N - k ≤ gk ∧ k' = .int .i64 k ∧ Hid (RowSt w1 wr (g + 1) g N (seenQ S i q) oy' (il' q) (.slice cva (orbsK N S i).length cvc) (orbsK N S i) vals) ∧ Hid (Srch N S i q k 0))
          case atStart => exact ⟨[i], 0, by omega, by omega, rfl, HM2, HSR0⟩
          case round =>
            clear HM2 HSR0 c1 c2
            obtain ⟨q, k, hk, hgk, rfl, hst, hsr⟩ := hrel
            have hql := hsr.out.len HS.out hin
            rw [← il'_len] at hql
            obtain ⟨hq1, hq2⟩ := hql
            by_cases hkq : k < (il' q).length
            · have HKN := hid_ (show k < N from by omega)
              have HGK := hid_ hgk
              have b1 : decide ((k : Int) < ((il' q).length : Int)) = true := by simp; omega
              obtain ⟨ob, oc, hob, hoc1, hoc2⟩ := own_open hst.out.cy hq1
              subst hob
              unfold maxLen at hoc2
              clear hoc1 hoc2
              go_wp2_with fail
              go_loopw [10, 44] (fun oy' g' wr => ∃ (q : List Nat) (t : Nat), t ≤ rows.length ∧ g' = .int .i64 t ∧ k < q.length ∧ Hid (RowSt w1 wr (g + 1) g N (seenQ S i q) oy' (il' q) (.slice cva (orbsK N S i).length cvc) (orbsK N S i) vals) ∧ Hid (Srch N S i q k t)) (fun _ g' _ => rows.length - (intOf g').toNat)
              case atStart => exact ⟨q, 0, by omega, rfl, by rw [← il'_len]; exact hkq, hst, hsr⟩
              case round =>
                clear hst hsr hkq hk hgk hq1 hq2 b1
                obtain ⟨q, t, ht, rfl, hkq, hst, hsr⟩ := hrel
                have hql := hsr.out.len HS.out hin
                rw [← il'_len] at hql
                obtain ⟨hq1, hq2⟩ := hql
                obtain ⟨ob, oc, hob, hoc1, hoc2⟩ := own_open hst.out.cy hq1
                subst hob
                unfold maxLen at hoc2
                by_cases htr : t < rows.length
                · obtain ⟨s, hs⟩ : ∃ s, S[t]? = some s := ⟨_, List.getElem?_eq_getElem (by rw [HSL.out]; exact htr)⟩
                  obtain ⟨x, hx⟩ : ∃ x, q[k]? = some x := ⟨_, List.getElem?_eq_getElem hkq⟩
                  have hrt : rows[t]? = some (li N s) := by rw [HSR.out, List.getElem?_map, hs]; rfl
                  have hsP := HS.out s (List.mem_of_getElem? hs)
                  have hxN := hsr.out.lt HS.out hin x (List.mem_of_getElem? hx)
                  have hsx := hsP.lt x hxN
                  obtain ⟨_, _, e1, _, _, h3⟩ := (HV.out.ex (HX1.out.trans hst.out.ex)).open
                  injection e1 with e1 e2 e3
                  subst e1 e3
                  obtain ⟨zb, zo, rfl, hzc⟩ := h3 (by omega)
                  obtain ⟨u, d1, hu⟩ := hzc t _ hrt
                  obtain ⟨ua, uc, rfl, _, _, _⟩ := isl_li hu
                  obtain ⟨pb, po, rfl, _, hpc⟩ := isl_li_at hu (by omega)
                  have d2 := hpc x hxN
                  have d3 : wr.cell? ⟨ob, k, none⟩ = some (.int .i64 (x : Int)) := by
                    rw [World.ownsRow.cellAt hst.out.cy k (by rw [il'_len]; omega)]
                    exact ints_get (il'_get hx)
                  have d4 := hst.out.sn.frz (s x)
                  have i3 : (0 : Int) ≤ (t : Int) := by omega
                  have i4 : (t : Int) < (rows.length : Int) := by omega
                  have i5 : (0 : Int) ≤ (k : Int) := by omega
                  have i6 : (k : Int) < ((il' q).length : Int) := by rw [il'_len]; omega
                  have i7 : (0 : Int) ≤ (x : Int) := by omega
                  have i8 : (x : Int) < (N : Int) := by omega
                  have i9 : (0 : Int) ≤ (s x : Int) := by omega
                  have i10 : (s x : Int) < (N : Int) := by omega
                  have HSR1 := hsr
                  by_cases hm : SeenS S i (s x) ∨ s x ∈ q
                  · have d5 : wr.cell? ⟨g, s x, none⟩ = some (.bool true) := by
                      rw [hst.out.sn.cell hsx]; show some (Value.bool (seenQ S i q (s x))) = _
                      unfold seenQ; simp [hm]
                    have HN1 := hid_ (hsr.out.hit hx hs (hsr.out.seen HL.out hx hs hm))
                    have HST := hid_ hst.out
                    clear hst hsr HSR1 hm hzc h3 hu hpc hs hx hrt hsP
                    go_wp2_with fail
                    go_roundw
                    case rel => exact ⟨q, t + 1, by omega, by go_num, hkq, HST, HN1⟩
                    case measure => simp [intOf]; omega
                  · have d5 : wr.cell? ⟨g, s x, none⟩ = some (.bool false) := by
                      rw [hst.out.sn.cell hsx]; show some (Value.bool (seenQ S i q (s x))) = _
                      unfold seenQ; simp [hm]
                    have HN1 := hid_ (hsr.out.new hx hs (fun h => hm (.inr h)))
                    have HM3 := hid_ ((hst.out.mark (s x)).congr (sf' := seenQ S i (q ++ [s x])) fun y _ => by rw [seenQ_upd])
                    have HSB := hid_ HM3.out.wb
                    have HAP := hid_ (il'_app q (s x))
                    clear hst hsr HSR1 hm hzc h3 hu hpc hs hx hrt hsP
                    generalize hWW : wr.setCell ⟨g, s x, none⟩ (.bool true) = wm at *
                    go_wp2_with (at_builtin; refine wpList_append1 _ rfl _ _ 32 rfl (g + 1) 3 (.int .i64 0) 1 8 Tryz.underlying32 infoInt rfl (by decide) _ (il' q).length _ rfl HM3.out.cy [.int .i64 (s x : Int)] 3 _ rfl (by simp) rfl (by simp [Value.oneCell']) (by unfold maxLen; omega) (by omega) HSB.out ?_)
                    intro oy2 w4 happ
                    have HM4 := hid_ (HM3.out.app happ)
                    rw [← HAP.out] at HM4
                    clear happ
                    go_wp2_with fail
                    go_roundw
                    case rel => first | exact ⟨q ++ [s x], t + 1, by omega, by go_num, by rw [List.length_append]; omega, HM4, HN1⟩ | ((repeat apply Exists.intro); exact ⟨⟨q ++ [s x], t + 1, by omega, by go_num, by rw [List.length_append]; omega, HM4, HN1⟩, rfl⟩)
                    case measure => simp [intOf]; omega
                · obtain rfl : t = rows.length := by omega
                  have HN1 := hid_ (hsr.out.next (by rw [HSL.out]; exact Nat.le_refl _))
                  have HST := hid_ hst.out
                  have HKL := hid_ hkq
                  have hk64 : k ≤ 64 := by have := HKN.out; have := HN.out; omega
                  clear hst hsr hkq
                  go_wp2_with fail
                  go_roundg (N - (k + 1))
                  case rel => exact ⟨q, k + 1, by rw [il'_len]; have := HKL.out; omega, by omega, by go_num, HST, HN1⟩
                  case measure => have := HKN.out; have := HGK.out; omega
            · obtain rfl : k = (il' q).length := by omega
              have HFI := hid_ (fun y => hsr.out.fin (by rw [il'_len]; exact Nat.le_refl _) y)
              have HSO := hid_ (sort_orb HS.out hin hsr.out.nd HFI.out)
              have HSQ := hid_ (hst.out.congr (sf' := seenQ S (i + 1) []) fun x _ => seenQ_fin HS.out HFI.out x)
              have HST := hid_ (hso wr (g + 1) _ (il' q) HSQ.out.cy hq1 (by omega))
              obtain ⟨ob, oc, hob, hoc1, hoc2⟩ := own_open hst.out.cy hq1
              subst hob
              unfold maxLen at hoc2
              have HCE := hid_ ((orbsK_succ N S i).1 HL.out)
              have HLN := hid_ (show ((il' q).mergeSort fun x y => decide (x ≤ y)).length = (il' q).length from List.length_mergeSort _)
              have hml : (orbsK N S i).length ≤ 64 := by have := HCL.out; have := HN.out; omega
              clear hst hsr hkq hk hgk
              go_wp2_with (first | (go_at_call 45; refine HST.out.mono ?_; rintro e w5 ⟨rfl, hown, hgr⟩; have HS5 := hid_ (HSQ.out.turn HLN.out hown hgr); have HSB := hid_ HS5.out.wb; clear hown hgr) | (at_builtin; refine wpList_append1 _ rfl _ _ 46 rfl (g + 1) 32 (.slice none 0 0) 1 24 Tryz.underlying46 infoIntsL rfl (by decide) _ (orbsK N S i).length _ rfl HS5.out.m.cvo [.slice (some ⟨ob, 0, none⟩) (il' q).length oc] 32 _ rfl (by simp) rfl (by simp [Value.oneCell']) (by unfold maxLen; omega) (by omega) HSB.out ?_))
              intro cv2 w6 happ
              have HS6 := hid_ (HS5.out.push happ)
              rw [HSO.out, ← HCE.out] at HS6
              clear happ
              go_wp2_with fail
              go_roundw
              case rel => first | exact ⟨i + 1, _, by omega, by go_num, HS6⟩ | ((repeat apply Exists.intro); exact ⟨⟨i + 1, _, by omega, by go_num, HS6⟩, rfl⟩)
              case measure => simp [intOf]; omega
        · have c1 : wr.cell? ⟨g, i, none⟩ = some (.bool true) := by
            rw [hst.out.sn.cell hin]; show some (Value.bool (seenQ S i [] i)) = _
            rw [seenQ_nil]
            have : SeenS S i i := seenS_self.2 hl
            simp [this]
          have HS2 := hid_ (hst.out.congr fun x hx => seenQ_no HS.out hl x)
          have HCE := hid_ ((orbsK_succ N S i).2 hl)
          clear hst hl
          go_wp2_with fail
          go_roundw
          case rel => exact ⟨i + 1, vals, by omega, by go_num, by rw [HCE.out]; exact HS2⟩
          case measure => simp [intOf]; omega
      · obtain rfl : i = N := by omega
        have HMS := hid_ (hst.out.m.msl)
        have HX := hid_ (HX1.out.trans hst.out.ex)
        clear hst
        go_wp2_with fail
        go_ret2
        exact ⟨orbR_of HP.out HMS.out, HX.out⟩
  · have HP := hid_ (show orbS n rows = ([], e) from by unfold orbS; rw [he, if_pos h0])
    have hb : (e != 0) = true := by simpa using h0
    clear h0 he
    go_enter Tryz.func18, Tryz.ntmps18
    go_wp2_with (go_at_call 44; refine HG.out.mono ?_; rintro e w1 ⟨rfl, hx1⟩; have HX1 := hid_ hx1; clear hx1)
    go_ret2
    exact ⟨orbR_of HP.out (msl_nil _), HX1.out⟩
end Go.Proofs.YtgfdhclpffakfaaGreat
