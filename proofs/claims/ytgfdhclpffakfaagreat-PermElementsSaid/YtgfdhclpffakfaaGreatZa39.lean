/- Walk of the reference's Group. -/
import Derived.Test.YtgfdhclpffakfaaGreatZa32
namespace Go.Proofs.YtgfdhclpffakfaaGreat
set_option linter.unusedVariables false
set_option linter.unusedSimpArgs false
open Go.RowKit

/-- The marks of a list of permutations. -/
def seenG (n : Nat) (q : List (Nat → Nat)) : Nat → Bool := fun c => q.any fun f => codeN f n == c
theorem seenG_app (n : Nat) (q : List (Nat → Nat)) (f : Nat → Nat) : upd (seenG n q) (codeN f n) true = seenG n (q ++ [f]) := by
  funext c
  unfold upd seenG
  rw [List.any_append]
  by_cases h : c = codeN f n
  · rw [if_pos h]; subst h; simp
  · rw [if_neg h]
    have : (codeN f n == c) = false := by simpa using fun e => h e.symm
    simp [this]
theorem seenG_iff {n : Nat} {q : List (Nat → Nat)} {f : Nat → Nat} (hn : n ≤ 6) (hq : ∀ g ∈ q, IsP n g) (hf : IsP n f) : seenG n q (codeN f n) = true ↔ f ∈ q := by
  unfold seenG
  rw [List.any_eq_true]
  constructor
  · rintro ⟨g, hg, e⟩
    have e : codeN g n = codeN f n := by simpa using e
    have := codeN_inj n (fun j hj => by have := (hq g hg).lt j hj; omega) (fun j hj => by have := hf.lt j hj; omega) e
    rw [← isP_ext (hq g hg) hf this]; exact hg
  · intro h; exact ⟨f, h, by simp⟩
/-- The marks and the own list of permutations. -/
structure GrS (w0 wr : World) (g n : Nat) (cv : Value) (q : List (Nat → Nat)) (vals : List Value) : Prop where
  sn : Own wr w0.heap.size 4 g 46656 (bv (seenG n q))
  m : MRows wr (g + 1) cv (q.map (li n)) vals
  ex : Ex w0 wr
  wb : g + 1 ≤ wr.heap.size
theorem own_rowL {w : World} {base g n : Nat} {f : Nat → Nat} (h : Own w base 3 g n (iv fun i => (f i : Int))) : w.ownsRow base 3 1 (.slice (some ⟨g, 0, none⟩) n n) (li n f).length (ints (li n f)) := by
  have e : ints (li n f) = vs n (iv fun i => (f i : Int)) := ints_il n _
  rw [li_len, e]; exact h
theorem rowMono {w : World} {base b' : Nat} {e : TypeId} {size : Nat} {v : Value} {n : Nat} {xs : List Value} (h : w.ownsRow base e size v n xs) (hb : b' ≤ base) : w.ownsRow b' e size v n xs := by
  refine ⟨h.1, ?_⟩
  rcases h.2 with h1 | ⟨g', cap, cur, h1, h2, h3⟩
  · exact .inl h1
  · exact .inr ⟨g', cap, cur, h1, Nat.le_trans hb h2, h3⟩
theorem grS_start {w0 w3 w4 : World} {g gu n c : Nat} (h3 : Own w3 g 4 g 46656 (fun _ => .bool false)) (hg : w0.heap.size = g) (hx3 : Ex w0 w3) (h4 : Own w4 w3.heap.size 3 gu n (iv fun i => (idP i : Int))) (hx4 : Ex w3 w4) (hs : g + 1 ≤ w3.heap.size) (hc : codeN idP n = c) :
    GrS w0 ((w4.alloc (.cells #[.slice (some ⟨gu, 0, none⟩) n n] 32)).setCell ⟨g, c, none⟩ (.bool true)) g n (.slice (some ⟨w4.heap.size, 0, none⟩) 1 1) [idP] [.slice (some ⟨gu, 0, none⟩) n n] := by
  subst hg hc
  have hx5 : Ex w4 (w4.alloc (.cells #[.slice (some ⟨gu, 0, none⟩) n n] 32)) := (Ex.refl w4).alloc _
  have hgu := h4.lt
  have hsz := hx4.size
  have hm : MRows (w4.alloc (.cells #[.slice (some ⟨gu, 0, none⟩) n n] 32)) (w0.heap.size + 1) (.slice (some ⟨w4.heap.size, 0, none⟩) 1 1) ([idP].map (li n)) [.slice (some ⟨gu, 0, none⟩) n n] := by
    refine ⟨rowMono (own_lit1 w4 _ _) (by omega), fun i r u h1 h2 => ?_, fun u hu => ?_⟩
    · cases i with
      | zero =>
        simp at h1 h2
        subst h1 h2
        exact ownsRow_ex (rowMono (own_rowL h4) hs) hx5
      | succ i => simp at h1
    · rw [List.mem_singleton.1 hu]
      exact .inr (fun e => by simp [Value.ownBlock] at e; omega)
  have hO := ((h3.ex hx4).ex hx5)
  refine ⟨?_, hm.setNe (by show w0.heap.size < _; omega) _, hO.exSet (Nat.le_refl _) ((hx3.trans hx4).trans hx5) _ _, ?_⟩
  · refine (hO.set _ _).congr fun j hj => ?_
    unfold upd bv seenG
    by_cases e : j = codeN idP n
    · rw [if_pos e]; subst e; simp
    · rw [if_neg e]
      have : (codeN idP n == j) = false := by simpa using fun h => e h.symm
      simp [this]
  · have := hx5.size
    simp [World.setCell] at *; omega
section
variable {w0 wr : World} {g n : Nat} {cv : Value} {q : List (Nat → Nat)} {vals : List Value}
theorem GrS.later (h : GrS w0 wr g n cv q vals) {w' : World} (hx : Ex wr w') : GrS w0 w' g n cv q vals :=
  ⟨h.sn.ex hx, h.m.ex hx, h.ex.trans hx, Nat.le_trans h.wb hx.size⟩
theorem GrS.mark (h : GrS w0 wr g n cv q vals) (c : Nat) : Own (wr.setCell ⟨g, c, none⟩ (.bool true)) w0.heap.size 4 g 46656 (bv (upd (seenG n q) c true)) ∧ MRows (wr.setCell ⟨g, c, none⟩ (.bool true)) (g + 1) cv (q.map (li n)) vals ∧ Ex w0 (wr.setCell ⟨g, c, none⟩ (.bool true)) ∧ g + 1 ≤ (wr.setCell ⟨g, c, none⟩ (.bool true)).heap.size :=
  ⟨by rw [← bv_upd]; exact h.sn.set c _, h.m.setNe (by show g < g + 1; omega) _, h.sn.exSet (Nat.le_refl _) h.ex c _, by have := h.wb; simpa [World.setCell] using this⟩
theorem grS_app {f : Nat → Nat} {u : Value} (hs : Own wr w0.heap.size 4 g 46656 (bv (upd (seenG n q) (codeN f n) true))) (hm : MRows wr (g + 1) cv (q.map (li n)) vals) (hx : Ex w0 wr)
    (hu : wr.ownsRow (g + 1) 3 1 u (li n f).length (ints (li n f))) (hal : Aprt u cv) {w' : World} {cv' : Value} (ha : Appd wr w' (g + 1) 32 1 cv cv' (q.map (li n)).length vals [u]) : GrS w0 w' g n cv' (q ++ [f]) (vals ++ [u]) := by
  have hne : cv.ownBlock ≠ some g := fun e => by have := (hm.cvo.lt _ e).1; omega
  refine ⟨by rw [← seenG_app]; exact (ha.arr hs hne).1, ?_, ha.ex hx (by have := hs.lt.1; omega), by have := ha.grow; have := hs.lt.2; omega⟩
  have := hm.app hu hal ha
  rwa [List.map_append]
end

/-- The list of all elements while it is being sorted. -/
structure AllP (n m : Nat) (S : List (Nat → Nat)) (A : Nat → Nat → Nat) : Prop where
  all : ∀ f, Gn S f ↔ ∃ i, i < m ∧ A i = f
  inj : ∀ a b, a < m → b < m → A a = A b → a = b
theorem swpP_at (A : Nat → Nat → Nat) {j m x : Nat} (hj : j + 1 < m) (hx : x < m) : ∃ y, y < m ∧ swpP A j x = A y ∧ swpP A j y = A x ∧ (y = if x = j + 1 then j else if x = j then j + 1 else x) := by
  by_cases e1 : x = j + 1
  · subst e1; exact ⟨j, by omega, by unfold swpP; rw [if_pos rfl], by unfold swpP; rw [if_neg (by omega), if_pos rfl], by rw [if_pos rfl]⟩
  · by_cases e2 : x = j
    · subst e2; exact ⟨x + 1, hj, by unfold swpP; rw [if_neg e1, if_pos rfl], by unfold swpP; rw [if_pos rfl], by rw [if_neg e1, if_pos rfl]⟩
    · exact ⟨x, hx, by unfold swpP; rw [if_neg e1, if_neg e2], by unfold swpP; rw [if_neg e1, if_neg e2], by rw [if_neg e1, if_neg e2]⟩
theorem AllP.swap {n m : Nat} {S : List (Nat → Nat)} {A : Nat → Nat → Nat} (h : AllP n m S A) {j : Nat} (hj : j + 1 < m) : AllP n m S (swpP A j) := by
  refine ⟨fun f => ?_, fun a b ha hb e => ?_⟩
  · rw [h.all f]
    constructor
    · rintro ⟨i, hi, rfl⟩
      obtain ⟨y, hy, _, e, _⟩ := swpP_at A hj hi
      exact ⟨y, hy, e⟩
    · rintro ⟨i, hi, rfl⟩
      obtain ⟨y, hy, e, _, _⟩ := swpP_at A hj hi
      exact ⟨y, hy, e.symm⟩
  · obtain ⟨y, hy, e1, _, k1⟩ := swpP_at A hj ha
    obtain ⟨z, hz, e2, _, k2⟩ := swpP_at A hj hb
    rw [e1, e2] at e
    have := h.inj y z hy hz e
    rw [this] at k1
    rw [k1] at k2
    by_cases a1 : a = j + 1
    · by_cases b1 : b = j + 1
      · omega
      · rw [if_pos a1, if_neg b1] at k2
        split at k2 <;> omega
    · rw [if_neg a1] at k2
      by_cases a2 : a = j
      · rw [if_pos a2] at k2
        split at k2
        · omega
        · split at k2 <;> omega
      · rw [if_neg a2] at k2
        split at k2
        · omega
        · split at k2 <;> omega
theorem AllP.isP {n m : Nat} {S : List (Nat → Nat)} {A : Nat → Nat → Nat} (h : AllP n m S A) (hS : ∀ s ∈ S, IsP n s) {i : Nat} (hi : i < m) : IsP n (A i) :=
  ((h.all _).2 ⟨i, hi, rfl⟩).isP hS
theorem AllP.of {n : Nat} {S q : List (Nat → Nat)} {k : Nat} (h : SrG S q k 0) (hk : q.length ≤ k) : AllP n q.length S (fun i => q.getD i idP) := by
  refine ⟨fun f => ?_, fun a b ha hb e => ?_⟩
  · rw [← h.fin hk f]
    constructor
    · intro hf
      obtain ⟨i, hi, e⟩ := List.getElem_of_mem hf
      exact ⟨i, hi, by rw [List.getD_eq_getElem?_getD, List.getElem?_eq_getElem hi]; exact e⟩
    · rintro ⟨i, hi, rfl⟩
      rw [List.getD_eq_getElem?_getD, List.getElem?_eq_getElem hi]
      exact List.getElem_mem hi
  · simp only [List.getD_eq_getElem?_getD, List.getElem?_eq_getElem ha, List.getElem?_eq_getElem hb, Option.getD_some] at e
    exact (List.getElem_inj h.nd).1 e
/-- The list in memory. -/
structure InS (w0 wr : World) (B n m cap : Nat) (V : Nat → Value) (A : Nat → Nat → Nat) : Prop where
  own : OwnC wr w0.heap.size 32 B m cap V
  row : ∀ i, i < m → wr.ownsRow w0.heap.size 3 1 (V i) n (ints (li n (A i))) ∧ (V i).ownBlock ≠ some B
  ex : Ex w0 wr
theorem InS.later {w0 wr : World} {B n m cap : Nat} {V : Nat → Value} {A : Nat → Nat → Nat} (h : InS w0 wr B n m cap V A) {w' : World} (hx : Ex wr w') : InS w0 w' B n m cap V A :=
  ⟨h.own.ex hx, fun i hi => ⟨ownsRow_ex (h.row i hi).1 hx, (h.row i hi).2⟩, h.ex.trans hx⟩
theorem InS.swap {w0 wr : World} {B n m cap : Nat} {V : Nat → Value} {A : Nat → Nat → Nat} (h : InS w0 wr B n m cap V A) {k : Nat} (hk : k + 1 < m) :
    InS w0 ((wr.setCell ⟨B, k + 1, none⟩ (V k)).setCell ⟨B, k, none⟩ (V (k + 1))) B n m cap (upd (upd V (k + 1) (V k)) k (V (k + 1))) (swpP A k) := by
  refine ⟨(h.own.set _ _).set _ _, fun i hi => ?_, (h.own.set _ _).exSet (Nat.le_refl _) (h.own.exSet (Nat.le_refl _) h.ex _ _) _ _⟩
  have keep : ∀ {v : Value} {xs : List Value}, wr.ownsRow w0.heap.size 3 1 v n xs → v.ownBlock ≠ some B → ((wr.setCell ⟨B, k + 1, none⟩ (V k)).setCell ⟨B, k, none⟩ (V (k + 1))).ownsRow w0.heap.size 3 1 v n xs ∧ v.ownBlock ≠ some B :=
    fun k1 k2 => ⟨ownsRow_setCell_ne (ownsRow_setCell_ne k1 k2 _) k2 _, k2⟩
  unfold upd swpP
  by_cases e1 : i = k
  · subst e1
    rw [if_pos rfl, if_neg (by omega), if_pos rfl]
    exact keep (h.row _ hk).1 (h.row _ hk).2
  · rw [if_neg e1]
    by_cases e2 : i = k + 1
    · subst e2
      rw [if_pos rfl, if_pos rfl]
      exact keep (h.row k (by omega)).1 (h.row k (by omega)).2
    · rw [if_neg e2, if_neg e2, if_neg e1]
      exact keep (h.row i hi).1 (h.row i hi).2
theorem GrS.ins {w0 wr : World} {g n : Nat} {cv : Value} {q : List (Nat → Nat)} {vals : List Value} (h : GrS w0 wr g n cv q vals) (hq : 1 ≤ q.length) :
    ∃ B cap V, cv = .slice (some ⟨B, 0, none⟩) q.length cap ∧ InS w0 wr B n q.length cap V (fun i => q.getD i idP) := by
  have hl := h.m.len
  have hml : (q.map (li n)).length = q.length := List.length_map _
  have hcv := h.m.cvo
  rw [hml] at hcv hl
  have hg := h.sn.lt.1
  have hvs : vals = vs q.length (fun i => vals.getD i (.bool false)) := by
    apply List.ext_getElem
    · rw [vs_length]; exact hl
    · intro i h1 h2
      have : (vs q.length (fun i => vals.getD i (.bool false)))[i]? = some (vals.getD i (.bool false)) := vs_get (by omega) _
      rw [List.getElem?_eq_getElem h2] at this
      injection this with this
      rw [this, List.getD_eq_getElem?_getD, List.getElem?_eq_getElem h1]; rfl
  have hcv2 := rowMono hcv (show w0.heap.size ≤ g + 1 by omega)
  have hcv3 := hcv2
  rw [hvs] at hcv3
  obtain ⟨B, cap, e, hO⟩ := ownC_of hcv3 hq
  refine ⟨B, cap, _, e, hO, fun i hi => ?_, h.ex⟩
  have h1 : (q.map (li n))[i]? = some (li n (q.getD i idP)) := by
    rw [List.getElem?_map, List.getD_eq_getElem?_getD, List.getElem?_eq_getElem hi]; rfl
  have h2 : vals[i]? = some (vals.getD i (.bool false)) := by
    rw [List.getD_eq_getElem?_getD, List.getElem?_eq_getElem (by omega)]; rfl
  have h3 := h.m.row i _ _ h1 h2
  rw [li_len] at h3
  refine ⟨rowMono h3 (by omega), fun e2 => ?_⟩
  rcases h.m.apart _ (List.mem_of_getElem? h2) with h4 | h4
  · rw [h4] at e2; cases e2
  · rw [e2, e] at h4; exact h4 rfl
theorem InS.msl {w0 wr : World} {B n m cap : Nat} {V : Nat → Value} {A : Nat → Nat → Nat} (h : InS w0 wr B n m cap V A) : MSl wr (.slice (some ⟨B, 0, none⟩) m cap) ((List.range m).map fun i => li n (A i)) := by
  refine ⟨vs m V, by rw [List.length_map, List.length_range]; exact Sl.own h.own, fun i r u h1 h2 => ?_⟩
  have hi : i < m := by have := (List.getElem?_eq_some_iff.1 h1).1; simpa using this
  rw [vs_get hi] at h2
  rw [List.getElem?_map, List.getElem?_range hi] at h1
  injection h1 with h1
  injection h2 with h2
  subst h1 h2
  have := Sl.own (h.row i hi).1
  unfold ISl
  rw [li_len]
  exact this
set_option maxRecDepth 100000 in
set_option maxHeartbeats 4000000 in
theorem rGroup_any (w : World) (n : Nat) (S : List (Nat → Nat)) (v : Value) (hv : MSl w v (S.map (li n))) (hS : ∀ s ∈ S, IsP n s) (hn1 : 1 ≤ n) (hn : n ≤ 6) (hSl : S.length ≤ 1000) :
    Calls Tryz.prog 62 #[.int .i64 n, v] w fun r w' => ∃ u A m, r = .returned u ∧ GrpL n m S A ∧ m ≤ 46656 ∧ MSl w' u ((List.range m).map fun i => li n (A i)) ∧ Ex w w' := by
  have HV := hid_ hv
  have HS := hid_ hS
  obtain ⟨a, cap, rfl, _, s2, _⟩ := hv.open
  unfold maxLen at s2
  have HSL := hid_ (show (S.map (li n)).length = S.length from List.length_map _)
  have HUN := hid_ (fun w1 => rUnit_any w1 n (by omega))
  clear hv hS
  go_enter Tryz.func62, Tryz.ntmps62
  go_wp2_with (first | (at_make; refine wpList_make_arr _ rfl _ _ 81 rfl 4 (.bool false) 1 Tryz.underlying81 infoBool rfl _ 46656 rfl rfl rfl (by omega) (by unfold maxLen; omega) ?_))
  intro w3 hown hx3
  obtain ⟨g, hg⟩ : ∃ g, w.heap.size = g := ⟨_, rfl⟩
  have HO3 := hid_ hown
  have HX3 := hid_ hx3
  have HGG := hid_ hg
  rw [hg] at HO3
  try simp only [hg]
  clear hown hx3 hg
  go_wp2_with (first | (go_at_call 40; refine (HUN.out _).mono ?_; rintro e w4 ⟨gu, rfl, hown4, hx4⟩; have HO4 := hid_ hown4; have HX4 := hid_ hx4; clear hown4 hx4))
  have HGS := hid_ (show g + 1 ≤ w3.heap.size from by have := HO3.out.lt; omega)
  have HCO := hid_ (code_any (w4.alloc (.cells #[.slice (some ⟨gu, 0, none⟩) n n] 32)) n idP _ (HO4.out.li.ex ((Ex.refl w4).alloc _)) hn (isP_id n).lt)
  have hcl := codeN_small (f := idP) hn fun j hj => by have := (isP_id n).lt j hj; omega
  obtain ⟨c0, hc0⟩ : ∃ c0, codeN idP n = c0 := ⟨_, rfl⟩
  have HC0 := hid_ hc0
  rw [hc0] at HCO hcl
  have c1 : (w4.alloc (.cells #[.slice (some ⟨gu, 0, none⟩) n n] 32)).frozen? ⟨g, c0, none⟩ = false := ((HO3.out.ex HX4.out).ex ((Ex.refl w4).alloc _)).frz _
  have c2 : (w4.alloc (.cells #[.slice (some ⟨gu, 0, none⟩) n n] 32)).cell? ⟨g, c0, none⟩ = some (.bool false) := ((HO3.out.ex HX4.out).ex ((Ex.refl w4).alloc _)).cell hcl
  have HG0 := hid_ (grS_start HO3.out HGG.out HX3.out HO4.out HX4.out HGS.out HC0.out)
  clear hc0
  go_wp2_with (go_at_call 88; refine HCO.out.mono ?_; rintro e w5 ⟨rfl, hw5⟩; subst hw5)
  go_loopw [6, 7] (fun cv' k' wr => ∃ (q : List (Nat → Nat)) (vals : List Value) (k : Nat), k ≤ q.length ∧ k' = .int .i64 k ∧ Hid (SrG S q k 0) ∧ Hid (GrS w wr g n cv' q vals)) (fun _ k' _ => 46656 - (intOf k').toNat)
  case atStart => exact ⟨[idP], _, 0, by simp, rfl, hid_ (SrG.start S), HG0⟩
  case round =>
    clear HG0 c1 c2
    obtain ⟨q, vals, k, hk, rfl, hsr, hgr⟩ := hrel
    obtain ⟨hq1, hq2⟩ := hsr.out.len hn HS.out
    have hml : (q.map (li n)).length = q.length := List.length_map _
    obtain ⟨cva, cvc, hcv⟩ := own_shape hgr.out.m.cvo
    rw [hml] at hcv
    subst hcv
    by_cases hkq : k < q.length
    · have HKQ := hid_ hkq
      go_wp2_with fail
      go_loopw [6, 8] (fun cv' j' wr => ∃ (q : List (Nat → Nat)) (vals : List Value) (j : Nat), j ≤ S.length ∧ j' = .int .i64 j ∧ Hid (SrG S q k j) ∧ Hid (k < q.length) ∧ Hid (GrS w wr g n cv' q vals)) (fun _ j' _ => S.length - (intOf j').toNat)
      case atStart => exact ⟨q, vals, 0, by omega, rfl, hsr, HKQ, hgr⟩
      case round =>
        clear hsr hgr hkq hq1 hq2 hml HKQ
        obtain ⟨q, vals, j, hj, rfl, hsr, hkq, hgr⟩ := hrel
        obtain ⟨hq1, hq2⟩ := hsr.out.len hn HS.out
        have hml : (q.map (li n)).length = q.length := List.length_map _
        obtain ⟨cva, cvc, hcv⟩ := own_shape hgr.out.m.cvo
        rw [hml] at hcv
        subst hcv
        have hkq := hkq.out
        by_cases hjs : j < S.length
        · obtain ⟨s, hs⟩ : ∃ s, S[j]? = some s := ⟨_, List.getElem?_eq_getElem hjs⟩
          obtain ⟨f, hf⟩ : ∃ f, q[k]? = some f := ⟨_, List.getElem?_eq_getElem hkq⟩
          have hsP := HS.out s (List.mem_of_getElem? hs)
          have hfP := (hsr.out.gn f (List.mem_of_getElem? hf)).isP HS.out
          obtain ⟨_, _, e1, _, _, h3⟩ := hgr.out.m.msl.open
          injection e1 with e1 e2 e3
          subst e1 e3
          clear e2
          obtain ⟨zb, zo, rfl, hzc⟩ := h3 (by rw [hml]; omega)
          clear h3
          obtain ⟨u1, c1, hu1⟩ := hzc k (li n f) (by rw [List.getElem?_map, hf]; rfl)
          obtain ⟨_, _, e1, _, _, h3⟩ := (HV.out.ex hgr.out.ex).open
          injection e1 with e1 e2 e3
          subst e1 e3
          clear e2
          obtain ⟨yb, yo, rfl, hyc⟩ := h3 (by rw [HSL.out]; omega)
          obtain ⟨u2, c2, hu2⟩ := hyc j (li n s) (by rw [List.getElem?_map, hs]; rfl)
          obtain ⟨ua1, uc1, rfl, _, _, _⟩ := isl_li hu1
          obtain ⟨ua2, uc2, rfl, _, _, _⟩ := isl_li hu2
          have HTH := hid_ (fun w5 (h5 : Ex wr w5) => rThen_any w5 n f s _ _ (hu1.ex h5) (hu2.ex h5) (by omega) hfP.lt)
          have HF := hid_ hf
          have HSJ := hid_ hs
          have HTP := hid_ (hfP.comp hsP)
          have i1 : (0 : Int) ≤ (k : Int) := by omega
          have i2 : (k : Int) < (q.length : Int) := by omega
          have i3 : (0 : Int) ≤ (j : Int) := by omega
          have i4 : (j : Int) < (S.length : Int) := by omega
          have hkq2 := hid_ hkq
          clear hf hs hsP hfP h3 hzc hyc hu1 hu2 hkq
          have HC1 := hid_ c1
          have HC2 := hid_ c2
          have HQ2 := hid_ hq2
          have HML := hid_ hml
          have HCL := hid_ hcl
          clear c1 c2 hml hq1 hq2 hcl hk
          go_wp2_with fail
          have G0 : Ex wr wr.drew := (Ex.refl wr).drew
          go_region_held3 (fun w' => w'.cell? ⟨zb, zo + k, none⟩ = some (.slice ua1 n uc1) ∧ w'.cell? ⟨yb, yo + j, none⟩ = some (.slice ua2 n uc2))
            (first | with_reducible exact ⟨G0.cell HC1.out, G0.cell HC2.out⟩ | with_reducible exact ⟨G1.cell HC1.out, G1.cell HC2.out⟩)
            ((go_at_call 63; (with_reducible refine (HTH.out _ G0).mono ?_); rintro e wx1 ⟨g5, rfl, hown5, hy1⟩; have G1 := G0.trans hy1; have HO5 := hid_ hown5; clear hown5))
          obtain ⟨c, hc⟩ : ∃ c, codeN (thenP f s) n = c := ⟨_, rfl⟩
          have hcc := codeN_small (f := thenP f s) hn fun j hj => by have := HTP.out.lt j hj; omega
          have HCO := hid_ (code_any wx1 n (thenP f s) _ HO5.out.li hn HTP.out.lt)
          have HCC := hid_ hc
          rw [hc] at HCO hcc
          have HSN := hid_ (hgr.out.sn.ex G1)
          by_cases hin : thenP f s ∈ q
          · have cS : wx1.cell? ⟨g, c, none⟩ = some (.bool true) := by
              have := HSN.out.cell hcc
              rw [this]
              show some (Value.bool (seenG n q c)) = _
              rw [← HCC.out, (seenG_iff hn (fun y hy => (hsr.out.gn y hy).isP HS.out) HTP.out).2 hin]
            have HSR2 := hid_ (hsr.out.hit HF.out HSJ.out hin)
            have HGR2 := hid_ (hgr.out.later G1)
            clear hin hc hsr hgr
            go_wp2_with (go_at_call 88; refine HCO.out.mono ?_; rintro e w5 ⟨rfl, hw5⟩; subst hw5)
            go_roundw
            case rel => first | exact ⟨q, vals, j + 1, by omega, by go_num, HSR2, hkq2, HGR2⟩ | ((repeat apply Exists.intro); exact ⟨⟨q, vals, j + 1, by omega, by go_num, HSR2, hkq2, HGR2⟩, rfl⟩)
            case measure => simp [intOf]; omega
          · have cS : wx1.cell? ⟨g, c, none⟩ = some (.bool false) := by
              have := HSN.out.cell hcc
              rw [this]
              show some (Value.bool (seenG n q c)) = _
              have h0 : seenG n q c ≠ true := fun h => hin ((seenG_iff hn (fun y hy => (hsr.out.gn y hy).isP HS.out) HTP.out).1 (by rw [HCC.out]; exact h))
              rw [Bool.eq_false_iff.2 h0]
            have cF : wx1.frozen? ⟨g, c, none⟩ = false := HSN.out.frz c
            have HSR2 := hid_ (hsr.out.new HF.out HSJ.out hin)
            have HGR2 := hid_ (hgr.out.later G1)
            obtain ⟨M1, M2, M3, M4⟩ := HGR2.out.mark c
            have HM1 := hid_ (show Own (wx1.setCell ⟨g, c, none⟩ (.bool true)) w.heap.size 4 g 46656 (bv (upd (seenG n q) (codeN (thenP f s) n) true)) from by rw [HCC.out]; exact M1)
            have HM2 := hid_ M2
            have HM3 := hid_ M3
            have HM4 := hid_ M4
            have hgl := hgr.out.wb
            have h5 : wr.heap.size ≤ g5 := HO5.out.lt.1
            have HROW := hid_ (show (wx1.setCell ⟨g, c, none⟩ (.bool true)).ownsRow (g + 1) 3 1 (.slice (some ⟨g5, 0, none⟩) n n) (li n (thenP f s)).length (ints (li n (thenP f s))) from
              rowMono (own_rowL (HO5.out.other (by show g5 ≠ g; omega) _)) hgl)
            have HAL := hid_ (show Aprt (.slice (some ⟨g5, 0, none⟩) n n) (.slice (some ⟨zb, zo, none⟩) q.length cvc) from .inr (fun e => by
              have h1 := (hgr.out.m.cvo.lt g5 e.symm).2
              omega))
            have HCVO := hid_ (show (wx1.setCell ⟨g, c, none⟩ (.bool true)).ownsRow (g + 1) 32 1 (.slice (some ⟨zb, zo, none⟩) q.length cvc) q.length vals from by have := HM2.out.cvo; rwa [List.length_map] at this)
            have hql := HQ2.out
            have HKQ3 := hid_ (show k < (q ++ [thenP f s]).length from by rw [List.length_append]; have := hkq2.out; omega)
            clear hin hc hsr hgr M1 M2 M3 M4 h5 hgl
            go_wp2_with (first | (go_at_call 88; refine HCO.out.mono ?_; rintro e w5 ⟨rfl, hw5⟩; subst hw5) | (at_builtin; refine wpList_append1 _ rfl _ _ 46 rfl (g + 1) 32 (.slice none 0 0) 1 24 Tryz.underlying46 infoIntsL rfl (by decide) _ q.length _ rfl HCVO.out [.slice (some ⟨g5, 0, none⟩) n n] 32 _ rfl (by simp) rfl (by simp [Value.oneCell']) (by unfold maxLen; omega) (by omega) HM4.out ?_))
            intro cv2 w4 happ
            have HGR3 := hid_ (grS_app HM1.out HM2.out HM3.out HROW.out HAL.out (by rw [List.length_map]; exact happ))
            clear happ cS cF
            go_wp2_with fail
            go_roundw
            case rel => first | exact ⟨_, _, j + 1, by omega, by go_num, HSR2, HKQ3, HGR3⟩ | ((repeat apply Exists.intro); exact ⟨⟨_, _, j + 1, by omega, by go_num, HSR2, HKQ3, HGR3⟩, rfl⟩)
            case measure => simp [intOf]; omega
        · obtain rfl : j = S.length := by omega
          have HSR2 := hid_ (hsr.out.next (Nat.le_refl _))
          clear hsr
          go_wp2_with fail
          go_roundw
          case rel => first | exact ⟨q, vals, k + 1, by omega, by go_num, HSR2, hgr⟩ | ((repeat apply Exists.intro); exact ⟨⟨q, vals, k + 1, by omega, by go_num, HSR2, hgr⟩, rfl⟩)
          case measure => simp [intOf]; omega
    · obtain rfl : k = q.length := by omega
      obtain ⟨B, cap, V0, hcv, hins⟩ := hgr.out.ins hq1
      have HAL := hid_ (AllP.of (n := n) hsr.out (Nat.le_refl _))
      have HINS := hid_ hins
      obtain ⟨m, hm⟩ : ∃ m, q.length = m := ⟨_, rfl⟩
      generalize (fun i => q.getD i idP) = A0 at *
      injection hcv with e1 e2 e3
      subst e1
      subst e3
      clear e2 hgr hsr hins hml
      rw [hm] at HAL HINS hq1 hq2
      try simp only [hm]
      clear hm
      go_wp2_with fail
      go_loopw [10] (fun i' wr => ∃ (i : Nat) (V : Nat → Value) (A : Nat → Nat → Nat), 1 ≤ i ∧ i ≤ m ∧ i' = .int .i64 i ∧ Hid (∀ a b, a < b → b < i → LexLt n (A a) (A b)) ∧ Hid (AllP n m S A) ∧ Hid (InS w wr B n m cvc V A)) (fun i' _ => m - (intOf i').toNat)
      case atStart => exact ⟨1, V0, A0, by omega, hq1, rfl, hid_ (fun a b h1 h2 => by omega), HAL, HINS⟩
      case round =>
        clear HAL HINS
        obtain ⟨i, V, A, hi1, him, rfl, hsrt, hall, hins⟩ := hrel
        by_cases hilt : i < m
        · have HII := hid_ (InsI.start hilt hsrt.out)
          clear hsrt
          go_wp2_with fail
          go_loopw [11] (fun j' wr => ∃ (j : Nat) (V : Nat → Value) (A : Nat → Nat → Nat), j ≤ i ∧ j' = .int .i64 j ∧ Hid (InsI n m i j A) ∧ Hid (AllP n m S A) ∧ Hid (InS w wr B n m cvc V A)) (fun j' _ => (intOf j').toNat)
          case atStart => exact ⟨i, V, A, by omega, rfl, HII, hall, hins⟩
          case round =>
            clear HII hall hins
            obtain ⟨j, V, A, hj, rfl, hii, hall, hins⟩ := hrel
            by_cases hj0 : j = 0
            · subst hj0
              have HST := hid_ (hii.out.stop fun k h => by omega)
              have g1 : decide ((0 : Int) < ((0 : Nat) : Int)) = false := rfl
              clear hii
              go_wp2_with fail
              go_quiet (fail)
              go_wp2_with fail
              go_roundw
              case rel => first | exact ⟨i + 1, V, A, by omega, by omega, by go_num, HST, hall, hid_ (hins.out.later ((Ex.refl _).drewN _))⟩ | ((repeat apply Exists.intro); exact ⟨⟨i + 1, V, A, by omega, by omega, by go_num, HST, hall, hid_ (hins.out.later ((Ex.refl _).drewN _))⟩, rfl⟩)
              case measure => simp [intOf]; omega
            · obtain ⟨k, hk⟩ : ∃ k, j = k + 1 := ⟨j - 1, by omega⟩
              have hjm : j < m := by omega
              have hkm : k < m := by omega
              have c1 := hins.out.own.cell hjm
              have c2 := hins.out.own.cell hkm
              obtain ⟨ua, uc, hu⟩ := own_shape (hins.out.row j hjm).1
              obtain ⟨va, vc, hv⟩ := own_shape (hins.out.row k hkm).1
              have hs1 : ISl wr (V j) (li n (A j)) := by
                have := Sl.own (hins.out.row j hjm).1
                unfold ISl
                rw [li_len]; exact this
              have hs2 : ISl wr (V k) (li n (A k)) := by
                have := Sl.own (hins.out.row k hkm).1
                unfold ISl
                rw [li_len]; exact this
              rw [hu] at c1 hs1
              rw [hv] at c2 hs2
              have HLS := hid_ (fun n' => Less_any (wr.drewN n') (li n (A j)) (li n (A k)) _ _ (hs1.ex ((Ex.refl wr).drewN n')) (hs2.ex ((Ex.refl wr).drewN n')) (by rw [li_len, li_len]; exact Nat.le_refl _))
              have HU := hid_ hu
              have HVV := hid_ hv
              have i1 : (0 : Int) ≤ (j : Int) := by omega
              have i2 : (j : Int) < (m : Int) := by omega
              have i3 : (0 : Int) ≤ (j : Int) - 1 := by omega
              have i4 : (j : Int) - 1 < (m : Int) := by omega
              have i5 : ((j : Int) - 1).toNat = k := by omega
              have i6 : decide ((0 : Int) < (j : Int)) = true := by simp; omega
              have i7 : decide (0 < j) = true := by simp; omega
              have HK := hid_ hk
              clear hu hv hs1 hs2
              by_cases hlt : LexLt n (A j) (A k)
              · have hb := lessS_li.2 hlt
                rw [hb] at HLS
                have HII := hid_ (show InsI n m i k (swpP A k) from by
                  have := hii.out
                  rw [hk] at this hlt
                  exact this.swap hlt)
                clear hlt hb hii hk hj0
                go_wp2_with fail
                go_quiet ((go_at_call 10; exact quiet_draw (HLS.out _)))
                go_wp2_with fail
                obtain ⟨W, hW⟩ : ∃ W, wr.drewN nq = W := ⟨_, rfl⟩
                have HWX := hid_ (show Ex wr W from by rw [← hW]; exact (Ex.refl wr).drewN nq)
                rw [hW]
                clear hW
                have HIN := hid_ (hins.out.later HWX.out)
                have d1 := HWX.out.cell c1
                have d2 := HWX.out.cell c2
                have f1 : W.frozen? ⟨B, j, none⟩ = false := (hins.out.later HWX.out).own.frz j
                have f2 : W.frozen? ⟨B, k, none⟩ = false := (hins.out.later HWX.out).own.frz k
                have HJK := hid_ (show j = k + 1 from HK.out)
                have HIS := hid_ (show InS w ((W.setCell ⟨B, j, none⟩ (.slice va n vc)).setCell ⟨B, k, none⟩ (.slice ua n uc)).drew B n m cvc (upd (upd V j (V k)) k (V j)) (swpP A k) from by
                  have h1 := HIN.out.swap (k := k) (by have := HK.out; omega)
                  rw [← HK.out] at h1
                  rw [HU.out, HVV.out] at h1
                  rw [HU.out, HVV.out]
                  exact h1.later (Ex.refl _).drew)
                have hc2 : (W.drew.setCell ⟨B, j, none⟩ (.slice va n vc)).cell? ⟨B, k, none⟩ = some (.slice va n vc) := by
                  rw [cell_set_off (by have := HK.out; omega)]
                  exact d2
                have HSW := hid_ (hall.out.swap (j := k) (by have := HK.out; omega))
                clear hins hall c1 c2
                go_region
                all_goals
                  go_wp2_with fail
                  exact ⟨⟨k, _, _, by have := HK.out; omega, by have := HK.out; congr 1; omega, HII, HSW, HIS⟩, by have := HK.out; simp only [intOf]; omega⟩
              · have hb : lessS (li n (A j)) (li n (A k)) = false := Bool.eq_false_iff.2 fun h => hlt (lessS_li.1 h)
                rw [hb] at HLS
                have HST := hid_ (hii.out.stop fun k' h => by
                  obtain rfl : k' = k := by omega
                  exact LexLt.total (hall.out.isP HS.out hjm) (hall.out.isP HS.out hkm) (fun e => by have := hall.out.inj _ _ hjm hkm e; omega) hlt)
                clear hlt hb hii hk hj0
                go_wp2_with fail
                go_quiet ((go_at_call 10; exact quiet_draw (HLS.out _)))
                go_wp2_with fail
                go_roundw
                case rel => first | exact ⟨i + 1, V, A, by omega, by omega, by go_num, HST, hall, hid_ (hins.out.later ((Ex.refl _).drewN _))⟩ | ((repeat apply Exists.intro); exact ⟨⟨i + 1, V, A, by omega, by omega, by go_num, HST, hall, hid_ (hins.out.later ((Ex.refl _).drewN _))⟩, rfl⟩)
                case measure => simp [intOf]; omega
        · obtain rfl : i = m := by omega
          have HF := hid_ (show GrpL n i S A from ⟨hall.out.all, hsrt.out⟩)
          have HM := hid_ hins.out.msl
          have HX := hid_ hins.out.ex
          clear hsrt hall hins
          go_wp2_with fail
          go_ret
          exact ⟨_, A, i, rfl, HF.out, hq2, HM.out, HX.out⟩
end Go.Proofs.YtgfdhclpffakfaaGreat
