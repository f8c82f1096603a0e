/- The chapter's example: the calls of awake. -/
import Derived.Test.YtgfdhclpffakfaaGreatZa17
import Derived.Test.YtgfdhclpffakfaaGreatZa33
import Derived.Test.YtgfdhclpffakfaaGreatZa34
import Derived.Test.YtgfdhclpffakfaaGreatZa35
namespace Go.Proofs.YtgfdhclpffakfaaGreat
set_option linter.unusedVariables false
set_option linter.unusedSimpArgs false
open Go.RowKit

theorem Ex.al (w : World) (o : Obj) : Ex w (w.alloc o) := (Ex.refl w).alloc o
theorem isl_lit (w : World) (l : List Int) (cs : Array Value) (t : TypeId) (h : (ints l).toArray = cs) {B n : Nat} (hB : w.heap.size = B) (hn : l.length = n) (hl : l.length ≤ 1000) : ISl (w.alloc (.cells cs t)) (.slice (some ⟨B, 0, none⟩) n n) l := by
  subst hB hn
  subst h
  refine ⟨by simp [ints], some ⟨w.heap.size, 0, none⟩, l.length, rfl, Nat.le_refl _, by unfold maxLen; omega, fun _ => ⟨_, 0, rfl, fun j u hu => ?_⟩⟩
  rw [Nat.zero_add]; simpa using hu
theorem msl_lit (w : World) (rows : List (List Int)) (us : List Value) (cs : Array Value) (t : TypeId) (hc : us.toArray = cs) (hl : us.length = rows.length) (h : ∀ (i : Nat) (r : List Int) (u : Value), rows[i]? = some r → us[i]? = some u → ISl w u r) {B n : Nat} (hB : w.heap.size = B) (hn : rows.length = n) (hl2 : rows.length ≤ 1000) :
    MSl (w.alloc (.cells cs t)) (.slice (some ⟨B, 0, none⟩) n n) rows := by
  subst hB hn hc
  refine ⟨us, ⟨by rw [hl, Nat.mul_one], some ⟨w.heap.size, 0, none⟩, rows.length, rfl, Nat.le_refl _, by unfold maxLen; omega, fun _ => ⟨_, 0, rfl, fun j u hu => ?_⟩⟩, fun i r u a b => (h i r u a b).ex (Ex.al _ _)⟩
  rw [Nat.zero_add]; simpa using hu
theorem rows1 {w : World} {l1 : List Int} {u1 : Value} (h1 : ISl w u1 l1) : ∀ (i : Nat) (r : List Int) (u : Value), [l1][i]? = some r → [u1][i]? = some u → ISl w u r := fun i r u a b => by
  match i, a, b with
  | 0, a, b => simp at a b; subst a b; exact h1
  | i + 1, a, b => simp at a
theorem rows2 {w : World} {l1 l2 : List Int} {u1 u2 : Value} (h1 : ISl w u1 l1) (h2 : ISl w u2 l2) : ∀ (i : Nat) (r : List Int) (u : Value), [l1, l2][i]? = some r → [u1, u2][i]? = some u → ISl w u r := fun i r u a b => by
  match i, a, b with
  | 0, a, b => simp at a b; subst a b; exact h1
  | 1, a, b => simp at a b; subst a b; exact h2
  | i + 2, a, b => simp at a
theorem rows3 {w : World} {l1 l2 l3 : List Int} {u1 u2 u3 : Value} (h1 : ISl w u1 l1) (h2 : ISl w u2 l2) (h3 : ISl w u3 l3) : ∀ (i : Nat) (r : List Int) (u : Value), [l1, l2, l3][i]? = some r → [u1, u2, u3][i]? = some u → ISl w u r := fun i r u a b => by
  match i, a, b with
  | 0, a, b => simp at a b; subst a b; exact h1
  | 1, a, b => simp at a b; subst a b; exact h2
  | 2, a, b => simp at a b; subst a b; exact h3
  | i + 3, a, b => simp at a
theorem lsl_lit2 (w : World) (l1 l2 : Lv) (u1 r1 u2 r2 : Value) (t : TypeId) (h1 : ISl w u1 l1.orb) (h2 : MSl w r1 l1.reps) (h3 : ISl w u2 l2.orb) (h4 : MSl w r2 l2.reps) {B : Nat} (hB : w.heap.size = B) {p1 p2 : Int} (e1 : l1.pt = p1) (e2 : l2.pt = p2) :
    LSl (w.alloc (.cells #[.int .i64 p1, u1, r1, .int .i64 p2, u2, r2] t)) (.slice (some ⟨B, 0, none⟩) 2 2) [l1, l2] := by
  subst hB e1 e2
  refine ⟨[(u1, r1), (u2, r2)], rfl, ⟨rfl, some ⟨w.heap.size, 0, none⟩, 2, rfl, Nat.le_refl _, by unfold maxLen; omega, fun _ => ⟨_, 0, rfl, fun j u hu => ?_⟩⟩, fun i l o a b => ?_⟩
  · rw [Nat.zero_add]; simpa [lvC] using hu
  · match i, a, b with
    | 0, a, b => simp at a b; subst a b; exact ⟨h1.ex (Ex.al _ _), h2.ex (Ex.al _ _)⟩
    | 1, a, b => simp at a b; subst a b; exact ⟨h3.ex (Ex.al _ _), h4.ex (Ex.al _ _)⟩
    | i + 2, a, b => simp at a
/-- Orbits out of the table. -/
theorem aw_rch {i y : Nat} : RchS (awG.map fnL) i y ↔ awT.any (fun r => fnL r i == y) = true := by
  rw [List.any_eq_true]
  constructor
  · rintro ⟨f, hf, e⟩
    obtain ⟨r, hr, rfl⟩ := (aw_gn f).1 hf
    exact ⟨r, hr, by simpa using e⟩
  · rintro ⟨r, hr, e⟩
    exact ⟨fnL r, (aw_gn _).2 ⟨r, hr, rfl⟩, by simpa using e⟩
theorem aw_lst {i : Nat} : LstS (awG.map fnL) i ↔ awT.all (fun r => decide (i ≤ fnL r i)) = true := by
  rw [List.all_eq_true]
  constructor
  · intro h r hr
    exact decide_eq_true (h _ ⟨fnL r, (aw_gn _).2 ⟨r, hr, rfl⟩, rfl⟩)
  · rintro h y ⟨f, hf, rfl⟩
    obtain ⟨r, hr, rfl⟩ := (aw_gn f).1 hf
    exact of_decide_eq_true (h r hr)
open Classical in
theorem aw_orb : orbS 4 awG = ([[0, 1, 2], [3]], 0) := by
  have h1 : gchk 4 awG = 0 := by decide
  have h2 : ∀ i, orbL 4 (awG.map fnL) i = ((List.range 4).filter fun y => awT.any (fun r => fnL r i == y)).map fun (y : Nat) => (y : Int) := fun i => by
    unfold orbL orbN
    congr 1
    apply List.filter_congr
    intro y _
    rw [Bool.eq_iff_iff, decide_eq_true_eq]
    exact aw_rch
  have h3 : orbsK 4 (awG.map fnL) 4 = ((List.range 4).filter fun i => awT.all (fun r => decide (i ≤ fnL r i))).map fun i => ((List.range 4).filter fun y => awT.any (fun r => fnL r i == y)).map fun (y : Nat) => (y : Int) := by
    unfold orbsK
    rw [show orbL 4 (awG.map fnL) = _ from funext h2]
    congr 1
    apply List.filter_congr
    intro i _
    rw [Bool.eq_iff_iff, decide_eq_true_eq]
    exact aw_lst
  unfold orbS
  rw [h1, if_neg (by decide)]
  show (orbsK 4 (awG.map fnL) 4, (0 : Int)) = _
  rw [h3]
  decide +kernel
theorem aw_cmp : cmpS awG = ([2, 1, 0, 3], 0) := by decide +kernel
theorem aw_inv : invS [1, 2, 0, 3] = ([2, 0, 1, 3], 0) := by decide +kernel
theorem aw_cyc : cycS [1, 2, 0, 3] = ([[0, 1, 2]], 0) := by decide +kernel
theorem aw_ord : ordS [1, 2, 0, 3] = (3, 0) := by decide +kernel
theorem aw_chk : chkS 4 awC = 0 := by
  have h := chk_chn (n := 4) (by omega) (by omega) awS_isP (suf_pts 4 (awG.map fnL))
  have h2 := aw_bld
  unfold bldS at h2
  rw [show gchk 4 awG = 0 by decide, if_neg (by decide)] at h2
  injection h2 with h2 _
  injection h2 with _ h2
  rw [← h2]
  show chkS 4 (chnK 4 (awG.map fnL) 4) = 0
  rw [chnK_pts]; exact h
theorem aw_siz : sizL awC = 6 := by decide
theorem aw_chn : awC = chnK 4 (awG.map fnL) 4 := by
  have h2 := aw_bld
  unfold bldS at h2
  rw [show gchk 4 awG = 0 by decide, if_neg (by decide)] at h2
  injection h2 with h2 _
  injection h2 with _ h2
  exact h2.symm
theorem aw_sfe {p : List Int} (h1 : pchk p = 0) (h2 : p.length = 4) : sftE 4 awC p = 0 := by
  unfold sftE
  rw [aw_chk, if_neg (by decide), h1, if_neg (by decide), h2, if_neg (by decide)]
/-- A point that is kept is kept by the identity's representative. -/
theorem lst_self {n : Nat} {S : List (Nat → Nat)} (hS : ∀ s ∈ S, IsP n s) (b : Nat) : lstP n S b b = idP := by
  refine lstP_eq hS ⟨.one, fix_id _, rfl, fun g hg hF hgb => ?_⟩
  have hP := hg.isP hS
  rcases first_diff (n := n) (f := idP) (g := g) n (Nat.le_refl _) with h | ⟨i, h1, h2, h3⟩
  · exact .inl h
  · refine .inr ⟨i, h1, h2, ?_⟩
    have h4 : FixP i g := fun j hj => (h2 j hj).symm
    have := FixP.ge hP h4
    have h3 : i ≠ g i := h3
    show i < g i
    omega
theorem sft_fix {n : Nat} {S : List (Nat → Nat)} (hS : ∀ s ∈ S, IsP n s) : ∀ (bs : List Nat) (f : Nat → Nat) (k : Nat), (∀ b ∈ bs, b < n ∧ f b = b) → sftA n S bs f k = (f, k + bs.length)
  | [], f, k, _ => rfl
  | b :: bs, f, k, h => by
    obtain ⟨h1, h2⟩ := h b (by simp)
    unfold sftA
    rw [h2, if_pos (mem_orbM.2 ⟨h1, idP, .one, fix_id _, rfl⟩), lst_self hS, invP_id]
    have := sft_fix hS bs f (k + 1) fun c hc => h c (by simp [hc])
    rw [show thenP f idP = f from rfl, this, List.length_cons, show k + 1 + bs.length = k + (bs.length + 1) by omega]
theorem aw_sft : sftS 4 awC [0, 1, 3, 2] = ([0, 1, 3, 2], 2, 0) := by
  obtain ⟨n, f, S, h1, h2, h3, h4, h5, h6, h7, h8, h9⟩ := sftE_ok (aw_sfe (p := [0, 1, 3, 2]) (by decide) rfl)
  have hn : n = 4 := by omega
  subst hn
  have hlen : (ptsK 4 S).length = 2 := by
    have := congrArg List.length h7
    rw [List.length_map] at this
    exact this.symm
  have hb : ∀ b ∈ ptsK 4 S, b < 4 ∧ f b = b := fun b hb => by
    have hm : levB 4 S b ∈ awC := by rw [h7]; exact List.mem_map.2 ⟨b, hb, rfl⟩
    have hp : ∀ l ∈ awC, l.pt = 0 ∨ l.pt = 1 := by decide
    have h0 : (b : Int) = 0 ∨ (b : Int) = 1 := hp _ hm
    have f0 : (f 0 : Int) = 0 := by
      have := li_get (n := 4) (i := 0) (by omega) f
      rw [← h5] at this
      injection this with this
      exact this.symm
    have f1 : (f 1 : Int) = 1 := by
      have := li_get (n := 4) (i := 1) (by omega) f
      rw [← h5] at this
      injection this with this
      exact this.symm
    rcases h0 with h0 | h0
    · have : b = 0 := by omega
      subst this
      exact ⟨by omega, by omega⟩
    · have : b = 1 := by omega
      subst this
      exact ⟨by omega, by omega⟩
  rw [h9, sft_fix h6 _ f 0 hb, hlen, ← h5]
theorem aw_has : hasB 4 awC [1, 2, 0, 3] = true := by
  have e : ([1, 2, 0, 3] : List Int) = li 4 (fnL [1, 2, 0, 3]) := (li_fnL (l := [1, 2, 0, 3]) (by decide)).symm
  have hP : IsP 4 (fnL [1, 2, 0, 3]) := isP_fnL (l := [1, 2, 0, 3]) (by decide)
  have h0 := aw_sfe (p := [1, 2, 0, 3]) (by decide) rfl
  rw [e] at h0 ⊢
  refine (hasB_iff (n := 4) awS_isP hP aw_chn h0).2 (Gn.of ?_)
  exact List.mem_map.2 ⟨[1, 2, 0, 3], by decide, rfl⟩
theorem k_cmp (w : World) (v : Value) (hv : MSl w v awG) : Calls Tryz.prog 14 #[v] w fun r w' => ∃ a c, r = .returned (.tuple #[.slice a 4 c, .int .i64 0]) ∧ ISl w' (.slice a 4 c) [2, 1, 0, 3] ∧ Ex w w' :=
  (Compose_any w awG v hv).mono fun r w' ⟨⟨u, h1, h2⟩, h3⟩ => by
    rw [aw_cmp] at h1 h2
    obtain ⟨a, c, rfl, _⟩ := h2.open
    exact ⟨a, c, h1, h2, h3⟩
theorem k_inv (w : World) (v : Value) (hv : ISl w v [1, 2, 0, 3]) : Calls Tryz.prog 15 #[v] w fun r w' => ∃ a c, r = .returned (.tuple #[.slice a 4 c, .int .i64 0]) ∧ ISl w' (.slice a 4 c) [2, 0, 1, 3] ∧ Ex w w' :=
  (Inverse_any w _ v hv).mono fun r w' ⟨⟨u, h1, h2⟩, h3⟩ => by
    rw [aw_inv] at h1 h2
    obtain ⟨a, c, rfl, _⟩ := h2.open
    exact ⟨a, c, h1, h2, h3⟩
theorem k_cyc (w : World) (v : Value) (hv : ISl w v [1, 2, 0, 3]) : Calls Tryz.prog 16 #[v] w fun r w' => ∃ a c, r = .returned (.tuple #[.slice a 1 c, .int .i64 0]) ∧ MSl w' (.slice a 1 c) [[0, 1, 2]] ∧ Ex w w' :=
  (Cycles_any w _ v hv).mono fun r w' ⟨⟨u, h1, h2⟩, h3⟩ => by
    rw [aw_cyc] at h1 h2
    obtain ⟨a, c, rfl, _⟩ := h2.open
    exact ⟨a, c, h1, h2, h3⟩
theorem k_ord (w : World) (v : Value) (hv : ISl w v [1, 2, 0, 3]) : Calls Tryz.prog 17 #[v] w fun r w' => r = .returned (.tuple #[.int .i64 3, .int .i64 0]) ∧ Ex w w' :=
  (Order_any w _ v hv).mono fun r w' ⟨h1, h3⟩ => by
    rw [aw_ord] at h1
    exact ⟨h1, h3⟩
theorem k_orb (w : World) (v : Value) (hv : MSl w v awG) : Calls Tryz.prog 18 #[.int .i64 4, v] w fun r w' => ∃ a c, r = .returned (.tuple #[.slice a 2 c, .int .i64 0]) ∧ MSl w' (.slice a 2 c) [[0, 1, 2], [3]] ∧ Ex w w' :=
  (Orbits_any sortOK w 4 awG v hv (by decide)).mono fun r w' ⟨⟨u, h1, h2⟩, h3⟩ => by
    rw [aw_orb] at h1 h2
    obtain ⟨a, c, rfl, _⟩ := h2.open
    exact ⟨a, c, h1, h2, h3⟩
theorem k_bld (w : World) (v : Value) (hv : MSl w v awG) : Calls Tryz.prog 19 #[.int .i64 4, v] w fun r w' => ∃ a c, r = .returned (.tuple #[.agg #[.int .i64 4, .slice a 2 c], .int .i64 0]) ∧ LSl w' (.slice a 2 c) awC ∧ Ex w w' :=
  (Build_any w 4 awG v hv (by decide)).mono fun r w' ⟨⟨u, h1, h2⟩, h3⟩ => by
    rw [aw_bld] at h1 h2
    obtain ⟨a, c, rfl, _⟩ := h2.open
    exact ⟨a, c, h1, h2, h3⟩
theorem k_siz (w : World) (v : Value) (hv : LSl w v awC) : Calls Tryz.prog 22 #[.agg #[.int .i64 4, v]] w fun r w' => ∃ a n c, r = .returned (.tuple #[.slice a n c, .int .i64 0]) ∧ NSl w' (.slice a n c) 6 ∧ Ex w w' :=
  (Size_any w 4 awC v hv (by decide)).mono fun r w' ⟨h1, h3⟩ => by
    rcases h1 with h1 | ⟨_, u, h1, h2⟩
    · exact absurd aw_chk h1.1
    · rw [aw_siz] at h2
      obtain ⟨n, f, _, _, h4⟩ := id h2
      obtain ⟨a, c, rfl, _⟩ := h4.open
      exact ⟨a, n, c, h1, h2, h3⟩
theorem k_sft (w : World) (v u : Value) (hv : LSl w v awC) (hu : ISl w u [0, 1, 3, 2]) : Calls Tryz.prog 23 #[.agg #[.int .i64 4, v], u] w fun r w' => ∃ a c, r = .returned (.tuple #[.slice a 4 c, .int .i64 2, .int .i64 0]) ∧ ISl w' (.slice a 4 c) [0, 1, 3, 2] ∧ Ex w w' :=
  (Sift_any w 4 awC v hv (by decide) _ u hu).mono fun r w' ⟨⟨u, h1, h2⟩, h3⟩ => by
    rw [aw_sft] at h1 h2
    obtain ⟨a, c, rfl, _⟩ := h2.open
    exact ⟨a, c, h1, h2, h3⟩
theorem k_has (w : World) (v u : Value) (hv : LSl w v awC) (hu : ISl w u [1, 2, 0, 3]) : Calls Tryz.prog 24 #[.agg #[.int .i64 4, v], u] w fun r w' => r = .returned (.tuple #[.bool true, .int .i64 0]) ∧ Ex w w' :=
  (Has_any w 4 awC v hv (by decide) _ u hu).mono fun r w' ⟨h1, h3⟩ => by
    rw [aw_has, aw_sfe (by decide) rfl] at h1
    exact ⟨h1, h3⟩
theorem k_chk (w : World) (v : Value) (hv : LSl w v awC) : Calls Tryz.prog 27 #[.agg #[.int .i64 4, v]] w fun r w' => r = .returned (.int .i64 0) ∧ Ex w w' :=
  (CheckChain_any w 4 awC v hv (by decide)).mono fun r w' ⟨h1, h3⟩ => by
    rw [aw_chk] at h1
    exact ⟨h1, h3⟩
theorem k_same (w : World) (v u : Value) (hv : LSl w v awC) (hu : LSl w u awC) : Calls Tryz.prog 25 #[.agg #[.int .i64 4, v], .agg #[.int .i64 4, u]] w fun r w' => r = .returned (.bool true) ∧ Ex w w' :=
  (rSame2_any w 4 4 awC awC v u hv hu).mono fun r w' ⟨⟨b, h1, h2⟩, h3⟩ => by
    rw [h2.2 ⟨rfl, rfl⟩] at h1
    exact ⟨h1, h3⟩
theorem k_cmp6 (w : World) (v u : Value) (hv : NSl w v 6) (hu : NSl w u 6) : Calls Tryz.prog 26 #[v, u] w fun r w' => r = .returned (.int .i64 0) ∧ w' = w :=
  (rCmp_any w 6 6 v u hv hu (smallN_of (by omega)) (smallN_of (by omega))).mono fun r w' ⟨⟨z, h1, h2⟩, h3⟩ => by
    rw [h2.2 rfl] at h1
    exact ⟨h1, h3⟩
theorem k_twice (w : World) (v : Value) (hv : ISl w v [0, 0]) : Calls Tryz.prog 28 #[v] w fun r w' => r = .returned (.int .i64 18) ∧ Ex w w' :=
  (Check_any w [0, 0] v hv).mono fun r w' ⟨h1, h3⟩ => by
    rw [show pchk [0, 0] = 18 by decide] at h1
    exact ⟨h1, h3⟩
theorem k_ints (w : World) (v u : Value) (l k : List Int) (hv : ISl w v l) (hu : ISl w u k) (h : l = k) : Calls Tryz.prog 20 #[v, u] w fun r w' => r = .returned (.bool true) ∧ Ex w w' :=
  (SameInts_any w l k v u hv hu).mono fun r w' ⟨h1, n, h3⟩ => by
    rw [decide_eq_true h] at h1
    exact ⟨h1, by rw [h3]; exact (Ex.refl w).drewN n⟩
theorem k_rows (w : World) (v u : Value) (l k : List (List Int)) (hv : MSl w v l) (hu : MSl w u k) (h : l = k) : Calls Tryz.prog 21 #[v, u] w fun r w' => r = .returned (.bool true) ∧ Ex w w' :=
  (SameRows_any w l k v u hv hu).mono fun r w' ⟨h1, n, h3⟩ => by
    rw [decide_eq_true h] at h1
    exact ⟨h1, by rw [h3]; exact (Ex.refl w).drewN n⟩
/- gen_aw -/
def awW1 (w : World) : World := w.alloc (.cells #[.int .i64 0, .int .i64 1, .int .i64 2] 3)
def awW2 (w : World) : World := (awW1 w).alloc (.cells #[.int .i64 0, .int .i64 1, .int .i64 2, .int .i64 3] 3)
def awW3 (w : World) : World := (awW2 w).alloc (.cells #[.int .i64 1, .int .i64 0, .int .i64 2, .int .i64 3] 3)
def awW4 (w : World) : World := (awW3 w).alloc (.cells #[.int .i64 2, .int .i64 0, .int .i64 1, .int .i64 3] 3)
def awW5 (w : World) : World := (awW4 w).alloc (.cells #[.slice (some ⟨w.heap.size + 1, 0, none⟩) 4 4, .slice (some ⟨w.heap.size + 1 + 1, 0, none⟩) 4 4, .slice (some ⟨w.heap.size + 1 + 1 + 1, 0, none⟩) 4 4] 32)
def awW6 (w : World) : World := (awW5 w).alloc (.cells #[.int .i64 1, .int .i64 2] 3)
def awW7 (w : World) : World := (awW6 w).alloc (.cells #[.int .i64 0, .int .i64 1, .int .i64 2, .int .i64 3] 3)
def awW8 (w : World) : World := (awW7 w).alloc (.cells #[.int .i64 0, .int .i64 2, .int .i64 1, .int .i64 3] 3)
def awW9 (w : World) : World := (awW8 w).alloc (.cells #[.slice (some ⟨w.heap.size + 1 + 1 + 1 + 1 + 1 + 1, 0, none⟩) 4 4, .slice (some ⟨w.heap.size + 1 + 1 + 1 + 1 + 1 + 1 + 1, 0, none⟩) 4 4] 32)
def awW10 (w : World) : World := (awW9 w).alloc (.cells #[.int .i64 0, .slice (some ⟨w.heap.size, 0, none⟩) 3 3, .slice (some ⟨w.heap.size + 1 + 1 + 1 + 1, 0, none⟩) 3 3, .int .i64 1, .slice (some ⟨w.heap.size + 1 + 1 + 1 + 1 + 1, 0, none⟩) 2 2, .slice (some ⟨w.heap.size + 1 + 1 + 1 + 1 + 1 + 1 + 1 + 1, 0, none⟩) 2 2] 56)
def awW11 (w : World) : World := (awW10 w).alloc (.cells #[.int .i64 4, .slice (some ⟨w.heap.size + 1 + 1 + 1 + 1 + 1 + 1 + 1 + 1 + 1, 0, none⟩) 2 2] 24)
theorem awW_eq (w : World) : (((((((((((w.alloc (.cells #[.int .i64 0, .int .i64 1, .int .i64 2] 3)).alloc (.cells #[.int .i64 0, .int .i64 1, .int .i64 2, .int .i64 3] 3)).alloc (.cells #[.int .i64 1, .int .i64 0, .int .i64 2, .int .i64 3] 3)).alloc (.cells #[.int .i64 2, .int .i64 0, .int .i64 1, .int .i64 3] 3)).alloc (.cells #[.slice (some ⟨w.heap.size + 1, 0, none⟩) 4 4, .slice (some ⟨w.heap.size + 1 + 1, 0, none⟩) 4 4, .slice (some ⟨w.heap.size + 1 + 1 + 1, 0, none⟩) 4 4] 32)).alloc (.cells #[.int .i64 1, .int .i64 2] 3)).alloc (.cells #[.int .i64 0, .int .i64 1, .int .i64 2, .int .i64 3] 3)).alloc (.cells #[.int .i64 0, .int .i64 2, .int .i64 1, .int .i64 3] 3)).alloc (.cells #[.slice (some ⟨w.heap.size + 1 + 1 + 1 + 1 + 1 + 1, 0, none⟩) 4 4, .slice (some ⟨w.heap.size + 1 + 1 + 1 + 1 + 1 + 1 + 1, 0, none⟩) 4 4] 32)).alloc (.cells #[.int .i64 0, .slice (some ⟨w.heap.size, 0, none⟩) 3 3, .slice (some ⟨w.heap.size + 1 + 1 + 1 + 1, 0, none⟩) 3 3, .int .i64 1, .slice (some ⟨w.heap.size + 1 + 1 + 1 + 1 + 1, 0, none⟩) 2 2, .slice (some ⟨w.heap.size + 1 + 1 + 1 + 1 + 1 + 1 + 1 + 1, 0, none⟩) 2 2] 56)).alloc (.cells #[.int .i64 4, .slice (some ⟨w.heap.size + 1 + 1 + 1 + 1 + 1 + 1 + 1 + 1 + 1, 0, none⟩) 2 2] 24)) = awW11 w := rfl
theorem alloc_sz (w : World) (o : Obj) : (w.alloc o).heap.size = w.heap.size + 1 := by simp
theorem awW_sz1 (w : World) : (awW1 w).heap.size = w.heap.size + 1 := by unfold awW1; rw [alloc_sz]
theorem awW_sz2 (w : World) : (awW2 w).heap.size = w.heap.size + 1 + 1 := by unfold awW2; rw [alloc_sz, awW_sz1]
theorem awW_sz3 (w : World) : (awW3 w).heap.size = w.heap.size + 1 + 1 + 1 := by unfold awW3; rw [alloc_sz, awW_sz2]
theorem awW_sz4 (w : World) : (awW4 w).heap.size = w.heap.size + 1 + 1 + 1 + 1 := by unfold awW4; rw [alloc_sz, awW_sz3]
theorem awW_sz5 (w : World) : (awW5 w).heap.size = w.heap.size + 1 + 1 + 1 + 1 + 1 := by unfold awW5; rw [alloc_sz, awW_sz4]
theorem awW_sz6 (w : World) : (awW6 w).heap.size = w.heap.size + 1 + 1 + 1 + 1 + 1 + 1 := by unfold awW6; rw [alloc_sz, awW_sz5]
theorem awW_sz7 (w : World) : (awW7 w).heap.size = w.heap.size + 1 + 1 + 1 + 1 + 1 + 1 + 1 := by unfold awW7; rw [alloc_sz, awW_sz6]
theorem awW_sz8 (w : World) : (awW8 w).heap.size = w.heap.size + 1 + 1 + 1 + 1 + 1 + 1 + 1 + 1 := by unfold awW8; rw [alloc_sz, awW_sz7]
theorem awW_sz9 (w : World) : (awW9 w).heap.size = w.heap.size + 1 + 1 + 1 + 1 + 1 + 1 + 1 + 1 + 1 := by unfold awW9; rw [alloc_sz, awW_sz8]
theorem awW_sz10 (w : World) : (awW10 w).heap.size = w.heap.size + 1 + 1 + 1 + 1 + 1 + 1 + 1 + 1 + 1 + 1 := by unfold awW10; rw [alloc_sz, awW_sz9]
theorem awW_facts (w : World) : LSl (awW11 w) (.slice (some ⟨w.heap.size + 1 + 1 + 1 + 1 + 1 + 1 + 1 + 1 + 1, 0, none⟩) 2 2) awC ∧ (awW11 w).cell? ⟨w.heap.size + 1 + 1 + 1 + 1 + 1 + 1 + 1 + 1 + 1 + 1, 0, none⟩ = some (.int .i64 4) ∧ (awW11 w).cell? ⟨w.heap.size + 1 + 1 + 1 + 1 + 1 + 1 + 1 + 1 + 1 + 1, 1, none⟩ = some (.slice (some ⟨w.heap.size + 1 + 1 + 1 + 1 + 1 + 1 + 1 + 1 + 1, 0, none⟩) 2 2) ∧ Ex w (awW11 w) := by
  have o1 := (isl_lit w [0, 1, 2] _ _ rfl rfl rfl (by decide) : ISl (awW1 w) _ _).ex (show Ex (awW1 w) (awW9 w) from (((((((Ex.al _ _).alloc _).alloc _).alloc _).alloc _).alloc _).alloc _).alloc _)
  have r1 := (isl_lit (awW1 w) [0, 1, 2, 3] _ _ rfl (awW_sz1 w) rfl (by decide) : ISl (awW2 w) _ _).ex (show Ex (awW2 w) (awW4 w) from (Ex.al _ _).alloc _)
  have r2 := (isl_lit (awW2 w) [1, 0, 2, 3] _ _ rfl (awW_sz2 w) rfl (by decide) : ISl (awW3 w) _ _).ex (show Ex (awW3 w) (awW4 w) from Ex.al _ _)
  have r3 := (isl_lit (awW3 w) [2, 0, 1, 3] _ _ rfl (awW_sz3 w) rfl (by decide) : ISl (awW4 w) _ _)
  have m1 := (msl_lit (awW4 w) [[0, 1, 2, 3], [1, 0, 2, 3], [2, 0, 1, 3]] [.slice (some ⟨w.heap.size + 1, 0, none⟩) 4 4, .slice (some ⟨w.heap.size + 1 + 1, 0, none⟩) 4 4, .slice (some ⟨w.heap.size + 1 + 1 + 1, 0, none⟩) 4 4] _ _ rfl rfl (rows3 r1 r2 r3) (awW_sz4 w) rfl (by decide) : MSl (awW5 w) _ _).ex (show Ex (awW5 w) (awW9 w) from (((Ex.al _ _).alloc _).alloc _).alloc _)
  have o2 := (isl_lit (awW5 w) [1, 2] _ _ rfl (awW_sz5 w) rfl (by decide) : ISl (awW6 w) _ _).ex (show Ex (awW6 w) (awW9 w) from ((Ex.al _ _).alloc _).alloc _)
  have r4 := (isl_lit (awW6 w) [0, 1, 2, 3] _ _ rfl (awW_sz6 w) rfl (by decide) : ISl (awW7 w) _ _).ex (show Ex (awW7 w) (awW8 w) from Ex.al _ _)
  have r5 := (isl_lit (awW7 w) [0, 2, 1, 3] _ _ rfl (awW_sz7 w) rfl (by decide) : ISl (awW8 w) _ _)
  have m2 := (msl_lit (awW8 w) [[0, 1, 2, 3], [0, 2, 1, 3]] [.slice (some ⟨w.heap.size + 1 + 1 + 1 + 1 + 1 + 1, 0, none⟩) 4 4, .slice (some ⟨w.heap.size + 1 + 1 + 1 + 1 + 1 + 1 + 1, 0, none⟩) 4 4] _ _ rfl rfl (rows2 r4 r5) (awW_sz8 w) rfl (by decide) : MSl (awW9 w) _ _)
  have hl := (lsl_lit2 (awW9 w) ⟨0, [0, 1, 2], [[0, 1, 2, 3], [1, 0, 2, 3], [2, 0, 1, 3]]⟩ ⟨1, [1, 2], [[0, 1, 2, 3], [0, 2, 1, 3]]⟩ _ _ _ _ 56 o1 m1 o2 m2 (awW_sz9 w) rfl rfl : LSl (awW10 w) _ _).ex (show Ex (awW10 w) (awW11 w) from Ex.al _ _)
  have hb := boxCh_facts (awW10 w) 4 (.slice (some ⟨w.heap.size + 1 + 1 + 1 + 1 + 1 + 1 + 1 + 1 + 1, 0, none⟩) 2 2)
  rw [awW_sz10 w] at hb
  exact ⟨hl, hb.1, hb.2.1, (show Ex w (awW11 w) from ((((((((((Ex.al _ _).alloc _).alloc _).alloc _).alloc _).alloc _).alloc _).alloc _).alloc _).alloc _).alloc _)⟩
/- gen_aw end -/

set_option maxRecDepth 100000 in
set_option maxHeartbeats 8000000 in
theorem awake_any (w : World) : Calls Tryz.prog 4 #[] w fun r w' => r = .returned (.bool true) ∧ Ex w w' := by
  have hA0 := isl_lit w [1, 2, 0, 3] #[.int .i64 1, .int .i64 2, .int .i64 0, .int .i64 3] 3 rfl rfl rfl (by decide)
  have hB0 := isl_lit (w.alloc (.cells #[.int .i64 1, .int .i64 2, .int .i64 0, .int .i64 3] 3)) [0, 2, 1, 3] #[.int .i64 0, .int .i64 2, .int .i64 1, .int .i64 3] 3 rfl (B := w.heap.size + 1) (by simp) rfl (by decide)
  have hA1 := hA0.ex (Ex.al _ (.cells #[.int .i64 0, .int .i64 2, .int .i64 1, .int .i64 3] 3))
  have e0 : Ex w ((w.alloc (.cells #[.int .i64 1, .int .i64 2, .int .i64 0, .int .i64 3] 3)).alloc (.cells #[.int .i64 0, .int .i64 2, .int .i64 1, .int .i64 3] 3)) := (Ex.al _ _).alloc _
  have hs0 : ((w.alloc (.cells #[.int .i64 1, .int .i64 2, .int .i64 0, .int .i64 3] 3)).alloc (.cells #[.int .i64 0, .int .i64 2, .int .i64 1, .int .i64 3] 3)).heap.size = w.heap.size + 1 + 1 := by simp
  go_enter Tryz.func4, Tryz.ntmps4
  go_wp2_with fail
  generalize (w.alloc (.cells #[.int .i64 1, .int .i64 2, .int .i64 0, .int .i64 3] 3)).alloc (.cells #[.int .i64 0, .int .i64 2, .int .i64 1, .int .i64 3] 3) = w0 at *
  obtain ⟨B0, hB0'⟩ : ∃ B, w.heap.size = B := ⟨_, rfl⟩
  rw [hB0'] at hB0 hA1 hs0
  try simp only [hB0']
  clear hB0' hA0
  refine (k_cmp _ _ (msl_lit w0 awG [(.slice (some ⟨B0, 0, none⟩) 4 4), (.slice (some ⟨B0 + 1, 0, none⟩) 4 4)] _ 32 rfl rfl (rows2 hA1 hB0) hs0 rfl (by decide))).mono ?_
  rintro e w1 ⟨ca, cc, rfl, hc, hx1⟩
  have X1 := (Ex.al w0 _).trans hx1
  have hA := hA1.ex X1
  have hB := hB0.ex X1
  have EX := hid_ (e0.trans X1)
  have HC := hid_ hc
  clear hA1 hB0 hs0 e0 X1 hx1 hc
  go_wp2_with fail
  refine (k_inv _ _ hA).mono ?_
  rintro e w2 ⟨ia, ic, rfl, hi, hx⟩
  have HI := hid_ hi
  have HC := hid_ (HC.out.ex hx)
  have EX := hid_ (EX.out.trans hx)
  have hA := hA.ex hx
  have hB := hB.ex hx
  clear hi hx
  go_wp2_with fail
  refine (k_cyc _ _ hA).mono ?_
  rintro e w3 ⟨ya, yc, rfl, hy, hx⟩
  have HY := hid_ hy
  have HI := hid_ (HI.out.ex hx)
  have HC := hid_ (HC.out.ex hx)
  have EX := hid_ (EX.out.trans hx)
  have hA := hA.ex hx
  have hB := hB.ex hx
  clear hy hx
  go_wp2_with fail
  refine (k_ord _ _ hA).mono ?_
  rintro e w4 ⟨rfl, hx⟩
  have HY := hid_ (HY.out.ex hx)
  have HI := hid_ (HI.out.ex hx)
  have HC := hid_ (HC.out.ex hx)
  have EX := hid_ (EX.out.trans hx)
  have hA := hA.ex hx
  have hB := hB.ex hx
  clear hx
  go_wp2_with fail
  refine (k_orb _ _ (msl_lit w4 awG [(.slice (some ⟨B0, 0, none⟩) 4 4), (.slice (some ⟨B0 + 1, 0, none⟩) 4 4)] _ 32 rfl rfl (rows2 hA hB) rfl rfl (by decide))).mono ?_
  rintro e w5 ⟨oa, oc, rfl, ho, hx⟩
  have hx := (Ex.al w4 _).trans hx
  have HO := hid_ ho
  have HY := hid_ (HY.out.ex hx)
  have HI := hid_ (HI.out.ex hx)
  have HC := hid_ (HC.out.ex hx)
  have EX := hid_ (EX.out.trans hx)
  have hA := hA.ex hx
  have hB := hB.ex hx
  clear ho hx
  go_wp2_with fail
  refine (k_bld _ _ (msl_lit w5 awG [(.slice (some ⟨B0, 0, none⟩) 4 4), (.slice (some ⟨B0 + 1, 0, none⟩) 4 4)] _ 32 rfl rfl (rows2 hA hB) rfl rfl (by decide))).mono ?_
  rintro e w6 ⟨la, lc, rfl, hl, hx⟩
  obtain ⟨c0, c1, ec⟩ := boxCh_facts w6 4 (.slice la 2 lc)
  have hx := ((Ex.al w5 _).trans hx).trans ec
  have HL := hid_ (hl.ex ec)
  have HO := hid_ (HO.out.ex hx)
  have HY := hid_ (HY.out.ex hx)
  have HI := hid_ (HI.out.ex hx)
  have HC := hid_ (HC.out.ex hx)
  have EX := hid_ (EX.out.trans hx)
  have hA := hA.ex hx
  clear hl hx ec hB
  go_wp2_with fail
  generalize hw7 : w6.alloc (.cells #[.int .i64 4, .slice la 2 lc] 24) = w7 at *
  obtain ⟨Q, hQ⟩ : ∃ Q, w6.heap.size = Q := ⟨_, rfl⟩
  rw [hQ] at c0 c1
  have hs7 : w7.heap.size = Q + 1 := by rw [← hw7, ← hQ]; simp
  try simp only [hQ]
  clear hw7 hQ
  refine (k_ints _ _ _ [2, 1, 0, 3] _ (HC.out.ex (Ex.al _ _)) (isl_lit w7 [2, 1, 0, 3] _ _ rfl hs7 rfl (by decide)) rfl).mono ?_
  rintro e w8 ⟨rfl, hx⟩
  have hx := (Ex.al w7 _).trans hx
  have HL := hid_ (HL.out.ex hx)
  have HO := hid_ (HO.out.ex hx)
  have HY := hid_ (HY.out.ex hx)
  have HI := hid_ (HI.out.ex hx)
  have EX := hid_ (EX.out.trans hx)
  have hA := hA.ex hx
  have c0 := hx.cell c0
  have c1 := hx.cell c1
  clear hx HC hs7
  go_wp2_with fail
  refine (k_ints _ _ _ [2, 0, 1, 3] _ (HI.out.ex (Ex.al _ _)) (isl_lit w8 [2, 0, 1, 3] _ _ rfl rfl rfl (by decide)) rfl).mono ?_
  rintro e w9 ⟨rfl, hx⟩
  have hx := (Ex.al w8 _).trans hx
  have HL := hid_ (HL.out.ex hx)
  have HO := hid_ (HO.out.ex hx)
  have HY := hid_ (HY.out.ex hx)
  have EX := hid_ (EX.out.trans hx)
  have hA := hA.ex hx
  have c0 := hx.cell c0
  have c1 := hx.cell c1
  clear hx HI
  go_wp2_with fail
  have hz := isl_lit w9 [0, 1, 2] #[.int .i64 0, .int .i64 1, .int .i64 2] 3 rfl rfl rfl (by decide)
  have hsz : (w9.alloc (.cells #[.int .i64 0, .int .i64 1, .int .i64 2] 3)).heap.size = w9.heap.size + 1 := by simp
  refine (k_rows _ _ _ [[0, 1, 2]] _ (HY.out.ex ((Ex.al _ _).trans (Ex.al _ _))) (msl_lit _ [[0, 1, 2]] [.slice (some ⟨w9.heap.size, 0, none⟩) 3 3] _ _ rfl rfl (rows1 hz) hsz rfl (by decide)) rfl).mono ?_
  rintro e w10 ⟨rfl, hx⟩
  have hx := ((Ex.al w9 _).trans (Ex.al _ _)).trans hx
  have HL := hid_ (HL.out.ex hx)
  have HO := hid_ (HO.out.ex hx)
  have EX := hid_ (EX.out.trans hx)
  have hA := hA.ex hx
  have c0 := hx.cell c0
  have c1 := hx.cell c1
  clear hx HY hz hsz
  go_wp2_with fail
  have hz := (isl_lit w10 [0, 1, 2] #[.int .i64 0, .int .i64 1, .int .i64 2] 3 rfl rfl rfl (by decide)).ex (Ex.al _ (.cells #[.int .i64 3] 3))
  have hz2 := isl_lit (w10.alloc (.cells #[.int .i64 0, .int .i64 1, .int .i64 2] 3)) [3] #[.int .i64 3] 3 rfl (B := w10.heap.size + 1) (by simp) rfl (by decide)
  have hsz : ((w10.alloc (.cells #[.int .i64 0, .int .i64 1, .int .i64 2] 3)).alloc (.cells #[.int .i64 3] 3)).heap.size = w10.heap.size + 1 + 1 := by simp
  refine (k_rows _ _ _ [[0, 1, 2], [3]] _ (HO.out.ex (((Ex.al _ _).trans (Ex.al _ _)).trans (Ex.al _ _))) (msl_lit _ [[0, 1, 2], [3]] [.slice (some ⟨w10.heap.size, 0, none⟩) 3 3, .slice (some ⟨w10.heap.size + 1, 0, none⟩) 1 1] _ _ rfl rfl (rows2 hz hz2) hsz rfl (by decide)) rfl).mono ?_
  rintro e w11 ⟨rfl, hx⟩
  have hx := (((Ex.al w10 _).trans (Ex.al _ _)).trans (Ex.al _ _)).trans hx
  have HL := hid_ (HL.out.ex hx)
  have EX := hid_ (EX.out.trans hx)
  have hA := hA.ex hx
  have c0 := hx.cell c0
  have c1 := hx.cell c1
  clear hx HO hz hz2 hsz
  go_upto_region 13 with fail
  rw [awW_eq]
  obtain ⟨hw, d0, d1, hx⟩ := awW_facts w11
  have HL := hid_ (HL.out.ex hx)
  have EX := hid_ (EX.out.trans hx)
  have hA := hA.ex hx
  have c0 := hx.cell c0
  have c1 := hx.cell c1
  obtain ⟨D, hD⟩ : ∃ D, w11.heap.size + 1 + 1 + 1 + 1 + 1 + 1 + 1 + 1 + 1 + 1 = D := ⟨_, rfl⟩
  obtain ⟨D9, hD9⟩ : ∃ D, w11.heap.size + 1 + 1 + 1 + 1 + 1 + 1 + 1 + 1 + 1 = D := ⟨_, rfl⟩
  rw [hD] at d0 d1
  rw [hD9] at d1 hw
  try simp only [hD]
  try simp only [hD9]
  generalize awW11 w11 = w12 at *
  have HW := hid_ hw
  clear hD hD9 hw hx
  go_wp2_with fail
  refine (k_siz _ _ HL.out).mono ?_
  rintro e w13 ⟨sa, sn, sc, rfl, hs, hx⟩
  have HS := hid_ hs
  have HL := hid_ (HL.out.ex hx)
  have HW := hid_ (HW.out.ex hx)
  have EX := hid_ (EX.out.trans hx)
  have c0 := hx.cell c0
  have c1 := hx.cell c1
  have d0 := hx.cell d0
  have d1 := hx.cell d1
  have hA := hA.ex hx
  clear hs hx
  go_wp2_with fail
  refine (k_sft _ _ _ (HL.out.ex (Ex.al _ _)) (isl_lit w13 [0, 1, 3, 2] _ _ rfl rfl rfl (by decide))).mono ?_
  rintro e w14 ⟨fa, fc, rfl, hf, hx⟩
  have hx := (Ex.al w13 _).trans hx
  have HF := hid_ hf
  have HL := hid_ (HL.out.ex hx)
  have HW := hid_ (HW.out.ex hx)
  have HS := hid_ (HS.out.ex hx)
  have EX := hid_ (EX.out.trans hx)
  have c0 := hx.cell c0
  have c1 := hx.cell c1
  have d0 := hx.cell d0
  have d1 := hx.cell d1
  have hA := hA.ex hx
  clear hf hx
  go_wp2_with fail
  refine (k_has _ _ _ HL.out hA).mono ?_
  rintro e w15 ⟨rfl, hx⟩
  have HL := hid_ (HL.out.ex hx)
  have HW := hid_ (HW.out.ex hx)
  have HS := hid_ (HS.out.ex hx)
  have HF := hid_ (HF.out.ex hx)
  have EX := hid_ (EX.out.trans hx)
  have c0 := hx.cell c0
  have c1 := hx.cell c1
  have d0 := hx.cell d0
  have d1 := hx.cell d1
  clear hx hA
  go_wp2_with fail
  refine (k_same _ _ _ HL.out HW.out).mono ?_
  rintro e w16 ⟨rfl, hx⟩
  have HL := hid_ (HL.out.ex hx)
  have HW := hid_ (HW.out.ex hx)
  have HS := hid_ (HS.out.ex hx)
  have HF := hid_ (HF.out.ex hx)
  have EX := hid_ (EX.out.trans hx)
  have c0 := hx.cell c0
  have c1 := hx.cell c1
  have d0 := hx.cell d0
  have d1 := hx.cell d1
  clear hx
  go_wp2_with fail
  have hx := Ex.al w16 (.cells #[.int .u32 6] 65)
  have H6 := hid_ (show NSl (w16.alloc (.cells #[.int .u32 6] 65)) (.slice (some ⟨w16.heap.size, 0, none⟩) 1 1) 6 from ⟨1, fun _ => 6, ⟨fun _ _ => by decide, fun _ _ => by omega⟩, by decide, NL.mk (Nat.le_refl _) (by unfold maxLen; omega) fun _ => ⟨_, 0, rfl, fun j hj => by
    obtain rfl : j = 0 := by omega
    simp⟩⟩)
  refine (k_cmp6 _ _ _ (HS.out.ex hx) H6.out).mono ?_
  rintro e w17 ⟨rfl, rfl⟩
  have HL := hid_ (HL.out.ex hx)
  have HF := hid_ (HF.out.ex hx)
  have EX := hid_ (EX.out.trans hx)
  have c0 := hx.cell c0
  have c1 := hx.cell c1
  have d0 := hx.cell d0
  have d1 := hx.cell d1
  clear hx
  go_wp2_with fail
  have hsz : (w16.alloc (.cells #[.int .u32 6] 65)).heap.size = w16.heap.size + 1 := by simp
  refine (k_ints _ _ _ [0, 1, 3, 2] _ (HF.out.ex (Ex.al _ _)) (isl_lit (w16.alloc (.cells #[.int .u32 6] 65)) [0, 1, 3, 2] _ _ rfl hsz rfl (by decide)) rfl).mono ?_
  rintro e w18 ⟨rfl, hx⟩
  have hx := (Ex.al _ _).trans hx
  have HL := hid_ (HL.out.ex hx)
  have EX := hid_ (EX.out.trans hx)
  have c0 := hx.cell c0
  have c1 := hx.cell c1
  clear hx hsz d0 d1 HF HS HW
  go_wp2_with fail
  refine (k_chk _ _ HL.out).mono ?_
  rintro e w19 ⟨rfl, hx⟩
  have EX := hid_ (EX.out.trans hx)
  clear hx
  go_wp2_with fail
  refine (k_twice _ _ (isl_lit w19 [0, 0] _ _ rfl rfl rfl (by decide))).mono ?_
  rintro e w20 ⟨rfl, hx⟩
  have EX := hid_ (EX.out.trans ((Ex.al _ _).trans hx))
  clear hx
  go_wp2_with fail
  go_ret
  exact ⟨rfl, EX.out⟩
end Go.Proofs.YtgfdhclpffakfaaGreat
