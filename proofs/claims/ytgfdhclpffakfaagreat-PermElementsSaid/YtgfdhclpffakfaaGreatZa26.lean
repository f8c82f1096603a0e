/- Plain: sifting through the canonical chain; the chain of the representatives from a level on. -/
import Derived.Test.YtgfdhclpffakfaaGreatZa25
namespace Go.Proofs.YtgfdhclpffakfaaGreat
set_option linter.unusedVariables false
set_option linter.unusedSimpArgs false

/-- A nonempty set of functions has a least one in lexicographic order. -/
theorem lex_least {P : (Nat → Nat) → Prop} (h : ∃ f, P f) (n : Nat) : ∃ f, P f ∧ ∀ g, P g → LexLe n f g := by
  have key : ∀ i, ∃ f, P f ∧ ∀ g, P g → (∀ j, j < i → f j = g j) ∨ ∃ k, k < i ∧ (∀ j, j < k → f j = g j) ∧ f k < g k := by
    intro i
    induction i with
    | zero =>
      obtain ⟨f, hf⟩ := h
      exact ⟨f, hf, fun g _ => .inl fun j hj => by omega⟩
    | succ i ih =>
      obtain ⟨f, hf, hl⟩ := ih
      have hmin : ∀ N f', P f' → (∀ j, j < i → f j = f' j) → f' i ≤ N → ∃ f'', P f'' ∧ (∀ j, j < i → f j = f'' j) ∧ ∀ g, P g → (∀ j, j < i → f j = g j) → f'' i ≤ g i := by
        intro N
        induction N with
        | zero => exact fun f' h1 h2 h3 => ⟨f', h1, h2, fun g _ _ => by omega⟩
        | succ N ihN =>
          intro f' h1 h2 h3
          by_cases hex : ∃ g, P g ∧ (∀ j, j < i → f j = g j) ∧ g i ≤ N
          · obtain ⟨g, g1, g2, g3⟩ := hex
            exact ihN g g1 g2 g3
          · refine ⟨f', h1, h2, fun g g1 g2 => ?_⟩
            apply Classical.byContradiction
            intro hn
            exact hex ⟨g, g1, g2, by omega⟩
      obtain ⟨f', h1, h2, h3⟩ := hmin (f i) f hf (fun _ _ => rfl) (Nat.le_refl _)
      refine ⟨f', h1, fun g hg => ?_⟩
      rcases hl g hg with h4 | ⟨k, k1, k2, k3⟩
      · have h5 := h3 g hg h4
        by_cases e : f' i = g i
        · exact .inl fun j hj => by
            by_cases e2 : j = i
            · subst e2; exact e
            · rw [← h2 j (by omega), h4 j (by omega)]
        · exact .inr ⟨i, by omega, fun j hj => by rw [← h2 j hj, h4 j hj], by omega⟩
      · exact .inr ⟨k, by omega, fun j hj => by rw [← h2 j (by omega), k2 j hj], by rw [← h2 k k1]; exact k3⟩
  obtain ⟨f, hf, hl⟩ := key n
  exact ⟨f, hf, hl⟩
open Classical in
theorem mem_orbM {S : List (Nat → Nat)} {b m x : Nat} : x ∈ orbM S b m ↔ x < m ∧ ∃ f, Gn S f ∧ FixP b f ∧ f b = x := by
  unfold orbM
  rw [List.mem_filter, List.mem_range, decide_eq_true_eq]
theorem lst_of_orb {n : Nat} {S : List (Nat → Nat)} (hS : ∀ s ∈ S, IsP n s) {b x : Nat} (h : ∃ f, Gn S f ∧ FixP b f ∧ f b = x) : LeastP n S b x (lstP n S b x) := by
  obtain ⟨f, ⟨h1, h2, h3⟩, h4⟩ := lex_least (P := fun f => Gn S f ∧ FixP b f ∧ f b = x) h n
  have hl : LeastP n S b x f := ⟨h1, h2, h3, fun g k1 k2 k3 => h4 g ⟨k1, k2, k3⟩⟩
  rw [lstP_eq hS hl]; exact hl
/-- The points of the levels from b on. -/
inductive Suf (n : Nat) (S : List (Nat → Nat)) : Nat → List Nat → Prop
  | nil : Suf n S n []
  | skip {b : Nat} {bs : List Nat} : b < n → (orbM S b n).length ≤ 1 → Suf n S (b + 1) bs → Suf n S b bs
  | cons {b : Nat} {bs : List Nat} : b < n → 1 < (orbM S b n).length → Suf n S (b + 1) bs → Suf n S b (b :: bs)
theorem Suf.le {n : Nat} {S : List (Nat → Nat)} {b : Nat} {bs : List Nat} (h : Suf n S b bs) : b ≤ n := by
  cases h <;> omega
theorem Suf.ge {n : Nat} {S : List (Nat → Nat)} {b : Nat} {bs : List Nat} (h : Suf n S b bs) : ∀ c ∈ bs, b ≤ c ∧ c < n := by
  induction h with
  | nil => intro c hc; cases hc
  | skip h1 _ _ ih => intro c hc; have := ih c hc; omega
  | cons h1 _ _ ih =>
    intro c hc
    rcases List.mem_cons.1 hc with e | e
    · subst e; omega
    · have := ih c e; omega
noncomputable def ptsFrom (n : Nat) (S : List (Nat → Nat)) (k : Nat) : List Nat := ((List.range k).map fun i => n - k + i).filter fun b => decide (1 < (orbM S b n).length)
theorem suf_of (n : Nat) (S : List (Nat → Nat)) : ∀ k, k ≤ n → Suf n S (n - k) (ptsFrom n S k)
  | 0, _ => by
    rw [Nat.sub_zero]; exact .nil
  | k + 1, hk => by
    have ih := suf_of n S k (by omega)
    have he : ((List.range (k + 1)).map fun i => n - (k + 1) + i) = (n - (k + 1)) :: ((List.range k).map fun i => n - k + i) := by
      rw [List.range_succ_eq_map, List.map_cons, List.map_map]
      congr 1
      exact List.map_congr_left fun i _ => by show n - (k + 1) + (i + 1) = n - k + i; omega
    have hb : n - k = n - (k + 1) + 1 := by omega
    rw [hb] at ih
    by_cases h : 1 < (orbM S (n - (k + 1)) n).length
    · have : ptsFrom n S (k + 1) = (n - (k + 1)) :: ptsFrom n S k := by
        unfold ptsFrom; rw [he, List.filter_cons, if_pos (decide_eq_true h)]
      rw [this]
      exact .cons (by omega) h ih
    · have : ptsFrom n S (k + 1) = ptsFrom n S k := by
        unfold ptsFrom; rw [he, List.filter_cons, if_neg (by simpa using h)]
      rw [this]
      exact .skip (by omega) (by omega) ih
noncomputable def ptsK (n : Nat) (S : List (Nat → Nat)) : List Nat := (List.range n).filter fun b => decide (1 < (orbM S b n).length)
theorem suf_pts (n : Nat) (S : List (Nat → Nat)) : Suf n S 0 (ptsK n S) := by
  have h := suf_of n S n (Nat.le_refl _)
  rw [Nat.sub_self] at h
  have : ptsFrom n S n = ptsK n S := by
    unfold ptsFrom ptsK
    congr 1
    rw [Nat.sub_self]
    simp
  rwa [this] at h
theorem chnK_pts (n : Nat) (S : List (Nat → Nat)) : chnK n S n = (ptsK n S).map (levB n S) := by
  unfold chnK ptsK
  rw [List.filter_map]
  congr 1
  apply List.filter_congr
  intro b _
  show decide (1 < (il' (orbM S b n)).length) = _
  rw [il'_len]
/-- A level with one point: all fix it. -/
theorem orb_one {n : Nat} {S : List (Nat → Nat)} {b : Nat} (hb : b < n) (h : (orbM S b n).length ≤ 1) {f : Nat → Nat} (hf : Gn S f) (hP : IsP n f) (hF : FixP b f) : FixP (b + 1) f := fun i hi => by
  by_cases e : i = b
  · subst e
    have h1 : i ∈ orbM S i n := mem_orbM.2 ⟨hb, idP, .one, fix_id _, rfl⟩
    have h2 : f i ∈ orbM S i n := mem_orbM.2 ⟨hP.lt i hb, f, hf, hF, rfl⟩
    obtain ⟨j, hj, e1⟩ := List.getElem_of_mem h1
    obtain ⟨k, hk, e2⟩ := List.getElem_of_mem h2
    have : j = k := by omega
    subst this
    rw [← e2, e1]
  · exact hF i (by omega)
/-- Sifting: what is left, and the number of levels done. -/
noncomputable def sftA (n : Nat) (S : List (Nat → Nat)) : List Nat → (Nat → Nat) → Nat → (Nat → Nat) × Nat
  | [], f, k => (f, k)
  | b :: bs, f, k => if f b ∈ orbM S b n then sftA n S bs (thenP f (invP n (lstP n S b (f b)))) (k + 1) else (f, k)
theorem sftA_isP {n : Nat} {S : List (Nat → Nat)} (hS : ∀ s ∈ S, IsP n s) : ∀ (bs : List Nat) (f : Nat → Nat) (k : Nat), IsP n f → IsP n (sftA n S bs f k).1
  | [], f, k, h => h
  | b :: bs, f, k, h => by
    unfold sftA
    split
    · rename_i hm
      exact sftA_isP hS bs _ _ (h.comp ((lst_of_orb hS (mem_orbM.1 hm).2).gn.isP hS).inv)
    · exact h
theorem sftA_le (n : Nat) (S : List (Nat → Nat)) : ∀ (bs : List Nat) (f : Nat → Nat) (k : Nat), (sftA n S bs f k).2 ≤ k + bs.length
  | [], f, k => Nat.le_refl _
  | b :: bs, f, k => by
    unfold sftA
    split
    · have := sftA_le n S bs (thenP f (invP n (lstP n S b (f b)))) (k + 1)
      rw [List.length_cons]; omega
    · rw [List.length_cons]; exact Nat.le_add_right _ _
/-- The representatives of levels. -/
noncomputable def repsOf (n : Nat) (S : List (Nat → Nat)) (bs : List Nat) : List (Nat → Nat) := bs.flatMap fun b => (orbM S b n).map (lstP n S b)
theorem gensL_lev (n : Nat) (S : List (Nat → Nat)) (bs : List Nat) : gensL (bs.map (levB n S)) = (repsOf n S bs).map (li n) := by
  unfold gensL repsOf
  rw [List.flatMap_map, List.map_flatMap]
  congr 1
  funext b
  show repM n S b n = _
  unfold repM
  rw [List.map_map]; rfl
theorem repsOf_gn {n : Nat} {S : List (Nat → Nat)} (hS : ∀ s ∈ S, IsP n s) {bs : List Nat} {r : Nat → Nat} (h : r ∈ repsOf n S bs) : ∃ b ∈ bs, Gn S r ∧ FixP b r := by
  unfold repsOf at h
  obtain ⟨b, hb, h1⟩ := List.mem_flatMap.1 h
  obtain ⟨x, hx, rfl⟩ := List.mem_map.1 h1
  have := lst_of_orb hS (mem_orbM.1 hx).2
  exact ⟨b, hb, this.gn, this.fix⟩
theorem repsOf_isP {n : Nat} {S : List (Nat → Nat)} (hS : ∀ s ∈ S, IsP n s) (bs : List Nat) : ∀ r ∈ repsOf n S bs, IsP n r := fun r hr => by
  obtain ⟨_, _, h, _⟩ := repsOf_gn hS hr
  exact h.isP hS
/-- One step of sifting an element. -/
theorem sift_step {n : Nat} {S : List (Nat → Nat)} (hS : ∀ s ∈ S, IsP n s) {b : Nat} (hb : b < n) {f : Nat → Nat} (hf : Gn S f) (hF : FixP b f) :
    f b ∈ orbM S b n ∧ Gn S (thenP f (invP n (lstP n S b (f b)))) ∧ FixP (b + 1) (thenP f (invP n (lstP n S b (f b)))) ∧ thenP (thenP f (invP n (lstP n S b (f b)))) (lstP n S b (f b)) = f := by
  have hP := hf.isP hS
  have hm : f b ∈ orbM S b n := mem_orbM.2 ⟨hP.lt b hb, f, hf, hF, rfl⟩
  have hl := lst_of_orb hS (mem_orbM.1 hm).2
  have hrP := hl.gn.isP hS
  exact ⟨hm, hf.mul (hl.gn.inv hS), hF.div hrP hl.fix hl.at_, hrP.cancel⟩
theorem sift_all {n : Nat} {S : List (Nat → Nat)} (hS : ∀ s ∈ S, IsP n s) {b : Nat} {bs : List Nat} (h : Suf n S b bs) : ∀ (f : Nat → Nat) (k : Nat), Gn S f → FixP b f → sftA n S bs f k = (idP, k + bs.length) ∧ Gn (repsOf n S bs) f := by
  induction h with
  | nil =>
    intro f k hf hF
    have := FixP.all (hf.isP hS) hF
    subst this
    exact ⟨rfl, .one⟩
  | skip h1 h2 _ ih => exact fun f k hf hF => ih f k hf (orb_one h1 h2 hf (hf.isP hS) hF)
  | @cons b bs h1 h2 _ ih =>
    intro f k hf hF
    obtain ⟨k1, k2, k3, k4⟩ := sift_step hS h1 hf hF
    obtain ⟨m1, m2⟩ := ih _ (k + 1) k2 k3
    constructor
    · unfold sftA
      rw [if_pos k1, m1, List.length_cons, show k + 1 + bs.length = k + (bs.length + 1) by omega]
    · rw [← k4]
      refine Gn.mul (m2.mono fun s hs => Gn.of ?_) (Gn.of ?_)
      · unfold repsOf at hs ⊢
        rw [List.flatMap_cons]
        exact List.mem_append_right _ hs
      · unfold repsOf
        rw [List.flatMap_cons]
        exact List.mem_append_left _ (List.mem_map.2 ⟨_, k1, rfl⟩)
theorem sift_in {n : Nat} {S : List (Nat → Nat)} (hS : ∀ s ∈ S, IsP n s) : ∀ (bs : List Nat) (f : Nat → Nat) (k : Nat), IsP n f → sftA n S bs f k = (idP, k + bs.length) → Gn S f
  | [], f, k, hP, h => by
    unfold sftA at h
    injection h with h _
    rw [h]; exact .one
  | b :: bs, f, k, hP, h => by
    unfold sftA at h
    split at h
    · rename_i hm
      have hl := lst_of_orb hS (mem_orbM.1 hm).2
      have hrP := hl.gn.isP hS
      have := sift_in hS bs _ (k + 1) (hP.comp hrP.inv) (by rw [h, List.length_cons, show k + 1 + bs.length = k + (bs.length + 1) by omega])
      rw [← hrP.cancel (f := f)]
      exact this.mul hl.gn
    · injection h with _ h
      rw [List.length_cons] at h
      omega
/-- Membership by sifting. -/
theorem sift_iff {n : Nat} {S : List (Nat → Nat)} (hS : ∀ s ∈ S, IsP n s) {f : Nat → Nat} (hP : IsP n f) : sftA n S (ptsK n S) f 0 = (idP, (ptsK n S).length) ↔ Gn S f := by
  constructor
  · intro h; exact sift_in hS _ f 0 hP (by rw [h, Nat.zero_add])
  · intro h; have := (sift_all hS (suf_pts n S) f 0 h (fun i hi => by omega)).1; rwa [Nat.zero_add] at this
/-- The group of the representatives from a level on. -/
theorem repsOf_iff {n : Nat} {S : List (Nat → Nat)} (hS : ∀ s ∈ S, IsP n s) {b : Nat} {bs : List Nat} (h : Suf n S b bs) (f : Nat → Nat) : Gn (repsOf n S bs) f ↔ Gn S f ∧ FixP b f := by
  constructor
  · intro hf
    induction hf with
    | one => exact ⟨.one, fix_id _⟩
    | step _ hs ih =>
      obtain ⟨c, hc, h1, h2⟩ := repsOf_gn hS hs
      have := h.ge c hc
      exact ⟨ih.1.mul h1, ih.2.comp fun i hi => h2 i (by omega)⟩
  · rintro ⟨h1, h2⟩
    exact (sift_all hS h f 0 h1 h2).2
open Classical in
theorem orbM_tail {n : Nat} {S : List (Nat → Nat)} (hS : ∀ s ∈ S, IsP n s) {b : Nat} {bs : List Nat} (h : Suf n S b bs) {c : Nat} (hc : b ≤ c) (m : Nat) : orbM (repsOf n S bs) c m = orbM S c m := by
  unfold orbM
  apply List.filter_congr
  intro x _
  rw [decide_eq_decide]
  constructor
  · rintro ⟨f, h1, h2, h3⟩; exact ⟨f, ((repsOf_iff hS h f).1 h1).1, h2, h3⟩
  · rintro ⟨f, h1, h2, h3⟩; exact ⟨f, (repsOf_iff hS h f).2 ⟨h1, fun i hi => h2 i (by omega)⟩, h2, h3⟩
theorem orbM_low {n : Nat} {S : List (Nat → Nat)} (hS : ∀ s ∈ S, IsP n s) {b : Nat} {bs : List Nat} (h : Suf n S b bs) {c : Nat} (hc : c < b) : (orbM (repsOf n S bs) c n).length ≤ 1 := by
  have hall : ∀ x ∈ orbM (repsOf n S bs) c n, x = c := fun x hx => by
    obtain ⟨_, f, h1, _, h3⟩ := mem_orbM.1 hx
    rw [← h3]
    exact ((repsOf_iff hS h f).1 h1).2 c hc
  have hnd : (orbM (repsOf n S bs) c n).Nodup := List.Nodup.sublist List.filter_sublist List.nodup_range
  match hq : orbM (repsOf n S bs) c n with
  | [] => simp
  | [x] => simp
  | x :: y :: q =>
    exfalso
    rw [hq] at hnd hall
    have h1 := hall x (by simp)
    have h2 := hall y (by simp)
    rw [h1, h2] at hnd
    simp at hnd
theorem levB_tail {n : Nat} {S : List (Nat → Nat)} (hS : ∀ s ∈ S, IsP n s) {b : Nat} {bs : List Nat} (h : Suf n S b bs) {c : Nat} (hc : b ≤ c) : levB n (repsOf n S bs) c = levB n S c := by
  have hL : ∀ x, x ∈ orbM S c n → lstP n (repsOf n S bs) c x = lstP n S c x := fun x hx => by
    have hl := lst_of_orb hS (mem_orbM.1 hx).2
    refine lstP_eq (repsOf_isP hS bs) ⟨(repsOf_iff hS h _).2 ⟨hl.gn, fun i hi => hl.fix i (by omega)⟩, hl.fix, hl.at_, fun g h1 h2 h3 => hl.le g ((repsOf_iff hS h g).1 h1).1 h2 h3⟩
  unfold levB repM
  rw [orbM_tail hS h hc]
  congr 1
  exact List.map_congr_left fun x hx => by rw [hL x hx]
/-- The canonical chain of the representatives from a level on: these levels. -/
theorem chn_tail {n : Nat} {S : List (Nat → Nat)} (hS : ∀ s ∈ S, IsP n s) {b : Nat} {bs : List Nat} (h : Suf n S b bs) : chnK n (repsOf n S bs) n = bs.map (levB n S) := by
  rw [chnK_pts]
  have key : ∀ {b' : Nat} {bs' : List Nat}, Suf n S b' bs' → b ≤ b' → ∀ bs'', Suf n (repsOf n S bs) b' bs'' → bs'' = bs' := by
    intro b' bs' h'
    induction h' with
    | nil =>
      intro hb bs'' h2
      cases h2 with
      | nil => rfl
      | skip h _ _ => omega
      | cons h _ _ => omega
    | skip h1 h2 _ ih =>
      intro hb bs'' h3
      cases h3 with
      | nil => omega
      | skip k1 k2 k3 => exact ih (by omega) _ k3
      | cons k1 k2 k3 => rw [orbM_tail hS h hb] at k2; omega
    | cons h1 h2 _ ih =>
      intro hb bs'' h3
      cases h3 with
      | nil => omega
      | skip k1 k2 k3 => rw [orbM_tail hS h hb] at k2; omega
      | cons k1 k2 k3 => rw [ih (by omega) _ k3]
  have low : ∀ d c, c + d = b → ∀ bs'', Suf n (repsOf n S bs) c bs'' → Suf n (repsOf n S bs) b bs'' := by
    intro d
    induction d with
    | zero => intro c hc bs'' h2; rw [← hc]; exact h2
    | succ d ih =>
      intro c hc bs'' h2
      have hle := h.le
      cases h2 with
      | nil => omega
      | skip k1 k2 k3 => exact ih (c + 1) (by omega) bs'' k3
      | cons k1 k2 k3 => have := orbM_low hS h (c := c) (by omega); omega
  rw [key h (Nat.le_refl _) _ (low b 0 (by omega) _ (suf_pts n _))]
  exact List.map_congr_left fun c hc => levB_tail hS h (h.ge c hc).1
/-- The chain of a group is canonical. -/
theorem chk_chn {n : Nat} {S : List (Nat → Nat)} (h1 : 1 ≤ n) (h2 : n ≤ 64) (hS : ∀ s ∈ S, IsP n s) {b : Nat} {bs : List Nat} (h : Suf n S b bs) : chkS n (bs.map (levB n S)) = 0 := by
  unfold chkS
  rw [if_neg (by omega)]
  refine if_pos ⟨?_, ?_⟩
  · rw [gensL_lev]
    exact gchk_li h1 h2 (repsOf_isP hS bs)
  · rw [gensL_lev, map_fnL (repsOf_isP hS bs)]
    exact (chn_tail hS h).symm
/-- What an accepted chain is. -/
theorem chkS_ok {d : Int} {L : List Lv} (h : chkS d L = 0) : ∃ n : Nat, d = n ∧ 1 ≤ n ∧ n ≤ 64 ∧ ∃ S : List (Nat → Nat), (∀ s ∈ S, IsP n s) ∧ gensL L = S.map (li n) ∧ L = (ptsK n S).map (levB n S) := by
  unfold chkS at h
  split at h
  · cases h
  · split at h
    · rename_i h1 h2
      obtain ⟨N, rfl, h3, h4, S, h5, h6⟩ := gchk_ok h2.1
      refine ⟨N, rfl, h3, h4, S, h6, h5, ?_⟩
      rw [← chnK_pts]
      have := h2.2
      rwa [h5, map_fnL h6] at this
    · cases h
end Go.Proofs.YtgfdhclpffakfaaGreat
