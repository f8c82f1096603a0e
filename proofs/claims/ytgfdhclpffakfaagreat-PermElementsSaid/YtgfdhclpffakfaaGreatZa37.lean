/- Plain: the elements of a canonical chain's group, in their order. -/
/- Few at lists of rows, with its meaning; the representatives of a chain in a list. -/
import Derived.Test.YtgfdhclpffakfaaGreatZa24
import Derived.Test.YtgfdhclpffakfaaGreatZa26
import Derived.Test.YtgfdhclpffakfaaGreatZa30
import Derived.Test.YtgfdhclpffakfaaGreatZa36
namespace Go.Proofs.YtgfdhclpffakfaaGreat
set_option linter.unusedVariables false
set_option linter.unusedSimpArgs false
open Go.RowKit

/-- A list in the order of the images under p. -/
def srtP (p : Nat → Nat) (l : List Nat) : List Nat := l.mergeSort fun x y => decide (p x ≤ p y)
theorem srtP_perm (p : Nat → Nat) (l : List Nat) : (srtP p l).Perm l := List.mergeSort_perm _ _
theorem srtP_le (p : Nat → Nat) (l : List Nat) : (srtP p l).Pairwise fun x y => p x ≤ p y := by
  have h := List.pairwise_mergeSort (le := fun x y => decide (p x ≤ p y)) (fun a b c h1 h2 => by
    simp only [decide_eq_true_eq] at *; omega) (fun a b => by
    simp only [Bool.or_eq_true, decide_eq_true_eq]; omega) l
  exact h.imp fun h => by simpa using h
theorem orbM_nodup (S : List (Nat → Nat)) (b m : Nat) : (orbM S b m).Nodup := by
  unfold orbM
  exact List.Pairwise.filter _ List.nodup_range
theorem srtP_lt {p : Nat → Nat} (hp : ∀ i j, p i = p j → i = j) {l : List Nat} (hn : l.Nodup) : (srtP p l).Pairwise fun x y => p x < p y := by
  have h2 : (srtP p l).Pairwise (· ≠ ·) := (srtP_perm p l).nodup_iff.2 hn
  exact ((srtP_le p l).and h2).imp fun ⟨h3, h4⟩ => by
    have : p _ ≠ p _ := fun e => h4 (hp _ _ e)
    omega
/-- The order is the only one. -/
theorem srtP_uniq {p : Nat → Nat} (hp : ∀ i j, p i = p j → i = j) {l k : List Nat} (h : k.Perm l) (hs : k.Pairwise fun x y => p x ≤ p y) : k = srtP p l :=
  List.Perm.eq_of_pairwise (fun a b _ _ h1 h2 => hp a b (by omega)) hs (srtP_le p l) (h.trans (srtP_perm p l).symm)
/-- The elements behind a beginning p. -/
noncomputable def elS (n : Nat) (S : List (Nat → Nat)) : List Nat → (Nat → Nat) → List (Nat → Nat)
  | [], p => [p]
  | b :: bs, p => (srtP p (orbM S b n)).flatMap fun x => elS n S bs (thenP (lstP n S b x) p)
def ElLt (n : Nat) (f g : Nat → Nat) : Prop := ∃ i, i < n ∧ (∀ j, j < i → f j = g j) ∧ f i < g i
section
variable {n : Nat} {S : List (Nat → Nat)}
theorem lst_at (hS : ∀ s ∈ S, IsP n s) {b x : Nat} (hx : x ∈ orbM S b n) : LeastP n S b x (lstP n S b x) := lst_of_orb hS (mem_orbM.1 hx).2
theorem el_pre (hS : ∀ s ∈ S, IsP n s) {b : Nat} {bs : List Nat} (h : Suf n S b bs) : ∀ p f, f ∈ elS n S bs p → ∃ g, Gn S g ∧ FixP b g ∧ f = thenP g p := by
  induction h with
  | nil =>
    intro p f hf
    rw [elS, List.mem_singleton] at hf
    exact ⟨idP, .one, fix_id _, by rw [hf]; rfl⟩
  | skip h1 h2 h3 ih =>
    intro p f hf
    obtain ⟨g, a1, a2, a3⟩ := ih p f hf
    exact ⟨g, a1, fun i hi => a2 i (by omega), a3⟩
  | @cons b bs h1 h2 h3 ih =>
    intro p f hf
    rw [elS, List.mem_flatMap] at hf
    obtain ⟨x, hx, hf⟩ := hf
    have hl := lst_at hS ((srtP_perm p _).mem_iff.1 hx)
    obtain ⟨g, a1, a2, a3⟩ := ih _ f hf
    refine ⟨thenP g (lstP n S b x), a1.mul hl.gn, fun i hi => ?_, by rw [a3]; rfl⟩
    show lstP n S b x (g i) = i
    rw [a2 i (by omega), hl.fix i hi]
theorem el_isP (hS : ∀ s ∈ S, IsP n s) {b : Nat} {bs : List Nat} (h : Suf n S b bs) {p f : Nat → Nat} (hp : IsP n p) (hf : f ∈ elS n S bs p) : IsP n f := by
  obtain ⟨g, a1, -, rfl⟩ := el_pre hS h p f hf
  exact (a1.isP hS).comp hp
theorem el_asc (hS : ∀ s ∈ S, IsP n s) {b : Nat} {bs : List Nat} (h : Suf n S b bs) : ∀ p, IsP n p → (elS n S bs p).Pairwise (ElLt n) := by
  induction h with
  | nil => intro p _; rw [elS]; exact List.pairwise_singleton _ _
  | skip h1 h2 h3 ih => exact ih
  | @cons b bs h1 h2 h3 ih =>
    intro p hp
    rw [elS, List.pairwise_flatMap]
    have hm : ∀ x ∈ srtP p (orbM S b n), LeastP n S b x (lstP n S b x) := fun x hx => lst_at hS ((srtP_perm p _).mem_iff.1 hx)
    refine ⟨fun x hx => ih _ (((hm x hx).gn.isP hS).comp hp), ?_⟩
    refine (srtP_lt (fun i j e => hp.inj i j e) (orbM_nodup S b n)).imp_of_mem fun {x y} hx hy hlt u hu v hv => ?_
    obtain ⟨g, -, a2, rfl⟩ := el_pre hS h3 _ _ hu
    obtain ⟨k, -, c2, rfl⟩ := el_pre hS h3 _ _ hv
    refine ⟨b, h1, fun j hj => ?_, ?_⟩
    · show p (lstP n S b x (g j)) = p (lstP n S b y (k j))
      rw [a2 j (by omega), c2 j (by omega), (hm x hx).fix j hj, (hm y hy).fix j hj]
    · show p (lstP n S b x (g b)) < p (lstP n S b y (k b))
      rw [a2 b (by omega), c2 b (by omega), (hm x hx).at_, (hm y hy).at_]
      exact hlt
theorem sum_const {α : Type} (c : Nat) : ∀ (l : List α) (f : α → Nat), (∀ x ∈ l, f x = c) → (l.map f).sum = l.length * c
  | [], f, _ => by simp
  | x :: l, f, h => by
    rw [List.map_cons, List.sum_cons, sum_const c l f fun y hy => h y (List.mem_cons_of_mem _ hy), h x (List.mem_cons_self ..), List.length_cons, Nat.succ_mul]
    omega
theorem prodL_init : ∀ (xs : List Nat) (a : Nat), xs.foldl (· * ·) a = a * prodL xs
  | [], a => by show a = a * 1; omega
  | x :: xs, a => by
    show xs.foldl (· * ·) (a * x) = a * xs.foldl (· * ·) (1 * x)
    rw [prodL_init xs (a * x), prodL_init xs (1 * x), Nat.one_mul, Nat.mul_assoc]
theorem prodL_cons (x : Nat) (xs : List Nat) : prodL (x :: xs) = x * prodL xs := by
  show xs.foldl (· * ·) (1 * x) = _
  rw [prodL_init, Nat.one_mul]
theorem el_len (n : Nat) (S : List (Nat → Nat)) : ∀ (bs : List Nat) (p : Nat → Nat), (elS n S bs p).length = prodL (bs.map fun b => (orbM S b n).length)
  | [], p => by rw [elS]; rfl
  | b :: bs, p => by
    rw [elS, List.length_flatMap, sum_const _ _ _ fun x _ => el_len n S bs _, (srtP_perm p _).length_eq, List.map_cons, prodL_cons]
theorem el_siz (n : Nat) (S : List (Nat → Nat)) (p : Nat → Nat) : (elS n S (ptsK n S) p).length = sizL ((ptsK n S).map (levB n S)) := by
  rw [el_len]
  unfold sizL
  rw [List.map_map]
  congr 1
  refine List.map_congr_left fun b _ => ?_
  show _ = (il' (orbM S b n)).length
  rw [il'_len]
theorem lex_less {f g : Nat → Nat} (h : ElLt n f g) : lessS (li n f) (li n g) = true := by
  obtain ⟨i, hi, h1, h2⟩ := h
  exact lessS_hit (i := i) (li_get hi f) (li_get hi g) (by omega) (fun j hj => by rw [li_get (by omega), li_get (by omega), h1 j hj]) |>.trans (decide_eq_true (by omega))
end
end Go.Proofs.YtgfdhclpffakfaaGreat
namespace Go.Proofs.YtgfdhclpffakfaaGreat
set_option linter.unusedVariables false
set_option linter.unusedSimpArgs false
open Go.RowKit

def FewR (n : Nat) (lim : Int) (r : Ending) : Prop := ∃ b : Bool, r = .returned (.bool b) ∧ (b = true → (n : Int) ≤ lim)
theorem fewR_no (n : Nat) (lim : Int) : FewR n lim (.returned (.bool false)) := ⟨false, rfl, fun h => by cases h⟩
theorem fewR_yes {n : Nat} {lim : Int} (h : (n : Int) ≤ lim) : FewR n lim (.returned (.bool true)) := ⟨true, rfl, fun _ => h⟩
set_option maxRecDepth 100000 in
set_option maxHeartbeats 1000000 in
theorem FewL_any (w : World) (cols : Int) (rows : List (List Int)) (v : Value) (hv : MSl w v rows) (lim : Int) (hl0 : 0 ≤ lim) (hl1 : lim ≤ 1000) :
    Calls Tryz.prog 29 #[.agg #[.int .i64 cols, v], .int .i64 lim] w fun r w' => FewR rows.length lim r ∧ Ex w w' := by
  obtain ⟨d0, d1, e0⟩ := boxM2_facts w cols v
  obtain ⟨za, zc, rfl, z1, z2, z3⟩ := (hv.ex e0).open
  have Z3 := hid_ z3
  unfold maxLen at z2
  clear hv z3
  by_cases h1 : 260 < cols
  · go_enter Tryz.func29, Tryz.ntmps29
    go_wp2_with fail
    go_ret
    exact ⟨fewR_no _ _, e0⟩
  · have h1' : cols ≤ 260 := by omega
    clear h1
    by_cases h2 : lim < (rows.length : Int)
    · go_enter Tryz.func29, Tryz.ntmps29
      go_wp2_with fail
      go_ret
      exact ⟨fewR_no _ _, e0⟩
    · have h2' : (rows.length : Int) ≤ lim := by omega
      have b1 : decide (260 < cols) = false := by simp; omega
      have b2 : decide (lim < (rows.length : Int)) = false := by simp; omega
      clear h2
      go_enter Tryz.func29, Tryz.ntmps29
      go_wp2_with fail
      generalize w.alloc (.cells #[.int .i64 cols, .slice za rows.length zc] 68) = w1 at *
      go_loopw [5, 6] (fun l' i' wr => ∃ (i : Nat) (l : Int), i ≤ rows.length ∧ i' = .int .i64 i ∧ l' = .int .i64 l ∧ 0 ≤ l ∧ l ≤ 1000 ∧ wr = w1) (fun _ i' _ => rows.length - (intOf i').toNat)
      case atStart => exact ⟨0, _, by omega, rfl, rfl, by omega, by omega, rfl⟩
      case round =>
        obtain ⟨i, l, hi, rfl, rfl, l1, l2, rfl⟩ := hrel
        by_cases hlt : i < rows.length
        · obtain ⟨r, hr⟩ : ∃ r, rows[i]? = some r := ⟨_, List.getElem?_eq_getElem hlt⟩
          obtain ⟨bb, o, rfl, hc⟩ := Z3.out (by omega)
          obtain ⟨u, c1, hu⟩ := hc i r hr
          obtain ⟨ua, uc, rfl, u1, u2, u3⟩ := hu.open
          unfold maxLen at u2
          clear hc hu u3 hr
          by_cases h3 : l < (r.length : Int)
          · go_wp2_with fail
            go_ret
            exact ⟨fewR_no _ _, e0⟩
          · have h3' : (r.length : Int) ≤ l := by omega
            clear h3
            go_wp2_with fail
            go_roundw
            case rel => exact ⟨i + 1, _, by omega, by go_num, (by first | rfl | trivial), by omega, by omega, (by first | rfl | trivial)⟩
            case measure => simp [intOf]; omega
        · obtain rfl : i = rows.length := by omega
          go_wp2_with fail
          go_ret
          exact ⟨fewR_yes h2', e0⟩
theorem us_one {w : World} {us : List Value} {R : List (List Int)} (h : Sl w (.slice none 0 0) 0 1 [] → True) (hl : us.length = R.length) (hu : ∀ (i : Nat) (r : List Int) (u : Value), R[i]? = some r → us[i]? = some u → ISl w u r) : ∀ u ∈ us, u.oneCell' = true := fun u hm => by
  obtain ⟨i, hi, e⟩ := List.getElem_of_mem hm
  obtain ⟨_, _, rfl, _⟩ := (hu i _ u (List.getElem?_eq_getElem (by omega)) (by rw [List.getElem?_eq_getElem hi, e])).open
  rfl
set_option maxRecDepth 100000 in
set_option maxHeartbeats 4000000 in
theorem rGens_any (w : World) (d : Int) (L : List Lv) (lv : Value) (hL : LSl w lv L) (hg : (gensL L).length ≤ 1000) :
    Calls Tryz.prog 38 #[.agg #[.int .i64 d, lv]] w fun r w' => ∃ a c, r = .returned (.slice a (gensL L).length c) ∧ MSl w' (.slice a (gensL L).length c) (gensL L) ∧ Ex w w' := by
  obtain ⟨d0, d1, e0⟩ := boxCh_facts w d lv
  obtain ⟨za, zc, rfl, z1, z2, z3⟩ := (hL.ex e0).open3
  unfold maxLen at z2
  have Z3 := hid_ z3
  clear z3 hL
  go_enter Tryz.func38, Tryz.ntmps38
  go_wp2_with fail
  obtain ⟨q, hq⟩ : ∃ q, w.heap.size = q := ⟨_, rfl⟩
  rw [hq] at d0 d1
  try simp only [hq]
  clear hq
  generalize w.alloc (.cells #[.int .i64 d, .slice za L.length zc] 24) = w1 at *
  have HE0 := hid_ e0
  have D1 := hid_ d1
  clear e0 d0 d1
  go_loopw [3, 4] (fun gv' k' wr => ∃ (k : Nat) (vals : List Value), k ≤ L.length ∧ k' = .int .i64 k ∧ Hid (GnsW w1 wr gv' (gensL (L.take k)) vals)) (fun _ k' _ => L.length - (intOf k').toNat)
  case atStart => exact ⟨0, [], by omega, rfl, hid_ (GnsW.nil w1)⟩
  case round =>
    obtain ⟨k, vals, hk, rfl, hgn⟩ := hrel
    have hml := gensL_le L k
    obtain ⟨ga, gc, rfl⟩ := own_shape hgn.out.own
    have d1 := hgn.out.ex.cell D1.out
    by_cases hkl : k < L.length
    · obtain ⟨l, hl⟩ : ∃ l, L[k]? = some l := ⟨_, List.getElem?_eq_getElem hkl⟩
      obtain ⟨zb, zo, rfl, hzc⟩ := Z3.out (by omega)
      obtain ⟨u, r, c0, c1, c2, hu, hr⟩ := hzc k l hl
      have c2 := hgn.out.ex.cell c2
      obtain ⟨ra, rc, rfl, _, _, _⟩ := hr.open
      obtain ⟨us, HUS, hul, hus⟩ := hr.vals
      have i1 : (0 : Int) ≤ (k : Int) := by omega
      have i2 : (k : Int) < (L.length : Int) := by omega
      have HUR := hid_ hus
      have HON := hid_ (us_one (fun _ => trivial) hul hus)
      have hml2 := gensL_le L (k + 1)
      have HGT := hid_ (gensL_take hl)
      rw [HGT.out, List.length_append] at hml2
      have HB := hid_ hgn.out.ex.size
      have HOW := hid_ hgn.out.own
      have HXS := hid_ (HUS.ex hgn.out.ex)
      clear hzc hl hu hr HUS hus c0 c1
      go_wp2_with (at_builtin; refine wpList_append_sl _ rfl _ _ 46 rfl w1.heap.size 32 (.slice none 0 0) 1 24 Tryz.underlying46 infoIntsL rfl (by decide) (.slice ga (gensL (L.take k)).length gc) (gensL (L.take k)).length vals rfl HOW.out (.slice ra l.reps.length rc) l.reps.length us rfl HXS.out HON.out (by unfold maxLen; omega) (by omega) HB.out ?_; intro v' w' hown hg hb; have HG1 := hid_ (hgn.out.app (R := l.reps) (us := us) (fun i r u a b => HUR.out i r u a b) hown (Ex.grown hgn.out.ex HOW.out (Nat.le_refl _) hg)); obtain ⟨oa', oc', rfl⟩ := own_shape hown; clear hown hg hb)
      go_roundw
      case rel => exact ⟨k + 1, _, by omega, by go_num, by rw [HGT.out]; exact HG1⟩
      case measure => simp [intOf]; omega
    · obtain rfl : k = L.length := by omega
      have htk : gensL (L.take L.length) = gensL L := by rw [List.take_length]
      rw [htk] at hgn ⊢
      go_wp2_with fail
      go_ret
      exact ⟨ga, gc, rfl, hgn.out.msl, HE0.out.trans hgn.out.ex⟩
end Go.Proofs.YtgfdhclpffakfaaGreat
