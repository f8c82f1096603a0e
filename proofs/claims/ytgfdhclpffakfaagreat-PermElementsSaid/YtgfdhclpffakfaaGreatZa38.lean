/- Walks of the order's closure, and of slices.SortFunc at it. -/
import Derived.Sort.OwnSortedInts
import Derived.BigQuiet
import Derived.Test.YtgfdhclpffakfaaGreatZa16
import Derived.Test.YtgfdhclpffakfaaGreatZa17
import Derived.Test.YtgfdhclpffakfaaGreatZa31
import Derived.Test.YtgfdhclpffakfaaGreatZa37
namespace Go.Proofs.YtgfdhclpffakfaaGreat
set_option linter.unusedVariables false
set_option linter.unusedSimpArgs false
open Go.RowKit Go.Sort

theorem grownBy_sw {α : Type} [Inhabited α] (enc : α → Value) {w : World} {g m off : Nat} {os : Array Obj} (d : Array α) : w.grownBy (sortWorld enc w g off m d os) (some g) := by
  refine ⟨rfl, rfl, rfl, by simp [sortWorld], fun k hk hne => ?_⟩
  unfold sortWorld
  rw [heap_grow_old _ _ (by simpa using hk)]
  have : g ≠ k := fun e => hne (by rw [e])
  simp [putRow, mapBlock, Sort.ahead, Array.getElem?_modify, this]
set_option maxRecDepth 100000 in
set_option maxHeartbeats 2000000 in
theorem cmp_any (w : World) (n : Nat) (p : Nat → Nat) (orb : List Nat) (pb lb : Nat) (pv ov : Value) (c0 : w.cell? ⟨pb, 0, none⟩ = some pv) (c1 : w.cell? ⟨lb, 1, none⟩ = some ov) (hp : ISl w pv (li n p)) (ho : ISl w ov (il' orb)) (hob : ∀ y ∈ orb, y < n) (hn : n ≤ 64) (hpb : ∀ i, i < n → p i < n) (x y : Nat) (hx : x < orb.length) (hy : y < orb.length) :
    Calls Tryz.prog 34 #[.int .i64 x, .int .i64 y, .pointer (some ⟨pb, 0, none⟩), .pointer (some ⟨lb, 0, none⟩)] w fun r w' => r = .returned (.int .i64 ((p (orb.getD x 0) : Int) - (p (orb.getD y 0) : Int))) ∧ ∃ q, w' = w.drewN q := by
  obtain ⟨pa, pc, rfl, p1, p2, p3⟩ := isl_li hp
  obtain ⟨oa, oc, rfl, o1, o2, o3⟩ := ho.open
  rw [il'_len] at o1 o3 c1
  unfold maxLen at p2 o2
  have hX : orb.getD x 0 ∈ orb := by rw [List.getD_eq_getElem?_getD, List.getElem?_eq_getElem hx]; exact List.getElem_mem _
  have hY : orb.getD y 0 ∈ orb := by rw [List.getD_eq_getElem?_getD, List.getElem?_eq_getElem hy]; exact List.getElem_mem _
  have bx := hob _ hX
  have by_ := hob _ hY
  obtain ⟨ob, oo, rfl, ho3⟩ := o3 (by omega)
  obtain ⟨pb', po, rfl, hp3⟩ := p3 (by omega)
  have d1 := ho3 x _ (il'_get (show orb[x]? = some (orb.getD x 0) from by rw [List.getD_eq_getElem?_getD, List.getElem?_eq_getElem hx]; rfl))
  have d2 := ho3 y _ (il'_get (show orb[y]? = some (orb.getD y 0) from by rw [List.getD_eq_getElem?_getD, List.getElem?_eq_getElem hy]; rfl))
  have f1 := hp3 _ bx
  have f2 := hp3 _ by_
  have g1 := hpb _ bx
  have g2 := hpb _ by_
  obtain ⟨X, hXe⟩ : ∃ X, orb.getD x 0 = X := ⟨_, rfl⟩
  obtain ⟨Y, hYe⟩ : ∃ Y, orb.getD y 0 = Y := ⟨_, rfl⟩
  rw [hXe] at d1 f1 bx g1 ⊢
  rw [hYe] at d2 f2 by_ g2 ⊢
  obtain ⟨PX, hPX⟩ : ∃ Z, p X = Z := ⟨_, rfl⟩
  obtain ⟨PY, hPY⟩ : ∃ Z, p Y = Z := ⟨_, rfl⟩
  rw [hPX] at f1 g1 ⊢
  rw [hPY] at f2 g2 ⊢
  obtain ⟨m, hm⟩ : ∃ m, orb.length = m := ⟨_, rfl⟩
  rw [hm] at c1 hx hy o1
  have i1 : (0 : Int) ≤ (x : Int) := by omega
  have i2 : (x : Int) < (m : Int) := by omega
  have i3 : (0 : Int) ≤ (y : Int) := by omega
  have i4 : (y : Int) < (m : Int) := by omega
  have i5 : (0 : Int) ≤ (X : Int) := by omega
  have i6 : (X : Int) < (n : Int) := by omega
  have i7 : (0 : Int) ≤ (Y : Int) := by omega
  have i8 : (Y : Int) < (n : Int) := by omega
  have hs : IntKind.i64.wrap ((PX : Int) - (PY : Int)) = (PX : Int) - (PY : Int) := IntWalk.i64_in _ (by omega)
  clear hp ho hob hpb ho3 hp3 hX hY hXe hYe hPX hPY hm o3 p3
  go_enter Tryz.func34, Tryz.ntmps34
  go_wp2_with fail
  go_quiet (fail)
  go_wp2_with fail
  go_ret
  exact ⟨rfl, _, rfl⟩
theorem kps_sw {α : Type} [Inhabited α] (enc : α → Value) {w : World} {g m off : Nat} {os : Array Obj} (d : Array α) : Kps (fun k => k = g) w (sortWorld enc w g off m d os) := Kps.grown (grownBy_sw enc d) fun k e => by cases e; rfl
/-- The order's values. -/
def eO (m x : Nat) : Value := .int .i64 ((x % m : Nat) : Int)
def cO (p : Nat → Nat) (orb : List Nat) (x y : Nat) : Int := (p (orb.getD (x % orb.length) 0) : Int) - (p (orb.getD (y % orb.length) 0) : Int)
theorem cO_swo (p : Nat → Nat) (orb : List Nat) : SWO (ltOf (cO p orb)) :=
  ⟨fun x => by simp [ltOf, cO], fun x y z h1 h2 => by
    have a : cO p orb x y < 0 := by simpa [ltOf] using h1
    have b : cO p orb y z < 0 := by simpa [ltOf] using h2
    exact decide_eq_true (by unfold cO at *; omega), fun x y z h1 h2 => by
    have a : ¬ cO p orb x y < 0 := by simpa [ltOf] using h1
    have b : ¬ cO p orb y z < 0 := by simpa [ltOf] using h2
    exact decide_eq_false (by unfold cO at *; omega)⟩
theorem srt_ix {p : Nat → Nat} (hp : ∀ i j, p i = p j → i = j) {orb : List Nat} {d' : Array Nat} (h : PermIn 0 orb.length (List.range orb.length).toArray d') (hs : SortedIn (ltOf (cO p orb)) 0 orb.length d') :
    d'.toList.length = orb.length ∧ (∀ i ∈ d'.toList, i < orb.length) ∧ d'.toList.map (fun i => orb.getD i 0) = srtP p orb := by
  obtain ⟨h1, -, h3⟩ := h
  have hl : d'.toList.length = orb.length := by simpa using h1
  have he : d'.extract 0 orb.length = d' := by
    have : orb.length = d'.size := by simpa using hl.symm
    rw [this]; simp
  have hpm : d'.toList.Perm (List.range orb.length) := by
    rw [he] at h3
    simpa using h3
  have hlt : ∀ i ∈ d'.toList, i < orb.length := fun i hi => List.mem_range.1 (hpm.mem_iff.1 hi)
  refine ⟨hl, hlt, srtP_uniq hp ?_ ?_⟩
  · have h4 := hpm.map fun i => orb.getD i 0
    have h5 : (List.range orb.length).map (fun i => orb.getD i 0) = orb := by
      refine List.ext_getElem (by simp) fun i a b => ?_
      simp [List.getD_eq_getElem?_getD, b]
    rwa [h5] at h4
  · rw [List.pairwise_map, List.pairwise_iff_getElem]
    intro i j hi hj hij
    have h6 := hs i j (Nat.zero_le _) hij (by omega)
    have gi : d'[i]! = d'.toList[i] := by rw [getElem!_pos d' i (by simpa using hi)]; simp
    have gj : d'[j]! = d'.toList[j] := by rw [getElem!_pos d' j (by simpa using hj)]; simp
    rw [gi, gj] at h6
    have h7 : ¬ cO p orb d'.toList[j] d'.toList[i] < 0 := by simpa [ltOf] using h6
    unfold cO at h7
    rw [Nat.mod_eq_of_lt (hlt _ (List.getElem_mem hi)), Nat.mod_eq_of_lt (hlt _ (List.getElem_mem hj))] at h7
    omega
set_option maxRecDepth 100000 in
set_option maxHeartbeats 2000000 in
theorem srt_any (w : World) (n : Nat) (p : Nat → Nat) (hP : IsP n p) (orb : List Nat) (pb lb g base : Nat) (pv ov : Value) (c0 : w.cell? ⟨pb, 0, none⟩ = some pv) (c1 : w.cell? ⟨lb, 1, none⟩ = some ov) (hp : ISl w pv (li n p)) (ho : ISl w ov (il' orb)) (hob : ∀ y ∈ orb, y < n) (hn : n ≤ 64) (h1 : 1 ≤ orb.length) (h12 : orb.length ≤ 12)
    (hown : Own w base 3 g orb.length (iv fun i => (i : Int))) (np : pb ≠ g) (nl : lb ≠ g) (npv : pv.ownBlock ≠ some g) (nov : ov.ownBlock ≠ some g) :
    Calls Tryz.prog 33 #[.slice (some ⟨g, 0, none⟩) orb.length orb.length, .func (.func 34) #[] #[.pointer (some ⟨pb, 0, none⟩), .pointer (some ⟨lb, 0, none⟩)]] w fun r w' => r = .returned (.tuple #[]) ∧
      ∃ ix : List Nat, ix.length = orb.length ∧ (∀ i ∈ ix, i < orb.length) ∧ ix.map (fun i => orb.getD i 0) = srtP p orb ∧ Own w' base 3 g orb.length (iv fun i => ((ix.getD i 0 : Nat) : Int)) ∧ w.grownBy w' (some g) := by
  have hH : Holds (eO orb.length) w g 0 (List.range orb.length).toArray := fun j hj => by
    have hj' : j < orb.length := by simpa using hj
    refine ⟨?_, hown.frz _⟩
    rw [Nat.zero_add, hown.cell hj']
    have : (List.range orb.length).toArray[j]! = j := by rw [getElem!_pos (List.range orb.length).toArray j hj]; simp
    rw [this]
    unfold eO iv
    rw [Nat.mod_eq_of_lt hj']
  have eg : ∀ args w, (callFunc 34 args).run Tryz.prog w = .ok (.enter 34 args) w := enters_of Tryz.func34 (by kernel_rfl) rfl
  have hcmp : CmpReads Tryz.prog 34 #[.pointer (some ⟨pb, 0, none⟩), .pointer (some ⟨lb, 0, none⟩)] (eO orb.length) (cO p orb) g 0 (List.range orb.length).toArray.size w := fun m os dk _ x y => by
    have hk := kps_sw (eO orb.length) (w := w) (g := g) (m := m) (off := 0) (os := os) dk
    have k1 : ISl (sortWorld (eO orb.length) w g 0 m dk os) pv (li n p) := Sl.kps hk hp fun _ B e k => npv (by rw [e, k])
    have k2 : ISl (sortWorld (eO orb.length) w g 0 m dk os) ov (il' orb) := Sl.kps hk ho fun _ B e k => nov (by rw [e, k])
    exact cmp_any _ n p orb pb lb pv ov (hk.cell c0 np) (hk.cell c1 nl) k1 k2 hob hn hP.lt _ _ (Nat.mod_lt _ (by omega)) (Nat.mod_lt _ (by omega))
  have hcon := Any.slices_SortFunc_small_sorted Tryz.sortF (eO orb.length) (fun _ => rfl) (cO p orb) (cO_swo p orb) 34 #[.pointer (some ⟨pb, 0, none⟩), .pointer (some ⟨lb, 0, none⟩)] g 0 orb.length (List.range orb.length).toArray w eg hcmp hH (by simpa using h12) (fun k W hk => (Tryz.bits_Len k W (by omega) (by omega)).mono fun _ _ ⟨he, hw⟩ => ⟨⟨_, he⟩, hw⟩)
  have hsz : (List.range orb.length).toArray.size = orb.length := by simp
  rw [hsz] at hcon
  refine Calls.mono hcon ?_
  rintro e w' ⟨rfl, d', k, h3, h4, rfl⟩
  obtain ⟨i1, i2, i3⟩ := srt_ix (fun i j e => hP.inj i j e) h3 h4
  have hg : w.grownBy ((putRow (eO orb.length) w g 0 d').drewN k) (some g) := by
    have := grownBy_sw (eO orb.length) (w := w) (g := g) (m := k) (off := 0) (os := #[]) d'
    rwa [sortWorld_none] at this
  refine ⟨rfl, d'.toList, i1, i2, i3, ?_, hg⟩
  have hO : Own (putRow (eO orb.length) w g 0 d') base 3 g orb.length (iv fun i => ((d'.toList.getD i 0 : Nat) : Int)) := by
    rcases hown.2 with ⟨h0, _⟩ | ⟨g', cap, cur, hv, hb, hc, k1, k2, k3, k4⟩
    · cases h0
    cases hv
    refine ⟨by rw [vs_length, Nat.mul_one], .inr ⟨g, orb.length, putCells (eO orb.length) 0 d' cur, rfl, hb, ?_, k1, k2, by simp [putCells, k3], ?_⟩⟩
    · simp [putRow, mapBlock, Array.getElem?_modify, hc, onCells]
    · rw [Nat.mul_one] at k4 ⊢
      apply List.ext_getElem?
      intro j
      by_cases hj : j < orb.length
      · rw [List.getElem?_take_of_lt hj, vs_get hj, Array.getElem?_toList]
        have hjd : j < d'.size := by simpa using (show j < d'.toList.length by omega)
        have hv : d'[j]?.getD 0 = d'[j] := by simp [hjd]
        have hmem : d'[j] < orb.length := i2 _ (by rw [← Array.getElem_toList]; exact List.getElem_mem _)
        simp [putCells, hjd, show j < cur.size by omega]
        unfold eO iv
        simp only
        rw [hv, Nat.mod_eq_of_lt hmem]
      · rw [List.getElem?_take_eq_none (by omega), List.getElem?_eq_none (by rw [vs_length]; omega)]
  exact hO.drewN k
end Go.Proofs.YtgfdhclpffakfaaGreat
