/- The examples of the chapter, computed; what Peel, Greatest and Girth hand back is determined. -/
import Derived.Test.YtpphaicbdeeacaaPeelO
import Derived.Test.YtpphaicbdeeacaaPeelK
import Derived.Test.YtpphaicbdeeacaaPeelH
namespace Go.Proofs.Ytpphaicbdeeacaa
set_option linter.unusedVariables false
set_option linter.unusedSimpArgs false
open Go.RowKit

/-! The search in breadth, computed. -/
def bfsF (L : Nat → List Int) : Nat → Nat → BSt → Option Int
  | 0, _, _ => none
  | n + 1, k, s => if s.q.length ≤ k then some s.best else bfsF L n (k + 1) (bvert L s (s.q.getD k 0).toNat)
theorem bfsF_sound {L : Nat → List Int} {M : Nat} (hL : ∀ i x, x ∈ L i → 0 ≤ x) : ∀ (n k : Nat) (s : BSt) (b : Int), (∀ x ∈ s.q, 0 ≤ x) → bfsF L n k s = some b → Bfs L k s b
  | 0, _, _, _, _, h => by cases h
  | n + 1, k, s, b, hq, h => by
    unfold bfsF at h
    split at h
    · rename_i h1; injection h with h; subst h; exact .done k s h1
    · rename_i h1
      have hk : s.q[k]? = some (s.q[k]'(by omega)) := List.getElem?_eq_getElem (by omega)
      have h0 := hq _ (List.getElem_mem (show k < s.q.length by omega))
      have e : s.q.getD k 0 = s.q[k]'(by omega) := by rw [List.getD_eq_getElem?_getD, hk]; rfl
      rw [e] at h
      refine .step k s (s.q[k]'(by omega)).toNat b (by rw [hk]; congr 1; omega) (bfsF_sound (M := M) hL n (k + 1) _ b ?_ h)
      have key : ∀ (l : List Int) (v : Nat) (s : BSt), (∀ x ∈ s.q, 0 ≤ x) → (∀ x ∈ l, 0 ≤ x) → ∀ x ∈ (l.foldl (bstep v) s).q, 0 ≤ x := by
        intro l
        induction l with
        | nil => intro v s h1 _; exact h1
        | cons y l ih =>
          intro v s h1 h2
          refine ih v _ ?_ (fun x hx => h2 x (List.mem_cons_of_mem _ hx))
          intro x hx
          unfold bstep at hx
          split at hx
          · simp only [List.mem_append, List.mem_singleton] at hx
            rcases hx with hx | hx
            · exact h1 x hx
            · subst hx; exact h2 _ (List.mem_cons_self ..)
          · split at hx
            · exact h1 x hx
            · exact h1 x hx
      exact key _ _ s hq (fun x hx => hL _ x hx)
def girF (L : Nat → List Int) (fuel : Nat) : Nat → Option Int
  | 0 => some 0
  | k + 1 => match girF L fuel k, bfsF L fuel 0 (bInit k) with | some g, some n => some (gmin g n) | _, _ => none
theorem girF_sound {L : Nat → List Int} (hL : ∀ i x, x ∈ L i → 0 ≤ x) (fuel : Nat) : ∀ (k : Nat) (b : Int), girF L fuel k = some b → GirK L k b
  | 0, b, h => by injection h with h; subst h; exact .zero
  | k + 1, b, h => by
    unfold girF at h
    split at h
    · rename_i g n h1 h2
      injection h with h; subst h
      refine .succ k g n (girF_sound hL fuel k g h1) (bfsF_sound (M := 0) hL fuel 0 _ n (fun x hx => ?_) h2)
      simp [bInit] at hx; omega
    · cases h
theorem GirOut.unique {V : Int} {rows : List (List Int)} {a b : Int} (h : GirOut V rows a) (k : GirOut V rows b) : a = b := by
  by_cases e : pchkS V rows = 0
  · exact (h.2 e).unique (k.2 e)
  · rw [h.1 e, k.1 e]

theorem GreL.unique {V : Int} {rows : List (List Int)} {l L K : List Int} (h : GreL V rows l L) (k : GreL V rows l K) : L = K := by
  by_cases e : setsE V rows l = 0
  · obtain ⟨f, h1, h2⟩ := h.2 e
    obtain ⟨g, k1, k2⟩ := k.2 e
    rw [h2, k2, h1.unique k1]
  · rw [h.1 e, k.1 e]
def peelsF (rows : List (List Int)) : Nat → (Nat → Bool) → Option (Nat → Bool)
  | 0, _ => none
  | n + 1, f => if aloneI f rows < 0 then some f else peelsF rows n (upd f (aloneI f rows).toNat false)
theorem peelsF_sound {rows : List (List Int)} : ∀ (n : Nat) (f f' : Nat → Bool), peelsF rows n f = some f' → Peels rows f f'
  | 0, _, _, h => by cases h
  | n + 1, f, f', h => by
    unfold peelsF at h
    split at h
    · rename_i h1; injection h with h; subst h; exact .done f h1
    · exact .step f f' (by omega) (peelsF_sound n _ _ h)

section
variable {p m : Nat} {ml : List Int} {N : Nat} {H : List (List Int)}
theorem PeelW.unique {x x1 x2 : Nat → Int} {f f1 f2 : Nat → Bool} (h : PeelW p m ml N H x f x1 f1) (k : PeelW p m ml N H x f x2 f2) : x1 = x2 ∧ f1 = f2 := by
  induction h generalizing x2 f2 with
  | done x f h => cases k with
    | done _ _ _ => exact ⟨rfl, rfl⟩
    | step _ _ _ _ i j r hi _ _ _ _ => omega
  | step x f x' f' i j r hi hr ha hall _ ih => cases k with
    | done _ _ h => omega
    | step _ _ _ _ i2 j2 r2 hi2 hr2 ha2 hall2 k =>
      have e1 : i2 = i := by omega
      subst e1
      have e2 : j2 = j := by
        rcases Nat.lt_trichotomy j2 j with h | h | h
        · have := hall j2 r2 h hr2; rw [this] at ha2; cases ha2
        · exact h
        · have := hall2 j r h hr; rw [this] at ha; cases ha
      subst e2
      rw [hr] at hr2
      injection hr2 with hr2
      subst hr2
      exact ih k
variable (p m ml N H)
def peelF : Nat → (Nat → Int) → (Nat → Bool) → Option ((Nat → Int) × (Nat → Bool))
  | 0, _, _ => none
  | n + 1, x, f => if aloneI f (H.map supp) < 0 then some (x, f) else
      match H.find? fun r => (alone1 f (supp r)).isSome with
      | some r => peelF n (upd x (aloneI f (H.map supp)).toNat (pval p m ml N r x (aloneI f (H.map supp)).toNat)) (upd f (aloneI f (H.map supp)).toNat false)
      | none => none
variable {p m ml N H}
theorem peelF_sound : ∀ (n : Nat) (x : Nat → Int) (f : Nat → Bool) (y : (Nat → Int) × (Nat → Bool)), peelF p m ml N H n x f = some y → PeelW p m ml N H x f y.1 y.2
  | 0, _, _, _, h => by cases h
  | n + 1, x, f, y, h => by
    unfold peelF at h
    split at h
    · rename_i h1; injection h with h; subst h; exact .done x f h1
    · rename_i h1
      split at h
      · rename_i r hr
        obtain ⟨h2, h3⟩ := List.find?_eq_some_iff_append.1 hr
        obtain ⟨la, lb, h3, h4⟩ := h3
        have hs : aloneS f (H.map supp) = alone1 f (supp r) := by
          unfold aloneS
          rw [h3, List.map_append, List.map_cons, List.findSome?_append, List.findSome?_cons]
          rw [show (la.map supp).findSome? (alone1 f) = none from by
            rw [List.findSome?_eq_none_iff]
            intro s hs
            obtain ⟨t, ht, rfl⟩ := List.mem_map.1 hs
            have := h4 t ht
            simpa using this]
          obtain ⟨z, hz⟩ := Option.isSome_iff_exists.1 h2
          rw [hz]; rfl
        obtain ⟨z, hz⟩ := Option.isSome_iff_exists.1 h2
        have hzz : aloneI f (H.map supp) = z := by unfold aloneI; rw [hs, hz]; rfl
        obtain ⟨X, hX⟩ : ∃ X : Nat, aloneI f (H.map supp) = X := ⟨(aloneI f (H.map supp)).toNat, by omega⟩
        refine .step x f y.1 y.2 X la.length r hX (by rw [h3]; simp) (by rw [hz, ← hzz, hX]) (fun k s hk hs => ?_) (by
          have := peelF_sound n _ _ y h
          rw [hX, Int.toNat_natCast] at this
          exact this)
        have : s ∈ la := by
          rw [h3, List.getElem?_append_left hk] at hs
          exact List.mem_of_getElem? hs
        have := h4 s this
        simpa using this
      · cases h
end

/-! The example. -/
def exH : List (List Int) := [[1, 1, 0, 1, 0, 0, 0], [0, 1, 1, 0, 1, 0, 0], [0, 0, 1, 1, 0, 1, 0], [0, 0, 0, 1, 1, 0, 1]]
def exT : List (List Int) := [[0, 1, 3], [1, 2, 4], [2, 3, 5], [3, 4, 6]]
theorem exT_eq : exH.map supp = exT := by decide +kernel
theorem exFld : FldB 2 1 [] := ⟨2, 1, rfl, rfl, ⟨by omega, by omega, by omega, by decide, rfl, by intro x hx; cases hx⟩, by decide, (field_iff (p := 2) (m := 1) (ml := []) ⟨by omega, by omega, by omega, by decide, rfl, by intro x hx; cases hx⟩ (by decide)).2 (.inl rfl)⟩
theorem exChk {e : Int} (h : ChkOut 2 1 [] 7 exH e) : e = 0 := by
  rcases h with ⟨pn, mn, h1, h2, _, rfl⟩ | ⟨h, _⟩
  · have e1 : pn = 2 := by omega
    have e2 : mn = 1 := by omega
    subst e1 e2
    decide +kernel
  · exact absurd exFld h
theorem exGr {V : Int} {gr : List (List Int)} {e : Int} (h : GrS 2 1 [] 7 exH V gr e) : V = 7 ∧ gr = exT ∧ e = 0 := by
  obtain ⟨ec, hec, h⟩ := h
  have := exChk hec
  rcases h with ⟨h0, _⟩ | ⟨_, h1, _⟩ | ⟨_, _, _, h3, h4, h5⟩
  · exact absurd this h0
  · omega
  · exact ⟨h3, by rw [h4, exT_eq], h5⟩
theorem exChkT : pchkS 7 exT = 0 := by decide +kernel
theorem exGir {n : Int} (h : GirOut 7 exT n) : n = 6 := by
  have h1 : GirK (nbL 7 exT) 7 6 := girF_sound (fun i x hx => by
    by_cases hi : i < 7 + exT.length
    · rw [nbL_eq hi, ← nbK_all] at hx
      have hri := (pchkS_ok exChkT)
      obtain ⟨N, hN, _, _, _, hr, _⟩ := hri
      have : N = 7 := by omega
      subst this
      exact (nbK_in (M := 7 + exT.length) rfl hr _ (Nat.le_refl _) i x hx).1
    · unfold nbL at hx
      rw [List.getD_eq_getElem?_getD, List.getElem?_eq_none_iff.2 (by simp [nbM]; omega)] at hx
      cases hx) 20 7 6 (by decide +kernel)
  exact (h.2 exChkT).unique h1
theorem exSmE : smallE 7 exT = 0 := by decide +kernel
theorem exSmL : smallL 7 exT = [0, 1, 2, 5] := by decide +kernel
theorem exStB : stopB 7 exT [5, 6] = false := by decide +kernel
theorem exStE : setsE 7 exT [5, 6] = 0 := by decide +kernel
theorem exGrE : setsE 7 exT [0, 1, 2, 4] = 0 := by decide +kernel
theorem exGrL {L : List Int} (h : GreL 7 exT [0, 1, 2, 4] L) : L = [] := by
  obtain ⟨f, h1, h2⟩ := h.2 exGrE
  have h3 : ((peelsF exT 9 (mkm [0, 1, 2, 4])).map (lft 7)) = some [] := by decide +kernel
  obtain ⟨g, hg, hg2⟩ := Option.map_eq_some_iff.1 h3
  rw [h2, h1.unique (peelsF_sound 9 _ _ hg)]
  exact hg2
theorem exPeel {w er X L : List Int} {e : Int} (h : PeelS 2 1 [] 7 exH w er X L e) : PeelB 2 1 [] 7 exH w er X L e := by
  obtain ⟨V, gr, ge, hg, h⟩ := h
  obtain ⟨_, _, h0⟩ := exGr hg
  rcases h with ⟨h1, _⟩ | ⟨_, pn, mn, N, h1, h2, h3, _, _, _, _, _, h4⟩
  · exact absurd h0 h1
  · have e1 : pn = 2 := by omega
    have e2 : mn = 1 := by omega
    have e3 : N = 7 := by omega
    subst e1 e2 e3
    exact h4
theorem exPeelW {w er X L : List Int} {e : Int} {y : (Nat → Int) × (Nat → Bool)} (h : PeelB 2 1 [] 7 exH w er X L e) (h1 : w.length = 7) (h2 : entS 2 w = 0) (h3 : risB 7 er = true)
    (hp : peelF 2 1 [] 7 exH 9 (x0F w er) (mkm er) = some y) : (failB 2 1 [] 7 exH y.2 y.1 = true ∧ X = [] ∧ L = [] ∧ e = 12) ∨ (failB 2 1 [] 7 exH y.2 y.1 = false ∧ X = il 7 y.1 ∧ L = lft 7 y.2 ∧ e = 0) := by
  rcases h with ⟨h, _⟩ | ⟨_, h, _⟩ | ⟨_, _, h, _⟩ | ⟨_, _, _, x', f', hw, h⟩
  · exact absurd h1 h
  · exact absurd h2 h
  · rw [show ((7 : Nat) : Int) = 7 from rfl, h3] at h; cases h
  · obtain ⟨a, b⟩ := hw.unique (peelF_sound 9 _ _ y hp)
    subst a b
    exact h
def exC (w er X L : List Int) (e : Int) : Bool := match peelF 2 1 [] 7 exH 9 (x0F w er) (mkm er) with
  | some y => w.length == 7 && entS 2 w == 0 && risB 7 er && (if failB 2 1 [] 7 exH y.2 y.1 then (X == [] && L == [] && e == 12) else (X == il 7 y.1 && L == lft 7 y.2 && e == 0))
  | none => false
theorem exP {w er X L X' L' : List Int} {e e' : Int} (h : PeelS 2 1 [] 7 exH w er X L e) (hc : exC w er X' L' e' = true) : X = X' ∧ L = L' ∧ e = e' := by
  unfold exC at hc
  split at hc
  · rename_i y hy
    simp only [Bool.and_eq_true, beq_iff_eq] at hc
    obtain ⟨⟨⟨h1, h2⟩, h3⟩, h4⟩ := hc
    rcases exPeelW (exPeel h) h1 h2 h3 hy with ⟨a, b, c, d⟩ | ⟨a, b, c, d⟩
    · rw [a] at h4
      simp at h4
      obtain ⟨⟨h5, h6⟩, h7⟩ := h4
      rw [b, c, d, h5, h6, h7]; exact ⟨rfl, rfl, rfl⟩
    · rw [a] at h4
      simp at h4
      obtain ⟨⟨h5, h6⟩, h7⟩ := h4
      rw [b, c, d, h5, h6, h7]; exact ⟨rfl, rfl, rfl⟩
  · cases hc
theorem exP1 : exC [0, 1, 0, 1, 1, 0, 1] [0, 3] [1, 1, 0, 0, 1, 0, 1] [] 0 = true := by decide +kernel
theorem exP2 : exC [1, 1, 0, 0, 1, 0, 1] [0, 1, 4, 6] [0, 0, 0, 0, 0, 0, 0] [0, 1, 4, 6] 0 = true := by decide +kernel
theorem exP3 : exC [1, 0, 0, 0, 0, 0, 0] [] [] [] 12 = true := by decide +kernel
end Go.Proofs.Ytpphaicbdeeacaa
