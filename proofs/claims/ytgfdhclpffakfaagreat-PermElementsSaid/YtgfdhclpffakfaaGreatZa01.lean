/- Plain: the tower of representatives: sifting, completeness, what insert and visit keep. -/
import Derived.Test.YtgfdhclpffakfaaGreatZa00
namespace Go.Proofs.YtgfdhclpffakfaaGreat
set_option linter.unusedVariables false
set_option linter.unusedSimpArgs false

/-- Representatives (level, point) and generators (level). -/
structure Tw where
  R : Nat → Nat → Option (Nat → Nat)
  g : Nat → List (Nat → Nat)
/-- What sifting through k levels from b on leaves, and where it ends. -/
def stripR (n : Nat) (R : Nat → Nat → Option (Nat → Nat)) : Nat → Nat → (Nat → Nat) → (Nat → Nat) × Nat
  | 0, b, f => (f, b)
  | k + 1, b, f => match R b (f b) with
    | none => (f, b)
    | some r => stripR n R k (b + 1) (thenP f (invP n r))
/-- f sifts through k levels from b on. -/
def Sf (n : Nat) (R : Nat → Nat → Option (Nat → Nat)) : Nat → Nat → (Nat → Nat) → Prop
  | 0, _, _ => True
  | k + 1, b, f => ∃ r, R b (f b) = some r ∧ Sf n R k (b + 1) (thenP f (invP n r))
theorem stripR_le (n : Nat) (R : Nat → Nat → Option (Nat → Nat)) : ∀ k b f, b ≤ (stripR n R k b f).2 ∧ (stripR n R k b f).2 ≤ b + k
  | 0, b, f => ⟨Nat.le_refl _, Nat.le_refl _⟩
  | k + 1, b, f => by
    unfold stripR
    split
    · exact ⟨Nat.le_refl _, by dsimp only; omega⟩
    · have := stripR_le n R k (b + 1) (thenP f (invP n ‹_›)); omega
theorem sf_iff (n : Nat) (R : Nat → Nat → Option (Nat → Nat)) : ∀ k b f, Sf n R k b f ↔ (stripR n R k b f).2 = b + k
  | 0, b, f => ⟨fun _ => rfl, fun _ => trivial⟩
  | k + 1, b, f => by
    unfold stripR Sf
    cases h : R b (f b) with
    | none => exact ⟨fun ⟨r, h1, _⟩ => by exact (nomatch h1), fun h1 => by have h1 : b = b + (k + 1) := h1; omega⟩
    | some r =>
      dsimp only
      rw [show b + (k + 1) = b + 1 + k by omega, ← sf_iff n R k (b + 1)]
      exact ⟨fun ⟨r', h1, h2⟩ => by injection h1 with h1; subst h1; exact h2, fun h => ⟨r, rfl, h⟩⟩
theorem Sf.mono {n : Nat} {R R' : Nat → Nat → Option (Nat → Nat)} (hR : ∀ b x r, R b x = some r → R' b x = some r) : ∀ {k b f}, Sf n R k b f → Sf n R' k b f
  | 0, _, _, _ => trivial
  | k + 1, b, f, ⟨r, h1, h2⟩ => ⟨r, hR _ _ _ h1, h2.mono hR⟩
theorem Sf.congr {n c : Nat} {R R' : Nat → Nat → Option (Nat → Nat)} (hR : ∀ b x, c ≤ b → R b x = R' b x) : ∀ {k b f}, c ≤ b → Sf n R k b f → Sf n R' k b f
  | 0, _, _, _, _ => trivial
  | k + 1, b, f, hb, ⟨r, h1, h2⟩ => ⟨r, by rw [← hR b _ hb]; exact h1, h2.congr hR (by omega)⟩
structure GoodT (n : Nat) (t : Tw) : Prop where
  rep : ∀ b x r, t.R b x = some r → b < n ∧ x < n ∧ IsP n r ∧ FixP b r ∧ r b = x
  one : ∀ b, b < n → t.R b b = some idP
  gen : ∀ b h, h ∈ t.g b → IsP n h ∧ FixP b h
theorem sf_id {n : Nat} {t : Tw} (hG : GoodT n t) : ∀ k b, b + k ≤ n → Sf n t.R k b idP
  | 0, _, _ => trivial
  | k + 1, b, h => ⟨idP, hG.one b (by omega), by rw [invP_id]; exact sf_id hG k (b + 1) (by omega)⟩
/-- The product q is sifted at its level. -/
def DoneT (n : Nat) (R : Nat → Nat → Option (Nat → Nat)) (b : Nat) (q : Nat → Nat) : Prop :=
  ∃ r, R b (q b) = some r ∧ Sf n R (n - (b + 1)) (b + 1) (thenP q (invP n r))
theorem DoneT.mono {n b : Nat} {R R' : Nat → Nat → Option (Nat → Nat)} (hR : ∀ b x r, R b x = some r → R' b x = some r) {q : Nat → Nat} (h : DoneT n R b q) : DoneT n R' b q := by
  obtain ⟨r, h1, h2⟩ := h
  exact ⟨r, hR _ _ _ h1, h2.mono hR⟩
theorem DoneT.congr {n b : Nat} {R R' : Nat → Nat → Option (Nat → Nat)} (hR : ∀ c x, b ≤ c → R c x = R' c x) {q : Nat → Nat} (h : DoneT n R b q) : DoneT n R' b q := by
  obtain ⟨r, h1, h2⟩ := h
  exact ⟨r, by rw [← hR b _ (Nat.le_refl _)]; exact h1, h2.congr hR (by omega)⟩
/-- Level c is complete. -/
structure CompT (n : Nat) (t : Tw) (c : Nat) : Prop where
  done : ∀ x r, t.R c x = some r → ∀ h ∈ t.g c, DoneT n t.R c (thenP r h)
  rep : ∀ c' x r, c ≤ c' → t.R c' x = some r → Gn (t.g c) r
  gen : ∀ c' h, c ≤ c' → h ∈ t.g c' → Gn (t.g c) h
theorem CompT.congr {n c : Nat} {t t' : Tw} (h : CompT n t c) (hR : ∀ b x, c ≤ b → t.R b x = t'.R b x) (hg : ∀ b, c ≤ b → t.g b = t'.g b) : CompT n t' c :=
  ⟨fun x r hr k hk => (h.done x r (by rw [hR _ _ (Nat.le_refl _)]; exact hr) k (by rw [hg _ (Nat.le_refl _)]; exact hk)).congr hR,
   fun c' x r hc hr => by rw [← hg _ (Nat.le_refl _)]; exact h.rep c' x r hc (by rw [hR _ _ hc]; exact hr),
   fun c' k hc hk => by rw [← hg _ (Nat.le_refl _)]; exact h.gen c' k hc (by rw [hg _ hc]; exact hk)⟩
/-- What sifts through lies in the group of the representatives. -/
theorem sf_in {n : Nat} {t : Tw} {H : (Nat → Nat) → Prop} (hG : GoodT n t) (hH : Grp n H) : ∀ k b f, b + k = n → (∀ c x r, b ≤ c → t.R c x = some r → H r) → IsP n f → FixP b f → Sf n t.R k b f → H f
  | 0, b, f, hb, _, hP, hF, _ => by
    have : b = n := by omega
    subst this
    rw [hF.all hP]; exact hH.one
  | k + 1, b, f, hb, hr, hP, hF, ⟨r, h1, h2⟩ => by
    obtain ⟨_, _, h3, h4, h5⟩ := hG.rep _ _ _ h1
    have := sf_in hG hH k (b + 1) (thenP f (invP n r)) (by omega) (fun c x r' hc => hr c x r' (by omega)) (hP.comp h3.inv) (hF.div h3 h4 h5) h2
    have h6 := hH.mul _ _ this (hr _ _ _ (Nat.le_refl _) h1)
    rwa [h3.cancel] at h6
/-- The elements that sift from a level on are the group of its generators. -/
theorem sf_eq {n : Nat} {t : Tw} (hG : GoodT n t) : ∀ k b, b + (k + 1) = n → (∀ c, b ≤ c → c < n → CompT n t c) → ∀ f, IsP n f → FixP b f → (Sf n t.R (k + 1) b f ↔ Gn (t.g b) f)
  | k, b, hb, hC, f, hP, hF => by
    have hGr : Grp n (Gn (t.g b)) := Gn.grp fun s hs => (hG.gen _ _ hs).1
    refine ⟨fun h => sf_in hG hGr (k + 1) b f hb (fun c x r hc hr => (hC b (Nat.le_refl _) (by omega)).rep c x r hc hr) hP hF h, fun h => ?_⟩
    clear hF hP
    induction h with
    | one => exact sf_id hG _ _ (by omega)
    | @step f s hf hs ih =>
      have hfP := hf.isP fun s hs => (hG.gen _ _ hs).1
      have hfF : FixP b f := by
        clear ih
        induction hf with
        | one => exact fix_id _
        | step hf' hs' ih' => exact (ih' (hf'.isP fun s hs => (hG.gen _ _ hs).1)).comp (hG.gen _ _ hs').2
      obtain ⟨r, h1, h2⟩ := ih
      obtain ⟨_, _, h3, h4, h5⟩ := hG.rep _ _ _ h1
      obtain ⟨r', h6, h7⟩ := (hC b (Nat.le_refl _) (by omega)).done _ _ h1 s hs
      obtain ⟨_, _, h8, h9, h10⟩ := hG.rep _ _ _ h6
      have hsP := (hG.gen _ _ hs)
      have e1 : (thenP r s) b = (thenP f s) b := by show s (r b) = s (f b); rw [h5]
      refine ⟨r', by rw [← e1]; exact h6, ?_⟩
      have e2 : thenP (thenP f s) (invP n r') = thenP (thenP f (invP n r)) (thenP (thenP r s) (invP n r')) := by
        conv => lhs; rw [← h3.cancel (f := f)]
        rfl
      rw [e2]
      have hk : n - (b + 1) = k := by omega
      rw [hk] at h7
      have hA := hfF.div h3 h4 h5
      have hB : FixP (b + 1) (thenP (thenP r s) (invP n r')) := (h4.comp hsP.2).div h8 h9 (by rw [h10])
      have hPA := hfP.comp h3.inv
      have hPB := (h3.comp hsP.1).comp h8.inv
      cases k with
      | zero => trivial
      | succ k =>
        have IH := sf_eq hG k (b + 1) (by omega) fun c hc hcn => hC c (by omega) hcn
        exact (IH _ (hPA.comp hPB) (hA.comp hB)).2 (((IH _ hPA hA).1 h2).mul ((IH _ hPB hB).1 h7))
/-- All from level b on lie in H. -/
def SndT (H : (Nat → Nat) → Prop) (b : Nat) (t : Tw) : Prop := (∀ c x r, b ≤ c → t.R c x = some r → H r) ∧ ∀ c h, b ≤ c → h ∈ t.g c → H h
theorem SndT.up {H : (Nat → Nat) → Prop} {b c : Nat} {t : Tw} (h : SndT H b t) (hc : b ≤ c) : SndT H c t := ⟨fun c' x r h1 => h.1 c' x r (by omega), fun c' x h1 => h.2 c' x (by omega)⟩
def LowT (b : Nat) (t t' : Tw) : Prop := ∀ c, c < b → (∀ x, t'.R c x = t.R c x) ∧ t'.g c = t.g c
theorem LowT.refl (b : Nat) (t : Tw) : LowT b t t := fun _ _ => ⟨fun _ => rfl, rfl⟩
theorem LowT.trans {b : Nat} {t u v : Tw} (h : LowT b t u) (k : LowT b u v) : LowT b t v := fun c hc => ⟨fun x => by rw [(k c hc).1, (h c hc).1], by rw [(k c hc).2, (h c hc).2]⟩
theorem LowT.down {b c : Nat} {t u : Tw} (h : LowT b t u) (hc : c ≤ b) : LowT c t u := fun d hd => h d (by omega)
def LeT (t t' : Tw) : Prop := ∀ b x r, t.R b x = some r → t'.R b x = some r
theorem LeT.trans {t u v : Tw} (h : LeT t u) (k : LeT u v) : LeT t v := fun b x r hr => k b x r (h b x r hr)
/-- What insert leaves. -/
structure InsT (n b : Nat) (p : Nat → Nat) (t t' : Tw) : Prop where
  good : GoodT n t'
  low : LowT b t t'
  le : LeT t t'
  comp : ∀ c, b ≤ c → c < n → CompT n t' c
  mem : Sf n t'.R (n - b) b p
  snd : ∀ H, Grp n H → SndT H b t → H p → SndT H b t'
/-- What visit leaves. -/
structure VisT (n b : Nat) (q : Nat → Nat) (t t' : Tw) : Prop where
  good : GoodT n t'
  low : LowT b t t'
  le : LeT t t'
  gb : t'.g b = t.g b
  comp : ∀ c, b + 1 ≤ c → c < n → CompT n t' c
  done : DoneT n t'.R b q
  new : ∀ x r, t.R b x = none → t'.R b x = some r → ∀ h ∈ t.g b, DoneT n t'.R b (thenP r h)
  snd : ∀ H, Grp n H → SndT H b t → H q → SndT H b t'
theorem InsT.same {n b : Nat} {p : Nat → Nat} {t : Tw} (hG : GoodT n t) (hC : ∀ c, b ≤ c → c < n → CompT n t c) (h : Sf n t.R (n - b) b p) : InsT n b p t t :=
  ⟨hG, LowT.refl _ _, fun _ _ _ h => h, hC, h, fun _ _ h _ => h⟩
/-- visit where the point has its representative. -/
theorem InsT.vis {n b : Nat} {q r : Nat → Nat} {t t' : Tw} (hb : b < n) (hG : GoodT n t) (hr : t.R b (q b) = some r) (h : InsT n (b + 1) (thenP q (invP n r)) t t') : VisT n b q t t' :=
  ⟨h.good, h.low.down (by omega), h.le, (h.low b (by omega)).2, h.comp, ⟨r, h.le _ _ _ hr, h.mem⟩, fun x r' h1 h2 => by
    rw [(h.low b (by omega)).1 x, h1] at h2; exact (nomatch h2), fun H hH hS hq => by
    have h1 := h.snd H hH (hS.up (by omega)) (hH.mul _ _ hq (hH.inv _ (hS.1 _ _ _ (Nat.le_refl _) hr)))
    refine ⟨fun c x r' hc hr' => ?_, fun c k hc hk => ?_⟩
    · by_cases e : c = b
      · subst e; rw [(h.low c (by omega)).1 x] at hr'; exact hS.1 c x r' (Nat.le_refl _) hr'
      · exact h1.1 c x r' (by omega) hr'
    · by_cases e : c = b
      · subst e; rw [(h.low c (by omega)).2] at hk; exact hS.2 c k (Nat.le_refl _) hk
      · exact h1.2 c k (by omega) hk⟩
def setR (t : Tw) (b x : Nat) (q : Nat → Nat) : Tw := ⟨fun c y => if c = b ∧ y = x then some q else t.R c y, t.g⟩
def addG (t : Tw) (b : Nat) (p : Nat → Nat) : Tw := ⟨t.R, fun c => if c = b then t.g c ++ [p] else t.g c⟩
/-- visit behind k rounds of its loop: q is a new representative. -/
structure VisL (n b : Nat) (q : Nat → Nat) (t t' : Tw) (k : Nat) : Prop where
  good : GoodT n t'
  low : LowT b t t'
  le : LeT t t'
  gb : t'.g b = t.g b
  comp : ∀ c, b + 1 ≤ c → c < n → CompT n t' c
  rep : t'.R b (q b) = some q
  done : ∀ j h, j < k → (t.g b)[j]? = some h → DoneT n t'.R b (thenP q h)
  new : ∀ x r, x ≠ q b → t.R b x = none → t'.R b x = some r → ∀ h ∈ t.g b, DoneT n t'.R b (thenP r h)
  snd : ∀ H, Grp n H → SndT H b t → H q → SndT H b t'
theorem VisL.start {n b : Nat} {q : Nat → Nat} {t : Tw} (hb : b < n) (hG : GoodT n t) (hC : ∀ c, b + 1 ≤ c → c < n → CompT n t c) (hP : IsP n q) (hF : FixP b q) (hr : t.R b (q b) = none) : VisL n b q t (setR t b (q b) q) 0 := by
  have hle : LeT t (setR t b (q b) q) := fun c x r h => by
    show (if c = b ∧ x = q b then some q else t.R c x) = some r
    split
    · rename_i e; rw [e.1, e.2, hr] at h; cases h
    · exact h
  refine ⟨⟨fun c x r h => ?_, fun c hc => hle _ _ _ (hG.one c hc), hG.gen⟩, fun c hc => ⟨fun x => ?_, rfl⟩, hle, rfl, fun c hc hcn => (hC c hc hcn).congr (fun d x hd => ?_) (fun _ _ => rfl), ?_, fun j h hj => by omega, fun x r hx h1 h2 => ?_, fun H hH hS hq => ⟨fun c x r hc h => ?_, hS.2⟩⟩
  · have h : (if c = b ∧ x = q b then some q else t.R c x) = some r := h
    split at h
    · rename_i e; injection h with h; subst h; rw [e.1, e.2]; exact ⟨hb, hP.lt _ hb, hP, hF, rfl⟩
    · exact hG.rep c x r h
  · show (if c = b ∧ x = q b then some q else t.R c x) = t.R c x
    rw [if_neg (by omega)]
  · show t.R d x = (if d = b ∧ x = q b then some q else t.R d x)
    rw [if_neg (by omega)]
  · show (if b = b ∧ q b = q b then some q else t.R b (q b)) = some q
    rw [if_pos ⟨rfl, rfl⟩]
  · have h2 : (if b = b ∧ x = q b then some q else t.R b x) = some r := h2
    rw [if_neg (fun e => hx e.2), h1] at h2; cases h2
  · have h : (if c = b ∧ x = q b then some q else t.R c x) = some r := h
    split at h
    · injection h with h; subst h; exact hq
    · exact hS.1 c x r hc h
theorem VisL.step {n b k : Nat} {q h : Nat → Nat} {t u v : Tw} (hl : VisL n b q t u k) (hk : (t.g b)[k]? = some h) (hv : VisT n b (thenP q h) u v) : VisL n b q t v (k + 1) :=
  ⟨hv.good, hl.low.trans hv.low, hl.le.trans hv.le, by rw [hv.gb, hl.gb], hv.comp, hv.le _ _ _ hl.rep, fun j s hj hs => by
    by_cases e : j = k
    · subst e; rw [hk] at hs; injection hs with hs; subst hs; exact hv.done
    · exact (hl.done j s (by omega) hs).mono hv.le, fun x r hx h1 h2 s hs => by
    cases hu : u.R b x with
    | none => exact hv.new x r hu h2 s (by rw [hl.gb]; exact hs)
    | some r' =>
      have h3 := hv.le _ _ _ hu
      rw [h2] at h3
      injection h3 with h3; subst h3
      exact (hl.new x r hx h1 hu s hs).mono hv.le, fun H hH hS hq => by
    have h1 := hl.snd H hH hS hq
    exact hv.snd H hH h1 (hH.mul _ _ hq (h1.2 b h (Nat.le_refl _) (by rw [hl.gb]; exact List.mem_of_getElem? hk)))⟩
theorem VisL.fin {n b k : Nat} {q : Nat → Nat} {t u : Tw} (hb : b < n) (hP : IsP n q) (hl : VisL n b q t u k) (hk : (t.g b).length ≤ k) : VisT n b q t u :=
  ⟨hl.good, hl.low, hl.le, hl.gb, hl.comp, ⟨q, hl.rep, by rw [hP.then_inv]; exact sf_id hl.good _ _ (by omega)⟩, fun x r h1 h2 s hs => by
    by_cases e : x = q b
    · subst e
      rw [hl.rep] at h2
      injection h2 with h2; subst h2
      obtain ⟨j, hj, e⟩ := List.getElem_of_mem hs
      exact hl.done j s (by omega) (by rw [List.getElem?_eq_getElem hj, e])
    · exact hl.new x r e h1 h2 s hs, hl.snd⟩
/-- insert behind the points below x. -/
structure InsL (n b : Nat) (p : Nat → Nat) (t t' : Tw) (x : Nat) : Prop where
  good : GoodT n t'
  low : LowT b t t'
  le : LeT t t'
  gb : t'.g b = t.g b ++ [p]
  comp : ∀ c, b + 1 ≤ c → c < n → CompT n t' c
  old : ∀ y r, y < x → t.R b y = some r → DoneT n t'.R b (thenP r p)
  new : ∀ y r, t.R b y = none → t'.R b y = some r → ∀ h ∈ t'.g b, DoneT n t'.R b (thenP r h)
  snd : ∀ H, Grp n H → SndT H b t → H p → SndT H b t'
theorem InsL.start {n b : Nat} {p : Nat → Nat} {t : Tw} (hG : GoodT n t) (hC : ∀ c, b + 1 ≤ c → c < n → CompT n t c) (hP : IsP n p) (hF : FixP b p) : InsL n b p t (addG t b p) 0 := by
  refine ⟨⟨hG.rep, hG.one, fun c h hh => ?_⟩, fun c hc => ⟨fun _ => rfl, ?_⟩, fun _ _ _ h => h, ?_, fun c hc hcn => (hC c hc hcn).congr (fun _ _ _ => rfl) (fun d hd => ?_), fun y r hy => by omega, fun y r h1 h2 => ?_, fun H hH hS hp => ⟨hS.1, fun c h hc hh => ?_⟩⟩
  · have h2 : h ∈ (if c = b then t.g c ++ [p] else t.g c) := hh
    by_cases e : c = b
    · subst e
      rw [if_pos rfl] at h2
      rcases List.mem_append.1 h2 with h1 | h1
      · exact hG.gen c h h1
      · rw [List.mem_singleton.1 h1]; exact ⟨hP, hF⟩
    · rw [if_neg e] at h2; exact hG.gen c h h2
  · show (if c = b then t.g c ++ [p] else t.g c) = t.g c
    rw [if_neg (by omega)]
  · show (if b = b then t.g b ++ [p] else t.g b) = _
    rw [if_pos rfl]
  · show t.g d = (if d = b then t.g d ++ [p] else t.g d)
    rw [if_neg (by omega)]
  · have h2 : t.R b y = some r := h2
    rw [h1] at h2; cases h2
  · have hh : h ∈ (if c = b then t.g c ++ [p] else t.g c) := hh
    split at hh
    · rcases List.mem_append.1 hh with h1 | h1
      · exact hS.2 c h hc h1
      · rw [List.mem_singleton.1 h1]; exact hp
    · exact hS.2 c h hc hh
theorem InsL.skip {n b x : Nat} {p : Nat → Nat} {t u : Tw} (hl : InsL n b p t u x) (h : t.R b x = none) : InsL n b p t u (x + 1) :=
  ⟨hl.good, hl.low, hl.le, hl.gb, hl.comp, fun y r hy hr => by
    by_cases e : y = x
    · subst e; rw [h] at hr; cases hr
    · exact hl.old y r (by omega) hr, hl.new, hl.snd⟩
theorem InsL.step {n b x : Nat} {p r : Nat → Nat} {t u v : Tw} (hl : InsL n b p t u x) (hr : t.R b x = some r) (hv : VisT n b (thenP r p) u v) : InsL n b p t v (x + 1) :=
  ⟨hv.good, hl.low.trans hv.low, hl.le.trans hv.le, by rw [hv.gb, hl.gb], hv.comp, fun y r' hy hr' => by
    by_cases e : y = x
    · subst e; rw [hr] at hr'; injection hr' with hr'; subst hr'; exact hv.done
    · exact (hl.old y r' (by omega) hr').mono hv.le, fun y r' h1 h2 s hs => by
    rw [hv.gb] at hs
    cases hu : u.R b y with
    | none => exact hv.new y r' hu h2 s hs
    | some r'' =>
      have h3 := hv.le _ _ _ hu
      rw [h2] at h3
      injection h3 with h3; subst h3
      exact (hl.new y r' h1 hu s hs).mono hv.le, fun H hH hS hp => by
    have h1 := hl.snd H hH hS hp
    exact hv.snd H hH h1 (hH.mul _ _ (h1.1 _ _ _ (Nat.le_refl _) (hl.le _ _ _ hr)) hp)⟩
theorem InsL.fin {n b x : Nat} {p : Nat → Nat} {t u : Tw} (hb : b < n) (hG : GoodT n t) (hC : ∀ c, b ≤ c → c < n → CompT n t c) (hP : IsP n p) (hF : FixP b p) (hl : InsL n b p t u x) (hx : n ≤ x) : InsT n b p t u := by
  have hGr : Grp n (Gn (u.g b)) := Gn.grp fun s hs => (hl.good.gen _ _ hs).1
  have hp : Gn (u.g b) p := Gn.of (by rw [hl.gb]; simp)
  have hsub : ∀ f, Gn (t.g b) f → Gn (u.g b) f := fun f hf => hf.mono fun s hs => Gn.of (by rw [hl.gb]; exact List.mem_append_left _ hs)
  have hS := hl.snd _ hGr ⟨fun c x r hc hr => hsub _ ((hC b (Nat.le_refl _) hb).rep c x r hc hr), fun c k hc hk => hsub _ ((hC b (Nat.le_refl _) hb).gen c k hc hk)⟩ hp
  have hcb : CompT n u b := ⟨fun y r hr s hs => by
      cases h : t.R b y with
      | none => exact hl.new y r h hr s hs
      | some r' =>
        have h3 := hl.le _ _ _ h
        rw [hr] at h3
        injection h3 with h3; subst h3
        rw [hl.gb] at hs
        rcases List.mem_append.1 hs with h1 | h1
        · exact ((hC b (Nat.le_refl _) hb).done y r h s h1).mono hl.le
        · rw [List.mem_singleton.1 h1]
          exact hl.old y r (by have := (hG.rep _ _ _ h).2.1; omega) h, hS.1, hS.2⟩
  have hall : ∀ c, b ≤ c → c < n → CompT n u c := fun c hc hcn => by
    by_cases e : c = b
    · subst e; exact hcb
    · exact hl.comp c (by omega) hcn
  refine ⟨hl.good, hl.low, hl.le, hall, ?_, hl.snd⟩
  obtain ⟨k, hk⟩ : ∃ k, n - b = k + 1 := ⟨n - b - 1, by omega⟩
  rw [hk]
  exact (sf_eq hl.good k b (by omega) hall p hP hF).2 hp
/-- The tower of the trivial group. -/
def newT (n : Nat) : Tw := ⟨fun b x => if b < n ∧ x = b then some idP else none, fun _ => []⟩
theorem newT_good (n : Nat) : GoodT n (newT n) :=
  ⟨fun b x r h => by
    have h : (if b < n ∧ x = b then some idP else none) = some r := h
    split at h
    · rename_i e; injection h with h; subst h; exact ⟨e.1, by omega, isP_id n, fix_id _, e.2.symm⟩
    · exact (nomatch h), fun b hb => by
    show (if b < n ∧ b = b then some idP else none) = some idP
    rw [if_pos ⟨hb, rfl⟩], fun _ _ h => by cases h⟩
theorem newT_comp (n c : Nat) : CompT n (newT n) c :=
  ⟨fun _ _ _ _ h => by (first | cases h | exact absurd h (List.not_mem_nil)), fun c' x r _ h => by
    have h : (if c' < n ∧ x = c' then some idP else none) = some r := h
    split at h
    · injection h with h; subst h; exact .one
    · exact (nomatch h), fun _ _ _ h => by cases h⟩
/-- The tower behind some generators. -/
structure BldT (n : Nat) (S : List (Nat → Nat)) (t : Tw) (k : Nat) : Prop where
  good : GoodT n t
  comp : ∀ c, c < n → CompT n t c
  mem : ∀ j s, j < k → S[j]? = some s → Sf n t.R n 0 s
  snd : SndT (Gn S) 0 t
theorem BldT.start {n : Nat} {S : List (Nat → Nat)} : BldT n S (newT n) 0 :=
  ⟨newT_good n, fun c _ => newT_comp n c, fun j s h => by omega, fun c x r _ h => by
    have h : (if c < n ∧ x = c then some idP else none) = some r := h
    split at h
    · injection h with h; subst h; exact .one
    · exact (nomatch h), fun _ _ _ h => by cases h⟩
theorem BldT.step {n k : Nat} {S : List (Nat → Nat)} {t t' : Tw} {s : Nat → Nat} (hS : ∀ s ∈ S, IsP n s) (h : BldT n S t k) (hs : S[k]? = some s) (hi : InsT n 0 s t t') : BldT n S t' (k + 1) :=
  ⟨hi.good, fun c hc => hi.comp c (by omega) hc, fun j s' hj hs' => by
    by_cases e : j = k
    · subst e; rw [hs] at hs'; injection hs' with hs'; subst hs'; exact hi.mem
    · exact (h.mem j s' (by omega) hs').mono hi.le, hi.snd _ (Gn.grp hS) h.snd (Gn.of (List.mem_of_getElem? hs))⟩
/-- The finished tower: its group and the stabilizers. -/
theorem sf_up {n : Nat} {t : Tw} (hG : GoodT n t) {f : Nat → Nat} : ∀ k b, b + k = n → FixP b f → (Sf n t.R n 0 f ↔ Sf n t.R k b f) := by
  intro k b
  induction b generalizing k with
  | zero => intro h _; rw [show k = n by omega]
  | succ b ih =>
    intro h hF
    rw [ih (k + 1) (by omega) (fun i hi => hF i (by omega))]
    have hb : f b = b := hF b (by omega)
    have h1 := hG.one b (by omega)
    constructor
    · rintro ⟨r, h2, h3⟩
      rw [hb, h1] at h2
      injection h2 with h2; subst h2
      rw [invP_id] at h3
      exact h3
    · intro h3
      exact ⟨idP, by rw [hb]; exact h1, by rw [invP_id]; exact h3⟩
theorem BldT.grp {n k : Nat} {S : List (Nat → Nat)} {t : Tw} (hn : 1 ≤ n) (hS : ∀ s ∈ S, IsP n s) (h : BldT n S t k) (hk : S.length ≤ k) {b : Nat} (hb : b ≤ n) {f : Nat → Nat} (hP : IsP n f) (hF : FixP b f) : Sf n t.R (n - b) b f ↔ Gn S f := by
  rw [← sf_up h.good (n - b) b (by omega) hF]
  obtain ⟨m, rfl⟩ : ∃ m, n = m + 1 := ⟨n - 1, by omega⟩
  have key := sf_eq h.good m 0 (by omega) (fun c _ hc => h.comp c hc)
  constructor
  · intro h1
    exact sf_in h.good (Gn.grp hS) (m + 1) 0 f (by omega) h.snd.1 hP (fun i hi => by omega) h1
  · intro h1
    refine (key f hP (fun i hi => by omega)).2 (h1.mono fun s hs => ?_)
    obtain ⟨j, hj, e⟩ := List.getElem_of_mem hs
    exact (key s (hS s hs) (fun i hi => by omega)).1 (h.mem j s (by omega) (by rw [List.getElem?_eq_getElem hj, e]))
/-- A point has a representative just where the group's stabilizer meets it. -/
theorem BldT.orb {n k : Nat} {S : List (Nat → Nat)} {t : Tw} (hn : 1 ≤ n) (hS : ∀ s ∈ S, IsP n s) (h : BldT n S t k) (hk : S.length ≤ k) {b : Nat} (hb : b < n) (x : Nat) : (∃ r, t.R b x = some r) ↔ ∃ f, Gn S f ∧ FixP b f ∧ f b = x := by
  constructor
  · rintro ⟨r, hr⟩
    obtain ⟨_, _, h1, h2, h3⟩ := h.good.rep _ _ _ hr
    exact ⟨r, h.snd.1 _ _ _ (Nat.zero_le _) hr, h2, h3⟩
  · rintro ⟨f, hf, hF, rfl⟩
    have := (h.grp hn hS hk (by omega) (hf.isP hS) hF).2 hf
    rw [show n - b = n - (b + 1) + 1 by omega] at this
    obtain ⟨r, hr, _⟩ := this
    exact ⟨r, hr⟩
end Go.Proofs.YtgfdhclpffakfaaGreat
