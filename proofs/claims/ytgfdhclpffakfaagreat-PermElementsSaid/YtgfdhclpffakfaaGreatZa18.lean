/- Walks of the tower's insert and visit. -/
import Derived.Deep.CutRange
import Derived.Test.YtgfdhclpffakfaaGreatZa16
import Derived.Test.YtgfdhclpffakfaaGreatZa17
namespace Go.Proofs.YtgfdhclpffakfaaGreat
set_option linter.unusedVariables false
set_option linter.unusedSimpArgs false
open Go.RowKit

theorem appd_of {w w' : World} {o : Obj} {base : Nat} {e : TypeId} {size : Nat} {v v' : Value} {n : Nat} {xs news : List Value} (old : w.ownsRow base e size v n xs) (hown : w'.ownsRow base e size v' (n + 1) (xs ++ news))
    (hg : ((w.alloc o).drew).grownBy w' v.ownBlock) (ha : v'.ownBlock = v.ownBlock ∨ v'.ownBlock = some ((w.alloc o).drew).heap.size) : Appd w w' base e size v v' n xs news :=
  ⟨hown, ⟨o, ⟨hg.os, hg.tape, hg.output, hg.size, hg.block⟩⟩, by simpa using ha, old⟩
def TwR (w : World) (base n tb rb gb : Nat) (rr : Nat → Nat) (mb : List Nat) (t : Tw) : Prop := ∃ gv V, TwM w base n tb rb gb rr gv V mb t
/-- How many points of a level have no representative. -/
def nilC (n : Nat) (t : Tw) (b : Nat) : Nat := (List.range n).countP fun x => (t.R b x).isNone
def muT (n : Nat) (t : Tw) (b : Nat) : Nat := (n - b) * (n + 1) + nilC n t b
theorem nilC_le (n : Nat) (t : Tw) (b : Nat) : nilC n t b ≤ n := by
  unfold nilC
  have := List.countP_le_length (p := fun x => (t.R b x).isNone) (l := List.range n)
  simpa using this
theorem nilC_mono {t t' : Tw} (h : LeT t t') (b : Nat) : ∀ n, nilC n t' b ≤ nilC n t b
  | 0 => Nat.le_refl _
  | n + 1 => by
    have ih := nilC_mono h b n
    unfold nilC at *
    rw [List.range_succ, List.countP_append, List.countP_append, List.countP_singleton, List.countP_singleton]
    cases h1 : t.R b n with
    | none => simp; split <;> omega
    | some r => rw [h b n r h1]; simp; exact ih
theorem muT_mono {n : Nat} {t t' : Tw} (h : LeT t t') (b : Nat) : muT n t' b ≤ muT n t b := Nat.add_le_add_left (nilC_mono h b n) _
theorem nilC_set {t : Tw} {b x : Nat} {q : Nat → Nat} (h : t.R b x = none) : ∀ n, (x < n → nilC n (setR t b x q) b + 1 = nilC n t b) ∧ (n ≤ x → nilC n (setR t b x q) b = nilC n t b)
  | 0 => ⟨fun h => by omega, fun _ => rfl⟩
  | n + 1 => by
    obtain ⟨h1, h2⟩ := nilC_set (q := q) h n
    unfold nilC at *
    have key : (setR t b x q).R b n = if n = x then some q else t.R b n := by
      show (if b = b ∧ n = x then some q else t.R b n) = _
      by_cases e : n = x <;> simp [e]
    rw [List.range_succ, List.countP_append, List.countP_append, List.countP_singleton, List.countP_singleton, key]
    constructor
    · intro hx
      by_cases e : n = x
      · rw [if_pos e]
        subst e
        rw [h, h2 (Nat.le_refl _)]; simp
      · rw [if_neg e]
        have := h1 (by omega)
        omega
    · intro hx
      have e : ¬ n = x := by omega
      rw [if_neg e, h2 (by omega)]
theorem muT_set {n : Nat} {t : Tw} {b x : Nat} {q : Nat → Nat} (h : t.R b x = none) (hx : x < n) : muT n (setR t b x q) b + 1 = muT n t b := by
  unfold muT
  have := (nilC_set (q := q) h n).1 hx
  omega
theorem muT_up {n : Nat} {t : Tw} {b : Nat} (hb : b + 1 < n) : muT n t (b + 1) + 1 ≤ muT n t b := by
  unfold muT
  have h1 := nilC_le n t (b + 1)
  rw [show n - b = n - (b + 1) + 1 by omega, Nat.succ_mul]
  omega
/-- The points without a representative from a level on. -/
def nilS (n : Nat) (t : Tw) (c : Nat) : Nat := ((List.range n).map fun d => if c ≤ d then nilC n t d else 0).sum
theorem sum_le_map {f g : Nat → Nat} : ∀ l : List Nat, (∀ d ∈ l, f d ≤ g d) → (l.map f).sum ≤ (l.map g).sum
  | [], _ => Nat.le_refl _
  | d :: l, h => by
    have h1 := h d (List.mem_cons_self ..)
    have h2 := sum_le_map l fun e he => h e (List.mem_cons_of_mem _ he)
    simp only [List.map_cons, List.sum_cons]
    omega
theorem nilS_mono {n : Nat} {t t' : Tw} (h : LeT t t') (c : Nat) : nilS n t' c ≤ nilS n t c :=
  sum_le_map _ fun d _ => by
    split
    · exact nilC_mono h d n
    · exact Nat.le_refl _
theorem nilS_le (n : Nat) (t : Tw) (c : Nat) : nilS n t c ≤ n * n := by
  have h1 := sum_le_map (f := fun d => if c ≤ d then nilC n t d else 0) (g := fun _ => n) (List.range n) fun d _ => by
    split
    · exact nilC_le n t d
    · exact Nat.zero_le _
  have h2 : ((List.range n).map fun _ => n).sum = n * n := by
    rw [List.map_const', List.sum_replicate_nat, List.length_range]
  unfold nilS
  omega
theorem sum_eq_map {f g : Nat → Nat} : ∀ l : List Nat, (∀ d ∈ l, f d ≤ g d) → (l.map g).sum ≤ (l.map f).sum → ∀ d ∈ l, f d = g d
  | [], _, _, d, hd => absurd hd (List.not_mem_nil)
  | e :: l, h, hs, d, hd => by
    have h1 := h e (List.mem_cons_self ..)
    have h2 := sum_le_map l fun e he => h e (List.mem_cons_of_mem _ he)
    simp only [List.map_cons, List.sum_cons] at hs
    rcases List.mem_cons.1 hd with h3 | h3
    · subst h3; omega
    · exact sum_eq_map l (fun e he => h e (List.mem_cons_of_mem _ he)) (by omega) d h3
theorem countP_eq {p q : Nat → Bool} : ∀ l : List Nat, (∀ x ∈ l, q x = true → p x = true) → l.countP p ≤ l.countP q → ∀ x ∈ l, p x = q x
  | [], _, _, x, hx => absurd hx (List.not_mem_nil)
  | e :: l, h, hs, x, hx => by
    have h2 : l.countP q ≤ l.countP p := List.countP_mono_left fun y hy => h y (List.mem_cons_of_mem _ hy)
    have h1 := h e (List.mem_cons_self ..)
    rw [List.countP_cons, List.countP_cons] at hs
    have key : p e = q e ∧ l.countP p ≤ l.countP q := by
      cases hp : p e <;> cases hq : q e <;> simp [hp, hq] at hs h1 ⊢ <;> omega
    rcases List.mem_cons.1 hx with h3 | h3
    · subst h3; exact key.1
    · exact countP_eq l (fun y hy => h y (List.mem_cons_of_mem _ hy)) key.2 x h3
/-- Where something new sifts through, a representative has come. -/
theorem nilS_lt {n : Nat} {t t' : Tw} (hG : GoodT n t) (hG' : GoodT n t') (h : LeT t t') {b : Nat} {p : Nat → Nat} (h1 : ¬ Sf n t.R (n - b) b p) (h2 : Sf n t'.R (n - b) b p) : nilS n t' b + 1 ≤ nilS n t b := by
  apply Classical.byContradiction
  intro hn
  refine h1 (Sf.congr (c := b) (R := t'.R) (fun c x hc => ?_) (Nat.le_refl _) h2)
  by_cases hcx : c < n ∧ x < n
  · have e1 := sum_eq_map (f := fun d => if b ≤ d then nilC n t' d else 0) (g := fun d => if b ≤ d then nilC n t d else 0) (List.range n) (fun d _ => by
      split
      · exact nilC_mono h d n
      · exact Nat.le_refl _) (by unfold nilS at hn; omega) c (List.mem_range.2 hcx.1)
    simp only [if_pos hc] at e1
    have e2 := countP_eq (p := fun x => (t.R c x).isNone) (q := fun x => (t'.R c x).isNone) (List.range n) (fun y _ hy => by
      cases hr : t.R c y with
      | none => rfl
      | some r => rw [h c y r hr] at hy; cases hy) (by unfold nilC at e1; omega) x (List.mem_range.2 hcx.2)
    cases hr : t.R c x with
    | some r => exact h c x r hr
    | none =>
      simp only [hr, Option.isNone] at e2
      cases hr' : t'.R c x with
      | none => rfl
      | some r => rw [hr'] at e2; cases e2
  · cases hr : t.R c x with
    | some r => exact absurd ⟨(hG.rep _ _ _ hr).1, (hG.rep _ _ _ hr).2.1⟩ hcx
    | none =>
      cases hr' : t'.R c x with
      | none => rfl
      | some r => exact absurd ⟨(hG'.rep _ _ _ hr').1, (hG'.rep _ _ _ hr').2.1⟩ hcx
/-- The generators from a level on are few. -/
def BdT (n : Nat) (t : Tw) (b : Nat) : Prop := ∀ c, b ≤ c → c < n → (t.g c).length + nilS n t c ≤ n * n
theorem BdT.up {n : Nat} {t : Tw} {b c : Nat} (h : BdT n t b) (hc : b ≤ c) : BdT n t c := fun d hd => h d (by omega)
theorem BdT.mono {n : Nat} {t t' : Tw} {b : Nat} (h : BdT n t b) (hl : LeT t t') (hg : ∀ c, b ≤ c → t'.g c = t.g c) : BdT n t' b := fun c hc hcn => by
  rw [hg c hc]
  have := h c hc hcn
  have := nilS_mono (n := n) hl c
  omega
/-- visit does what it shall, up to a measure. -/
def VisOK (base n tb rb gb : Nat) (rr : Nat → Nat) (m : Nat) : Prop := ∀ (w : World) (mb : List Nat) (t : Tw) (q : Nat → Nat) (u : Value) (b : Nat), muT n t b ≤ m → b < n → TwR w base n tb rb gb rr mb t → GoodT n t → (∀ c, b + 1 ≤ c → c < n → CompT n t c) → PV w mb n u q → IsP n q → FixP b q → base ≤ w.heap.size → (t.g b).length ≤ n * n + 1 → BdT n t (b + 1) →
  Calls Tryz.prog 70 #[.pointer (some ⟨tb, 0, none⟩), u, .int .i64 b] w fun r w' => (∃ z, r = .returned z) ∧ ∃ mb' t', TwR w' base n tb rb gb rr mb' t' ∧ VisT n b q t t' ∧ Mx mb mb' w w' ∧ BdT n t' (b + 1)
def InsOK (base n tb rb gb : Nat) (rr : Nat → Nat) (m : Nat) : Prop := ∀ (w : World) (mb : List Nat) (t : Tw) (p : Nat → Nat) (u : Value) (b : Nat), (b < n → muT n t b ≤ m) → b ≤ n → TwR w base n tb rb gb rr mb t → GoodT n t → (∀ c, b ≤ c → c < n → CompT n t c) → PV w mb n u p → IsP n p → FixP b p → base ≤ w.heap.size → BdT n t b →
  Calls Tryz.prog 47 #[.pointer (some ⟨tb, 0, none⟩), u, .int .i64 b] w fun r w' => (∃ z, r = .returned z) ∧ ∃ mb' t', TwR w' base n tb rb gb rr mb' t' ∧ InsT n b p t t' ∧ Mx mb mb' w w' ∧ BdT n t' b
theorem RepV.one {w : World} {mb : List Nat} {n : Nat} {o : Option (Nat → Nat)} {u : Value} (h : RepV w mb n o u) : u.oneCell' = true := by
  cases o with
  | none => have h : u = .slice none 0 0 := h; rw [h]; rfl
  | some r =>
    have h : PV w mb n u r := h
    obtain ⟨b, o, cap, rfl, _⟩ := h.at_
    rfl
set_option maxRecDepth 100000 in
set_option maxHeartbeats 4000000 in
theorem ins_of_vis {base n tb rb gb : Nat} {rr : Nat → Nat} (hn1 : 1 ≤ n) (hn : n ≤ 64) (m : Nat) (hv : VisOK base n tb rb gb rr m) : InsOK base n tb rb gb rr m := by
  intro w mb t p u b hmu hb htw hG hC hu hP hF hbw hbd
  have HV := hid_ hv
  have HBD := hid_ hbd
  have hnn : n * n ≤ 4096 := Nat.mul_le_mul hn hn
  obtain ⟨gv, V, hM⟩ := htw
  have HM := hid_ hM
  have HG := hid_ hG
  have HC := hid_ hC
  have HU := hid_ hu
  have HP := hid_ hP
  have HF := hid_ hF
  have HMU := hid_ hmu
  have HST := hid_ (strip_any w hM hG hn1 hn u p b hb hu.sl hP)
  obtain ⟨ub, uo, uc, rfl, _, _, _, _⟩ := hu.at_
  obtain ⟨E, hE⟩ : ∃ E, (stripR n t.R (n - b) b p).2 = E := ⟨_, rfl⟩
  have HE := hid_ hE
  have HEB := hid_ (stripR_le n t.R (n - b) b p)
  rw [hE] at HST HEB
  clear hv hbd hM hG hC hu hP hF hmu hE
  by_cases hen : E = n
  · have hb1 : ((E : Int) == (n : Int)) = true := by simp; omega
    have hb2 : (E == n) = true := by simpa using hen
    have HIN := hid_ (InsT.same HG.out HC.out ((sf_iff n t.R (n - b) b p).2 (by rw [HE.out]; omega)))
    clear hen
    go_enter Tryz.func47, Tryz.ntmps47
    go_wp2_with fail
    refine HST.out.mono ?_
    rintro e w1 ⟨z, rfl, hx1⟩
    have c0 := hx1.cell HM.out.c0
    have HX1 := hid_ hx1
    clear hx1
    go_wp2_with fail
    ((try simp only [Exit.inBlock, Exit.then]); refine bodyPost_ret (results_none rfl _ _ _) rfl ?_)
    exact ⟨⟨_, rfl⟩, mb, t, ⟨gv, V, HM.out.ex HX1.out⟩, HIN.out, Mx.ofEx HX1.out mb, HBD.out⟩
  · have hbn : b < n := by
      apply Classical.byContradiction
      intro h
      have h1 := HEB.out
      omega
    have hb1 : ((E : Int) == (n : Int)) = false := by simp; omega
    have hb2 : (E == n) = false := by simpa using hen
    have HLB := hid_ (show (t.g b).length ≤ 4096 from by have := HBD.out b (Nat.le_refl _) hbn; omega)
    have HNS := hid_ (show ¬ Sf n t.R (n - b) b p from fun h => hen (by have := (sf_iff n t.R (n - b) b p).1 h; rw [HE.out] at this; omega))
    clear hen
    go_enter Tryz.func47, Tryz.ntmps47
    go_wp2_with fail
    refine HST.out.mono ?_
    rintro e w1 ⟨z, rfl, hx1⟩
    have HX1 := hid_ hx1
    have HM := hid_ (HM.out.ex hx1)
    have HU := hid_ (HU.out.ex hx1)
    have HBW := hid_ (Nat.le_trans hbw hx1.size)
    clear hx1
    obtain ⟨vals, hgo, hgv⟩ := HM.out.gro b hbn
    have HGO := hid_ hgo
    have HGV := hid_ hgv
    clear hgo hgv
    have hgl := HLB.out
    have c0 := HM.out.c0
    have c2 := HM.out.c2
    have c4 := HM.out.go.cell hbn
    have i1 : (0 : Int) ≤ (b : Int) := by omega
    have i2 : (b : Int) < (n : Int) := by omega
    have EA := (Ex.refl w1).alloc (.cells #[.slice (some ⟨ub, uo, none⟩) n uc] 32)
    have c2a := EA.cell c2
    have c4a := EA.cell c4
    have HNG := hid_ (show (gv b).ownBlock ≠ some gb from fun e => (HM.out.gvm b _ hbn e).2.1 rfl)
    have HTB := hid_ (show some tb ≠ (gv b).ownBlock from fun e => HM.out.tm (HM.out.gvm b tb hbn e.symm).1)
    have HBA := hid_ (show base ≤ ((w1.alloc (.cells #[.slice (some ⟨ub, uo, none⟩) n uc] 32)).drew).heap.size from by have := HBW.out; simp; omega)
    go_upto_region 2 with fail
    go_cut [2] from 23 to 39 (fun s2 wx => s2 = .int .i64 b ∧ Hid (∃ mb', TwR wx base n tb rb gb rr mb' (addG t b p) ∧ Mx mb mb' w1 wx))
    case first =>
     go_region_law
      ((refine step_append_sl (by rfl) _ _ _ (by rfl) base 32 (.slice none 0 0) 1 24 Tryz.underlying46 infoIntsL rfl (by decide) (gv b) (t.g b).length vals (by rfl) (ownsRow_ex HGO.out (((Ex.refl w1).alloc (.cells #[.slice (some ⟨ub, uo, none⟩) n uc] 32)).drew)) _ 1 [.slice (some ⟨ub, uo, none⟩) n uc] (by rfl) (Sl.own (own_lit1 w1 (.slice (some ⟨ub, uo, none⟩) n uc) 32)) (by simp [Value.oneCell']) (by unfold maxLen; omega) (by omega) (HBA.out) ?_; intro v8 w8 hown8 hg8 ha8; have HAP := hid_ (appd_of HGO.out hown8 hg8 ha8); have HC8 := (HAP.out.arr HM.out.go HNG.out).1.cell hbn; have HF8 := (HAP.out.arr HM.out.go HNG.out).1.frz b; have c2b := HAP.out.cell c2 HTB.out; obtain ⟨va, vc, hv8⟩ := own_shape hown8; subst hv8; clear hown8 hg8 ha8))
     all_goals
      have HRES := hid_ (show ∃ mb', TwR (w8.setCell ⟨gb, b, none⟩ (.slice va ((t.g b).length + 1) vc)) base n tb rb gb rr mb' (addG t b p) ∧ Mx mb mb' w1 (w8.setCell ⟨gb, b, none⟩ (.slice va ((t.g b).length + 1) vc)) from by
        obtain ⟨mb', h1, h2⟩ := HM.out.addGen hbn HU.out HGV.out HAP.out
        exact ⟨mb', ⟨_, _, h1⟩, h2⟩)
      clear HC8 HF8 c2b
      go_wp2_with fail
      go_meet
      exact ⟨rfl, HRES⟩
    case rest =>
      obtain ⟨rfl, hres⟩ := hcut
      obtain ⟨mb1, ⟨gv1, V1, hM1⟩, hmx⟩ := hres.out
      have HM1 := hid_ hM1
      have HMX := hid_ hmx
      have HU1 := hid_ (HU.out.mx hmx)
      clear hres hM1 hmx c0 c2 c4 c2a c4a HGO HGV HNG HTB HBA HM HU EA
      have c1 := HM1.out.c1
      have c3 := HM1.out.ro b hbn
      have HCL := hid_ (Clone2_any wc n (V1 b) _ (HM1.out.row b hbn).sl hn1 (by omega) (fun j hj => (HM1.out.rep b j hbn hj).one))
      have HIL := hid_ (InsL.start HG.out (fun c h1 h2 => HC.out c (by omega) h2) HP.out HF.out)
      have HMB := hid_ (show muT n t b ≤ m from HMU.out hbn)
      have HBG := hid_ (show BdT n (addG t b p) (b + 1) from (HBD.out.up (by omega : b ≤ b + 1)).mono (fun _ _ _ h => h) fun c hc => by
        show (if c = b then t.g c ++ [p] else t.g c) = t.g c
        rw [if_neg (by omega)])
      go_wp2_with (go_at_call 69; refine HCL.out.mono ?_; rintro e w9 ⟨g9, cap9, rfl, hown, hx9⟩; have HOW := hid_ hown; have HX9 := hid_ hx9; clear hown hx9)
      have HC9 := hid_ (show ∀ j, j < n → w9.cell? ⟨g9, j, none⟩ = some (V1 b j) from fun j hj => HOW.out.cell hj)
      have HG9 := hid_ (show g9 ∉ mb1 from fun h => by have := HM1.out.low g9 h; have := HOW.out.lt.1; omega)
      have HRP := hid_ (show ∀ y, y < n → RepV w9 mb1 n (t.R b y) (V1 b y) from fun y hy => (HM1.out.rep b y hbn hy).mx (Mx.ofEx HX9.out mb1))
      have HU9 := hid_ (HU1.out.ex HX9.out)
      have HTW := hid_ (show TwR w9 base n tb rb gb rr mb1 (addG t b p) from ⟨_, _, HM1.out.ex HX9.out⟩)
      have HMX9 := hid_ ((Mx.ofEx HX1.out mb).trans (HMX.out.trans (Mx.ofEx HX9.out mb1)))
      clear c1 c3 HCL HOW HM1 HMX HU1 HX9
      go_loopw [48, 9] (fun x' r' wr => ∃ (x : Nat) (mbc : List Nat) (tc : Tw), x ≤ n ∧ x' = .int .i64 x ∧ Hid (TwR wr base n tb rb gb rr mbc tc) ∧ Hid (InsL n b p t tc x) ∧ Hid (Mx mb mbc w wr) ∧ Hid (∀ j, j < n → wr.cell? ⟨g9, j, none⟩ = some (V1 b j)) ∧ Hid (g9 ∉ mbc) ∧ Hid (∀ y, y < n → RepV wr mbc n (t.R b y) (V1 b y)) ∧ Hid (PV wr mbc n (.slice (some ⟨ub, uo, none⟩) n uc) p) ∧ Hid (BdT n tc (b + 1))) (fun x' _ _ => n - (intOf x').toNat)
      case atStart => exact ⟨0, mb1, addG t b p, by omega, rfl, HTW, HIL, HMX9, HC9, HG9, HRP, HU9, HBG⟩
      case round =>
        clear HTW HIL HMX9 HC9 HG9 HRP HU9 HBG
        obtain ⟨x, mbc, tc, hx, rfl, htw, hil, hmx, hc9, hg9, hrp, hup, hbg⟩ := hrel
        by_cases hxn : x < n
        · have d1 := hc9.out x hxn
          have hrep := hrp.out x hxn
          have i3 : (0 : Int) ≤ (x : Int) := by omega
          have i4 : (x : Int) < (n : Int) := by omega
          cases hR : t.R b x with
          | none =>
            rw [hR] at hrep
            have hrep : V1 b x = .slice none 0 0 := hrep
            rw [hrep] at d1
            have HI2 := hid_ (hil.out.skip hR)
            clear hrep hR hil
            go_wp2_with fail
            go_roundw
            case rel => exact ⟨x + 1, mbc, tc, by omega, by go_num, htw, HI2, hmx, hc9, hg9, hrp, hup, hbg⟩
            case measure => simp [intOf]; omega
          | some r =>
            rw [hR] at hrep
            have hrep : PV wr mbc n (V1 b x) r := hrep
            obtain ⟨vb, vo, vc, hV, _, _, _, _⟩ := hrep.at_
            obtain ⟨_, _, hrP, hrF, hrb⟩ := HG.out.rep _ _ _ hR
            have HRS := hid_ hrep.sl
            rw [hV] at d1 HRS
            have HTH := hid_ (then_any wr n r p _ _ HRS.out hup.out.sl (by omega) hrP.lt)
            have HVI := hid_ (fun w2 (hx2 : Ex wr w2) z (hz : PV w2 mbc n z (thenP r p)) => HV.out w2 mbc tc (thenP r p) z b (Nat.le_trans (muT_mono hil.out.le b) HMB.out) hbn (by obtain ⟨gv', V', h⟩ := htw.out; exact ⟨gv', V', h.ex hx2⟩) hil.out.good hil.out.comp hz (hrP.comp HP.out) (hrF.comp HF.out) (Nat.le_trans hbw (Nat.le_trans hmx.out.size hx2.size)) (by have h1 := HBD.out b (Nat.le_refl _) hbn; rw [hil.out.gb, List.length_append]; simp; omega) hbg.out)
            have HLO := hid_ (show ∀ B ∈ mbc, B < wr.heap.size from by obtain ⟨gv', V', h⟩ := htw.out; exact h.low)
            have HRR := hid_ hR
            have HIL := hid_ hil.out
            have HMX := hid_ hmx.out
            have HC9 := hid_ hc9.out
            have HG9 := hid_ hg9.out
            have HRP := hid_ hrp.out
            have HUP := hid_ hup.out
            clear hrep hR hil hmx hc9 hg9 hrp hup hbg hV hrP hrF hrb htw
            go_wp2_with (first | (go_at_call 35; refine HTH.out.mono ?_; rintro e w2 ⟨g2, rfl, hown, hx2⟩; have HN2 := hid_ (PV.new hn1 hown HLO.out); have HX2 := hid_ hx2; clear hown hx2) | (go_at_call 70; refine (HVI.out _ HX2.out _ HN2.out).mono ?_; rintro e w3 ⟨⟨zz, rfl⟩, mb3, t3, htw3, hvi3, hmx3, hbd3⟩; have HBD3 := hid_ hbd3; clear hbd3; have HTW3 := hid_ htw3; have HVI3 := hid_ hvi3; have HMX3 := hid_ ((Mx.ofEx HX2.out mbc).trans hmx3); clear htw3 hvi3 hmx3))
            have HI3 := hid_ (HIL.out.step HRR.out HVI3.out)
            have HC3 := hid_ (show ∀ j, j < n → w3.cell? ⟨g9, j, none⟩ = some (V1 b j) from fun j hj => HMX3.out.cell (HC9.out j hj) HG9.out)
            have HG3 := hid_ (show g9 ∉ mb3 from fun h => by
              rcases HMX3.out.mb g9 h with h1 | h1
              · exact HG9.out h1
              · have := World.block_lt_of_cell? _ _ (HC9.out 0 (by omega)); dsimp only at this; omega)
            have HR3 := hid_ (show ∀ y, y < n → RepV w3 mb3 n (t.R b y) (V1 b y) from fun y hy => (HRP.out y hy).mx HMX3.out)
            have HU3 := hid_ (HUP.out.mx HMX3.out)
            have HM3 := hid_ (HMX.out.trans HMX3.out)
            go_roundw
            case rel => exact ⟨x + 1, mb3, t3, by omega, by go_num, HTW3, HI3, HM3, HC3, HG3, HR3, HU3, HBD3⟩
            case measure => simp [intOf]; omega
        · obtain rfl : x = n := by omega
          have HIN := hid_ (hil.out.fin hbn HG.out HC.out HP.out HF.out (Nat.le_refl _))
          have HBE := hid_ (show BdT x tc b from fun c hc hcn => by
            by_cases e : c = b
            · subst e
              have h1 := HBD.out c (Nat.le_refl _) hcn
              have h2 := nilS_lt HG.out HIN.out.good HIN.out.le HNS.out HIN.out.mem
              rw [hil.out.gb, List.length_append]
              simp; omega
            · exact hbg.out c (by omega) hcn)
          clear hil hbg
          go_wp2_with fail
          ((try simp only [Exit.inBlock, Exit.then]); first | refine bodyPost_ret (results_none rfl _ _ _) rfl ?_ | refine bodyPost_end (results_none rfl _ _ _) rfl ?_)
          exact ⟨⟨_, rfl⟩, mbc, tc, htw.out, HIN.out, hmx.out, HBE.out⟩
set_option maxRecDepth 100000 in
set_option maxHeartbeats 4000000 in
theorem vis_step {base n tb rb gb : Nat} {rr : Nat → Nat} (hn1 : 1 ≤ n) (hn : n ≤ 64) (m : Nat) (hv : VisOK base n tb rb gb rr m) (hi : InsOK base n tb rb gb rr m) : VisOK base n tb rb gb rr (m + 1) := by
  intro w mb t q u b hmu hbn htw hG hC hu hP hF hbw hgl hbd
  have hnn : n * n ≤ 4096 := Nat.mul_le_mul hn hn
  have HV := hid_ hv
  have HI := hid_ hi
  obtain ⟨gv, V, hM⟩ := htw
  have HM := hid_ hM
  have HG := hid_ hG
  have HC := hid_ hC
  have HU := hid_ hu
  have HP := hid_ hP
  have HF := hid_ hF
  have HBD := hid_ hbd
  have HGL := hid_ hgl
  obtain ⟨ub, uo, uc, rfl, _, _, _, hpc⟩ := hu.at_
  have hqb := hP.lt b hbn
  have d1 := hpc b hbn
  have c1 := hM.c1
  have c3 := hM.ro b hbn
  have d3 := (hM.row b hbn).cell hqb
  have hrep := hM.rep b (q b) hbn hqb
  have i1 : (0 : Int) ≤ (b : Int) := by omega
  have i2 : (b : Int) < (n : Int) := by omega
  have i3 : (0 : Int) ≤ (q b : Int) := by omega
  have i4 : (q b : Int) < (n : Int) := by omega
  cases hR : t.R b (q b) with
  | some r =>
    rw [hR] at hrep
    have hrep : PV w mb n (V b (q b)) r := hrep
    obtain ⟨vb, vo, vc, hV, _, _, _, _⟩ := hrep.at_
    obtain ⟨_, _, hrP, hrF, hrb⟩ := hG.rep _ _ _ hR
    have HRS := hid_ hrep.sl
    rw [hV] at d3 HRS
    have HIV := hid_ (inverse_any w n r _ HRS.out (by omega) hrP)
    have HTH := hid_ (fun w1 (hx1 : Ex w w1) z hz => then_any w1 n q (invP n r) _ z (HU.out.sl.ex hx1) hz (by omega) hP.lt)
    have HLO := hid_ hM.low
    have HIN := hid_ (fun w2 (hx2 : Ex w w2) z (hz : PV w2 mb n z (thenP q (invP n r))) => HI.out w2 mb t (thenP q (invP n r)) z (b + 1) (fun h => by have := muT_up (t := t) h; omega) hbn ⟨gv, V, HM.out.ex hx2⟩ HG.out HC.out hz (hP.comp hrP.inv) (hF.div hrP hrF hrb) (Nat.le_trans hbw hx2.size) HBD.out)
    have HRR := hid_ hR
    have i5 : IntKind.i64.wrap ((b : Int) + 1) = (b : Int) + 1 := IntWalk.i64_in _ (by omega)
    have hcast : ((b + 1 : Nat) : Int) = (b : Int) + 1 := by omega
    rw [hcast] at HIN
    clear hrep hR hV hrP hrF hrb hG hC hu hP hF hbd hgl hpc hM hv hi hcast hmu
    go_enter Tryz.func70, Tryz.ntmps70
    go_wp2_with (first | (go_at_call 43; refine HIV.out.mono ?_; rintro e w2 ⟨g2, rfl, hown, hx2⟩; have HI2 := hid_ hown.li; have HX2 := hid_ hx2; clear hown hx2) | (go_at_call 35; refine (HTH.out _ HX2.out _ HI2.out).mono ?_; rintro e w3 ⟨g3, rfl, hown, hx3⟩; have HI3 := hid_ (PV.new hn1 hown (fun B hB => Nat.lt_of_lt_of_le (HLO.out B hB) HX2.out.size)); have HX3 := hid_ (HX2.out.trans hx3); clear hown hx3) | (go_at_call 47; refine (HIN.out _ HX3.out _ HI3.out).mono ?_; rintro e w4 ⟨⟨zz, rfl⟩, mb4, t4, htw4, hin4, hmx4, hbd4⟩; have HTW4 := hid_ htw4; have HIN4 := hid_ hin4; have HMX4 := hid_ ((Mx.ofEx HX3.out mb).trans hmx4); have HBD4 := hid_ hbd4; clear htw4 hin4 hmx4 hbd4))
    ((try simp only [Exit.inBlock, Exit.then]); first | refine bodyPost_ret (results_none rfl _ _ _) rfl ?_ | refine bodyPost_end (results_none rfl _ _ _) rfl ?_)
    exact ⟨⟨_, rfl⟩, mb4, t4, HTW4.out, HIN4.out.vis hbn HG.out HRR.out, HMX4.out, HBD4.out⟩
  | none =>
    rw [hR] at hrep
    have hrep : V b (q b) = .slice none 0 0 := hrep
    rw [hrep] at d3
    have f3 := (hM.row b hbn).frz (q b)
    obtain ⟨hM1, hmx1⟩ := hM.setRep hbn hqb HU.out
    have HTW1 := hid_ (show TwR (w.setCell ⟨rr b, q b, none⟩ (.slice (some ⟨ub, uo, none⟩) n uc)) base n tb rb gb rr mb (setR t b (q b) q) from ⟨_, _, hM1⟩)
    have HMX1 := hid_ hmx1
    have HU1 := hid_ (HU.out.mx hmx1)
    have HVL := hid_ (VisL.start hbn hG hC hP hF hR)
    have HBD1 := hid_ (hbd.mono HVL.out.le fun _ _ => rfl)
    have HMU := hid_ (show muT n (setR t b (q b) q) b ≤ m from by have := muT_set (q := q) hR hqb; omega)
    have HBW := hid_ hbw
    clear hrep hR hG hC hu hP hF hbd hgl hpc hM hv hi hmu hM1 hmx1 hbw
    go_enter Tryz.func70, Tryz.ntmps70
    go_wp2_with fail
    have HSZ := hid_ (show base ≤ (w.setCell ⟨rr b, q b, none⟩ (.slice (some ⟨ub, uo, none⟩) n uc)).heap.size from Nat.le_trans HBW.out HMX1.out.size)
    generalize w.setCell ⟨rr b, q b, none⟩ (.slice (some ⟨ub, uo, none⟩) n uc) = w1 at *
    clear d1 c1 c3 d3 f3
    go_loopw [7] (fun k' wr => ∃ (k : Nat) (mbc : List Nat) (tc : Tw), k ≤ (t.g b).length ∧ k' = .int .i64 k ∧ Hid (TwR wr base n tb rb gb rr mbc tc) ∧ Hid (VisL n b q t tc k) ∧ Hid (LeT (setR t b (q b) q) tc) ∧ Hid (Mx mb mbc w wr) ∧ Hid (PV wr mbc n (.slice (some ⟨ub, uo, none⟩) n uc) q) ∧ Hid (BdT n tc (b + 1)) ∧ Hid (base ≤ wr.heap.size)) (fun k' _ => (t.g b).length - (intOf k').toNat)
    case atStart => exact ⟨0, mb, _, by omega, rfl, HTW1, HVL, hid_ (fun _ _ _ h => h), HMX1, HU1, HBD1, HSZ⟩
    case round =>
      clear HTW1 HVL HMX1 HU1 HBD1 HSZ
      obtain ⟨k, mbc, tc, hk, rfl, htw, hvl, hle, hmx, hup, hbg, hbw⟩ := hrel
      obtain ⟨gv, V, hM⟩ := htw.out
      obtain ⟨vals, hgo, hgv⟩ := hM.gro b hbn
      rw [hvl.out.gb] at hgo hgv
      have c2 := hM.c2
      have c4 := hM.go.cell hbn
      have hgl := HGL.out
      by_cases hkn : k < (t.g b).length
      · obtain ⟨s, hs⟩ : ∃ s, (t.g b)[k]? = some s := ⟨_, List.getElem?_eq_getElem hkn⟩
        obtain ⟨v, hvk⟩ : ∃ v, vals[k]? = some v := ⟨_, List.getElem?_eq_getElem (by have := hgo.1; omega)⟩
        have hsv := hgv k s v hs hvk
        obtain ⟨sb, so, sc, rfl, _, _, _, _⟩ := hsv.at_
        obtain ⟨go_, gc, hgo_, _, hgc⟩ := own_open hgo (by omega)
        unfold maxLen at hgc
        rw [hgo_] at hgo c4
        have d5 : wr.cell? ⟨go_, k, none⟩ = some (.slice (some ⟨sb, so, none⟩) n sc) := by
          rw [World.ownsRow.cellAt hgo k (by omega)]; exact hvk
        have i5 : (0 : Int) ≤ (k : Int) := by omega
        have i6 : (k : Int) < ((t.g b).length : Int) := by omega
        obtain ⟨hsP, hsF⟩ := HG.out.gen b s (List.mem_of_getElem? hs)
        have HTH := hid_ (then_any wr n q s _ _ hup.out.sl hsv.sl (by omega) HP.out.lt)
        have HLO := hid_ hM.low
        have HVI := hid_ (fun w2 (hx2 : Ex wr w2) z (hz : PV w2 mbc n z (thenP q s)) => HV.out w2 mbc tc (thenP q s) z b (Nat.le_trans (muT_mono hle.out b) HMU.out) hbn ⟨gv, V, hM.ex hx2⟩ hvl.out.good hvl.out.comp hz (HP.out.comp hsP) (HF.out.comp hsF) (Nat.le_trans hbw.out hx2.size) (by rw [hvl.out.gb]; exact HGL.out) hbg.out)
        have HVL := hid_ hvl.out
        have HS := hid_ hs
        have HLE := hid_ hle.out
        have HMX := hid_ hmx.out
        have HUP := hid_ hup.out
        have HBWR := hid_ hbw.out
        clear hvl hle hmx hup hbg hbw hs hvk hsv hgo hgv hsP hsF htw hM hgo_
        go_wp2_with (first | (go_at_call 35; refine HTH.out.mono ?_; rintro e w2 ⟨g2, rfl, hown, hx2⟩; have HN2 := hid_ (PV.new hn1 hown HLO.out); have HX2 := hid_ hx2; clear hown hx2) | (go_at_call 70; refine (HVI.out _ HX2.out _ HN2.out).mono ?_; rintro e w3 ⟨⟨zz, rfl⟩, mb3, t3, htw3, hvi3, hmx3, hbd3⟩; have HTW3 := hid_ htw3; have HVI3 := hid_ hvi3; have HMX3 := hid_ ((Mx.ofEx HX2.out mbc).trans hmx3); have HBD3 := hid_ hbd3; clear htw3 hvi3 hmx3 hbd3))
        have HVL3 := hid_ (HVL.out.step HS.out HVI3.out)
        have HLE3 := hid_ (HLE.out.trans HVI3.out.le)
        have HMXT := hid_ (HMX.out.trans HMX3.out)
        have HUP3 := hid_ (HUP.out.mx HMX3.out)
        have HB3 := hid_ (Nat.le_trans HBWR.out HMX3.out.size)
        go_roundw
        case rel => exact ⟨k + 1, mb3, t3, by omega, by go_num, HTW3, HVL3, HLE3, HMXT, HUP3, HBD3, HB3⟩
        case measure => simp [intOf]; omega
      · obtain rfl : k = (t.g b).length := by omega
        obtain ⟨ga, gc, hgs⟩ := own_shape hgo
        rw [hgs] at c4
        have HFI := hid_ (hvl.out.fin hbn HP.out (Nat.le_refl _))
        clear hvl hgo hgv hgs hM
        go_wp2_with fail
        ((try simp only [Exit.inBlock, Exit.then]); first | refine bodyPost_ret (results_none rfl _ _ _) rfl ?_ | refine bodyPost_end (results_none rfl _ _ _) rfl ?_)
        exact ⟨⟨_, rfl⟩, mbc, tc, htw.out, HFI.out, hmx.out, hbg.out⟩
end Go.Proofs.YtgfdhclpffakfaaGreat
