/- Walk of the tower's canon. -/
/- Chains in memory: levels of three cells; the call's own growing levels. -/
import Derived.Test.YtgfdhclpffakfaaGreatZa02
import Derived.Test.YtgfdhclpffakfaaGreatZa19
namespace Go.Proofs.YtgfdhclpffakfaaGreat
set_option linter.unusedVariables false
set_option linter.unusedSimpArgs false
open Go.RowKit

theorem cnR_succ {n : Nat} {R : Nat → Nat → Option (Nat → Nat)} {k c : Nat} {p r : Nat → Nat} (h : R c (bestK (R c) p c n) = some r) : cnR n R (k + 1) c p = cnR n R k (c + 1) (thenP r p) := by
  show cnR n R k (c + 1) (thenP ((R c (bestK (R c) p c n)).getD idP) p) = _
  rw [h]; rfl
theorem bestK_lt {R : Nat → Option (Nat → Nat)} {p : Nat → Nat} {c n : Nat} (hc : c < n) : ∀ x, x ≤ n → bestK R p c x < n
  | 0, _ => hc
  | x + 1, h => by
    unfold bestK
    split
    · omega
    · exact bestK_lt hc x (by omega)
set_option maxRecDepth 100000 in
set_option maxHeartbeats 4000000 in
theorem canon_any (w : World) {base n tb rb gb : Nat} {rr : Nat → Nat} {gv : Nat → Value} {V : Nat → Nat → Value} {mb : List Nat} {t : Tw} (hm : TwM w base n tb rb gb rr gv V mb t) (hG : GoodT n t) (hn1 : 1 ≤ n) (hn : n ≤ 64)
    (u : Value) (f : Nat → Nat) (b : Nat) (hb : b < n) (hu : ISl w u (li n f)) (hP : IsP n f) :
    Calls Tryz.prog 71 #[.pointer (some ⟨tb, 0, none⟩), u, .int .i64 b] w fun r w' => ∃ v, r = .returned v ∧ ISl w' v (li n (cnR n t.R (n - (b + 1)) (b + 1) f)) ∧ (v = u ∨ ∃ g cap, v = .slice (some ⟨g, 0, none⟩) n cap ∧ w.heap.size ≤ g) ∧ Ex w w' := by
  have HM := hid_ hm
  have HG := hid_ hG
  have HU := hid_ hu
  have HP := hid_ hP
  obtain ⟨ua, uc, rfl, _, _, _⟩ := isl_li hu
  obtain ⟨E, hE⟩ : ∃ E, cnR n t.R (n - (b + 1)) (b + 1) f = E := ⟨_, rfl⟩
  have HE := hid_ hE
  rw [hE]
  clear hm hG hu hP hE
  go_enter Tryz.func71, Tryz.ntmps71
  go_wp2_with fail
  go_loopw [1, 7] (fun p' c' wr => ∃ (c : Nat) (h : Nat → Nat) (a : Option Addr) (cap : Nat), c ≤ n ∧ c' = .int .i64 c ∧ p' = .slice a n cap ∧ Hid (ISl wr (.slice a n cap) (li n h)) ∧ Hid (IsP n h) ∧ Hid (cnR n t.R (n - c) c h = E) ∧ Hid (Value.slice a n cap = .slice ua n uc ∨ ∃ g cap', Value.slice a n cap = .slice (some ⟨g, 0, none⟩) n cap' ∧ w.heap.size ≤ g) ∧ Hid (Ex w wr)) (fun _ c' _ => n - (intOf c').toNat)
  case atStart => exact ⟨b + 1, f, ua, uc, by omega, by go_num, rfl, HU, HP, HE, hid_ (.inl rfl), hid_ (Ex.refl _)⟩
  case round =>
    clear HU HP HE
    obtain ⟨c, h, a, cap, hc, rfl, rfl, hu, hp, he, hfr, hx⟩ := hrel
    have c0 := hx.out.cell HM.out.c0
    have c1 := hx.out.cell HM.out.c1
    by_cases hcn : c < n
    · obtain ⟨pb, po, rfl, _, hpc⟩ := isl_li_at hu.out (by omega)
      have HPC := hid_ hpc
      have d2 := hx.out.cell (HM.out.ro c hcn)
      have D2 := hid_ d2
      have C1 := hid_ c1
      have i1 : (0 : Int) ≤ (c : Int) := by omega
      have i2 : (c : Int) < (n : Int) := by omega
      clear hpc
      go_wp2_with fail
      go_loopw [8, 30] (fun m' x' w2 => ∃ (x q : Nat), x ≤ n ∧ x' = .int .i64 x ∧ m' = .int .i64 (bestK (t.R c) h c x : Int) ∧ w2 = wr.drewN q) (fun _ x' _ => n - (intOf x').toNat)
      case atStart => exact ⟨0, 0, by omega, rfl, rfl, rfl⟩
      case round =>
        clear c0 c1 d2
        obtain ⟨x, q, hx0, rfl, rfl, rfl⟩ := hrel
        have HBL := hid_ (bestK_lt (R := t.R c) (p := h) hcn x hx0)
        by_cases hxn : x < n
        · have EQ := hid_ ((Ex.refl wr).drewN q)
          have d3 := EQ.out.cell (hx.out.cell ((HM.out.row c hcn).cell hxn))
          have hrep := HM.out.rep c x hcn hxn
          have hbs : bestK (t.R c) h c (x + 1) = if (t.R c x).isSome = true ∧ h x < h (bestK (t.R c) h c x) then x else bestK (t.R c) h c x := rfl
          have HBS := hid_ hbs
          obtain ⟨m, hm⟩ : ∃ m, bestK (t.R c) h c x = m := ⟨_, rfl⟩
          rw [hm] at HBL HBS ⊢
          have hml : m < n := HBL.out
          have d4 := EQ.out.cell (HPC.out x hxn)
          have d5 := EQ.out.cell (HPC.out m hml)
          have i3 : (0 : Int) ≤ (x : Int) := by omega
          have i4 : (x : Int) < (n : Int) := by omega
          have i5 : (0 : Int) ≤ (m : Int) := by omega
          have i6 : (m : Int) < (n : Int) := by omega
          obtain ⟨W, hW⟩ : ∃ W, wr.drewN q = W := ⟨_, rfl⟩
          rw [hW] at d3 d4 d5 ⊢
          have HWE := hid_ hW
          clear hbs hm hW
          cases hR : t.R c x with
          | none =>
            rw [hR] at hrep HBS
            have hrep : V c x = .slice none 0 0 := hrep
            rw [hrep] at d3
            have HB2 := hid_ (show bestK (t.R c) h c (x + 1) = m from by rw [HBS.out, if_neg (by simp)])
            clear hrep hR
            go_wp2_with fail
            go_quiet (fail)
            go_wp2_with fail
            go_roundw
            case rel => exact ⟨x + 1, _, by omega, by go_num, by rw [HB2.out], by rw [← HWE.out, World.drewN_drewN]⟩
            case measure => simp [intOf]; omega
          | some r =>
            rw [hR] at hrep HBS
            have hrep : PV w mb n (V c x) r := hrep
            obtain ⟨vb, vo, vc, hV, _, _, _, _⟩ := hrep.at_
            rw [hV] at d3
            by_cases hlt : h x < h m
            · have HB2 := hid_ (show bestK (t.R c) h c (x + 1) = x from by rw [HBS.out, if_pos ⟨rfl, hlt⟩])
              have b1 : decide ((h x : Int) < (h m : Int)) = true := by simp; omega
              have b2 : decide (h x < h m) = true := by simpa using hlt
              clear hrep hR hV hlt
              go_wp2_with fail
              go_quiet (fail)
              go_wp2_with fail
              go_roundw
              case rel => exact ⟨x + 1, _, by omega, by go_num, by rw [HB2.out], by rw [← HWE.out, World.drewN_drewN]⟩
              case measure => simp [intOf]; omega
            · have HB2 := hid_ (show bestK (t.R c) h c (x + 1) = m from by rw [HBS.out, if_neg (fun e => hlt e.2)])
              have b1 : decide ((h x : Int) < (h m : Int)) = false := by simp; omega
              have b2 : decide (h x < h m) = false := by simpa using hlt
              clear hrep hR hV hlt
              go_wp2_with fail
              go_quiet (fail)
              go_wp2_with fail
              go_roundw
              case rel => exact ⟨x + 1, _, by omega, by go_num, by rw [HB2.out], by rw [← HWE.out, World.drewN_drewN]⟩
              case measure => simp [intOf]; omega
        · obtain rfl : x = n := by omega
          have hone := HG.out.one c hcn
          obtain ⟨hb1, _, _⟩ := bestK_facts (R := t.R c) (p := h) (c := c) (by rw [hone]; rfl) x
          obtain ⟨r, hr⟩ := Option.isSome_iff_exists.1 hb1
          obtain ⟨m, hm⟩ : ∃ m, bestK (t.R c) h c x = m := ⟨_, rfl⟩
          have HC2 := hid_ (show cnR x t.R (x - (c + 1)) (c + 1) (thenP r h) = E from by
            rw [← he.out, show x - c = x - (c + 1) + 1 by omega, cnR_succ hr])
          rw [hm] at hr HBL ⊢
          have hml : m < x := HBL.out
          have hrep := HM.out.rep c m hcn hml
          rw [hr] at hrep
          have hrep : PV w mb x (V c m) r := hrep
          obtain ⟨_, _, hrP, _, _⟩ := HG.out.rep _ _ _ hr
          obtain ⟨vb, vo, vc, hV, _, _, _, _⟩ := hrep.at_
          have EQ := hid_ ((Ex.refl wr).drewN q)
          have d3 := EQ.out.cell (hx.out.cell ((HM.out.row c hcn).cell hml))
          have d4 := EQ.out.cell D2.out
          have c1 := EQ.out.cell C1.out
          rw [hV] at d3
          have HRS := hid_ (hrep.ex (hx.out.trans EQ.out)).sl
          rw [hV] at HRS
          have HTH := hid_ (then_any (wr.drewN q) x r h _ _ HRS.out (hu.out.ex EQ.out) (by omega) hrP.lt)
          have HTP := hid_ (hrP.comp hp.out)
          have i5 : (0 : Int) ≤ (m : Int) := by omega
          have i6 : (m : Int) < (x : Int) := by omega
          have HSZ := hid_ (hx.out.trans EQ.out).size
          clear hrep hr hV hb1 hone hrP he hm
          go_wp2_with (go_at_call 35; refine HTH.out.mono ?_; rintro e w3 ⟨g3, rfl, hown, hx3⟩; have HI3 := hid_ hown.li; have HX3 := hid_ (hx.out.trans (EQ.out.trans hx3)); have HG3 := hid_ (Nat.le_trans HSZ.out hown.lt.1); clear hown hx3)
          go_roundw
          case rel => first | exact ⟨c + 1, thenP r h, some ⟨g3, 0, none⟩, x, by omega, by go_num, rfl, HI3, HTP, HC2, hid_ (.inr ⟨g3, x, rfl, HG3.out⟩), HX3⟩ | ((repeat apply Exists.intro); exact ⟨⟨c + 1, thenP r h, some ⟨g3, 0, none⟩, x, by omega, by go_num, rfl, HI3, HTP, HC2, hid_ (.inr ⟨g3, x, rfl, HG3.out⟩), HX3⟩, rfl⟩)
          case measure => simp [intOf]; omega
    · obtain rfl : c = n := by omega
      have HEE := hid_ (show h = E from by rw [← he.out, Nat.sub_self]; rfl)
      have HUU := hid_ hu.out
      have HFF := hid_ hfr.out
      clear he hu hfr
      go_wp2_with fail
      go_ret
      refine ⟨.slice a c cap, rfl, by rw [← HEE.out]; exact HUU.out, HFF.out, hx.out⟩
end Go.Proofs.YtgfdhclpffakfaaGreat
namespace Go.Proofs.YtgfdhclpffakfaaGreat
set_option linter.unusedVariables false
set_option linter.unusedSimpArgs false
open Go.RowKit

theorem infoLevel : (Tryz.prog.info? 56).map (fun i => (i.zero, i.size, i.bytes)) = some (some (.agg #[.int .i64 0, .slice none 0 0, .slice none 0 0]), 3, 56) := by kernel_rfl
/-- The cells of levels. -/
def lvC : List Lv → List (Value × Value) → List Value
  | l :: L, o :: os => .int .i64 l.pt :: o.1 :: o.2 :: lvC L os
  | _, _ => []
theorem lvC_len : ∀ (L : List Lv) (os : List (Value × Value)), os.length = L.length → (lvC L os).length = L.length * 3
  | [], [], _ => rfl
  | l :: L, o :: os, h => by
    have := lvC_len L os (by simpa using h)
    simp only [lvC, List.length_cons]
    omega
  | [], o :: os, h => by simp at h
  | l :: L, [], h => by simp at h
theorem lvC_get : ∀ (L : List Lv) (os : List (Value × Value)) (i : Nat) (l : Lv) (o : Value × Value), L[i]? = some l → os[i]? = some o → (lvC L os)[3 * i]? = some (.int .i64 l.pt) ∧ (lvC L os)[3 * i + 1]? = some o.1 ∧ (lvC L os)[3 * i + 2]? = some o.2
  | l' :: L, o' :: os, 0, l, o, h, k => by
    simp at h k
    subst h k
    exact ⟨rfl, rfl, rfl⟩
  | l' :: L, o' :: os, i + 1, l, o, h, k => by
    have := lvC_get L os i l o (by simpa using h) (by simpa using k)
    rw [show 3 * (i + 1) = 3 * i + 3 by omega, show 3 * i + 3 + 1 = 3 * i + 1 + 3 by omega, show 3 * i + 3 + 2 = 3 * i + 2 + 3 by omega]
    simpa [lvC] using this
  | [], os, i, l, o, h, k => by simp at h
  | l' :: L, [], i, l, o, h, k => by simp at k
theorem lvC_app : ∀ (L : List Lv) (os : List (Value × Value)) (l : Lv) (o : Value × Value), os.length = L.length → lvC (L ++ [l]) (os ++ [o]) = lvC L os ++ [.int .i64 l.pt, o.1, o.2]
  | [], [], l, o, _ => rfl
  | l' :: L, o' :: os, l, o, h => by
    have := lvC_app L os l o (by simpa using h)
    simp only [List.cons_append, lvC, this]
  | [], o' :: os, l, o, h => by simp at h
  | l' :: L, [], l, o, h => by simp at h
/-- A slice of levels that reads as a list. -/
def LSl (w : World) (v : Value) (L : List Lv) : Prop := ∃ os : List (Value × Value), os.length = L.length ∧ Sl w v L.length 3 (lvC L os) ∧ ∀ (i : Nat) (l : Lv) (o : Value × Value), L[i]? = some l → os[i]? = some o → ISl w o.1 l.orb ∧ MSl w o.2 l.reps
theorem LSl.ex {w w' : World} {v : Value} {L : List Lv} (h : LSl w v L) (hx : Ex w w') : LSl w' v L := by
  obtain ⟨os, h1, h2, h3⟩ := h
  exact ⟨os, h1, h2.ex hx, fun i l o a b => ⟨(h3 i l o a b).1.ex hx, (h3 i l o a b).2.ex hx⟩⟩
theorem LSl.nil (w : World) : LSl w (.slice none 0 0) [] := ⟨[], rfl, Sl.nil w 3, fun i l o h => by simp at h⟩
theorem LSl.open {w : World} {v : Value} {L : List Lv} (h : LSl w v L) : ∃ a cap, v = .slice a L.length cap ∧ L.length ≤ cap ∧ cap ≤ maxLen ∧
    (0 < L.length → ∃ b o, a = some ⟨b, o, none⟩ ∧ ∀ (i : Nat) (l : Lv), L[i]? = some l → ∃ u r, w.cell? ⟨b, o + 3 * i, none⟩ = some (.int .i64 l.pt) ∧ w.cell? ⟨b, o + (3 * i + 1), none⟩ = some u ∧ w.cell? ⟨b, o + (3 * i + 2), none⟩ = some r ∧ ISl w u l.orb ∧ MSl w r l.reps) := by
  obtain ⟨os, h1, ⟨h2, a, cap, h3, h4, h5, h6⟩, h7⟩ := h
  refine ⟨a, cap, h3, h4, h5, fun hn => ?_⟩
  obtain ⟨b, o, h8, h9⟩ := h6 hn
  refine ⟨b, o, h8, fun i l hl => ?_⟩
  have hi := (List.getElem?_eq_some_iff.1 hl).1
  have ho : os[i]? = some (os[i]'(by omega)) := List.getElem?_eq_getElem _
  obtain ⟨g1, g2, g3⟩ := lvC_get L os i l _ hl ho
  obtain ⟨k1, k2⟩ := h7 i l _ hl ho
  exact ⟨_, _, h9 _ _ g1, h9 _ _ g2, h9 _ _ g3, k1, k2⟩
theorem Mx.cons {mb mb' : List Nat} {w w' : World} (h : Mx mb mb' w w') (q : Nat) : Mx (q :: mb) (q :: mb') w w' :=
  ⟨h.os, h.tape, h.output, h.size, fun i hi hn => h.block i hi (fun hm => hn (List.mem_cons_of_mem _ hm)), fun B hB => by
    rcases List.mem_cons.1 hB with e | e
    · exact .inl (by rw [e]; exact List.mem_cons_self ..)
    · rcases h.mb B e with k | k
      · exact .inl (List.mem_cons_of_mem _ k)
      · exact .inr k⟩
/-- A slice of ints off some blocks. -/
structure SI (w : World) (mb : List Nat) (v : Value) (l : List Int) : Prop where
  sl : ISl w v l
  off : 0 < l.length → ∀ B, v.ownBlock = some B → B ∉ mb ∧ B < w.heap.size
theorem Sl.mx {mb mb' : List Nat} {w w' : World} (hx : Mx mb mb' w w') {v : Value} {n size : Nat} {xs : List Value} (h : Sl w v n size xs) (ho : 0 < n → ∀ B, v.ownBlock = some B → B ∉ mb) : Sl w' v n size xs := by
  obtain ⟨h1, a, cap, rfl, h3, h4, h5⟩ := h
  refine ⟨h1, a, cap, rfl, h3, h4, fun hn => ?_⟩
  obtain ⟨b, o, rfl, h6⟩ := h5 hn
  exact ⟨b, o, rfl, fun j u hu => hx.cell (h6 j u hu) (ho hn b rfl)⟩
theorem SI.mx {mb mb' : List Nat} {w w' : World} {v : Value} {l : List Int} (h : SI w mb v l) (hx : Mx mb mb' w w') : SI w' mb' v l :=
  ⟨Sl.mx hx h.sl fun hn B e => (h.off hn B e).1, fun hn B e => by
    obtain ⟨h1, h2⟩ := h.off hn B e
    exact ⟨fun hb => by
      rcases hx.mb B hb with h3 | h3
      · exact h1 h3
      · omega, Nat.lt_of_lt_of_le h2 hx.size⟩⟩
/-- A slice of slices off some blocks. -/
structure SM (w : World) (mb : List Nat) (v : Value) (rows : List (List Int)) (vals : List Value) : Prop where
  sl : Sl w v rows.length 1 vals
  off : 0 < rows.length → ∀ B, v.ownBlock = some B → B ∉ mb ∧ B < w.heap.size
  row : ∀ (i : Nat) (r : List Int) (u : Value), rows[i]? = some r → vals[i]? = some u → SI w mb u r
theorem SM.mx {mb mb' : List Nat} {w w' : World} {v : Value} {rows : List (List Int)} {vals : List Value} (h : SM w mb v rows vals) (hx : Mx mb mb' w w') : SM w' mb' v rows vals :=
  ⟨Sl.mx hx h.sl fun hn B e => (h.off hn B e).1, fun hn B e => by
    obtain ⟨h1, h2⟩ := h.off hn B e
    exact ⟨fun hb => by
      rcases hx.mb B hb with h3 | h3
      · exact h1 h3
      · omega, Nat.lt_of_lt_of_le h2 hx.size⟩, fun i r u a b => (h.row i r u a b).mx hx⟩
theorem SM.msl {w : World} {mb : List Nat} {v : Value} {rows : List (List Int)} {vals : List Value} (h : SM w mb v rows vals) : MSl w v rows := ⟨vals, h.sl, fun i r u a b => (h.row i r u a b).sl⟩
/-- The call's own levels. -/
structure ChM (w : World) (base q : Nat) (mb : List Nat) (lv : Value) (L : List Lv) (os : List (Value × Value)) : Prop where
  own : w.ownsRow base 56 3 lv L.length (lvC L os)
  len : os.length = L.length
  lev : ∀ (i : Nat) (l : Lv) (o : Value × Value), L[i]? = some l → os[i]? = some o → SI w (q :: mb) o.1 l.orb ∧ ∃ vals, SM w (q :: mb) o.2 l.reps vals
  blk : ∀ B, lv.ownBlock = some B → B ∈ mb
theorem ChM.ex {w w' : World} {base q : Nat} {mb : List Nat} {lv : Value} {L : List Lv} {os : List (Value × Value)} (h : ChM w base q mb lv L os) (hx : Ex w w') : ChM w' base q mb lv L os :=
  ⟨ownsRow_ex h.own hx, h.len, fun i l o a b => ⟨(h.lev i l o a b).1.mx (Mx.ofEx hx (q :: mb)), by obtain ⟨vals, h2⟩ := (h.lev i l o a b).2; exact ⟨vals, h2.mx (Mx.ofEx hx (q :: mb))⟩⟩, h.blk⟩
theorem ChM.nil (w : World) (base q : Nat) (mb : List Nat) : ChM w base q mb (.slice none 0 0) [] [] :=
  ⟨World.ownsRow_nil _ _ _ _, rfl, fun i l o h => by simp at h, fun B h => by cases h⟩
/-- A change elsewhere among the mutable blocks. -/
theorem ChM.mx {w w' : World} {base q : Nat} {mb mb' : List Nat} {lv : Value} {L : List Lv} {os : List (Value × Value)} (h : ChM w base q mb lv L os) (hx : Mx mb mb' w w') (ho : w'.ownsRow base 56 3 lv L.length (lvC L os)) (hb : ∀ B, lv.ownBlock = some B → B ∈ mb') : ChM w' base q mb' lv L os :=
  ⟨ho, h.len, fun i l o a b => ⟨(h.lev i l o a b).1.mx (hx.cons q), by obtain ⟨vals, h2⟩ := (h.lev i l o a b).2; exact ⟨vals, h2.mx (hx.cons q)⟩⟩, hb⟩
end Go.Proofs.YtgfdhclpffakfaaGreat
