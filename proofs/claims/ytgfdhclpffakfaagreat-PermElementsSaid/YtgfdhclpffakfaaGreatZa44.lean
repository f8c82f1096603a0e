/- The iterator's inner closure at a level: its loop over the orbit. -/
import Derived.Test.YtgfdhclpffakfaaGreatZa43
namespace Go.Proofs.YtgfdhclpffakfaaGreat
set_option linter.unusedVariables false
set_option linter.unusedSimpArgs false
open Go.RowKit

/-- What the closure reads in its loop over an orbit. -/
structure NdC (w0 A : World) (M : Nat → Prop) (tb yb fb l n : Nat) (lv : Value) (X Y g : Nat) (pv rv : Value) (p : Nat → Nat) (ix : List Nat) : Prop where
  el : ElC w0 A M tb yb fb l n lv
  px : A.cell? ⟨X, 0, none⟩ = some pv
  y2 : A.cell? ⟨Y, 2, none⟩ = some rv
  pl : ISl A pv (li n p)
  pn : ∀ B, pv.ownBlock = some B → ¬ M B
  od : ∀ i, i < ix.length → A.cell? ⟨g, i, none⟩ = some (.int .i64 ((ix.getD i 0 : Nat) : Int))
  nx : ¬ M X
  nyy : ¬ M Y
  ng : ¬ M g
theorem NdC.kps {w0 A B : World} {M : Nat → Prop} {tb yb fb l n : Nat} {lv : Value} {X Y g : Nat} {pv rv : Value} {p : Nat → Nat} {ix : List Nat} (h : NdC w0 A M tb yb fb l n lv X Y g pv rv p ix) (hk : Kps M A B) : NdC w0 B M tb yb fb l n lv X Y g pv rv p ix :=
  ⟨h.el.kps hk, hk.cell h.px h.nx, hk.cell h.y2 h.nyy, Sl.kps hk h.pl fun _ => h.pn, h.pn, fun i hi => hk.cell (h.od i hi) h.ng, h.nx, h.nyy, h.ng⟩
theorem Own.base_le {w : World} {base : Nat} {e : TypeId} {g n : Nat} {c : Nat → Value} (h : Own w base e g n c) : base ≤ g := by
  rcases h.2 with ⟨h0, _⟩ | ⟨g', cap', cur, hv, hb, _⟩
  · cases h0
  · cases hv; exact hb
set_option maxRecDepth 100000 in
set_option maxHeartbeats 8000000 in
theorem from_node {w0 : World} {M : Nat → Prop} {tb yb fb l n : Nat} {J Jx : List Yl → World → Prop} {E : List (Nat → Nat)} (hJ : ∀ s A B, J s A → Ex A B → J s B) {S : List (Nat → Nat)} (hS : ∀ s ∈ S, IsP n s) (hn1 : 1 ≤ n) (hn : n ≤ 12) {L : List Lv} {la : Option Addr} {lc : Nat} (hL : LSl w0 (.slice la L.length lc) L) {k b : Nat} {bs : List Nat} (hk : L[k]? = some (levB n S b)) {p : Nat → Nat} (hP : IsP n p) (h1 : 1 ≤ (orbM S b n).length)
    (hIH : ∀ x ∈ orbM S b n, FrmC w0 M tb yb fb l n (.slice la L.length lc) J Jx E (elS n S bs (thenP (lstP n S b x) p)) (k + 1) (thenP (lstP n S b x) p)) : FrmC w0 M tb yb fb l n (.slice la L.length lc) J Jx E (elS n S (b :: bs) p) k p := by
  intro pre pv W hj hc hp hnp hpre
  have hlst : ∀ x ∈ orbM S b n, IsP n (lstP n S b x) := fun x hx => (lst_at hS hx).gn.isP hS
  have hom : ∀ y ∈ orbM S b n, y < n := fun y hy => (mem_orbM.1 hy).1
  have hol : (orbM S b n).length ≤ n := orbM_len S b n
  have hkl : k < L.length := (List.getElem?_eq_some_iff.1 hk).1
  rw [elS] at hpre ⊢
  obtain ⟨orb, hO⟩ : ∃ o, orbM S b n = o := ⟨_, rfl⟩
  obtain ⟨rp, hR⟩ : ∃ r : Nat → Nat → Nat, lstP n S b = r := ⟨_, rfl⟩
  have hlev : levB n S b = ⟨b, il' orb, orb.map fun x => li n (rp x)⟩ := by
    unfold levB repM
    rw [hO, hR]
  rw [hlev] at hk
  rw [hO] at hlst hom hol h1 hIH hpre ⊢
  rw [hR] at hlst hIH hpre ⊢
  obtain ⟨F, hF⟩ : ∃ F : Nat → List (Nat → Nat), (fun x => elS n S bs (thenP (rp x) p)) = F := ⟨_, rfl⟩
  have hF' : ∀ x, elS n S bs (thenP (rp x) p) = F x := fun x => by rw [← hF]
  rw [hF] at hpre ⊢
  simp only [hF'] at hIH
  obtain ⟨a9, c9, e9, l1, l2, l3⟩ := hL.open3
  injection e9 with e1 e2 e3
  subst e1
  subst e3
  clear e2
  obtain ⟨bl, ol, rfl, hcl⟩ := l3 (by omega)
  obtain ⟨ov, rv, q0, q1, q2, hov, hrv⟩ := hcl k _ hk
  dsimp only at q0 hov hrv
  have hcx := hc.ex
  obtain ⟨oa, oc, rfl, o1, o2, o3⟩ := hov.open
  obtain ⟨ra, rc, rfl, r1, r2, -⟩ := hrv.open
  obtain ⟨pa, pc, rfl, p1, p2, p3⟩ := isl_li hp
  have hoX : ∀ B, (Value.slice oa (il' orb).length oc).ownBlock = some B → B < W.heap.size := fun B e => by
    obtain ⟨ob, oo, rfl, ho3⟩ := o3 (by rw [il'_len]; omega)
    injection e with e
    subst e
    have h0 : (il' orb)[0]? = some ((orb.getD 0 0 : Nat) : Int) := il'_get (by rw [List.getD_eq_getElem?_getD, List.getElem?_eq_getElem (by omega)]; rfl)
    exact Nat.lt_of_lt_of_le (World.block_lt_of_cell? _ _ (ho3 0 _ h0)) hcx.size
  have hpX : ∀ B, (Value.slice pa n pc).ownBlock = some B → B < W.heap.size := fun B e => by
    obtain ⟨pb', po, rfl, hp3⟩ := p3 (by omega)
    injection e with e
    subst e
    exact World.block_lt_of_cell? _ _ (hp3 0 (by omega))
  clear o3 p3
  rw [il'_len] at o1
  rw [List.length_map] at r1
  unfold maxLen at l2 o2 r2 p2
  obtain ⟨X, hX⟩ : ∃ X, W.heap.size = X := ⟨_, rfl⟩
  have ha : Ex W (W.alloc (.cells #[.slice pa n pc] 32)) := (Ex.refl W).alloc _
  have asz : (W.alloc (.cells #[.slice pa n pc] 32)).heap.size = X + 1 := by simp [hX]
  have b0 : (W.alloc (.cells #[.slice pa n pc] 32)).cell? ⟨X, 0, none⟩ = some (.slice pa n pc) := by rw [← hX]; simp
  have q0 := (hcx.trans ha).cell q0
  have q1 := (hcx.trans ha).cell q1
  have q2 := (hcx.trans ha).cell q2
  have t1 := ha.cell hc.t1
  have i1 : (0 : Int) ≤ (k : Int) := by omega
  have i2 : (k : Int) < (L.length : Int) := by omega
  have k1 : ((k : Int) == (L.length : Int)) = false := by simp; omega
  have HOX := hid_ hoX
  have HPX := hid_ hpX
  have HC := hid_ hc
  have HJ0 := hid_ hj
  have HJJ := hid_ hJ
  have HNP := hid_ hnp
  have HPL := hid_ hp
  have HIH := hid_ hIH
  have HPRE := hid_ hpre
  have HA := hid_ ha
  have HOV := hid_ hov
  have HRV := hid_ hrv
  have HP := hid_ hP
  have HLT := hid_ hlst
  have HOM := hid_ hom
  have hX' := hid_ hX
  clear hc hj hJ hnp hp hIH hpre ha hov hrv hP hlst hom hlev hk hL hS hO hR hF hF' hcl l3 hcx hoX hpX
  go_enter Tryz.func31, Tryz.ntmps31
  go_upto_region 1 with fail
  try simp only [hX]
  clear hX
  generalize W.alloc (.cells #[.slice pa n pc] 32) = W1 at *
  obtain ⟨m, hm⟩ : ∃ m, orb.length = m := ⟨_, rfl⟩
  have hil : (il' orb).length = m := by rw [il'_len, hm]
  have hrl : (orb.map fun x => li n (rp x)).length = m := by rw [List.length_map, hm]
  have HMM := hid_ hm
  rw [hm] at h1 hol o1 r1
  rw [hil] at q1
  rw [hrl] at q2
  clear hm hil hrl
  obtain ⟨y0, y1, y2, hbx⟩ := boxLv_facts W1 b (.slice oa m oc) (.slice ra m rc)
  rw [asz] at y0 y1 y2
  have bsz : (W1.alloc (.cells #[.int .i64 b, .slice oa m oc, .slice ra m rc] 56)).heap.size = X + 1 + 1 := by simp [asz]
  go_upto_region 4 with fail
  try simp only [asz]
  generalize W1.alloc (.cells #[.int .i64 b, .slice oa m oc, .slice ra m rc] 56) = W2 at *
  have HX2 := hid_ (HA.out.trans hbx)
  have B0 := hid_ (hbx.cell b0)
  have Y1 := hid_ y1
  have Y2 := hid_ y2
  have HSZ := hid_ bsz
  clear q0 q1 q2 t1 b0 y0 y2 hbx asz bsz
  go_wp2_with (at_make; refine wpList_make_arr _ rfl _ _ 32 rfl 3 (.int .i64 0) 8 Tryz.underlying32 infoInt rfl _ m rfl rfl rfl (by omega) (by unfold maxLen; omega) ?_)
  intro w3 hown hx3
  clear y1
  obtain ⟨g, hgg⟩ : ∃ g, W2.heap.size = g := ⟨_, rfl⟩
  have HG := hid_ (show g = X + 1 + 1 from by rw [← hgg]; exact HSZ.out)
  have HO0 := hid_ (show Own w3 g 3 g m (iv fun i => if i < 0 then (i : Int) else 0) from by rw [← hgg]; exact hown.icongr fun i _ => rfl)
  have HX0 := hid_ hx3
  have HGS := hid_ hgg
  rw [hgg] at ⊢
  clear hown hx3 hgg
  go_wp2_with fail
  go_loopw [10, 33] (fun _ k' wr => ∃ (c : Nat), c ≤ m ∧ k' = .int .i64 c ∧ Hid (Own wr g 3 g m (iv fun i => if i < c then (i : Int) else 0)) ∧ Hid (Ex W2 wr)) (fun _ k' _ => m - (intOf k').toNat)
  case atStart => exact ⟨0, by omega, rfl, HO0, HX0⟩
  case round =>
    clear HO0 HX0
    obtain ⟨c, hc, rfl, hown, hx⟩ := hrel
    by_cases hcm : c < m
    · have c3 := hown.out.cell hcm
      have c4 := hown.out.frz c
      have j1 : (0 : Int) ≤ (c : Int) := by omega
      have j2 : (c : Int) < (m : Int) := by omega
      have HO := hid_ (show Own (wr.setCell ⟨g, c, none⟩ (.int .i64 (c : Int))) g 3 g m (iv fun i => if i < c + 1 then (i : Int) else 0) from by
        refine (hown.out.set c _).congr fun i hi => ?_
        by_cases e : i = c
        · subst e; rw [upd_same]; show _ = Value.int .i64 (if i < i + 1 then (i : Int) else 0); rw [if_pos (by omega)]
        · rw [upd_ne _ _ e]; show Value.int .i64 (if i < c then (i : Int) else 0) = Value.int .i64 (if i < c + 1 then (i : Int) else 0)
          by_cases h : i < c
          · rw [if_pos h, if_pos (by omega)]
          · rw [if_neg h, if_neg (by omega)])
      have HX := hid_ (hown.out.exSet (a := W2) (by have := HGS.out; omega) hx.out c (.int .i64 (c : Int)))
      clear hown hx
      go_wp2_with fail
      go_roundw
      case rel => first | exact ⟨c + 1, by omega, by go_num, HO, HX⟩ | ((repeat apply Exists.intro); exact ⟨⟨c + 1, by omega, by go_num, HO, HX⟩, rfl⟩)
      case measure => simp [intOf]; omega
    · obtain rfl : c = m := by omega
      have HO := hid_ (show Own wr g 3 g c (iv fun i => (i : Int)) from hown.out.icongr fun i hi => if_pos hi)
      have HX3 := hid_ hx.out
      clear hown hx
      go_wp2_with fail
      have hX := hX'.out
      have hg := HG.out
      have HSR := hid_ (srt_any wr n p HP.out orb X (X + 1) g g _ _ (HX3.out.cell B0.out) (HX3.out.cell Y1.out) (HPL.out.ex (HX2.out.trans HX3.out)) (by
        have := HOV.out.ex (HC.out.ex.trans (HX2.out.trans HX3.out))
        rwa [il'_len, HMM.out] at this) HOM.out (by omega) (by rw [HMM.out]; omega) (by rw [HMM.out]; omega) (by rw [HMM.out]; exact HO.out) (by omega) (by omega) (fun e => by have := HPX.out g e; omega) (fun e => by
        have := HOX.out g (by rw [il'_len, HMM.out]; exact e); omega))
      rw [HMM.out] at HSR
      clear hX hg
      refine HSR.out.mono ?_
      rintro e w5 ⟨rfl, ix, hix1, hix2, hix3, hown5, hgr⟩
      have E5 : Ex W2 w5 := Below.grown HX3.out hgr HX3.out.size (fun q e => by cases e; have := HGS.out; omega)
      have HXW := hid_ (HX2.out.trans E5)
      have HIX1 := hid_ hix1
      have HIX2 := hid_ hix2
      have HIX3 := hid_ hix3
      have HND := hid_ (show NdC w0 w5 M tb yb fb l n (.slice (some ⟨bl, ol, none⟩) L.length lc) X (X + 1) g (.slice pa n pc) (.slice ra c rc) p ix from
        ⟨HC.out.exx HXW.out, E5.cell B0.out, E5.cell Y2.out, HPL.out.ex HXW.out, HNP.out, fun i hi => hown5.cell (by omega), fun h => by have := (HC.out.lo X h).2; have := hX'.out; omega, fun h => by have := (HC.out.lo (X + 1) h).2; have := hX'.out; omega, fun h => by have := (HC.out.lo g h).2; have := hX'.out; have := HG.out; omega⟩)
      have HJ5 := hid_ (HJJ.out _ _ _ HJ0.out HXW.out)
      have HK5 := hid_ (Kps.ofEx (M := M) HXW.out)
      clear hix1 hix2 hix3 hown5 hgr E5 HO HSR
      go_wp2_with fail
      go_loopw [12, 46] (fun _ i' wt => ∃ (i : Nat) (ys : List Yl), i ≤ c ∧ i' = .int .i64 i ∧ Hid (ys.map (·.2) = ((srtP p orb).take i).flatMap F) ∧ Hid (NdC w0 wt M tb yb fb l n (.slice (some ⟨bl, ol, none⟩) L.length lc) X (X + 1) g (.slice pa n pc) (.slice ra c rc) p ix) ∧ Hid (J (pre ++ ys) wt) ∧ Hid (Kps M W wt)) (fun _ i' _ => c - (intOf i').toNat)
      case atStart => exact ⟨0, [], by omega, rfl, hid_ (by simp), HND, hid_ (by rw [List.append_nil]; exact HJ5.out), HK5⟩
      case round =>
        clear HND HJ5 HK5
        obtain ⟨i, ys, hi, rfl, hys, hnd, hjj, hkk⟩ := hrel
        by_cases hic : i < c
        · have hil : i < ix.length := by have := HIX1.out; have := HMM.out; omega
          obtain ⟨j, hj⟩ : ∃ j, ix.getD i 0 = j := ⟨_, rfl⟩
          have hjm : j < orb.length := by
            have h8 := HIX2.out (ix.getD i 0) (by rw [List.getD_eq_getElem?_getD, List.getElem?_eq_getElem hil]; exact List.getElem_mem _)
            have h9 := HMM.out
            omega
          obtain ⟨x, hx⟩ : ∃ x, orb.getD j 0 = x := ⟨_, rfl⟩
          have hjx : orb[j]? = some x := by rw [← hx, List.getD_eq_getElem?_getD, List.getElem?_eq_getElem hjm]; rfl
          have hxo : x ∈ orb := List.mem_of_getElem? hjx
          have hsx : (srtP p orb)[i]? = some x := by
            rw [← HIX3.out, List.getElem?_map, List.getElem?_eq_getElem hil]
            rw [List.getD_eq_getElem?_getD, List.getElem?_eq_getElem hil] at hj
            have hj' : ix[i] = j := hj
            rw [hj']
            exact congrArg some hx
          have HTK := hid_ (show ((srtP p orb).take (i + 1)).flatMap F = ((srtP p orb).take i).flatMap F ++ F x from by
            rw [List.take_add_one, hsx, List.flatMap_append]; simp)
          have HPF := hid_ (show ((pre ++ ys).map (·.2) ++ F x) <+: E from by
            refine List.IsPrefix.trans ?_ HPRE.out
            rw [List.map_append, hys.out, List.append_assoc, ← HTK.out]
            refine (List.prefix_append_right_inj _).2 ?_
            conv => rhs; rw [← List.take_append_drop (i + 1) (srtP p orb), List.flatMap_append]
            exact List.prefix_append _ _)
          have co := hnd.out.od i hil
          rw [hj] at co
          have px := hnd.out.px
          have y2 := hnd.out.y2
          have f0 := hnd.out.el.f0
          obtain ⟨a8, c8, e8, -, -, r3⟩ := HRV.out.open
          injection e8 with e1 e2 e3
          subst e1
          clear e2 e3
          obtain ⟨rb, ro, rfl, hrc⟩ := r3 (by rw [List.length_map]; omega)
          obtain ⟨u, hu1, hu2⟩ := hrc j (li n (rp x)) (by rw [List.getElem?_map, hjx]; rfl)
          have HRB := hid_ (fun (V : World) (h : NdC w0 V M tb yb fb l n (.slice (some ⟨bl, ol, none⟩) L.length lc) X (X + 1) g (.slice pa n pc) (.slice (some ⟨rb, ro, none⟩) c rc) p ix) => h.el.ex.cell hu1)
          replace hu1 := hnd.out.el.ex.cell hu1
          replace hu2 := hu2.ex hnd.out.el.ex
          have HTH := hid_ (fun (V : World) (h : Ex wr V) => then_any V n (rp x) p u (.slice pa n pc) (hu2.ex h) (hnd.out.pl.ex h) (by omega) (HLT.out x hxo).lt)
          have HFR := hid_ (fun (V : World) (h : Ex wr V) (g2 : Nat) (hg2 : wr.heap.size ≤ g2) (hv : ISl V (.slice (some ⟨g2, 0, none⟩) n n) (li n (thenP (rp x) p))) => HIH.out x hxo (pre ++ ys) _ V (HJJ.out _ _ _ hjj.out h) (hnd.out.el.exx h) hv (fun B e hm => by
            have e2 : g2 = B := by injection e
            have h7 := (hnd.out.el.lo B hm).2
            omega) HPF.out)
          rw [show (((k + 1 : Nat)) : Int) = (k : Int) + 1 from by omega] at HFR
          have HYS := hid_ hys.out
          have HND := hid_ hnd.out
          have HJW := hid_ hjj.out
          have HKW := hid_ hkk.out
          obtain ⟨ua, uc, rfl, -, u2, -⟩ := isl_li hu2
          have i3 : (0 : Int) ≤ (i : Int) := by omega
          have i4 : (i : Int) < (c : Int) := by omega
          have i5 : (0 : Int) ≤ (j : Int) := by omega
          have i6 : (j : Int) < (c : Int) := by have := HMM.out; omega
          have hs : IntKind.i64.wrap ((k : Int) + 1) = (k : Int) + 1 := IntWalk.i64_in _ (by omega)
          have G0 : Ex wr wr.drew := (Ex.refl wr).drew
          have HCE := hid_ (fun (V : World) (h : Ex wr V) => (⟨h.cell px, h.cell y2, h.cell f0, h.cell hu1⟩ : _ ∧ _ ∧ _ ∧ _))
          clear hys hnd hjj hkk hil hj hjm hx hjx hxo hsx r3 hrc hu2
          go_upto_region 14 with fail
          go_region_held3 (fun w' => w'.cell? ⟨X, 0, none⟩ = some (.slice pa n pc) ∧ w'.cell? ⟨X + 1, 2, none⟩ = some (.slice (some ⟨rb, ro, none⟩) c rc) ∧ w'.cell? ⟨fb, 0, none⟩ = some (.func (.func 31) #[] #[.pointer (some ⟨tb, 0, none⟩), .pointer (some ⟨yb, 0, none⟩), .pointer (some ⟨fb, 0, none⟩)]) ∧ w'.cell? ⟨rb, ro + j, none⟩ = some (.slice ua n uc))
            (first | exact ⟨X4.px, X4.y2, X4.el.f0, HRB.out _ X4⟩ | with_reducible exact HCE.out _ X3 | with_reducible exact HCE.out _ G0)
            (first | (go_at_call 35; (with_reducible refine (HTH.out _ G0).mono ?_); rintro e w7 ⟨g2, rfl, ho7, h7⟩; have X3 := G0.trans h7; have HV7 := hid_ ho7.li; have HG7 := hid_ (show wr.heap.size ≤ g2 from ho7.base_le); clear h7 ho7) | (go_at_call 31; (with_reducible refine (HFR.out _ X3 g2 HG7.out HV7.out).mono ?_); rintro e B ⟨bb, rfl, hKB, hT, hF⟩; have X4 := HND.out.kps ((Kps.ofEx X3).trans hKB); have HX4 := hid_ ((Kps.ofEx X3).trans hKB); have HT := hid_ hT; have HF := hid_ hF; clear hT hF hKB))
          clear HRB HCE HTH HFR G0 X3 X4 HV7 HG7 co px y2 f0 hu1
          cases bb with
          | true =>
            obtain ⟨ys2, hy2, hj2⟩ := HT.out rfl
            have HYS2 := hid_ (show (ys ++ ys2).map (·.2) = ((srtP p orb).take (i + 1)).flatMap F from by rw [List.map_append, HYS.out, hy2, HTK.out])
            have HND2 := hid_ (HND.out.kps HX4.out)
            have HJ2 := hid_ (show J (pre ++ (ys ++ ys2)) B from by rw [← List.append_assoc]; exact hj2)
            have HK2 := hid_ (HKW.out.trans HX4.out)
            clear hy2 hj2 HT HF HYS HND HJW HKW HX4
            go_wp2_with fail
            go_roundw
            case rel => first | exact ⟨i + 1, _, by omega, by go_num, HYS2, HND2, HJ2, HK2⟩ | ((repeat apply Exists.intro); exact ⟨⟨i + 1, _, by omega, by go_num, HYS2, HND2, HJ2, HK2⟩, rfl⟩)
            case measure => simp [intOf]; omega
          | false =>
            obtain ⟨ys2, hy2, hj2⟩ := HF.out rfl
            have HYS2 := hid_ (show (ys ++ ys2).map (·.2) <+: (srtP p orb).flatMap F from by
              rw [List.map_append, HYS.out]
              refine List.IsPrefix.trans ((List.prefix_append_right_inj _).2 hy2) ?_
              rw [← HTK.out]
              conv => rhs; rw [← List.take_append_drop (i + 1) (srtP p orb), List.flatMap_append]
              exact List.prefix_append _ _)
            have HJ2 := hid_ (show Jx (pre ++ (ys ++ ys2)) B from by rw [← List.append_assoc]; exact hj2)
            have HK2 := hid_ (HKW.out.trans HX4.out)
            clear hy2 hj2 HT HF HYS HND HJW HKW HX4
            go_wp2_with fail
            go_ret
            exact ⟨false, rfl, HK2.out, fun h => (by cases h), fun _ => ⟨ys ++ ys2, HYS2.out, HJ2.out⟩⟩
        · obtain rfl : c = i := by omega
          have HYS := hid_ hys.out
          have HJW := hid_ hjj.out
          have HKW := hid_ hkk.out
          clear hys hnd hjj hkk
          go_wp2_with fail
          go_ret
          exact ⟨true, rfl, HKW.out, fun _ => ⟨ys, by rw [HYS.out, List.take_of_length_le (by rw [(srtP_perm p orb).length_eq, HMM.out]; exact Nat.le_refl _)], HJW.out⟩, fun h => by cases h⟩
end Go.Proofs.YtgfdhclpffakfaaGreat
