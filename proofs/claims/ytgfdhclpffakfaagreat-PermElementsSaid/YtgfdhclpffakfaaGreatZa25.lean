/- slices.EqualFunc; perm.CheckChain. -/
import Derived.Test.YtgfdhclpffakfaaGreatZa24
namespace Go.Proofs.YtgfdhclpffakfaaGreat
set_option linter.unusedVariables false
set_option linter.unusedSimpArgs false
open Go.RowKit

set_option maxRecDepth 100000 in
set_option maxHeartbeats 1000000 in
theorem EqualFunc_any (w : World) (l k : List (List Int)) (v u : Value) (hl : MSl w v l) (hk : MSl w u k) :
    Calls Tryz.prog 55 #[v, u, .func (.func 52) #[] #[]] w fun r w' => r = .returned (.bool (decide (l = k))) ∧ ∃ n, w' = w.drewN n := by
  obtain ⟨a, cap, rfl, s1, s2, s3⟩ := hl.open
  obtain ⟨c, cc, rfl, t1, t2, t3⟩ := hk.open
  have S3 := hid_ s3
  have T3 := hid_ t3
  unfold maxLen at s2 t2
  clear hl hk s3 t3
  by_cases hlk : l.length = k.length
  · have hb : ((l.length : Int) != (k.length : Int)) = false := by simp; omega
    have HLK := hid_ hlk
    clear hlk
    go_enter Tryz.func55, Tryz.ntmps55
    go_wp2_with fail
    go_loopw [17] (fun i' wr => ∃ i n : Nat, i ≤ l.length ∧ i' = .int .i64 i ∧ wr = w.drewN n ∧ Hid (∀ j, j < i → l[j]? = k[j]?)) (fun i' _ => l.length - (intOf i').toNat)
    case atStart => exact ⟨0, 0, by omega, rfl, rfl, hid_ (fun j hj => by omega)⟩
    case round =>
      obtain ⟨i, n, hi, rfl, rfl, hall⟩ := hrel
      by_cases hlt : i < l.length
      · obtain ⟨x, hx⟩ : ∃ x, l[i]? = some x := ⟨_, List.getElem?_eq_getElem hlt⟩
        have hik : i < k.length := by have := HLK.out; omega
        obtain ⟨y, hy⟩ : ∃ y, k[i]? = some y := ⟨_, List.getElem?_eq_getElem hik⟩
        obtain ⟨b, o, rfl, hc⟩ := S3.out (by omega)
        obtain ⟨b2, o2, rfl, hc2⟩ := T3.out (by omega)
        obtain ⟨u1, e1, hu1⟩ := hc i x hx
        obtain ⟨u2, e2, hu2⟩ := hc2 i y hy
        have c1 := ((Ex.refl w).drewN n).cell e1
        have c2 := ((Ex.refl w).drewN n).cell e2
        have hv1 := hu1.ex ((Ex.refl w).drewN n)
        have hv2 := hu2.ex ((Ex.refl w).drewN n)
        have i1 : (0 : Int) ≤ (i : Int) := by omega
        have i2 : (i : Int) < (l.length : Int) := by omega
        have i3 : (i : Int) < (k.length : Int) := by omega
        obtain ⟨W, hW⟩ : ∃ W, w.drewN n = W := ⟨_, rfl⟩
        rw [hW] at c1 c2 hv1 hv2 ⊢
        have HWE := hid_ hW
        have HSI := hid_ (Equal_any W x y u1 u2 hv1 hv2)
        obtain ⟨ua, uc, rfl, _, _, _⟩ := hv1.open
        obtain ⟨va, vc, rfl, _, _, _⟩ := hv2.open
        by_cases hxy : x = y
        · have HA := hid_ (show ∀ j, j < i + 1 → l[j]? = k[j]? from fun j hj => by
            by_cases e : j = i
            · subst e; rw [hx, hy, hxy]
            · exact hall.out j (by omega))
          rw [decide_eq_true hxy] at HSI
          clear hc hc2 hx hy hxy hW hu1 hu2 e1 e2 hv1 hv2
          go_wp2_with (go_at_call 52; refine HSI.out.mono ?_; rintro e w5 ⟨rfl, n5, rfl⟩)
          go_roundw
          case rel => exact ⟨i + 1, _, by omega, by go_num, by rw [← HWE.out, World.drewN_drewN], HA⟩
          case measure => simp [intOf]; omega
        · have HN := hid_ (show ¬ l = k from fun e => hxy (by rw [e, hy] at hx; injection hx with hx; exact hx.symm))
          rw [decide_eq_false hxy] at HSI
          clear hc hc2 hx hy hxy hW hu1 hu2 e1 e2 hv1 hv2
          go_wp2_with (go_at_call 52; refine HSI.out.mono ?_; rintro e w5 ⟨rfl, n5, rfl⟩)
          go_ret
          exact ⟨ret_bool (decide_eq_false HN.out).symm, _, by rw [← HWE.out, World.drewN_drewN]⟩
      · obtain rfl : i = l.length := by omega
        have HE := hid_ (rows_eq_of_get HLK.out hall.out)
        go_wp2_with fail
        go_ret
        exact ⟨ret_bool (decide_eq_true HE.out).symm, n, rfl⟩
  · have hb : ((l.length : Int) != (k.length : Int)) = true := by simp; omega
    have HN := hid_ (show ¬ l = k from fun e => hlk (by rw [e]))
    clear hlk
    go_enter Tryz.func55, Tryz.ntmps55
    go_wp2_with fail
    go_ret
    exact ⟨ret_bool (decide_eq_false HN.out).symm, 0, rfl⟩
/-- All representatives of a chain. -/
def gensL (L : List Lv) : List (List Int) := L.flatMap fun l => l.reps
theorem gensL_take {L : List Lv} {i : Nat} {l : Lv} (h : L[i]? = some l) : gensL (L.take (i + 1)) = gensL (L.take i) ++ l.reps := by
  unfold gensL
  rw [List.take_add_one, h]
  simp
theorem gensL_le (L : List Lv) (i : Nat) : (gensL (L.take i)).length ≤ (gensL L).length := by
  have : gensL L = gensL (L.take i) ++ gensL (L.drop i) := by
    unfold gensL
    rw [← List.flatMap_append, List.take_append_drop]
  rw [this, List.length_append]; omega
open Classical in
/-- What CheckChain returns. -/
noncomputable def chkS (d : Int) (L : List Lv) : Int := if d < 1 ∨ 64 < d then 4 else if gchk d (gensL L) = 0 ∧ L = chnK d.toNat ((gensL L).map fnL) d.toNat then 0 else 5
theorem chnK_orb {n : Nat} {S : List (Nat → Nat)} {m : Nat} {l : Lv} (h : l ∈ chnK n S m) : l.orb.length ≤ n ∧ l.reps.length = l.orb.length := by
  unfold chnK at h
  obtain ⟨h1, h2⟩ := List.mem_filter.1 h
  obtain ⟨b, _, rfl⟩ := List.mem_map.1 h1
  refine ⟨by show (il' (orbM S b n)).length ≤ n; rw [il'_len]; exact orbM_len S b n, ?_⟩
  show (repM n S b n).length = (il' (orbM S b n)).length
  unfold repM; rw [List.length_map, il'_len]
/-- The growing list of generators; its rows are the argument's. -/
structure GnsW (w0 wr : World) (gv : Value) (M : List (List Int)) (vals : List Value) : Prop where
  own : wr.ownsRow w0.heap.size 32 1 gv M.length vals
  row : ∀ (i : Nat) (r : List Int) (u : Value), M[i]? = some r → vals[i]? = some u → ISl w0 u r
  ex : Ex w0 wr
theorem GnsW.nil (w : World) : GnsW w w (.slice none 0 0) [] [] := ⟨World.ownsRow_nil _ _ _ _, fun i r u h => by simp at h, Ex.refl _⟩
theorem GnsW.len {w0 wr : World} {gv : Value} {M : List (List Int)} {vals : List Value} (h : GnsW w0 wr gv M vals) : vals.length = M.length := by have := h.own.1; omega
theorem GnsW.msl {w0 wr : World} {gv : Value} {M : List (List Int)} {vals : List Value} (h : GnsW w0 wr gv M vals) : MSl wr gv M := ⟨vals, Sl.own h.own, fun i r u a b => (h.row i r u a b).ex h.ex⟩
theorem GnsW.app {w0 wr w' : World} {gv gv' : Value} {M R : List (List Int)} {vals us : List Value} (h : GnsW w0 wr gv M vals) (hr : ∀ (i : Nat) (r : List Int) (u : Value), R[i]? = some r → us[i]? = some u → ISl w0 u r)
    (ho : w'.ownsRow w0.heap.size 32 1 gv' (M.length + R.length) (vals ++ us)) (hx : Ex w0 w') : GnsW w0 w' gv' (M ++ R) (vals ++ us) := by
  have hn := h.len
  refine ⟨by rw [List.length_append]; exact ho, fun i r u h1 h2 => ?_, hx⟩
  by_cases e : i < M.length
  · rw [List.getElem?_append_left e] at h1
    rw [List.getElem?_append_left (by omega)] at h2
    exact h.row i r u h1 h2
  · rw [List.getElem?_append_right (by omega)] at h1 h2
    rw [hn] at h2
    exact hr _ r u h1 h2
theorem LSl.open3 {w : World} {v : Value} {L : List Lv} (h : LSl w v L) : ∃ a cap, v = .slice a L.length cap ∧ L.length ≤ cap ∧ cap ≤ maxLen ∧
    (0 < L.length → ∃ b o, a = some ⟨b, o, none⟩ ∧ ∀ (i : Nat) (l : Lv), L[i]? = some l → ∃ u r, w.cell? ⟨b, o + i * 3, none⟩ = some (.int .i64 l.pt) ∧ w.cell? ⟨b, o + i * 3 + 1, none⟩ = some u ∧ w.cell? ⟨b, o + i * 3 + 2, none⟩ = some r ∧ ISl w u l.orb ∧ MSl w r l.reps) := by
  obtain ⟨a, cap, h1, h2, h3, h4⟩ := h.open
  refine ⟨a, cap, h1, h2, h3, fun hn => ?_⟩
  obtain ⟨b, o, h5, h6⟩ := h4 hn
  refine ⟨b, o, h5, fun i l hl => ?_⟩
  obtain ⟨u, r, k1, k2, k3, k4, k5⟩ := h6 i l hl
  exact ⟨u, r, by rw [Nat.mul_comm i 3]; exact k1, by rw [Nat.mul_comm i 3, Nat.add_assoc]; exact k2, by rw [Nat.mul_comm i 3, Nat.add_assoc]; exact k3, k4, k5⟩
theorem levs_eq {l k : List Lv} (hl : l.length = k.length) (h : ∀ j, j < l.length → l[j]? = k[j]?) : l = k := by
  apply List.ext_getElem?
  intro j
  by_cases hj : j < l.length
  · exact h j hj
  · rw [List.getElem?_eq_none_iff.2 (by omega), List.getElem?_eq_none_iff.2 (by omega)]
theorem boxCh_facts (w : World) (c : Int) (v : Value) : (w.alloc (.cells #[.int .i64 c, v] 24)).cell? ⟨w.heap.size, 0, none⟩ = some (.int .i64 c) ∧
    (w.alloc (.cells #[.int .i64 c, v] 24)).cell? ⟨w.heap.size, 1, none⟩ = some v ∧ Ex w (w.alloc (.cells #[.int .i64 c, v] 24)) :=
  ⟨by simp, by simp, (Ex.refl _).alloc _⟩
theorem boxLv_facts (w : World) (c : Int) (u v : Value) : (w.alloc (.cells #[.int .i64 c, u, v] 56)).cell? ⟨w.heap.size, 0, none⟩ = some (.int .i64 c) ∧
    (w.alloc (.cells #[.int .i64 c, u, v] 56)).cell? ⟨w.heap.size, 1, none⟩ = some u ∧ (w.alloc (.cells #[.int .i64 c, u, v] 56)).cell? ⟨w.heap.size, 2, none⟩ = some v ∧ Ex w (w.alloc (.cells #[.int .i64 c, u, v] 56)) :=
  ⟨by simp, by simp, by simp, (Ex.refl _).alloc _⟩
set_option maxRecDepth 100000 in
set_option maxHeartbeats 4000000 in
theorem CheckChain_any (w : World) (d : Int) (L : List Lv) (lv : Value) (hL : LSl w lv L) (hg : (gensL L).length ≤ 1000) :
    Calls Tryz.prog 27 #[.agg #[.int .i64 d, lv]] w fun r w' => r = .returned (.int .i64 (chkS d L)) ∧ Ex w w' := by
  obtain ⟨d0, d1, e0⟩ := boxCh_facts w d lv
  obtain ⟨za, zc, rfl, z1, z2, z3⟩ := (hL.ex e0).open3
  unfold maxLen at z2
  have HL := hid_ (hL.ex e0)
  have Z3 := hid_ z3
  clear z3 hL
  have HG := hid_ (degree_any (w.alloc (.cells #[.int .i64 d, .slice za L.length zc] 24)) d)
  go_enter Tryz.func27, Tryz.ntmps27
  go_wp2_with fail
  obtain ⟨q, hq⟩ : ∃ q, w.heap.size = q := ⟨_, rfl⟩
  rw [hq] at d0 d1
  try simp only [hq]
  clear hq
  generalize w.alloc (.cells #[.int .i64 d, .slice za L.length zc] 24) = w1 at *
  have HE0 := hid_ e0
  clear e0
  refine HG.out.mono ?_
  rintro e wd ⟨rfl, rfl⟩
  by_cases hd : d < 1 ∨ 64 < d
  · have HR := hid_ (show (4 : Int) = chkS d L from by unfold chkS; rw [if_pos hd])
    have hds : degS d = 4 := by unfold degS; rw [if_pos hd]
    rw [hds]
    clear hd hds
    go_wp2_with fail
    go_ret
    exact ⟨ret_int HR.out, HE0.out⟩
  · have hds : degS d = 0 := by unfold degS; rw [if_neg hd]
    rw [hds]
    obtain ⟨D, rfl⟩ : ∃ D : Nat, d = D := ⟨d.toNat, by omega⟩
    have hD1 : 1 ≤ D := by omega
    have hD2 : D ≤ 64 := by omega
    have HCK0 := hid_ (show (¬ (gchk D (gensL L) = 0 ∧ L = chnK D ((gensL L).map fnL) D)) → 5 = chkS D L from fun h => by unfold chkS; rw [if_neg hd]; exact (if_neg h).symm)
    have HCK1 := hid_ (show gchk D (gensL L) = 0 → L = chnK D ((gensL L).map fnL) D → 0 = chkS D L from fun h k => by unfold chkS; rw [if_neg hd]; exact (if_pos ⟨h, k⟩).symm)
    clear hd hds
    have D0 := hid_ d0
    have D1 := hid_ d1
    by_cases hln : D < L.length
    · have HR := hid_ (HCK0.out <| by
        rintro ⟨_, h⟩
        have := congrArg List.length h
        have := chnK_len D ((gensL L).map fnL) D
        omega)
      have h1 : (D : Int) < (L.length : Int) := by omega
      go_wp2_with fail
      go_ret
      exact ⟨ret_int HR.out, HE0.out⟩
    · have h1 : ¬ (D : Int) < (L.length : Int) := by omega
      go_wp2_with fail
      clear d0 d1
      go_loopw [4, 27] (fun gv' k' wr => ∃ (k : Nat) (vals : List Value), k ≤ L.length ∧ k' = .int .i64 k ∧ Hid (GnsW w1 wr gv' (gensL (L.take k)) vals)) (fun _ k' _ => L.length - (intOf k').toNat)
      case atStart => exact ⟨0, [], by omega, rfl, hid_ (GnsW.nil w1)⟩
      case round =>
        obtain ⟨k, vals, hk, rfl, hgn⟩ := hrel
        have hml := gensL_le L k
        obtain ⟨ga, gc, rfl⟩ := own_shape hgn.out.own
        by_cases hkl : k < L.length
        · obtain ⟨l, hl⟩ : ∃ l, L[k]? = some l := ⟨_, List.getElem?_eq_getElem hkl⟩
          obtain ⟨zb, zo, rfl, hzc⟩ := Z3.out (by omega)
          obtain ⟨u, r, c0, c1, c2, hu, hr⟩ := hzc k l hl
          have c0 := hgn.out.ex.cell c0
          have c1 := hgn.out.ex.cell c1
          have c2 := hgn.out.ex.cell c2
          have d0 := hgn.out.ex.cell D0.out
          have d1 := hgn.out.ex.cell D1.out
          obtain ⟨oa, oc, rfl, _, _, _⟩ := hu.open
          obtain ⟨ra, rc, rfl, _, _, _⟩ := hr.open
          have i1 : (0 : Int) ≤ (k : Int) := by omega
          have i2 : (k : Int) < (L.length : Int) := by omega
          obtain ⟨p, hp⟩ : ∃ p, l.pt = p := ⟨_, rfl⟩
          rw [hp] at c0
          have HLK := hid_ hl
          have HPE := hid_ hp
          have HU := hid_ hu
          have HRR := hid_ hr
          obtain ⟨b0, b1, b2, eb⟩ := boxLv_facts wr p (.slice oa l.orb.length oc) (.slice ra l.reps.length rc)
          have bd0 := eb.cell d0
          have EB := hid_ eb
          clear hzc hl hp hu hr d1 eb
          by_cases hbad : D < l.orb.length
          · have HR := hid_ (HCK0.out <| by
              rintro ⟨_, h⟩
              have := (chnK_orb (h ▸ List.mem_of_getElem? HLK.out)).1
              omega)
            have h2 : (D : Int) < (l.orb.length : Int) := by omega
            clear hbad
            go_wp2_with fail
            go_ret
            exact ⟨ret_int HR.out, HE0.out.trans (hgn.out.ex.trans EB.out)⟩
          · have h2 : ¬ (D : Int) < (l.orb.length : Int) := by omega
            by_cases hne : l.reps.length = l.orb.length
            · have h3 : ((l.reps.length : Int) != (l.orb.length : Int)) = false := by simp; omega
              have HNE := hid_ hne
              clear hne hbad
              obtain ⟨us, HUS, _, hus⟩ := HRR.out.vals
              have HUR := hid_ hus
              have HRS := hid_ HUS
              clear hus HUS
              have HON := hid_ (show ∀ u ∈ us, u.oneCell' = true from fun u hu => by
                obtain ⟨i, hi, e⟩ := List.getElem_of_mem hu
                have hul : us.length = l.reps.length := by have := HRS.out.1; omega
                obtain ⟨_, _, rfl, _⟩ := (HUR.out i _ u (List.getElem?_eq_getElem (by omega)) (by rw [List.getElem?_eq_getElem hi, e])).open
                rfl)
              have hml2 := gensL_le L (k + 1)
              have HGT := hid_ (gensL_take HLK.out)
              rw [HGT.out, List.length_append] at hml2
              have HB := hid_ (Nat.le_trans hgn.out.ex.size EB.out.size)
              have HOW := hid_ (ownsRow_ex hgn.out.own EB.out)
              have HXS := hid_ (HRS.out.ex (hgn.out.ex.trans EB.out))
              go_wp2_with (at_builtin; refine wpList_append_sl _ rfl _ _ 46 rfl w1.heap.size 32 (.slice none 0 0) 1 24 Tryz.underlying46 infoIntsL rfl (by decide) (.slice ga (gensL (L.take k)).length gc) (gensL (L.take k)).length vals rfl HOW.out (.slice ra l.reps.length rc) l.reps.length us rfl HXS.out HON.out (by unfold maxLen; omega) (by omega) HB.out ?_; intro v' w' hown hg hb; have HG1 := hid_ (hgn.out.app (R := l.reps) (us := us) (fun i r u a b => HUR.out i r u a b) hown (Ex.grown (hgn.out.ex.trans EB.out) HOW.out (Nat.le_refl _) hg)); obtain ⟨oa', oc', rfl⟩ := own_shape hown; clear hown hg hb)
              go_roundw
              case rel => exact ⟨k + 1, _, by omega, by go_num, by rw [HGT.out]; exact HG1⟩
              case measure => simp [intOf]; omega
            · have h3 : ((l.reps.length : Int) != (l.orb.length : Int)) = true := by simp; omega
              have HR := hid_ (HCK0.out <| by
                rintro ⟨_, h⟩
                have := (chnK_orb (h ▸ List.mem_of_getElem? HLK.out)).2
                omega)
              clear hbad hne
              go_wp2_with fail
              go_ret
              exact ⟨ret_int HR.out, HE0.out.trans (hgn.out.ex.trans EB.out)⟩
        · obtain rfl : k = L.length := by omega
          have d0 := hgn.out.ex.cell D0.out
          have hBD := Build_any wr D (gensL (L.take L.length)) _ hgn.out.msl (by omega)
          rw [List.take_length] at hBD
          have HBD := hid_ hBD
          have htk : gensL (L.take L.length) = gensL L := by rw [List.take_length]
          rw [htk]
          have HEX := hid_ hgn.out.ex
          clear hBD htk hgn hml
          by_cases hg0 : gchk D (gensL L) = 0
          · have hbs : bldS D (gensL L) = (⟨D, chnK D ((gensL L).map fnL) D⟩, 0) := by unfold bldS; rw [hg0, if_neg (by decide)]; rfl
            have HK1 := hid_ (HCK1.out hg0)
            have HK0 := hid_ (show L ≠ chnK D ((gensL L).map fnL) D → 5 = chkS D L from fun h => HCK0.out fun k => h k.2)
            obtain ⟨K, hK⟩ : ∃ K, chnK D ((gensL L).map fnL) D = K := ⟨_, rfl⟩
            rw [hK] at hbs HK1 HK0
            have HBS := hid_ hbs
            clear hK hbs hg0
            by_cases hkl : K.length = L.length
            · have hb : ((K.length : Int) != (L.length : Int)) = false := by simp; omega
              have HKL := hid_ hkl
              clear hkl
              go_wp2_with (go_at_call 19; refine HBD.out.mono ?_; rintro e w5 ⟨⟨kv, rfl, hkv⟩, hx5⟩; rw [HBS.out] at hkv ⊢; dsimp only at hkv ⊢; have HKV := hid_ hkv; obtain ⟨ka, kc, rfl, _, _, hk3⟩ := hkv.open3; have HK3 := hid_ hk3; have HX5 := hid_ (HEX.out.trans hx5); have d0 := (HEX.out.trans hx5).cell D0.out; have d1 := (HEX.out.trans hx5).cell D1.out; obtain ⟨b0, b1, eb⟩ := boxCh_facts w5 D (.slice ka K.length kc); have e1 := eb.cell d1; have EB := hid_ eb; clear hkv hk3 hx5 eb)
              go_loopw [72] (fun j' wr => ∃ (j : Nat), j ≤ L.length ∧ j' = .int .i64 j ∧ Hid (∀ i, i < j → L[i]? = K[i]?) ∧ Hid (Ex (w5.alloc (.cells #[.int .i64 D, .slice ka K.length kc] 24)) wr)) (fun j' _ => L.length - (intOf j').toNat)
              case atStart => exact ⟨0, by omega, rfl, hid_ (fun i h => by omega), hid_ (Ex.refl _)⟩
              case round =>
                clear d0 d1 e1
                obtain ⟨j, hj, rfl, hall, hex⟩ := hrel
                by_cases hjl : j < L.length
                · obtain ⟨l, hl⟩ : ∃ l, L[j]? = some l := ⟨_, List.getElem?_eq_getElem hjl⟩
                  have hjk : j < K.length := by have := HKL.out; omega
                  obtain ⟨k, hk⟩ : ∃ k, K[j]? = some k := ⟨_, List.getElem?_eq_getElem hjk⟩
                  obtain ⟨zb, zo, rfl, hzc⟩ := Z3.out (by omega)
                  obtain ⟨yb, yo, rfl, hyc⟩ := HK3.out (by omega)
                  have HX0 := hid_ ((HX5.out.trans EB.out).trans hex.out)
                  obtain ⟨u, r, c0, c1, c2, hu, hr⟩ := hzc j l hl
                  obtain ⟨v, s, f0, f1, f2, hv, hs⟩ := hyc j k hk
                  have c0 := HX0.out.cell c0
                  have c1 := HX0.out.cell c1
                  have c2 := HX0.out.cell c2
                  have f0 := (EB.out.trans hex.out).cell f0
                  have f1 := (EB.out.trans hex.out).cell f1
                  have f2 := (EB.out.trans hex.out).cell f2
                  have b1 := hex.out.cell b1
                  obtain ⟨oa, oc, rfl, _, _, _⟩ := hu.open
                  obtain ⟨ra, rc, rfl, _, _, _⟩ := hr.open
                  obtain ⟨pa, pc, rfl, _, _, _⟩ := hv.open
                  obtain ⟨sa, sc, rfl, _, _, _⟩ := hs.open
                  have i1 : (0 : Int) ≤ (j : Int) := by omega
                  have i2 : (j : Int) < (L.length : Int) := by omega
                  have i3 : (j : Int) < (K.length : Int) := by omega
                  obtain ⟨p, hp⟩ : ∃ p, l.pt = p := ⟨_, rfl⟩
                  rw [hp] at c0
                  obtain ⟨t, ht⟩ : ∃ t, k.pt = t := ⟨_, rfl⟩
                  rw [ht] at f0
                  have HLJ := hid_ hl
                  have HKJ := hid_ hk
                  have HPL := hid_ hp
                  have HPK := hid_ ht
                  obtain ⟨a0, a1, a2, ea⟩ := boxLv_facts wr p (.slice oa l.orb.length oc) (.slice ra l.reps.length rc)
                  have f0 := ea.cell f0
                  have f1 := ea.cell f1
                  have f2 := ea.cell f2
                  have b1 := ea.cell b1
                  obtain ⟨g0, g1, g2, eg⟩ := boxLv_facts (wr.alloc (.cells #[.int .i64 p, .slice oa l.orb.length oc, .slice ra l.reps.length rc] 56)) t (.slice pa k.orb.length pc) (.slice sa k.reps.length sc)
                  have HUU := hid_ ((hu.ex HX0.out).ex (ea.trans eg))
                  have HVV := hid_ (hv.ex ((EB.out.trans hex.out).trans (ea.trans eg)))
                  have HRR := hid_ ((hr.ex HX0.out).ex (ea.trans eg))
                  have HSS := hid_ (hs.ex ((EB.out.trans hex.out).trans (ea.trans eg)))
                  have HXB := hid_ (hex.out.trans (ea.trans eg))
                  have HXE := hid_ ((HE0.out.trans (HX5.out.trans EB.out)).trans (hex.out.trans (ea.trans eg)))
                  have a0 := eg.cell a0
                  have a1 := eg.cell a1
                  have a2 := eg.cell a2
                  have hsz : (wr.alloc (.cells #[.int .i64 p, .slice oa l.orb.length oc, .slice ra l.reps.length rc] 56)).heap.size = wr.heap.size + 1 := by simp
                  rw [hsz] at g0 g1 g2
                  clear hzc hyc hl hk hp ht hu hv hr hs ea eg hsz
                  have HBX := hid_ (show (L[j]? ≠ K[j]?) → 5 = chkS D L from fun h => HK0.out fun e => h (by rw [e]))
                  by_cases hpt : p = t
                  · subst hpt
                    have hpb : (p != p) = false := by simp
                    have A2 := hid_ a2
                    have G2 := hid_ g2
                    have hE1 := Equal_any ((wr.alloc (.cells #[.int .i64 p, .slice oa l.orb.length oc, .slice ra l.reps.length rc] 56)).alloc (.cells #[.int .i64 p, .slice pa k.orb.length pc, .slice sa k.reps.length sc] 56)) l.orb k.orb _ _ HUU.out HVV.out
                    by_cases hor : l.orb = k.orb
                    · rw [decide_eq_true hor] at hE1
                      have HE1 := hid_ hE1
                      clear hE1
                      by_cases hre : l.reps = k.reps
                      · have HE := hid_ (show L[j]? = K[j]? from by
                          rw [HLJ.out, HKJ.out]
                          have e1 := HPL.out
                          have e2 := HPK.out
                          cases l; cases k
                          simp only at hor hre e1 e2
                          rw [hor, hre, e1, e2])
                        have HALL := hid_ (show ∀ i, i < j + 1 → L[i]? = K[i]? from fun i hi => by
                          by_cases e : i = j
                          · subst e; exact HE.out
                          · exact hall.out i (by omega))
                        have HRD := hid_ (decide_eq_true hre)
                        clear hor hre hall
                        go_wp2_with (first | (go_at_call 52; refine HE1.out.mono ?_; rintro e w6 ⟨rfl, n6, hw6⟩; have X6 := (show Ex ((wr.alloc (.cells #[.int .i64 p, .slice oa l.orb.length oc, .slice ra l.reps.length rc] 56)).alloc (.cells #[.int .i64 p, .slice pa k.orb.length pc, .slice sa k.reps.length sc] 56)) w6 from by rw [hw6]; exact (Ex.refl _).drewN n6); have a2 := X6.cell A2.out; have g2 := X6.cell G2.out; have HE2 := EqualFunc_any w6 l.reps k.reps _ _ (HRR.out.ex X6) (HSS.out.ex X6); rw [HRD.out] at HE2; have HE2 := hid_ HE2; have HX6 := hid_ X6; clear hw6 X6) | (go_at_call 55; refine HE2.out.mono ?_; rintro e w7 ⟨rfl, n7, hw7⟩; have HX7 := hid_ (HX6.out.trans (show Ex w6 w7 from by rw [hw7]; exact (Ex.refl w6).drewN n7)); clear hw7))
                        go_roundw
                        case rel => exact ⟨j + 1, by omega, by go_num, HALL, hid_ (HXB.out.trans HX7.out)⟩
                        case measure => simp [intOf]; omega
                      · have HR := hid_ (HBX.out (by
                          rw [HLJ.out, HKJ.out]
                          intro e
                          injection e with e
                          exact hre (by rw [e])))
                        have HRD := hid_ (decide_eq_false hre)
                        clear hor hre hall
                        go_wp2_with (first | (go_at_call 52; refine HE1.out.mono ?_; rintro e w6 ⟨rfl, n6, hw6⟩; have X6 := (show Ex ((wr.alloc (.cells #[.int .i64 p, .slice oa l.orb.length oc, .slice ra l.reps.length rc] 56)).alloc (.cells #[.int .i64 p, .slice pa k.orb.length pc, .slice sa k.reps.length sc] 56)) w6 from by rw [hw6]; exact (Ex.refl _).drewN n6); have a2 := X6.cell A2.out; have g2 := X6.cell G2.out; have HE2 := EqualFunc_any w6 l.reps k.reps _ _ (HRR.out.ex X6) (HSS.out.ex X6); rw [HRD.out] at HE2; have HE2 := hid_ HE2; have HX6 := hid_ X6; clear hw6 X6) | (go_at_call 55; refine HE2.out.mono ?_; rintro e w7 ⟨rfl, n7, hw7⟩; have HX7 := hid_ (HX6.out.trans (show Ex w6 w7 from by rw [hw7]; exact (Ex.refl w6).drewN n7)); clear hw7))
                        go_ret
                        exact ⟨ret_int HR.out, HXE.out.trans HX7.out⟩
                    · have HR := hid_ (HBX.out (by
                        rw [HLJ.out, HKJ.out]
                        intro e
                        injection e with e
                        exact hor (by rw [e])))
                      rw [decide_eq_false hor] at hE1
                      have HE1 := hid_ hE1
                      clear hE1 hor hall
                      go_wp2_with (go_at_call 52; refine HE1.out.mono ?_; rintro e w6 ⟨rfl, n6, hw6⟩; have HX6 := hid_ (show Ex ((wr.alloc (.cells #[.int .i64 p, .slice oa l.orb.length oc, .slice ra l.reps.length rc] 56)).alloc (.cells #[.int .i64 p, .slice pa k.orb.length pc, .slice sa k.reps.length sc] 56)) w6 from by rw [hw6]; exact (Ex.refl _).drewN n6); clear hw6)
                      go_ret
                      exact ⟨ret_int HR.out, HXE.out.trans HX6.out⟩
                  · have hpb : (p != t) = true := by simpa using hpt
                    have HR := hid_ (HBX.out (by
                      rw [HLJ.out, HKJ.out]
                      intro e
                      injection e with e
                      have e1 := HPL.out
                      have e2 := HPK.out
                      exact hpt (by rw [← e1, ← e2, e])))
                    clear hpt
                    go_wp2_with fail
                    go_ret
                    exact ⟨ret_int HR.out, HXE.out⟩
                · obtain rfl : j = L.length := by omega
                  have HR := hid_ (HK1.out (levs_eq HKL.out.symm hall.out))
                  go_wp2_with fail
                  go_ret
                  exact ⟨ret_int HR.out, HE0.out.trans ((HX5.out.trans EB.out).trans hex.out)⟩
            · have hb : ((K.length : Int) != (L.length : Int)) = true := by simp; omega
              have HR := hid_ (HK0.out fun e => hkl (by rw [← e]))
              clear hkl
              go_wp2_with (go_at_call 19; refine HBD.out.mono ?_; rintro e w5 ⟨⟨kv, rfl, hkv⟩, hx5⟩; rw [HBS.out] at hkv ⊢; dsimp only at hkv ⊢; have HKV := hid_ hkv; obtain ⟨ka, kc, rfl, _, _, hk3⟩ := hkv.open3; have HK3 := hid_ hk3; have HX5 := hid_ (HEX.out.trans hx5); have d0 := (HEX.out.trans hx5).cell D0.out; have d1 := (HEX.out.trans hx5).cell D1.out; obtain ⟨b0, b1, eb⟩ := boxCh_facts w5 D (.slice ka K.length kc); have e1 := eb.cell d1; have EB := hid_ eb; clear hkv hk3 hx5 eb)
              go_ret
              exact ⟨ret_int HR.out, HE0.out.trans (HX5.out.trans EB.out)⟩
          · obtain ⟨E, hE⟩ : ∃ E, gchk D (gensL L) = E := ⟨_, rfl⟩
            have hbs : bldS D (gensL L) = (⟨0, []⟩, E) := by unfold bldS; rw [if_pos hg0, hE]
            have HBS := hid_ hbs
            have HR := hid_ (HCK0.out fun h => hg0 h.1)
            rw [hE] at hg0
            have hb : (E != 0) = true := by simpa using hg0
            clear hbs hE hg0
            go_wp2_with (go_at_call 19; refine HBD.out.mono ?_; rintro e w5 ⟨⟨kv, rfl, hkv⟩, hx5⟩; rw [HBS.out] at hkv ⊢; dsimp only at hkv ⊢; obtain ⟨ka, kc, rfl, _, _, _⟩ := hkv.open3; have HX5 := hid_ (HEX.out.trans hx5); have d0 := (HEX.out.trans hx5).cell D0.out; have d1 := (HEX.out.trans hx5).cell D1.out; obtain ⟨b0, b1, eb⟩ := boxCh_facts w5 0 (.slice ka 0 kc); have EB := hid_ eb; clear hkv hx5 eb)
            go_ret
            exact ⟨ret_int HR.out, HE0.out.trans (HX5.out.trans EB.out)⟩
end Go.Proofs.YtgfdhclpffakfaaGreat
