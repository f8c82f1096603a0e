/- Walks of the reference's AddTo, Copy, scale. -/
import Derived.Deep.RegionHeld3
import Derived.Test.YtgdmlmhpineibaaGreatZd09
import Derived.Test.YtgdmlmhpineibaaGreatZd13
import Derived.Test.YtgdmlmhpineibaaGreatZd14
namespace Go.Proofs.YtgdmlmhpineibaaGreat
set_option linter.unusedVariables false
set_option linter.unusedSimpArgs false
open Go.RowKit

/-- The entries of AddTo. -/
def atF (p m : Nat) (ml : List Int) (v : List Int) (a : Int) (u : List Int) (k : Nat) : Int :=
  if u.getD k 0 = 0 then v.getD k 0 else ((kadd p m (kin (p ^ m) (v.getD k 0)) (kin (p ^ m) ((kmul p m (lw ml) (kin (p ^ m) a) (kin (p ^ m) (u.getD k 0)) : Nat) : Int)) : Nat) : Int)
set_option maxRecDepth 100000 in
set_option maxHeartbeats 4000000 in
theorem rAddTo_any (p m : Nat) (ml : List Int) (mv : Value) (w : World) (hf : FSh p m ml) (hmv : ISl w mv ml) (v u : List Int) (vv uv : Value) (hv : ISl w vv v) (hu : ISl w uv u) (a : Int) (hl : v.length ≤ u.length) (hl1 : v.length ≤ 1000) :
    Calls Tryz.prog 174 #[.agg #[.int .i64 p, .int .i64 m, mv], vv, .int .i64 a, uv] w fun r w' =>
      ∃ g, r = .returned (.slice (some ⟨g, 0, none⟩) v.length v.length) ∧ Own w' w.heap.size 3 g v.length (iv (atF p m ml v a u)) ∧ Ex w w' := by
  have HF := hid_ hf
  have HMV := hid_ hmv
  obtain ⟨va, vc, rfl, v1, v2, v3⟩ := hv.open
  obtain ⟨ua, uc, rfl, u1, u2, u3⟩ := hu.open
  have V3 := hid_ v3
  have U3 := hid_ u3
  unfold maxLen at v2 u2
  clear hf hmv hv hu v3 u3
  obtain ⟨f0, f1, f2, e0, fsz⟩ := box_facts w p m mv
  obtain ⟨xb, hxb⟩ : ∃ xb, w.heap.size = xb := ⟨_, rfl⟩
  have HXB := hid_ hxb
  rw [hxb] at f0 f1 f2 fsz ⊢
  go_enter Tryz.func174, Tryz.ntmps174
  go_wp2_with (at_make; refine wpList_make_arr _ rfl _ _ 22 rfl 3 (.int .i64 0) 8 Tryz.underlying22 infoInt rfl _ v.length rfl rfl rfl (by omega) (by unfold maxLen; omega) ?_)
  intro w3 hown hx3
  try simp only [hxb] at hown hx3 ⊢
  try simp only [hxb]
  generalize w.alloc (.cells #[.int .i64 p, .int .i64 m, mv] 24) = wA at *
  try simp only [fsz] at hown ⊢
  have HSZ := hid_ fsz
  have HO := hid_ (show Own w3 (xb + 1) 3 (xb + 1) v.length (iv fun j => if j < 0 then atF p m ml v a u j else 0) from hown.icongr (fun j _ => by simp))
  have EX := hid_ hx3
  have E0 := hid_ e0
  have F0 := hid_ f0
  have F1 := hid_ f1
  have F2 := hid_ f2
  clear hown hx3 e0 f0 f1 f2 fsz hxb
  go_wp2_with fail
  go_loopw [10] (fun k' wr => ∃ k : Nat, k ≤ v.length ∧ k' = .int .i64 k ∧ Hid (Own wr (xb + 1) 3 (xb + 1) v.length (iv fun j => if j < k then atF p m ml v a u j else 0)) ∧ Hid (Ex wA wr)) (fun k' _ => v.length - (intOf k').toNat)
  case atStart => exact ⟨0, by omega, rfl, HO, EX⟩
  case round =>
    clear HO EX
    obtain ⟨k, hk, rfl, hown, hx⟩ := hrel
    by_cases hlt : k < v.length
    · obtain ⟨y, hy⟩ : ∃ y, v[k]? = some y := ⟨_, List.getElem?_eq_getElem hlt⟩
      obtain ⟨z, hz⟩ : ∃ z, u[k]? = some z := ⟨_, List.getElem?_eq_getElem (by omega)⟩
      have hyg : v.getD k 0 = y := by rw [List.getD_eq_getElem?_getD, hy]; rfl
      have hzg : u.getD k 0 = z := by rw [List.getD_eq_getElem?_getD, hz]; rfl
      obtain ⟨vb, vo, rfl, hvc⟩ := V3.out (by omega)
      obtain ⟨ub, uo, rfl, huc⟩ := U3.out (by omega)
      have hku : k < u.length := by omega
      have D0 := hid_ (hvc k y hy)
      have D1 := hid_ (huc k z hz)
      have HSTEP := hid_ (fun (t : Int) (ht : t = atF p m ml v a u k) => (hown.out.set k (.int .i64 t)))
      have i1 : (0 : Int) ≤ (k : Int) := by omega
      have i2 : (k : Int) < (v.length : Int) := by omega
      have i3 : (k : Int) < (u.length : Int) := by omega
      have c1 := (E0.out.trans hx.out).cell D0.out
      have c2 := hown.out.cell hlt
      have c3 := hown.out.frz k
      have HO1 := hid_ (hown.out.set k (.int .i64 y))
      have HX1 := hid_ (hown.out.exSet (a := wA) (by have := HSZ.out; omega) hx.out k (.int .i64 y))
      have c4 := (E0.out.trans HX1.out).cell D1.out
      have HATF := hid_ (show atF p m ml v a u k = if z = 0 then y else ((kadd p m (kin (p ^ m) y) (kin (p ^ m) ((kmul p m (lw ml) (kin (p ^ m) a) (kin (p ^ m) z) : Nat) : Int)) : Nat) : Int) from by unfold atF; rw [hyg, hzg])
      clear hown hx hvc huc hy hz hyg hzg HSTEP
      by_cases hz0 : z = 0
      · have hb : (z != 0) = false := by simp [hz0]
        rw [if_pos hz0] at HATF
        clear hz0
        go_wp2_with fail
        go_roundw
        case rel => exact ⟨k + 1, by omega, by go_num, hid_ (HO1.out.congr fun j hj => by
          by_cases e : j = k
          · subst e; rw [upd_same]; show _ = Value.int .i64 (if j < j + 1 then atF p m ml v a u j else 0); rw [if_pos (by omega), HATF.out]
          · rw [upd_ne _ _ e]; show Value.int .i64 (if j < k then atF p m ml v a u j else 0) = Value.int .i64 (if j < k + 1 then atF p m ml v a u j else 0)
            by_cases h : j < k
            · rw [if_pos h, if_pos (by omega)]
            · rw [if_neg h, if_neg (by omega)]), HX1⟩
        case measure => simp [intOf]; omega
      · have hb : (z != 0) = true := by simpa using hz0
        rw [if_neg hz0] at HATF
        clear hz0
        go_wp2_with fail
        generalize wr.setCell ⟨xb + 1, k, none⟩ (.int .i64 y) = W at *
        obtain ⟨K1, hK1⟩ : ∃ K, kmul p m (lw ml) (kin (p ^ m) a) (kin (p ^ m) z) = K := ⟨_, rfl⟩
        have HMUL : Hid (∀ w', Ex wA w' → Calls Tryz.prog 60 #[.agg #[.int .i64 p, .int .i64 m, mv], .int .i64 a, .int .i64 z] w' fun r w'' => r = .returned (.int .i64 (K1 : Nat)) ∧ Ex w' w'') := by
          rw [← hK1]
          exact hid_ (fun w' h0 => rMul_any w' HF.out (HMV.out.ex (E0.out.trans h0)) a z)
        rw [hK1] at HATF
        obtain ⟨K2, hK2⟩ : ∃ K, kadd p m (kin (p ^ m) y) (kin (p ^ m) (K1 : Nat)) = K := ⟨_, rfl⟩
        have HADD : Hid (∀ w', Ex wA w' → Calls Tryz.prog 186 #[.agg #[.int .i64 p, .int .i64 m, mv], .int .i64 y, .int .i64 (K1 : Nat)] w' fun r w'' => r = .returned (.int .i64 (K2 : Nat)) ∧ Ex w' w'') := by
          rw [← hK2]
          exact hid_ (fun w' h0 => rAdd_any w' HF.out (HMV.out.ex (E0.out.trans h0)) y (K1 : Nat))
        rw [hK2] at HATF
        clear hK1 hK2
        have cX := HO1.out.cell hlt
        have fX := HO1.out.frz k
        have D2 := hid_ (E0.out.cell D0.out)
        have D3 := hid_ (E0.out.cell D1.out)
        have X0 : Ex W W.drew := (Ex.refl W).drew
        have G0 : Ex wA W.drew := HX1.out.trans X0
        clear c1 c2 c3 c4
        rw [upd_same] at cX
        have HLEN := hid_ hl
        go_region_held3 (fun w' => w'.cell? ⟨xb, 0, none⟩ = some (.int .i64 p) ∧ w'.cell? ⟨xb, 1, none⟩ = some (.int .i64 m) ∧ w'.cell? ⟨xb, 2, none⟩ = some mv ∧ w'.cell? ⟨vb, vo + k, none⟩ = some (.int .i64 y) ∧ w'.cell? ⟨ub, uo + k, none⟩ = some (.int .i64 z))
          (first | with_reducible exact ⟨G0.cell F0.out, G0.cell F1.out, G0.cell F2.out, G0.cell D2.out, G0.cell D3.out⟩ | with_reducible exact ⟨G1.cell F0.out, G1.cell F1.out, G1.cell F2.out, G1.cell D2.out, G1.cell D3.out⟩ | with_reducible exact ⟨G2.cell F0.out, G2.cell F1.out, G2.cell F2.out, G2.cell D2.out, G2.cell D3.out⟩ | with_reducible exact ⟨ES.cell F0.out, ES.cell F1.out, ES.cell F2.out, ES.cell D2.out, ES.cell D3.out⟩)
          ((first
            | (go_at_call 60; (with_reducible refine (HMUL.out _ G0).mono ?_); rintro e wx1 ⟨rfl, hy1⟩; have X1 := X0.trans hy1; have G1 := G0.trans hy1)
            | (go_at_call 186; (with_reducible refine (HADD.out _ G1).mono ?_); rintro e wx2 ⟨rfl, hy2⟩; have X2 := X1.trans hy2; have G2 := G1.trans hy2; have cX2 := X2.cell cX; have fX2 := X2.frz cX fX; have ES := (HO1.out.ex X2).exSet (by have := HSZ.out; omega) G2 k (.int .i64 (K2 : Nat)))))
        have HO2 := hid_ ((HO1.out.ex X2).set k (.int .i64 (K2 : Nat)))
        have HX2 := hid_ ES
        clear cX fX cX2 fX2 ES G0 G1 G2 X0 X1 X2 hy1 hy2 HMUL HADD HO1 HX1
        go_wp2_with fail
        go_roundw
        case rel => exact ⟨k + 1, by omega, by go_num, hid_ (HO2.out.congr fun j hj => by
          by_cases e : j = k
          · subst e; rw [upd_same]; show _ = Value.int .i64 (if j < j + 1 then atF p m ml v a u j else 0); rw [if_pos (by omega), HATF.out]
          · rw [upd_ne _ _ e, upd_ne _ _ e]; show Value.int .i64 (if j < k then atF p m ml v a u j else 0) = Value.int .i64 (if j < k + 1 then atF p m ml v a u j else 0)
            by_cases h : j < k
            · rw [if_pos h, if_pos (by omega)]
            · rw [if_neg h, if_neg (by omega)]), HX2⟩
        case measure => simp [intOf]; omega
    · obtain rfl : k = v.length := by omega
      have HO2 := hid_ (hown.out.icongr (h := atF p m ml v a u) fun j hj => by rw [if_pos hj])
      clear hown
      go_wp2_with fail
      go_ret
      exact ⟨_, rfl, HO2.out.mono (by omega), E0.out.trans hx.out⟩
theorem atF_addF {p m : Nat} (hp : 1 ≤ p) {ml : List Int} {N : Nat} {f g : Nat → Int} {a : Int} {j : Nat} (hj : j < N) : atF p m ml (il N f) a (il N g) j = addF p m ml f (kin (p ^ m) a) g j := by
  unfold atF addF
  have e1 : (il N f).getD j 0 = f j := by rw [List.getD_eq_getElem?_getD, il_get hj]; rfl
  have e2 : (il N g).getD j 0 = g j := by rw [List.getD_eq_getElem?_getD, il_get hj]; rfl
  rw [e1, e2]
  split
  · rfl
  · rw [kin_of (kmul_lt hp _ _)]
set_option maxRecDepth 100000 in
set_option maxHeartbeats 4000000 in
theorem rCopy_any (w : World) (rows : List (List Int)) (v : Value) (hv : MSl w v rows) (hR : rows.length ≤ 1000) (hN : ∀ r ∈ rows, r.length ≤ 1000) :
    Calls Tryz.prog 175 #[v] w fun r w' => ∃ cv vals, r = .returned cv ∧ MRows w' w.heap.size cv rows vals ∧ Ex w w' := by
  obtain ⟨va, vc, rfl, v1, v2, v3⟩ := hv.open
  unfold maxLen at v2
  have V3 := hid_ v3
  have HN := hid_ hN
  clear hv v3 hN
  go_enter Tryz.func175, Tryz.ntmps175
  go_wp2_with fail
  go_loopw [3, 4] (fun cv i' wr => ∃ (i : Nat) (M : List (List Int)) (vals : List Value), i ≤ rows.length ∧ i' = .int .i64 i ∧ Hid (M = rows.take i) ∧ Hid (MRows wr w.heap.size cv M vals) ∧ Hid (Ex w wr)) (fun _ i' _ => rows.length - (intOf i').toNat)
  case atStart => exact ⟨0, [], [], by omega, rfl, hid_ rfl, hid_ (MRows.nil _ _), hid_ (Ex.refl _)⟩
  case round =>
    obtain ⟨i, M, vals, hi, rfl, hM, hm, hx⟩ := hrel
    obtain ⟨ca, cc, hcv⟩ := own_shape hm.out.cvo
    subst hcv
    have HTK := hid_ (show M.length = i from by rw [hM.out]; simp; omega)
    by_cases hlt : i < rows.length
    · obtain ⟨zb, zo, rfl, hzc⟩ := V3.out (by omega)
      obtain ⟨uv, huc, hui⟩ := hzc i _ (List.getElem?_eq_getElem hlt)
      have cu := hx.out.cell huc
      have hru := HN.out _ (List.getElem_mem hlt)
      have HTS := hid_ (show M ++ [rows[i]] = rows.take (i + 1) from by rw [hM.out, List.take_add_one, List.getElem?_eq_getElem hlt]; rfl)
      have i1 : (0 : Int) ≤ (i : Int) := by omega
      have i2 : (i : Int) < (rows.length : Int) := by omega
      generalize rows[i] = r at *
      have HUI := hid_ (hui.ex hx.out)
      obtain ⟨ua, uc, rfl, -, u2, -⟩ := hui.open
      unfold maxLen at u2
      have HM := hid_ hm.out
      have HX := hid_ hx.out
      have HSZ := hid_ hx.out.size
      have cu2 := fun o => ((Ex.refl wr).alloc o).cell cu
      have HON := hid_ (show ∀ u ∈ ints r, u.oneCell' = true from fun u hu => by
        unfold ints at hu; obtain ⟨x, _, rfl⟩ := List.mem_map.1 hu; simp [Value.oneCell'])
      clear hzc huc hui hm hx
      go_wp2_with (first
        | (at_builtin; refine wpList_append_sl _ rfl _ _ 22 rfl wr.heap.size 3 (.int .i64 0) 1 8 Tryz.underlying22 infoInt rfl (by decide) _ 0 [] rfl (own_lit0 wr 3) (.slice ua r.length uc) r.length (ints r) rfl (HUI.out.ex ((Ex.refl wr).alloc _)) HON.out (by unfold maxLen; omega) (by omega) (by simp) ?_
           intro v2 w5 hown2 hg2 ha2
           rw [Nat.zero_add, List.nil_append] at hown2
           have HX5 := hid_ (show Ex wr w5 from Ex.grown ((Ex.refl wr).alloc _) (own_lit0 wr 3) (Nat.le_refl _) hg2)
           have HM5 := hid_ (HM.out.ex HX5.out)
           have HXX := hid_ (HX.out.trans HX5.out)
           have HL := hid_ (show w5.ownsRow w.heap.size 3 1 v2 r.length (ints r) from by
             exact ownsRow_mono hown2 HSZ.out)
           have HAL := hid_ (show Aprt v2 (.slice ca M.length cc) from by
             cases e : v2.ownBlock with
             | none => exact .inl e
             | some B =>
               right
               rw [e]
               intro e2
               have h1 := (HM.out.cvo.lt B e2.symm).2
               have h2 := (hown2.lt B e).1
               omega)
           obtain ⟨xa, xc, hv2⟩ := own_shape hown2
           subst hv2
           clear HM hown2 hg2 ha2 cu cu2)
        | (at_builtin; refine wpList_append1 _ rfl _ _ 45 rfl w.heap.size 22 (.slice none 0 0) 1 24 Tryz.underlying45 infoIntsL rfl (by decide) _ M.length _ rfl HM5.out.cvo [.slice xa r.length xc] 22 _ rfl (by simp) rfl (by simp [Value.oneCell']) (by have := HTK.out; unfold maxLen; omega) (by have := HTK.out; omega) HXX.out.size ?_))
      intro v2 w6 happ
      have HO := hid_ (HM5.out.app HL.out HAL.out happ)
      have HE := hid_ (happ.ex HXX.out (Nat.le_refl _))
      obtain ⟨va2, vc2, hv2⟩ := own_shape happ.own
      subst hv2
      clear happ HL HAL HM5
      go_wp2_with fail
      go_roundw
      case rel => first | exact ⟨i + 1, _, _, by omega, by go_num, HTS, HO, HE⟩ | ((repeat apply Exists.intro); exact ⟨⟨i + 1, _, _, by omega, by go_num, HTS, HO, HE⟩, rfl⟩)
      case measure => simp [intOf]; omega
    · obtain rfl : i = rows.length := by omega
      have HM := hid_ (show MRows wr w.heap.size (.slice ca M.length cc) rows vals from by have h := hM.out; rw [List.take_length] at h; have := hm.out; rw [h] at this ⊢; exact this)
      have HX := hid_ hx.out
      clear hm hx
      go_wp2_with fail
      go_ret
      exact ⟨_, _, rfl, HM.out, HX.out⟩
set_option maxRecDepth 100000 in
set_option maxHeartbeats 4000000 in
theorem rScl_any (w : World) (p m : Nat) (ml : List Int) (mv : Value) (hf : FSh p m ml) (hmv : ISl w mv ml) (c : Int) (N : Nat) (hN : N ≤ 1000) (f : Nat → Int) (vv : Value) (hv : ISl w vv (il N f)) :
    Calls Tryz.prog 176 #[.agg #[.int .i64 p, .int .i64 m, mv], .int .i64 c, vv] w fun r w' => ∃ g, r = .returned (.slice (some ⟨g, 0, none⟩) N N) ∧ Own w' w.heap.size 3 g N (iv (sclF p m ml (kin (p ^ m) c) f)) ∧ Ex w w' := by
  obtain ⟨a0, a1, a2, ea, asz⟩ := box_facts w p m mv
  obtain ⟨va, vc, hvv, v1, v2, v3⟩ := hv.open
  rw [il_len] at hvv v1 v3
  subst hvv
  unfold maxLen at v2
  have V3 := hid_ v3
  have HMU := hid_ (fun (w' : World) (h : Ex w w') (y : Int) => rMul_any w' hf (hmv.ex h) c y)
  have HE0 := hid_ ea
  obtain ⟨ma, mc, rfl, -, -, -⟩ := hmv.open
  clear hf hmv hv v3 ea
  go_enter Tryz.func176, Tryz.ntmps176
  go_wp2_with (at_make; refine wpList_make_arr _ rfl _ _ 22 rfl 3 (.int .i64 0) 8 Tryz.underlying22 infoInt rfl _ N rfl rfl rfl (by omega) (by unfold maxLen; omega) ?_)
  obtain ⟨B, hB⟩ : ∃ B, w.heap.size = B := ⟨_, rfl⟩
  rw [hB] at a0 a1 a2 asz
  try simp only [hB]
  have HBW := hid_ hB
  clear hB
  generalize w.alloc (.cells #[.int .i64 p, .int .i64 m, .slice ma ml.length mc] 24) = w1 at *
  intro w3 hown hx3
  try simp only [asz] at hown ⊢
  obtain ⟨g, hgg⟩ : ∃ g, B + 1 = g := ⟨_, rfl⟩
  have HO3 := hid_ (show Own w3 g 3 g N (iv fun j => if j < 0 then sclF p m ml (kin (p ^ m) c) f j else 0) from by rw [← hgg]; exact hown.icongr (fun j _ => by simp))
  try simp only [hgg]
  have HX3 := hid_ hx3
  have HGE := hid_ (show w1.heap.size = g from by rw [← hgg, ← asz])
  have A0 := hid_ a0
  have A1 := hid_ a1
  have A2 := hid_ a2
  clear hown hx3 a0 a1 a2 hgg asz
  go_wp2_with fail
  go_loopw [8] (fun i' wr => ∃ (i : Nat), i ≤ N ∧ i' = .int .i64 i ∧ Hid (Own wr g 3 g N (iv fun j => if j < i then sclF p m ml (kin (p ^ m) c) f j else 0)) ∧ Hid (Ex w1 wr)) (fun i' _ => N - (intOf i').toNat)
  case atStart => exact ⟨0, by omega, rfl, HO3, HX3⟩
  case round =>
    clear HO3
    obtain ⟨i, hi, rfl, hown, hex⟩ := hrel
    by_cases hin : i < N
    · obtain ⟨vb, vo, rfl, hvc⟩ := V3.out (by omega)
      have EXW := hid_ (HE0.out.trans hex.out)
      have CV := hid_ (hvc i _ (il_get hin f))
      obtain ⟨z, hz⟩ : ∃ z, f i = z := ⟨_, rfl⟩
      rw [hz] at CV
      have i1 : (0 : Int) ≤ (i : Int) := by omega
      have i2 : (i : Int) < (N : Int) := by omega
      have HMW := hid_ (fun (w5 : World) (h5 : Ex wr w5) => HMU.out w5 (EXW.out.trans h5) z)
      obtain ⟨u, hu⟩ : ∃ u, kmul p m (lw ml) (kin (p ^ m) c) (kin (p ^ m) z) = u := ⟨_, rfl⟩
      rw [hu] at HMW
      have HOW := hid_ hown.out
      have HEX := hid_ hex.out
      have HIN := hid_ hin
      have HOS := hid_ (fun (w5 : World) (h5 : Ex wr w5) => show Own (w5.setCell ⟨g, i, none⟩ (.int .i64 (u : Int))) g 3 g N (iv fun j => if j < i + 1 then sclF p m ml (kin (p ^ m) c) f j else 0) from by
        refine ((HOW.out.ex h5).set i (.int .i64 (u : Int))).congr fun j hj => ?_
        by_cases e : j = i
        · subst e
          rw [upd_same]
          show Value.int .i64 (u : Int) = .int .i64 (if j < j + 1 then sclF p m ml (kin (p ^ m) c) f j else 0)
          rw [if_pos (by omega)]
          unfold sclF
          rw [hz, hu]
        · rw [upd_ne _ _ e]
          show Value.int .i64 (if j < i then sclF p m ml (kin (p ^ m) c) f j else 0) = .int .i64 (if j < i + 1 then sclF p m ml (kin (p ^ m) c) f j else 0)
          by_cases h : j < i
          · rw [if_pos h, if_pos (by omega)]
          · rw [if_neg h, if_neg (by omega)])
      have HXS := hid_ (fun (w5 : World) (h5 : Ex wr w5) => (HOW.out.ex h5).exSet (a := w1) (Nat.le_of_eq HGE.out) (HEX.out.trans h5) i (.int .i64 (u : Int)))
      have HALL := hid_ (fun (w5 : World) (h5 : Ex wr w5) => (⟨(HEX.out.trans h5).cell A0.out, (HEX.out.trans h5).cell A1.out, (HEX.out.trans h5).cell A2.out, (EXW.out.trans h5).cell CV.out⟩ : w5.cell? ⟨B, 0, none⟩ = some (.int .i64 (p : Int)) ∧ w5.cell? ⟨B, 1, none⟩ = some (.int .i64 (m : Int)) ∧ w5.cell? ⟨B, 2, none⟩ = some (.slice ma ml.length mc) ∧ w5.cell? ⟨vb, vo + i, none⟩ = some (.int .i64 z)))
      have HALS := hid_ (fun (w5 : World) (h5 : Ex wr w5) => (⟨(HXS.out w5 h5).cell A0.out, (HXS.out w5 h5).cell A1.out, (HXS.out w5 h5).cell A2.out, (HE0.out.trans (HXS.out w5 h5)).cell CV.out⟩ : (w5.setCell ⟨g, i, none⟩ (.int .i64 (u : Int))).cell? ⟨B, 0, none⟩ = some (.int .i64 (p : Int)) ∧ (w5.setCell ⟨g, i, none⟩ (.int .i64 (u : Int))).cell? ⟨B, 1, none⟩ = some (.int .i64 (m : Int)) ∧ (w5.setCell ⟨g, i, none⟩ (.int .i64 (u : Int))).cell? ⟨B, 2, none⟩ = some (.slice ma ml.length mc) ∧ (w5.setCell ⟨g, i, none⟩ (.int .i64 (u : Int))).cell? ⟨vb, vo + i, none⟩ = some (.int .i64 z)))
      clear hvc hz hu hown hex
      go_wp2_with fail
      have G0 : Ex wr wr.drew := (Ex.refl wr).drew
      go_region_held3 (fun w' => w'.cell? ⟨B, 0, none⟩ = some (.int .i64 (p : Int)) ∧ w'.cell? ⟨B, 1, none⟩ = some (.int .i64 (m : Int)) ∧ w'.cell? ⟨B, 2, none⟩ = some (.slice ma ml.length mc) ∧ w'.cell? ⟨vb, vo + i, none⟩ = some (.int .i64 z))
        (first | with_reducible exact HALL.out _ G0 | with_reducible exact HALL.out _ X6 | with_reducible exact HALS.out _ X6)
        ((go_at_call 60; (with_reducible refine (HMW.out _ G0).mono ?_); rintro e w6 ⟨rfl, h6⟩; have X6 := G0.trans h6; clear h6; have co6 := (HOW.out.ex X6).cell HIN.out; have cf6 := (HOW.out.ex X6).frz i))
      go_wp2_with fail
      go_roundw
      case rel => first | exact ⟨i + 1, by omega, by go_num, hid_ (HOS.out _ X6), hid_ (HXS.out _ X6)⟩ | ((repeat apply Exists.intro); exact ⟨⟨i + 1, by omega, by go_num, hid_ (HOS.out _ X6), hid_ (HXS.out _ X6)⟩, rfl⟩)
      case measure => simp [intOf]; omega
    · obtain rfl : i = N := by omega
      have HO := hid_ (show Own wr g 3 g i (iv (sclF p m ml (kin (p ^ m) c) f)) from hown.out.icongr fun j hj => by rw [if_pos hj])
      go_wp2_with fail
      go_ret
      exact ⟨g, rfl, HO.out.mono (by have := HGE.out; have := HBW.out; have := HE0.out.size; omega), HE0.out.trans hex.out⟩
end Go.Proofs.YtgdmlmhpineibaaGreat
