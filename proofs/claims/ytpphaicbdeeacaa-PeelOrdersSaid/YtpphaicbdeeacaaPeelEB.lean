/- Walk of the reference's AddTo: a row plus a times another one. -/
import Derived.Test.YtpphaicbdeeacaaPeelEA
namespace Go.Proofs.Ytpphaicbdeeacaa
set_option linter.unusedVariables false
set_option linter.unusedSimpArgs false
open Go.RowKit

/-- The entries of AddTo. -/
def atF (p m : Nat) (ml : List Int) (v : List Int) (a : Int) (u : List Int) (k : Nat) : Int :=
  if u.getD k 0 = 0 then v.getD k 0 else ((kadd p m (kin (p ^ m) (v.getD k 0)) (kin (p ^ m) ((kmul p m (lw ml) (kin (p ^ m) a) (kin (p ^ m) (u.getD k 0)) : Nat) : Int)) : Nat) : Int)

set_option maxRecDepth 100000 in
set_option maxHeartbeats 4000000 in
theorem rAddTo_any (p m : Nat) (ml : List Int) (mv : Value) (w : World) (hf : FSh p m ml) (hmv : ISl w mv ml) (v u : List Int) (vv uv : Value) (hv : ISl w vv v) (hu : ISl w uv u) (a : Int) (hl : v.length ≤ u.length) (hl1 : v.length ≤ 1000) :
    Calls Try.prog 34 #[.agg #[.int .i64 p, .int .i64 m, mv], vv, .int .i64 a, uv] w fun r w' =>
      ∃ g, r = .returned (.slice (some ⟨g, 0, none⟩) v.length v.length) ∧ Own w' w.heap.size 3 g v.length (iv (atF p m ml v a u)) ∧ Ex w w' := by
  have HF := hid_ hf
  have HMV := hid_ hmv
  obtain ⟨va, vc, rfl, v1, v2, v3⟩ := hv.open
  obtain ⟨ua, uc, rfl, u1, u2, u3⟩ := hu.open
  have V3 := hid_ v3
  have U3 := hid_ u3
  unfold maxLen at v2 u2
  clear hf hmv hv hu v3 u3
  obtain ⟨f0, f1, f2, e0, fsz⟩ := box_facts w p m mv
  obtain ⟨xb, hxb⟩ : ∃ xb, w.heap.size = xb := ⟨_, rfl⟩
  have HXB := hid_ hxb
  rw [hxb] at f0 f1 f2 fsz ⊢
  go_enter Try.func34, Try.ntmps34
  go_wp2_with (at_make; refine wpList_make_arr _ rfl _ _ 22 rfl 3 (.int .i64 0) 8 Try.underlying22 infoInt rfl _ v.length rfl rfl rfl (by omega) (by unfold maxLen; omega) ?_)
  intro w3 hown hx3
  try simp only [hxb] at hown hx3 ⊢
  try simp only [hxb]
  generalize w.alloc (.cells #[.int .i64 p, .int .i64 m, mv] 24) = wA at *
  try simp only [fsz] at hown ⊢
  have HSZ := hid_ fsz
  have HO := hid_ (show Own w3 (xb + 1) 3 (xb + 1) v.length (iv fun j => if j < 0 then atF p m ml v a u j else 0) from hown.icongr (fun j _ => by simp))
  have EX := hid_ hx3
  have E0 := hid_ e0
  have F0 := hid_ f0
  have F1 := hid_ f1
  have F2 := hid_ f2
  clear hown hx3 e0 f0 f1 f2 fsz hxb
  go_wp2_with fail
  go_loopw [10] (fun k' wr => ∃ k : Nat, k ≤ v.length ∧ k' = .int .i64 k ∧ Hid (Own wr (xb + 1) 3 (xb + 1) v.length (iv fun j => if j < k then atF p m ml v a u j else 0)) ∧ Hid (Ex wA wr)) (fun k' _ => v.length - (intOf k').toNat)
  case atStart => exact ⟨0, by omega, rfl, HO, EX⟩
  case round =>
    clear HO EX
    obtain ⟨k, hk, rfl, hown, hx⟩ := hrel
    by_cases hlt : k < v.length
    · obtain ⟨y, hy⟩ : ∃ y, v[k]? = some y := ⟨_, List.getElem?_eq_getElem hlt⟩
      obtain ⟨z, hz⟩ : ∃ z, u[k]? = some z := ⟨_, List.getElem?_eq_getElem (by omega)⟩
      have hyg : v.getD k 0 = y := by rw [List.getD_eq_getElem?_getD, hy]; rfl
      have hzg : u.getD k 0 = z := by rw [List.getD_eq_getElem?_getD, hz]; rfl
      obtain ⟨vb, vo, rfl, hvc⟩ := V3.out (by omega)
      obtain ⟨ub, uo, rfl, huc⟩ := U3.out (by omega)
      have hku : k < u.length := by omega
      have D0 := hid_ (hvc k y hy)
      have D1 := hid_ (huc k z hz)
      have HSTEP := hid_ (fun (t : Int) (ht : t = atF p m ml v a u k) => (hown.out.set k (.int .i64 t)))
      have i1 : (0 : Int) ≤ (k : Int) := by omega
      have i2 : (k : Int) < (v.length : Int) := by omega
      have i3 : (k : Int) < (u.length : Int) := by omega
      have c1 := (E0.out.trans hx.out).cell D0.out
      have c2 := hown.out.cell hlt
      have c3 := hown.out.frz k
      have HO1 := hid_ (hown.out.set k (.int .i64 y))
      have HX1 := hid_ (hown.out.exSet (a := wA) (by have := HSZ.out; omega) hx.out k (.int .i64 y))
      have c4 := (E0.out.trans HX1.out).cell D1.out
      have HATF := hid_ (show atF p m ml v a u k = if z = 0 then y else ((kadd p m (kin (p ^ m) y) (kin (p ^ m) ((kmul p m (lw ml) (kin (p ^ m) a) (kin (p ^ m) z) : Nat) : Int)) : Nat) : Int) from by unfold atF; rw [hyg, hzg])
      clear hown hx hvc huc hy hz hyg hzg HSTEP
      by_cases hz0 : z = 0
      · have hb : (z != 0) = false := by simp [hz0]
        rw [if_pos hz0] at HATF
        clear hz0
        go_wp2_with fail
        go_roundw
        case rel => exact ⟨k + 1, by omega, by go_num, hid_ (HO1.out.congr fun j hj => by
          by_cases e : j = k
          · subst e; rw [upd_same]; show _ = Value.int .i64 (if j < j + 1 then atF p m ml v a u j else 0); rw [if_pos (by omega), HATF.out]
          · rw [upd_ne _ _ e]; show Value.int .i64 (if j < k then atF p m ml v a u j else 0) = Value.int .i64 (if j < k + 1 then atF p m ml v a u j else 0)
            by_cases h : j < k
            · rw [if_pos h, if_pos (by omega)]
            · rw [if_neg h, if_neg (by omega)]), HX1⟩
        case measure => simp [intOf]; omega
      · have hb : (z != 0) = true := by simpa using hz0
        rw [if_neg hz0] at HATF
        clear hz0
        go_wp2_with fail
        generalize wr.setCell ⟨xb + 1, k, none⟩ (.int .i64 y) = W at *
        obtain ⟨K1, hK1⟩ : ∃ K, kmul p m (lw ml) (kin (p ^ m) a) (kin (p ^ m) z) = K := ⟨_, rfl⟩
        have HMUL : Hid (∀ w', Ex wA w' → Calls Try.prog 73 #[.agg #[.int .i64 p, .int .i64 m, mv], .int .i64 a, .int .i64 z] w' fun r w'' => r = .returned (.int .i64 (K1 : Nat)) ∧ Ex w' w'') := by
          rw [← hK1]
          exact hid_ (fun w' h0 => rMul_any w' HF.out (HMV.out.ex (E0.out.trans h0)) a z)
        rw [hK1] at HATF
        obtain ⟨K2, hK2⟩ : ∃ K, kadd p m (kin (p ^ m) y) (kin (p ^ m) (K1 : Nat)) = K := ⟨_, rfl⟩
        have HADD : Hid (∀ w', Ex wA w' → Calls Try.prog 79 #[.agg #[.int .i64 p, .int .i64 m, mv], .int .i64 y, .int .i64 (K1 : Nat)] w' fun r w'' => r = .returned (.int .i64 (K2 : Nat)) ∧ Ex w' w'') := by
          rw [← hK2]
          exact hid_ (fun w' h0 => rAdd_any w' HF.out (HMV.out.ex (E0.out.trans h0)) y (K1 : Nat))
        rw [hK2] at HATF
        clear hK1 hK2
        have cX := HO1.out.cell hlt
        have fX := HO1.out.frz k
        have D2 := hid_ (E0.out.cell D0.out)
        have D3 := hid_ (E0.out.cell D1.out)
        have X0 : Ex W W.drew := (Ex.refl W).drew
        have G0 : Ex wA W.drew := HX1.out.trans X0
        clear c1 c2 c3 c4
        rw [upd_same] at cX
        have HLEN := hid_ hl
        go_region_held3 (fun w' => w'.cell? ⟨xb, 0, none⟩ = some (.int .i64 p) ∧ w'.cell? ⟨xb, 1, none⟩ = some (.int .i64 m) ∧ w'.cell? ⟨xb, 2, none⟩ = some mv ∧ w'.cell? ⟨vb, vo + k, none⟩ = some (.int .i64 y) ∧ w'.cell? ⟨ub, uo + k, none⟩ = some (.int .i64 z))
          (first | with_reducible exact ⟨G0.cell F0.out, G0.cell F1.out, G0.cell F2.out, G0.cell D2.out, G0.cell D3.out⟩ | with_reducible exact ⟨G1.cell F0.out, G1.cell F1.out, G1.cell F2.out, G1.cell D2.out, G1.cell D3.out⟩ | with_reducible exact ⟨G2.cell F0.out, G2.cell F1.out, G2.cell F2.out, G2.cell D2.out, G2.cell D3.out⟩ | with_reducible exact ⟨ES.cell F0.out, ES.cell F1.out, ES.cell F2.out, ES.cell D2.out, ES.cell D3.out⟩)
          ((first
            | (go_at_call 73; (with_reducible refine (HMUL.out _ G0).mono ?_); rintro e wx1 ⟨rfl, hy1⟩; have X1 := X0.trans hy1; have G1 := G0.trans hy1)
            | (go_at_call 79; (with_reducible refine (HADD.out _ G1).mono ?_); rintro e wx2 ⟨rfl, hy2⟩; have X2 := X1.trans hy2; have G2 := G1.trans hy2; have cX2 := X2.cell cX; have fX2 := X2.frz cX fX; have ES := (HO1.out.ex X2).exSet (by have := HSZ.out; omega) G2 k (.int .i64 (K2 : Nat)))))
        have HO2 := hid_ ((HO1.out.ex X2).set k (.int .i64 (K2 : Nat)))
        have HX2 := hid_ ES
        clear cX fX cX2 fX2 ES G0 G1 G2 X0 X1 X2 hy1 hy2 HMUL HADD HO1 HX1
        go_wp2_with fail
        go_roundw
        case rel => exact ⟨k + 1, by omega, by go_num, hid_ (HO2.out.congr fun j hj => by
          by_cases e : j = k
          · subst e; rw [upd_same]; show _ = Value.int .i64 (if j < j + 1 then atF p m ml v a u j else 0); rw [if_pos (by omega), HATF.out]
          · rw [upd_ne _ _ e, upd_ne _ _ e]; show Value.int .i64 (if j < k then atF p m ml v a u j else 0) = Value.int .i64 (if j < k + 1 then atF p m ml v a u j else 0)
            by_cases h : j < k
            · rw [if_pos h, if_pos (by omega)]
            · rw [if_neg h, if_neg (by omega)]), HX2⟩
        case measure => simp [intOf]; omega
    · obtain rfl : k = v.length := by omega
      have HO2 := hid_ (hown.out.icongr (h := atF p m ml v a u) fun j hj => by rw [if_pos hj])
      clear hown
      go_wp2_with fail
      go_ret
      exact ⟨_, rfl, HO2.out.mono (by omega), E0.out.trans hx.out⟩
end Go.Proofs.Ytpphaicbdeeacaa
