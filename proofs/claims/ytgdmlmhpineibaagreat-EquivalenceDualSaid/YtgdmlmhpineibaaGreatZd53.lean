/- Walk of EquivalenceDual (printed by gen_dul.py). -/
import Derived.Test.YtgdmlmhpineibaaGreatZd22
import Derived.Test.YtgdmlmhpineibaaGreatZd47
import Derived.Test.YtgdmlmhpineibaaGreatZd51
import Derived.Test.YtgdmlmhpineibaaGreatZd52
namespace Go.Proofs.YtgdmlmhpineibaaGreat
set_option linter.unusedVariables false
set_option linter.unusedSimpArgs false
open Go.RowKit

/-- A map's box whose factors grow. -/
structure ScS (w1 wr : World) (B : Nat) (pv sv : Value) (fr : Int) (L1 : List Int) : Prop where
  b0 : wr.cell? ⟨B, 0, none⟩ = some pv
  b1 : wr.cell? ⟨B, 1, none⟩ = some sv
  b2 : wr.cell? ⟨B, 2, none⟩ = some (.int .i64 fr)
  f1 : wr.frozen? ⟨B, 1, none⟩ = false
  o1 : wr.ownsRow w1.heap.size 3 1 sv L1.length (ints L1)
  n1 : ∀ X, sv.ownBlock = some X → X ≠ B
  lb : w1.heap.size ≤ B
  ex : Ex w1 wr
section
variable {w1 wr w' : World} {B : Nat} {pv sv v' : Value} {fr : Int} {L1 : List Int} {x : Int}
theorem ScS.later (h : ScS w1 wr B pv sv fr L1) (hx : Ex wr w') : ScS w1 w' B pv sv fr L1 :=
  ⟨hx.cell h.b0, hx.cell h.b1, hx.cell h.b2, hx.frz h.b1 h.f1, ownsRow_ex h.o1 hx, h.n1, h.lb, h.ex.trans hx⟩
theorem ScS.no1 (h : ScS w1 wr B pv sv fr L1) : some B ≠ sv.ownBlock := fun e => h.n1 B e.symm rfl
theorem ScS.at1g (h : ScS w1 wr B pv sv fr L1) (ha : Apg wr w' w1.heap.size 3 1 sv v' L1.length (ints L1) [.int .i64 x]) :
    w'.cell? ⟨B, 1, none⟩ = some sv ∧ w'.frozen? ⟨B, 1, none⟩ = false := ⟨ha.cell h.b1 h.no1, ha.frz h.b1 h.f1 h.no1⟩
theorem ScS.app1g (h : ScS w1 wr B pv sv fr L1) (ha : Apg wr w' w1.heap.size 3 1 sv v' L1.length (ints L1) [.int .i64 x]) :
    ScS w1 (w'.setCell ⟨B, 1, none⟩ v') B pv v' fr (L1 ++ [x]) := by
  have hn := CmS.blkg ha h.b0 h.n1
  refine ⟨?_, World.cell?_setCell_same _ _ _ (ha.cell h.b1 h.no1), ?_, ?_, ?_, hn, h.lb, (ha.ex h.ex (Nat.le_refl _)).setCell (p := ⟨B, 1, none⟩) h.lb _⟩
  · rw [cell_set_off (by decide)]; exact ha.cell h.b0 h.no1
  · rw [cell_set_off (by decide)]; exact ha.cell h.b2 h.no1
  · rw [efrz_set]; exact ha.frz h.b1 h.f1 h.no1
  · have := ownsRow_setCell_ne (a := ⟨B, 1, none⟩) ha.own (fun e => hn B e rfl) v'
    rw [List.length_append, show ints (L1 ++ [x]) = ints L1 ++ [.int .i64 x] from by unfold ints; simp]
    exact this
end
theorem ScS.new (w1 : World) (pv : Value) (fr : Int) : ScS w1 (w1.alloc (.cells #[pv, .slice none 0 0, .int .i64 fr] 26)) w1.heap.size pv (.slice none 0 0) fr [] :=
  ⟨by simp, by simp, by simp, by simp, World.ownsRow_nil _ _ _ _, by simp [Value.ownBlock], Nat.le_refl _, (Ex.refl _).alloc _⟩
def dulS (p m : Nat) (ml sl : List Int) (i : Nat) : Int := ((kinv p m ml (kin (p ^ m) (sl.getD i 0)) : Nat) : Int)
theorem il_succ' (f : Nat → Int) (i : Nat) : il (i + 1) f = il i f ++ [f i] := by unfold il; rw [List.range_succ, List.map_append]; rfl
theorem dul_ok {p m N : Nat} {ml : List Int} {rows : List (List Int)} {r : Ending} {w' : World} (h : DulR p m ml N rows r w') (ho : CodO p m ml N rows 0) :
    ∃ (ks : List (List Int)) (kv v' : Value), r = .returned (.tuple #[.agg #[.int .i64 p, .int .i64 m, v', .int .i64 N, kv], .int .i64 0]) ∧ KerF p m ml N rows ks ∧ ISl w' v' ml ∧ MSl w' kv ks := by
  obtain ⟨e1, ho1, h⟩ := h
  obtain rfl := codO_uniq ho1 ho
  rcases h with ⟨h, _⟩ | ⟨_, pn, mn, N', ks, kv, v', e1, e2, e3, hr, hk, hv, hkv⟩
  · exact absurd rfl h
  · obtain rfl : p = pn := by omega
    obtain rfl : m = mn := by omega
    obtain rfl : N = N' := by omega
    exact ⟨ks, kv, v', hr, hk, hv, hkv⟩
theorem ker_cod {p m N : Nat} {ml : List Int} {rows ks : List (List Int)} (hF : FldB p m ml) (hn1 : 1 ≤ N) (hn2 : N ≤ 64) (h : KerF p m ml N rows ks) : CodO p m ml N ks 0 := by
  obtain ⟨R, b, b', piv, hR, hE, rfl, _⟩ := h
  exact codO_can hF hn1 hn2 hR hE
theorem mon_inv {p m N fr : Nat} {ml pl ul : List Int} (h : MonOK p m ml pl ul fr N) : MonOK p m ml pl (il N (dulS p m ml ul)) fr N ∧ InvS p m ml N ul (il N (dulS p m ml ul)) := by
  have key : ∀ i, i < N → (il N (dulS p m ml ul)).getD i 0 = ((kinv p m ml (kin (p ^ m) (ul.getD i 0)) : Nat) : Int) ∧ 1 ≤ kinv p m ml (kin (p ^ m) (ul.getD i 0)) ∧ kinv p m ml (kin (p ^ m) (ul.getD i 0)) < p ^ m ∧ kmul p m (lw ml) (kin (p ^ m) (ul.getD i 0)) (kinv p m ml (kin (p ^ m) (ul.getD i 0))) = 1 := fun i hi => by
    obtain ⟨z, hz, z1, z2⟩ := h.sc i hi
    have e : kin (p ^ m) (ul.getD i 0) = z := by rw [hz]; exact kin_of z2
    obtain ⟨k1, k2, k3⟩ := kinv_ok h.hp h.hm h.hF z1 z2
    refine ⟨eil_getD' hi _, ?_⟩
    rw [e]; exact ⟨k1, k2, k3⟩
  refine ⟨⟨h.hp, h.hm, h.hF, h.n1, h.n2, h.pll, il_len _ _, h.inj, fun i hi => ?_, h.frm⟩, fun i hi => ?_⟩
  · obtain ⟨k0, k1, k2, _⟩ := key i hi
    exact ⟨_, k0, k1, k2⟩
  · obtain ⟨k0, k1, k2, k3⟩ := key i hi
    rw [k0, kin_of k2, kmul_comm, k3]
set_option maxRecDepth 100000 in
set_option maxHeartbeats 16000000 in
theorem EquivalenceDual_any (w : World) (c : CdV) (m1 v1 : Value) (hc : c.at w m1 v1) (pv uv : Value) (pl ul : List Int) (fr : Int) (hp : ISl w pv pl) (hu : ISl w uv ul) :
    Calls Tryz.prog 10 #[c.arg m1 v1, .agg #[pv, uv, .int .i64 fr]] w fun r w' => r = .returned (.bool true) ∧ Ex w w' := by
  obtain ⟨c0, c1, c2, c3, c4⟩ := boxC5 w c m1 v1
  obtain ⟨b0, b1, b2, e2⟩ := boxMo_facts (w.alloc (c.obj m1 v1)) pv uv fr
  have hz1 : (w.alloc (c.obj m1 v1)).heap.size = w.heap.size + 1 := by simp
  have e1 := e_al w (c.obj m1 v1)
  rw [hz1] at b0 b1 b2
  replace c0 := e2.cell c0
  replace c1 := e2.cell c1
  replace c2 := e2.cell c2
  replace c3 := e2.cell c3
  replace c4 := e2.cell c4
  have HX := hid_ (e1.trans e2)
  have HAW := hid_ (fun w' => awake_any w')
  have HF1 := hid_ (fun (w' : World) (h : Ex w w') => few31_any w' c m1 v1 (hc.ex h))
  have HCK := hid_ (fun (w' : World) (h : Ex w w') => rChk12_any w' c.p c.m c.ml m1 (hc.ex h).m c.n c.rows v1 (hc.ex h).g)
  have HMC := hid_ (fun (w' : World) (h : Ex w w') => rMCheck_any w' c.p c.m c.ml m1 (hc.ex h).m c.n pl ul pv uv (hp.ex h) (hu.ex h) fr)
  have HAP := hid_ (fun (w' : World) (h : Ex w w') => Apply_any w' c.p c.m c.ml m1 (hc.ex h).m c.n c.rows v1 (hc.ex h).g pl ul pv uv (hp.ex h) (hu.ex h) fr)
  have HDC := hid_ (fun (w' : World) (h : Ex w w') => codeDual_any w' c.p c.m c.ml m1 (hc.ex h).m c.n c.rows v1 (hc.ex h).g)
  have HC := hid_ hc
  have HPV := hid_ hp
  have HUV := hid_ hu
  obtain ⟨pa, pc, rfl, p1, p2, -⟩ := hp.open
  obtain ⟨ua, uc, rfl, u1, u2, -⟩ := hu.open
  obtain ⟨x1, y1, rfl, -, z1, -⟩ := hc.g.open
  obtain ⟨x3, y3, rfl, -, z3, -⟩ := hc.m.open
  unfold maxLen at p2 u2 z1 z3
  obtain ⟨p, m, ml, n, rows⟩ := c
  obtain ⟨CB, hCB⟩ : ∃ CB, w.heap.size = CB := ⟨_, rfl⟩
  rw [hCB] at c0 c1 c2 c3 c4 b0 b1 b2
  dsimp only [CdV.arg, CdV.obj] at *
  obtain ⟨E2, hE2⟩ : ∃ E, monS p m ml n pl ul fr = E := ⟨_, rfl⟩
  rw [hE2] at HMC
  have HE2 := hid_ hE2
  clear hc hp hu e1 e2 hz1 hE2
  go_enter Tryz.func10, Tryz.ntmps10
  go_upto_region 1 with fail
  try simp only [hCB]
  clear hCB
  generalize (w.alloc (.cells #[.int .i64 p, .int .i64 m, .slice x3 ml.length y3, .int .i64 n, .slice x1 rows.length y1] 47)).alloc (.cells #[.slice pa pl.length pc, .slice ua ul.length uc, .int .i64 fr] 26) = w1 at *
  have HALL := hid_ (fun w' (h : Ex w1 w') => (⟨h.cell c0, h.cell c1, h.cell c2, h.cell c3, h.cell c4, h.cell b0, h.cell b1, h.cell b2⟩ : _ ∧ _ ∧ _ ∧ _ ∧ _ ∧ _ ∧ _ ∧ _))
  have bad : ∀ w', Ex w1 w' → Calls Tryz.prog 12 #[] w' fun r w'' => r = .returned (.bool true) ∧ Ex w1 w'' := fun w' h => (HAW.out w').mono fun r w'' ⟨h1, h2⟩ => ⟨h1, h.trans h2⟩
  have BAD := hid_ bad
  have HX1 := hid_ (Ex.refl w1)
  clear bad
  go_wp2_with fail
  refine (HAW.out w1).mono ?_
  rintro e w2 ⟨rfl, hx2⟩
  have HX2 := hid_ (HX1.out.trans hx2)
  clear hx2 c0 c1 c2 c3 c4 b0 b1 b2
  obtain ⟨c0, c1, c2, c3, c4, b0, b1, b2⟩ := HALL.out w2 HX2.out
  go_wp2_with fail
  refine (HF1.out w2 (HX.out.trans HX2.out)).mono ?_
  rintro e w3 ⟨⟨f1, rfl, -⟩, hx3⟩
  have HX3 := hid_ (HX2.out.trans hx3)
  clear hx3 c0 c1 c2 c3 c4 b0 b1 b2
  obtain ⟨c0, c1, c2, c3, c4, b0, b1, b2⟩ := HALL.out w3 HX3.out
  cases f1 with
  | false =>
    go_wp2_with fail
    refine (BAD.out _ HX3.out).mono ?_
    rintro e w99 ⟨rfl, hx99⟩
    have HX99 := hid_ hx99
    clear hx99
    go_wp2_with fail
    go_ret
    exact ⟨rfl, HX.out.trans HX99.out⟩
  | true =>
    go_wp2_with fail
    refine (HCK.out w3 (HX.out.trans HX3.out)).mono ?_
    rintro e w4 ⟨⟨E1, rfl, ho1⟩, hx4⟩
    have HX4 := hid_ (HX3.out.trans hx4)
    have HO1 := hid_ ho1
    clear ho1
    clear hx4 c0 c1 c2 c3 c4 b0 b1 b2
    obtain ⟨c0, c1, c2, c3, c4, b0, b1, b2⟩ := HALL.out w4 HX4.out
    by_cases z1 : E1 = 0
    rotate_left
    · have y1 : (E1 != 0) = true := by simpa using z1
      clear z1
      go_wp2_with fail
      refine (BAD.out _ HX4.out).mono ?_
      rintro e w99 ⟨rfl, hx99⟩
      have HX99 := hid_ hx99
      clear hx99
      go_wp2_with fail
      go_ret
      exact ⟨rfl, HX.out.trans HX99.out⟩
    · subst z1
      go_wp2_with fail
      refine (HMC.out w4 (HX.out.trans HX4.out)).mono ?_
      rintro e w5 ⟨rfl, hx5⟩
      have HX5 := hid_ (HX4.out.trans hx5)
      clear hx5 c0 c1 c2 c3 c4 b0 b1 b2
      obtain ⟨c0, c1, c2, c3, c4, b0, b1, b2⟩ := HALL.out w5 HX5.out
      by_cases z1 : E2 = 0
      rotate_left
      · have y1 : (E2 != 0) = true := by simpa using z1
        clear z1
        go_wp2_with fail
        refine (BAD.out _ HX5.out).mono ?_
        rintro e w99 ⟨rfl, hx99⟩
        have HX99 := hid_ hx99
        clear hx99
        go_wp2_with fail
        go_ret
        exact ⟨rfl, HX.out.trans HX99.out⟩
      · subst z1
        obtain ⟨pn, mn, N, fn, rfl, rfl, rfl, rfl, hsh, hch, hM⟩ := monOK_of HE2.out
        obtain ⟨q2, m2, N2, i1, i2, i3, _, _, _, _, k256, hrw⟩ := codO_two HO1.out
        obtain rfl : pn = q2 := by omega
        obtain rfl : mn = m2 := by omega
        obtain rfl : N = N2 := by omega
        have HSH := hid_ hsh
        have HCH := hid_ hch
        have HMO := hid_ hM
        have HLN := hid_ (show pl.length = N ∧ ul.length = N from ⟨hM.pll, hM.sll⟩)
        have HN := hid_ (show 1 ≤ N ∧ N ≤ 64 from ⟨hM.n1, hM.n2⟩)
        have HFB := hid_ (codO_fld HO1.out).1
        have HIN := hid_ (fun (w' : World) (h : Ex w w') (z : Int) => rInv_any w' hsh ((HC.out.ex h).m) z)
        try dsimp only at HIN
        clear hsh hch hM k256 hrw i1 i2 i3
        go_upto_region 4 with fail
        obtain ⟨NB, hNB⟩ : ∃ D, w5.heap.size = D := ⟨_, rfl⟩
        have hs0 := ScS.new w5 (.slice pa pl.length pc) (fn : Int)
        have en := e_al w5 (.cells #[.slice pa pl.length pc, .slice none 0 0, .int .i64 fn] 26)
        try simp only [hNB]
        rw [hNB] at hs0
        have HNB := hid_ hNB
        clear hNB c0 c1 c2 c3 c4 b0 b1 b2
        have HXN := hid_ (HX5.out.trans en)
        have HS0 := hid_ hs0
        obtain ⟨w3, hw3⟩ : ∃ x, w5 = x := ⟨_, rfl⟩
        have HX3 := hid_ (show Ex w1 w3 from by rw [← hw3]; exact HX5.out)
        rw [hw3] at HS0 HNB HXN ⊢
        clear hs0 en hw3
        generalize w3.alloc (.cells #[.slice pa pl.length pc, .slice none 0 0, .int .i64 fn] 26) = w4 at *
        obtain ⟨c0, c1, c2, c3, c4, b0, b1, b2⟩ := HALL.out w4 HXN.out
        go_wp2_with fail
        clear c0 c1 c2 c3 c4 b0 b1 b2
        go_loopw [46] (fun i' wr => ∃ (i : Nat) (sv : Value), i ≤ N ∧ i' = .int .i64 i ∧ Hid (ScS w3 wr NB (.slice pa pl.length pc) sv fn (il i (dulS pn mn ml ul)))) (fun i' _ => N - (intOf i').toNat)
        case atStart => exact ⟨0, _, by omega, rfl, HS0⟩
        case round =>
          clear HS0
          obtain ⟨i, sv, hi, rfl, hst⟩ := hrel
          have HXR := hid_ (HX3.out.trans hst.out.ex)
          have HIL := hid_ (show (il i (dulS pn mn ml ul)).length ≤ 64 from by rw [il_len]; have := HN.out; omega)
          by_cases hlt : i < N
          · obtain ⟨ub, uo, ⟨ucx, hu1⟩, hu2⟩ := slot_at (HUV.out.ex (HX.out.trans HXR.out)) (i := i) (by have := HLN.out; omega)
            injection hu1 with hu1 z1 z2
            clear z1 z2
            subst hu1
            obtain ⟨z, hz⟩ : ∃ z, ul.getD i 0 = z := ⟨_, rfl⟩
            rw [hz] at hu2
            have i1 : (0 : Int) ≤ (i : Int) := by omega
            have i2 : (i : Int) < (ul.length : Int) := by have := HLN.out; omega
            obtain ⟨u, hu⟩ : ∃ u, kinv pn mn ml (kin (pn ^ mn) z) = u := ⟨_, rfl⟩
            have HSU := hid_ (show il (i + 1) (dulS pn mn ml ul) = il i (dulS pn mn ml ul) ++ [(u : Int)] from by
              rw [il_succ']; congr 2; unfold dulS; rw [hz, hu])
            have HINW := hid_ (fun (w' : World) (h : Ex wr w') => HIN.out w' ((HX.out.trans HXR.out).trans h) z)
            rw [hu] at HINW
            obtain ⟨c0, c1, c2, -, -, -, -, -⟩ := HALL.out wr HXR.out
            obtain ⟨va, vc, rfl⟩ := own_shape hst.out.o1
            have HC6 := hid_ hst.out
            have D1 := hid_ hst.out.b1
            have K0 := hid_ c0
            have K1 := hid_ c1
            have K2 := hid_ c2
            clear hst hz hu c0 c1 c2
            go_upto_region 7 with fail
            clear hu2
            refine wp_region_as (fun k => ([.pointer (some ⟨NB, 1, none⟩), .slice va (il i (dulS pn mn ml ul)).length vc, .pointer (some ⟨CB, 0, none⟩), .agg #[.int .i64 (pn : Int), .int .i64 (mn : Int), .slice x3 ml.length y3], .int .i64 z, .int .i64 (u : Int), undef, undef, .pointer (some ⟨NB, 1, none⟩)] : List Value).getD k undef) 6 7 8 9 (.int .i64 (u : Int)) 3 (fun v w => ∃ w1, ScS w3 w1 NB (.slice pa pl.length pc) (.slice va (il i (dulS pn mn ml ul)).length vc) fn (il i (dulS pn mn ml ul)) ∧ Apg w1 w w3.heap.size 3 1 (.slice va (il i (dulS pn mn ml ul)).length vc) v (il i (dulS pn mn ml ul)).length (ints (il i (dulS pn mn ml ul))) [.int .i64 (u : Int)]) (fun v w => ScS w3 w NB (.slice pa pl.length pc) v fn ((il i (dulS pn mn ml ul)) ++ [(u : Int)])) (by kernel_rfl) (by kernel_rfl) (by kernel_rfl) ?_ ?_ ?_ ?_ (fun B v k => ([.pointer (some ⟨NB, 1, none⟩), .slice va (il i (dulS pn mn ml ul)).length vc, .pointer (some ⟨CB, 0, none⟩), .agg #[.int .i64 (pn : Int), .int .i64 (mn : Int), .slice x3 ml.length y3], .int .i64 z, .int .i64 (u : Int), .slice (some ⟨B, 0, none⟩) 1 1, v, .pointer (some ⟨NB, 1, none⟩)] : List Value).getD k undef) (fun _ _ => rfl) ?_
            · simp only [StepAll]
              refine ⟨?_, ?_, ?_, ?_, ?_, ?_, ?_, ?_, ?_, ?_, trivial⟩
              · intro L a w hin hout hd K
                rw [if_neg (by decide), if_neg (by decide), if_neg (by decide)]; intro hx hK
                have e5 : a.tmps[5]? = some (.pointer (some ⟨NB, 0, none⟩)) := hout 5 (by kernel_rfl)
                clear hin hout hd
                go_simp
                exact hK _ (Ex.refl w)
              · intro L a w hin hout hd K
                rw [if_neg (by decide), if_neg (by decide), if_neg (by decide)]; intro hx hK
                have e50 := hin 0 50 _ (hd ⟨0, .data⟩ (by simp) rfl) (by decide) (by decide) (by decide) rfl rfl
                have q1 := hx.cell D1.out
                clear hin hout hd
                go_simp
                exact hK _ (Ex.refl w)
              · intro L a w hin hout hd K
                rw [if_neg (by decide), if_neg (by decide), if_neg (by decide)]; intro hx hK
                have e2 : a.tmps[2]? = some (.pointer (some ⟨CB, 0, none⟩)) := hout 2 (by kernel_rfl)
                clear hin hout hd
                go_simp
                exact hK _ (Ex.refl w)
              · intro L a w hin hout hd K
                rw [if_neg (by decide), if_neg (by decide), if_neg (by decide)]; intro hx hK
                have e52 := hin 2 52 _ (hd ⟨2, .data⟩ (by simp) rfl) (by decide) (by decide) (by decide) rfl rfl
                have q1 := hx.cell K0.out
                have q2 := hx.cell K1.out
                have q3 := hx.cell K2.out
                clear hin hout hd
                go_simp
                exact hK _ (Ex.refl w)
              · intro L a w hin hout hd K
                rw [if_neg (by decide), if_neg (by decide), if_neg (by decide)]; intro hx hK
                have e7 : a.tmps[7]? = some (.int .i64 z) := hout 7 (by kernel_rfl)
                clear hin hout hd
                go_simp
                exact hK _ (Ex.refl w)
              · intro L a w hin hout hd K
                rw [if_neg (by decide), if_neg (by decide), if_neg (by decide)]; intro hx hK
                have e53 := hin 3 53 _ (hd ⟨3, .data⟩ (by simp) rfl) (by decide) (by decide) (by decide) rfl rfl
                have e54 := hin 4 54 _ (hd ⟨4, .data⟩ (by simp) rfl) (by decide) (by decide) (by decide) rfl rfl
                clear hin hout hd
                go_simp
                refine (HINW.out _ hx).mono ?_
                rintro e w' ⟨rfl, h5⟩
                exact hK _ h5
              · intro L a w hin hout hd K
                rw [if_neg (by decide), if_neg (by decide), if_pos rfl]; intro _; trivial
              · intro L a w hin hout hd K
                rw [if_neg (by decide), if_pos (by decide)]; trivial
              · intro L a w hin hout hd K
                rw [if_pos rfl]; intro hK
                have e5 : a.tmps[5]? = some (.pointer (some ⟨NB, 0, none⟩)) := hout 5 (by kernel_rfl)
                clear hin hout hd
                go_simp
                exact hK
              · intro L a w hin hout hd K
                rw [if_neg (by decide), if_pos (by decide)]; trivial
            · intro o a w1 K ho hx hin hK
              injection (show some _ = some o from ho) with ho
              subst ho
              have e55 := hin 5 55 _ (by kernel_rfl) (by decide) (by decide) (by decide) rfl rfl
              clear hin
              go_simp
              exact hK
            · intro o ob a w1 B8 K ho hob hx hsl hbl hin hA
              injection (show some _ = some o from ho) with ho
              subst ho
              injection (show some _ = some ob from hob) with hob
              subst hob
              have e1 := eval_tmp (hin 1 51 _ (by kernel_rfl) (by decide) (by decide) (by decide) rfl rfl)
              have e2 := eval_tmp (hsl 56 rfl)
              refine opwp_append _ _ 22 rfl w3.heap.size 3 (.int .i64 0) 1 8 Tryz.underlying22 infoInt rfl (by decide) (.slice va (il i (dulS pn mn ml ul)).length vc) (il i (dulS pn mn ml ul)).length (ints (il i (dulS pn mn ml ul))) e1 ((HC6.out.later hx).o1) _ 1 [.int .i64 (u : Int)] e2 (sl_lit1 hbl) (by simp [Value.oneCell']) (by have := HIL.out; unfold maxLen; omega) (by have := HIL.out; omega) ((HC6.out.later hx).ex.size) ?_
              intro v' w' hown hg ha
              exact hA v' w' (⟨w1, HC6.out.later hx, ⟨hown, hg, ha, (HC6.out.later hx).o1⟩⟩)
            · intro o oa of a w1 v K ho hoa hof hA h1 h2 hK
              injection (show some _ = some o from ho) with ho
              subst ho
              injection (show some _ = some oa from hoa) with hoa
              subst hoa
              injection (show some _ = some of from hof) with hof
              subst hof
              have e1 := h1 57 rfl
              have e2 := h2 58 rfl
              obtain ⟨w2, hc2, hap⟩ := hA
              obtain ⟨g1, g2⟩ := hc2.at1g hap
              have hfin := hc2.app1g hap
              obtain ⟨va7, vc7, rfl⟩ := own_shape hap.own
              clear hc2 hap h1 h2
              have HFI := hid_ hfin
              clear hfin
              go_simp
              exact hK _ HFI.out
            · intro B8 v w1 hF
              rw [← HSU.out] at hF
              have HF := hid_ hF
              clear hF
              simp only [putK, Act.put, List.setIfInBounds_toArray, List.set_cons_zero, List.set_cons_succ]
              go_wp2_with fail
              go_roundw
              case rel => first | exact ⟨i + 1, _, by omega, by go_num, HF⟩ | ((repeat apply Exists.intro); exact ⟨⟨i + 1, _, by omega, by go_num, HF⟩, rfl⟩)
              case measure => simp [intOf]; omega
          · obtain rfl : N = i := by omega
            obtain ⟨va, vc, rfl⟩ := own_shape hst.out.o1
            have HSV := hid_ (show ISl wr (.slice va (il N (dulS pn mn ml ul)).length vc) (il N (dulS pn mn ml ul)) from Sl.own hst.out.o1)
            have HNC := hid_ (fun w' (h : Ex wr w') => (⟨h.cell hst.out.b0, h.cell hst.out.b1, h.cell hst.out.b2⟩ : _ ∧ _ ∧ _))
            obtain ⟨sc', hsc'⟩ : ∃ s, il N (dulS pn mn ml ul) = s := ⟨_, rfl⟩
            have HSC := hid_ hsc'
            obtain ⟨hM2, hIV⟩ := mon_inv HMO.out
            rw [hsc'] at HSV HNC hM2 hIV
            have i2 : ¬ (N : Int) < (ul.length : Int) := by have := HLN.out; omega
            have i3 : decide ((N : Int) < (ul.length : Int)) = false := decide_eq_false i2
            have HM2 := hid_ hM2
            have HIV := hid_ hIV
            have HMON := hid_ (show monS pn mn ml N pl sc' fn = 0 from mon_mk HCH.out hM2 (fun i hi => by
              obtain ⟨_, _, _, _, _, q5, _⟩ := mon_ok HE2.out
              exact (rngB_at q5 (i := i) (by have := HLN.out; omega)).1))
            clear hst hsc' hM2 hIV HIL
            obtain ⟨c0, c1, c2, c3, c4, b0, b1, b2⟩ := HALL.out wr HXR.out
            go_wp2_with fail
            refine (HAP.out wr (HX.out.trans HXR.out)).mono ?_
            rintro e w20 ⟨hap, hx20⟩
            have HY20 := hid_ hx20
            have HX20 := hid_ (HXR.out.trans hx20)
            clear hx20 c0 c1 c2 c3 c4 b0 b1 b2
            obtain ⟨piv, a', rv, v', rfl, hel, hv', hrv⟩ := app_ok hap HO1.out HE2.out
            have HEL := hid_ hel
            have HCX := hid_ (show CodO pn mn ml N (rowsL N piv.length a') 0 from codO_can HFB.out HN.out.1 HN.out.2 (by rw [imL_len (Nat.le_refl _)]; exact (codO_rows HO1.out).1) hel)
            clear hel hap
            obtain ⟨X, hX⟩ : ∃ D, rowsL N piv.length a' = D := ⟨_, rfl⟩
            rw [hX] at hrv HCX
            have HXE := hid_ hX
            clear hX
            obtain ⟨x0, x1, x2, x3, x4⟩ := boxC5 w20 ⟨pn, mn, ml, N, X⟩ v' rv
            have eb := e_al w20 ((⟨pn, mn, ml, N, X⟩ : CdV).obj v' rv)
            have HA_x := hid_ (show (⟨pn, mn, ml, N, X⟩ : CdV).at (w20.alloc ((⟨pn, mn, ml, N, X⟩ : CdV).obj v' rv)) v' rv from ⟨hv'.ex eb, hrv.ex eb⟩)
            obtain ⟨xa, xc, rfl, -, -, -⟩ := hv'.open
            obtain ⟨xg, xh, rfl, -, -, -⟩ := hrv.open
            have HX21 := hid_ (HX20.out.trans eb)
            have HY21 := hid_ (HY20.out.trans eb)
            obtain ⟨xB, hxB⟩ : ∃ D, w20.heap.size = D := ⟨_, rfl⟩
            rw [hxB] at x0 x1 x2 x3 x4
            dsimp only [CdV.obj] at x0 x1 x2 x3 x4 HX21 HY21 HA_x
            skip
            clear eb hv' hrv
            go_upto_region 10 with fail
            try simp only [hxB]
            clear hxB
            generalize w20.alloc (.cells #[.int .i64 pn, .int .i64 mn, .slice xa ml.length xc, .int .i64 N, .slice xg X.length xh] 47) = w21 at *
            have HC_x := hid_ (fun w' (h : Ex w21 w') => (⟨h.cell x0, h.cell x1, h.cell x2, h.cell x3, h.cell x4⟩ : _ ∧ _ ∧ _ ∧ _ ∧ _))
            clear x0 x1 x2 x3 x4
            obtain ⟨x0, x1', x2, x3', x4⟩ := HC_x.out w21 (Ex.refl w21)
            have HDX := hid_ (codeDual_any w21 pn mn ml _ HA_x.out.m N X _ HA_x.out.g)
            go_wp2_with fail
            refine HDX.out.mono ?_
            rintro e w22 ⟨hdu, hx22⟩
            have HZ22 := hid_ hx22
            have HX22 := hid_ (HX21.out.trans hx22)
            have HY22 := hid_ (HY21.out.trans hx22)
            clear hx22 x0 x1' x2 x3' x4 HDX
            obtain ⟨ky, kv, yv, rfl, hky, hyv, hkv⟩ := dul_ok hdu HCX.out
            have HKY := hid_ hky
            clear hdu hky
            obtain ⟨y0, y1, y2, y3, y4⟩ := boxC5 w22 ⟨pn, mn, ml, N, ky⟩ yv kv
            have eb := e_al w22 ((⟨pn, mn, ml, N, ky⟩ : CdV).obj yv kv)
            have HA_y := hid_ (show (⟨pn, mn, ml, N, ky⟩ : CdV).at (w22.alloc ((⟨pn, mn, ml, N, ky⟩ : CdV).obj yv kv)) yv kv from ⟨hyv.ex eb, hkv.ex eb⟩)
            obtain ⟨ya, yc, rfl, -, -, -⟩ := hyv.open
            obtain ⟨yg, yh, rfl, -, -, -⟩ := hkv.open
            have HX23 := hid_ (HX22.out.trans eb)
            have HY23 := hid_ (HY22.out.trans eb)
            obtain ⟨yB, hyB⟩ : ∃ D, w22.heap.size = D := ⟨_, rfl⟩
            rw [hyB] at y0 y1 y2 y3 y4
            dsimp only [CdV.obj] at y0 y1 y2 y3 y4 HX23 HY23 HA_y
            skip
            clear eb hyv hkv
            go_upto_region 11 with fail
            try simp only [hyB]
            clear hyB
            generalize w22.alloc (.cells #[.int .i64 pn, .int .i64 mn, .slice ya ml.length yc, .int .i64 N, .slice yg ky.length yh] 47) = w23 at *
            have HC_y := hid_ (fun w' (h : Ex w23 w') => (⟨h.cell y0, h.cell y1, h.cell y2, h.cell y3, h.cell y4⟩ : _ ∧ _ ∧ _ ∧ _ ∧ _))
            clear y0 y1 y2 y3 y4
            obtain ⟨c0, c1, c2, c3, c4, b0, b1, b2⟩ := HALL.out w23 HX23.out
            go_wp2_with fail
            refine (HDC.out w23 (HX.out.trans HX23.out)).mono ?_
            rintro e w24 ⟨hdu, hx24⟩
            have HZ24 := hid_ hx24
            have HX24 := hid_ (HX23.out.trans hx24)
            have HY24 := hid_ (HY23.out.trans hx24)
            clear hx24 c0 c1 c2 c3 c4 b0 b1 b2
            obtain ⟨kd, dv, ev, rfl, hkd, hev, hdv⟩ := dul_ok hdu HO1.out
            have HKD := hid_ hkd
            clear hdu hkd
            obtain ⟨d0, d1, d2, d3, d4⟩ := boxC5 w24 ⟨pn, mn, ml, N, kd⟩ ev dv
            have eb := e_al w24 ((⟨pn, mn, ml, N, kd⟩ : CdV).obj ev dv)
            have HA_d := hid_ (show (⟨pn, mn, ml, N, kd⟩ : CdV).at (w24.alloc ((⟨pn, mn, ml, N, kd⟩ : CdV).obj ev dv)) ev dv from ⟨hev.ex eb, hdv.ex eb⟩)
            obtain ⟨da, dc, rfl, -, -, -⟩ := hev.open
            obtain ⟨dg, dh, rfl, -, -, -⟩ := hdv.open
            have HX25 := hid_ (HX24.out.trans eb)
            have HY25 := hid_ (HY24.out.trans eb)
            obtain ⟨dB, hdB⟩ : ∃ D, w24.heap.size = D := ⟨_, rfl⟩
            rw [hdB] at d0 d1 d2 d3 d4
            dsimp only [CdV.obj] at d0 d1 d2 d3 d4 HX25 HY25 HA_d
            have HQ25 := hid_ (HZ24.out.trans eb)
            dsimp only [CdV.obj] at HQ25
            clear eb hev hdv
            go_upto_region 12 with fail
            try simp only [hdB]
            clear hdB
            generalize w24.alloc (.cells #[.int .i64 pn, .int .i64 mn, .slice da ml.length dc, .int .i64 N, .slice dg kd.length dh] 47) = w25 at *
            have HC_d := hid_ (fun w' (h : Ex w25 w') => (⟨h.cell d0, h.cell d1, h.cell d2, h.cell d3, h.cell d4⟩ : _ ∧ _ ∧ _ ∧ _ ∧ _))
            clear d0 d1 d2 d3 d4
            obtain ⟨d0, d1, d2, d3, d4⟩ := HC_d.out w25 (Ex.refl w25)
            obtain ⟨n0, n1, n2⟩ := HNC.out w25 HY25.out
            have HAN := hid_ (Apply_any w25 pn mn ml _ HA_d.out.m N kd _ HA_d.out.g pl sc' _ _ (HPV.out.ex (HX.out.trans HX25.out)) (HSV.out.ex HY25.out) fn)
            go_wp2_with fail
            refine HAN.out.mono ?_
            rintro e w26 ⟨hap, hx26⟩
            have HQ26 := hid_ (HQ25.out.trans hx26)
            have HX26 := hid_ (HX25.out.trans hx26)
            have HY26 := hid_ (HY25.out.trans hx26)
            clear hx26 d0 d1 d2 d3 d4 n0 n1 n2 HAN
            obtain ⟨pv2, a2, zv, wv, rfl, hel2, hwv, hzv⟩ := app_ok hap (ker_cod HFB.out HN.out.1 HN.out.2 HKD.out) HMON.out
            have hsame := dual_law HMO.out HM2.out (by obtain ⟨a, b, h1, h2, _, h3, _⟩ := HFB.out; have e1 : a = pn := by omega
                                                       rw [e1] at h3; exact h3) HIV.out HEL.out HXE.out HKY.out HKD.out hel2
            rw [← hsame] at hzv
            clear hap hel2 hsame
            obtain ⟨z0, z1, z2, z3, z4⟩ := boxC5 w26 ⟨pn, mn, ml, N, ky⟩ wv zv
            have eb := e_al w26 ((⟨pn, mn, ml, N, ky⟩ : CdV).obj wv zv)
            have HA_z := hid_ (show (⟨pn, mn, ml, N, ky⟩ : CdV).at (w26.alloc ((⟨pn, mn, ml, N, ky⟩ : CdV).obj wv zv)) wv zv from ⟨hwv.ex eb, hzv.ex eb⟩)
            obtain ⟨za, zc, rfl, -, -, -⟩ := hwv.open
            obtain ⟨zg, zh, rfl, -, -, -⟩ := hzv.open
            have HX27 := hid_ (HX26.out.trans eb)
            have HY27 := hid_ (HY26.out.trans eb)
            obtain ⟨zB, hzB⟩ : ∃ D, w26.heap.size = D := ⟨_, rfl⟩
            rw [hzB] at z0 z1 z2 z3 z4
            dsimp only [CdV.obj] at z0 z1 z2 z3 z4 HX27 HY27 HA_z
            have HQ27 := hid_ (HQ26.out.trans eb)
            dsimp only [CdV.obj] at HQ27
            clear eb hwv hzv
            go_upto_region 13 with fail
            try simp only [hzB]
            clear hzB
            generalize w26.alloc (.cells #[.int .i64 pn, .int .i64 mn, .slice za ml.length zc, .int .i64 N, .slice zg ky.length zh] 47) = w27 at *
            have HC_z := hid_ (fun w' (h : Ex w27 w') => (⟨h.cell z0, h.cell z1, h.cell z2, h.cell z3, h.cell z4⟩ : _ ∧ _ ∧ _ ∧ _ ∧ _))
            clear z0 z1 z2 z3 z4
            obtain ⟨z0, z1, z2, z3', z4⟩ := HC_z.out w27 (Ex.refl w27)
            obtain ⟨y0, y1', y2, y3', y4⟩ := HC_y.out w27 HQ27.out
            have HSA := hid_ (rCSame_any w27 ⟨pn, mn, ml, N, ky⟩ ⟨pn, mn, ml, N, ky⟩ _ _ _ _ (HA_y.out.ex HQ27.out) HA_z.out)
            rw [samC_iff.2 rfl] at HSA
            dsimp only [CdV.arg] at HSA
            go_wp2_with fail
            refine HSA.out.mono ?_
            rintro e w28 ⟨rfl, hx28⟩
            have HX28 := hid_ (HX27.out.trans hx28)
            clear hx28 HSA z0 z1 z2 z3' z4 y0 y1' y2 y3' y4
            go_wp2_with fail
            go_ret
            exact ⟨rfl, HX.out.trans HX28.out⟩
end Go.Proofs.YtgdmlmhpineibaaGreat
