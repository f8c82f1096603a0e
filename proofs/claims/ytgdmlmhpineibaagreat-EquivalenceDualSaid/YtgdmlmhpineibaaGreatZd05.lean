/- Walks of the package field: powers, generator. -/
import Derived.Test.YtgdmlmhpineibaaGreatZd03
import Derived.Test.YtgdmlmhpineibaaGreatZd04
namespace Go.Proofs.YtgdmlmhpineibaaGreat
set_option linter.unusedVariables false
set_option linter.unusedSimpArgs false
open Go.RowKit

/-- The powers of x. -/
def pwI (p m : Nat) (ml : List Int) (x : Nat) : Nat → Int := fun k => ((kpw p m (lw ml) x k : Nat) : Int)
theorem il_succ (n : Nat) (f : Nat → Int) : il (n + 1) f = il n f ++ [f n] := by simp [il, List.range_succ]
def seenB (p m : Nat) (ml : List Int) (x k : Nat) : Nat → Bool := fun z => decide (∃ i, i < k ∧ kpw p m (lw ml) x i = z)
set_option maxRecDepth 100000 in
set_option maxHeartbeats 4000000 in
theorem powers_any (p m x : Nat) (ml : List Int) (mv : Value) (w : World) (hf : FSh p m ml) (hmv : ISl w mv ml) (hx : x < p ^ m) :
    Calls Tryz.prog 167 #[.agg #[.int .i64 p, .int .i64 m, mv], .int .i64 ((p ^ m : Nat) : Int), .int .i64 x] w fun r w' => ∃ v L, r = .returned v ∧ PwEnd p m (lw ml) x L ∧ ISl w' v (il L (pwI p m ml x)) ∧ Ex w w' := by
  have hp := hf.p2
  have hm := hf.m1
  have HF := hid_ hf
  have HMV := hid_ hmv
  have hq := hf.q
  have hq1 : 1 < p ^ m := one_lt_q hp hm
  have HL := hid_ (fun k => kpw_lt (low := lw ml) hp hm x k)
  have HM := hid_ (fun (y : Nat) (w' : World) (h : y < p ^ m) (h' : ISl w' mv ml) => multiply_any p m y x ml mv w' hf h' h hx)
  have HP1 := hid_ (PwOK.one (low := lw ml) hp hm x)
  have HPL := hid_ (fun k (h : PwOK p m (lw ml) x k) => h.len hp hm)
  have HX1 := hid_ (show kpw p m (lw ml) x 1 = x by simp only [kpw]; exact one_kmul hp hm hx)
  clear hf hmv hm
  obtain ⟨q, hqq⟩ : ∃ q, p ^ m = q := ⟨_, rfl⟩
  simp only [hqq] at hq hq1 HL HM HPL hx ⊢
  have HQ := hid_ hqq
  clear hqq
  obtain ⟨xb, hxb⟩ : ∃ xb, w.heap.size = xb := ⟨_, rfl⟩
  have HXB := hid_ hxb
  go_enter Tryz.func167, Tryz.ntmps167
  go_wp2_with (at_make; refine wpList_make_arr _ rfl _ _ 202 rfl 4 (.bool false) 1 Tryz.underlying202 infoBool rfl _ q rfl rfl rfl (by omega) (by unfold maxLen; omega) ?_)
  intro w3 hown hx3
  clear hxb
  have d0 : (w.alloc (.cells #[.int .i64 p, .int .i64 m, mv] 24)).cell? ⟨xb, 0, none⟩ = some (.int .i64 p) := by rw [← HXB.out]; simp
  have d1 : (w.alloc (.cells #[.int .i64 p, .int .i64 m, mv] 24)).cell? ⟨xb, 1, none⟩ = some (.int .i64 m) := by rw [← HXB.out]; simp
  have d2 : (w.alloc (.cells #[.int .i64 p, .int .i64 m, mv] 24)).cell? ⟨xb, 2, none⟩ = some mv := by rw [← HXB.out]; simp
  have d3 : (w.alloc (.cells #[.int .i64 p, .int .i64 m, mv] 24)).heap.size = xb + 1 := by rw [← HXB.out]; simp
  have e0 : Ex w (w.alloc (.cells #[.int .i64 p, .int .i64 m, mv] 24)) := (Ex.refl _).alloc _
  generalize w.alloc (.cells #[.int .i64 p, .int .i64 m, mv] 24) = w1 at *
  have o1 : (w1.alloc (.cells #[.int .i64 1] 3)).ownsRow (xb + 1) 3 1 (.slice (some ⟨xb + 1, 0, none⟩) 1 1) 1 (vs 1 (iv (pwI p m ml x))) := by
    have := own_lit1 w1 (.int .i64 1) 3
    rw [d3] at this
    exact this
  have e1 : Ex w1 (w1.alloc (.cells #[.int .i64 1] 3)) := (Ex.refl _).alloc _
  have g2 : (w1.alloc (.cells #[.int .i64 1] 3)).heap.size = xb + 2 := by simp [d3]
  generalize w1.alloc (.cells #[.int .i64 1] 3) = w2 at *
  have o2 := ownsRow_ex o1 hx3
  have hown2 : Own w3 (xb + 1) 4 (xb + 1 + 1) q (bv fun _ => false) := hown.mono (by omega)
  have ex3 : Ex w1 w3 := e1.trans hx3
  have f1 := hown2.frz 1
  have c1 := hown2.cell hq1
  have q1 : (1 : Int) < (q : Int) := by omega
  have HS1 := hid_ (hown2.set 1 (.bool true))
  have HE1 := hid_ (hown2.exSet (a := w1) (by omega) ex3 1 (.bool true))
  have HR1 := hid_ (ownsRow_setCell_ne o2 (a := ⟨xb + 1 + 1, 1, none⟩) (by simp [Value.ownBlock]) (.bool true))
  clear hown hx3 o1 g2 o2 hown2 ex3 e1 w2
  go_wp2_with fail
  generalize w3.setCell ⟨xb + 1 + 1, 1, none⟩ (.bool true) = w4 at *
  have HS2 : Hid (Own w4 (xb + 1) 4 (xb + 1 + 1) q (bv (seenB p m ml x 1))) := hid_ (by
    have := HS1.out
    rw [bv_upd] at this
    refine this.bcongr fun j hj => ?_
    unfold upd seenB
    rw [Bool.eq_iff_iff]
    by_cases h : j = 1
    · subst h; simp; rfl
    · simp [h]
      simp only [kpw]; exact fun e => h e.symm)
  clear HS1 f1 c1 w3
  obtain ⟨g, hg⟩ : ∃ g, xb + 1 + 1 = g := ⟨_, rfl⟩
  have HG := hid_ (show xb + 1 < g by omega)
  rw [hg] at HS2
  try simp only [hg]
  have HNB : Hid (Value.ownBlock (.slice (some ⟨xb + 1, 0, none⟩) 1 1) ≠ some g) := hid_ (by simp [Value.ownBlock]; omega)
  clear hg
  go_loopw [7, 9] (fun o' y' wr => ∃ k : Nat, 1 ≤ k ∧ Hid (PwOK p m (lw ml) x k) ∧ y' = .int .i64 ((kpw p m (lw ml) x k : Nat) : Int) ∧ Hid (wr.ownsRow (xb + 1) 3 1 o' k (vs k (iv (pwI p m ml x)))) ∧
    Hid (Own wr (xb + 1) 4 g q (bv (seenB p m ml x k))) ∧ Hid (o'.ownBlock ≠ some g) ∧ Ex w1 wr) (fun o' _ _ => q - lenV o')
  case atStart => exact ⟨1, by omega, HP1, by rw [HX1.out], HR1, HS2, HNB, HE1.out⟩
  case round =>
    clear HR1 HS2 HNB HE1
    obtain ⟨k, hk1, hok, rfl, hrow, hseen, hnb, hxr⟩ := hrel
    have hkq := HPL.out k hok.out
    have hlen := lenV_own hrow.out
    have r0 := hxr.cell d0
    have r1 := hxr.cell d1
    have r2 := hxr.cell d2
    have hyq := HL.out k
    obtain ⟨oa, ocap, ho, ho2, ho3⟩ := own_open hrow.out hk1
    subst ho
    have HY := hid_ (show kpw p m (lw ml) x (k + 1) = kmul p m (lw ml) (kpw p m (lw ml) x k) x from rfl)
    obtain ⟨y, hy⟩ : ∃ y, kpw p m (lw ml) x k = y := ⟨_, rfl⟩
    have HYK := hid_ hy
    rw [hy] at hyq HY ⊢
    by_cases h0 : y = 0
    · have HEND : Hid (PwEnd p m (lw ml) x k) := hid_ ⟨hk1, by have := HQ.out; omega, hok.out, .inl (by rw [HYK.out]; exact h0)⟩
      have hb : ((y : Int) != 0) = false := by simp; omega
      have HRES := hid_ (show ISl wr (.slice (some ⟨oa, 0, none⟩) k ocap) (il k (pwI p m ml x)) by
        unfold ISl; rw [il_length, ints_il]; exact Sl.own hrow.out)
      clear h0 hy hlen
      go_wp2_with fail
      go_ret
      exact ⟨_, k, rfl, HEND.out, HRES.out, e0.trans hxr⟩
    · have hb : ((y : Int) != 0) = true := by simp; omega
      have hcy := hseen.out.cell hyq
      have hfy := hseen.out.frz y
      by_cases hs : seenB p m ml x k y = true
      · have HEND : Hid (PwEnd p m (lw ml) x k) := hid_ ⟨hk1, by have := HQ.out; omega, hok.out, .inr (by
          unfold seenB at hs
          obtain ⟨i, hi, e⟩ := of_decide_eq_true hs
          exact ⟨i, hi, by rw [e, HYK.out]⟩)⟩
        have hcy' : wr.cell? ⟨g, y, none⟩ = some (.bool true) := by rw [hcy]; unfold bv; rw [hs]
        have HRES := hid_ (show ISl wr (.slice (some ⟨oa, 0, none⟩) k ocap) (il k (pwI p m ml x)) by
          unfold ISl; rw [il_length, ints_il]; exact Sl.own hrow.out)
        clear h0 hy hlen hcy hs
        go_wp2_with fail
        go_ret
        exact ⟨_, k, rfl, HEND.out, HRES.out, e0.trans hxr⟩
      · have hs' : seenB p m ml x k y = false := by simpa using hs
        have hcy' : wr.cell? ⟨g, y, none⟩ = some (.bool false) := by rw [hcy]; unfold bv; rw [hs']
        have HOK : Hid (PwOK p m (lw ml) x (k + 1)) := hid_ (hok.out.succ (by rw [HYK.out]; exact h0) (fun j hj e => by
          rw [HYK.out] at e
          exact hs (decide_eq_true ⟨j, hj, e⟩)))
        have HLN := hid_ hlen
        clear h0 hy hlen hcy hs hs'
        have HSN : Hid (Own (wr.setCell ⟨g, y, none⟩ (.bool true)) (xb + 1) 4 g q (bv (seenB p m ml x (k + 1)))) := hid_ (by
          have := hseen.out.set y (.bool true)
          rw [bv_upd] at this
          refine this.bcongr fun j hj => ?_
          unfold upd seenB
          rw [Bool.eq_iff_iff]
          by_cases h : j = y
          · rw [if_pos h]
            simp
            exact ⟨k, by omega, by rw [HYK.out, h]⟩
          · rw [if_neg h]
            simp
            constructor
            · rintro ⟨i, hi, e⟩; exact ⟨i, by omega, e⟩
            · rintro ⟨i, hi, e⟩
              by_cases h3 : i = k
              · subst h3; rw [HYK.out] at e; exact absurd e.symm h
              · exact ⟨i, by omega, e⟩)
        have HRN := hid_ (ownsRow_setCell_ne hrow.out (a := ⟨g, y, none⟩) hnb.out (.bool true))
        have HXN := hid_ (hseen.out.exSet (a := w1) (by omega) hxr y (.bool true))
        have HSZ := hid_ (show xb + 1 ≤ (wr.setCell ⟨g, y, none⟩ (.bool true)).heap.size by have := HXN.out.size; omega)
        go_wp2_with (at_builtin; go_loud (refine wpList_append1 _ rfl _ _ 22 rfl (xb + 1) 3 (.int .i64 0) 1 8 Tryz.underlying22 infoInt rfl (by decide) _ k _ rfl HRN.out [.int .i64 (y : Int)] 3 _ rfl (by simp) rfl (by simp [Value.oneCell']) (by unfold maxLen; omega) (by omega) HSZ.out ?_))
        intro v' w5 happ
        have HRR : Hid (w5.ownsRow (xb + 1) 3 1 v' (k + 1) (vs (k + 1) (iv (pwI p m ml x)))) := hid_ (by
          have := happ.own
          rw [vs_succ]
          unfold iv pwI
          rw [HYK.out]
          exact this)
        obtain ⟨hs5, hn5⟩ := happ.arr HSN.out hnb.out
        have HS5 := hid_ hs5
        have HN5 := hid_ hn5
        have hx5 := happ.ex HXN.out (by omega)
        have HL5 := hid_ (lenV_own HRR.out)
        have r0 := hx5.cell d0
        have r1 := hx5.cell d1
        have r2 := hx5.cell d2
        clear happ hs5 hn5 HSN HRN HXN HSZ hcy' hfy hb hxr
        go_wp2_with fail
        refine (HM.out y w5 hyq (HMV.out.ex (e0.trans hx5))).mono ?_
        rintro e w6 ⟨rfl, hx6⟩
        go_wp2_with fail
        go_roundw
        case rel => exact ⟨k + 1, by omega, HOK, by rw [HY.out], hid_ (ownsRow_ex HRR.out hx6), hid_ (HS5.out.ex hx6), HN5, hx5.trans hx6⟩
        case measure => rw [HL5.out, HLN.out]; omega
/-- What the search for a generator hands back. -/
def GenOut (p m : Nat) (ml : List Int) (w' : World) (v : Value) : Prop :=
  (∃ x, 1 ≤ x ∧ x < p ^ m ∧ GenOK p m (lw ml) x ∧ ISl w' v (il (p ^ m - 1) (pwI p m ml x))) ∨ (¬ IsF p m (lw ml) ∧ v = .slice none 0 0)
set_option maxRecDepth 100000 in
set_option maxHeartbeats 4000000 in
theorem generator_any (p m : Nat) (ml : List Int) (mv : Value) (w : World) (hf : FSh p m ml) (hmv : ISl w mv ml) :
    Calls Tryz.prog 137 #[.agg #[.int .i64 p, .int .i64 m, mv], .int .i64 ((p ^ m : Nat) : Int)] w fun r w' => ∃ v, r = .returned v ∧ GenOut p m ml w' v ∧ Ex w w' := by
  have hp := hf.p2
  have hm := hf.m1
  have HMV := hid_ hmv
  have hq := hf.q
  have hq1 : 1 < p ^ m := one_lt_q hp hm
  have HPW := hid_ (fun (x : Nat) (w' : World) (h : x < p ^ m) (h' : ISl w' mv ml) => powers_any p m x ml mv w' hf h' h)
  have HM := hid_ (fun (x y : Nat) (w' : World) (h : y < p ^ m) (hx : x < p ^ m) (h' : ISl w' mv ml) => multiply_any p m y x ml mv w' hf h' h hx)
  have HL := hid_ (fun x k => kpw_lt (low := lw ml) hp hm x k)
  have HGEN := hid_ (fun x L (h : PwEnd p m (lw ml) x L) => h.gen hp hm)
  have HPE := hid_ (fun x L (h : PwEnd p m (lw ml) x L) => h.2.1)
  have HGO := hid_ (show ∀ w' v, GenOut p m ml w' v ↔ ((∃ x, 1 ≤ x ∧ x < p ^ m ∧ GenOK p m (lw ml) x ∧ ISl w' v (il (p ^ m - 1) (pwI p m ml x))) ∨ (¬ IsF p m (lw ml) ∧ v = .slice none 0 0)) from fun _ _ => Iff.rfl)
  have HIS := hid_ (show IsF p m (lw ml) ↔ ∃ x, 1 ≤ x ∧ x < p ^ m ∧ GenOK p m (lw ml) x from Iff.rfl)
  have HK := hid_ (show ∀ x k, kpw p m (lw ml) x (k + 1) = kmul p m (lw ml) (kpw p m (lw ml) x k) x from fun _ _ => rfl)
  clear hf hmv hm
  obtain ⟨q, hqq⟩ : ∃ q, p ^ m = q := ⟨_, rfl⟩
  simp only [hqq] at hq hq1 HPW HM HL HGEN HPE HGO HIS ⊢
  have HQ := hid_ hqq
  clear hqq
  obtain ⟨xb, hxb⟩ : ∃ xb, w.heap.size = xb := ⟨_, rfl⟩
  have d0 : (w.alloc (.cells #[.int .i64 p, .int .i64 m, mv] 24)).cell? ⟨xb, 0, none⟩ = some (.int .i64 p) := by rw [← hxb]; simp
  have d1 : (w.alloc (.cells #[.int .i64 p, .int .i64 m, mv] 24)).cell? ⟨xb, 1, none⟩ = some (.int .i64 m) := by rw [← hxb]; simp
  have d2 : (w.alloc (.cells #[.int .i64 p, .int .i64 m, mv] 24)).cell? ⟨xb, 2, none⟩ = some mv := by rw [← hxb]; simp
  have D0 := hid_ d0
  have D1 := hid_ d1
  have D2 := hid_ d2
  clear d0 d1 d2
  go_enter Tryz.func137, Tryz.ntmps137
  go_wp2_with fail
  clear hxb
  have d0 := D0.out
  have d1 := D1.out
  have d2 := D2.out
  clear D0 D1 D2
  have e0 : Ex w (w.alloc (.cells #[.int .i64 p, .int .i64 m, mv] 24)) := (Ex.refl _).alloc _
  generalize w.alloc (.cells #[.int .i64 p, .int .i64 m, mv] 24) = w1 at *
  go_loopw [5] (fun x' wr => ∃ x : Nat, 1 ≤ x ∧ x ≤ q ∧ x' = .int .i64 x ∧ Hid (∀ y, 1 ≤ y → y < x → ¬ GenOK p m (lw ml) y) ∧ Ex w1 wr) (fun x' _ => q - (intOf x').toNat)
  case atStart => exact ⟨1, by omega, by omega, rfl, hid_ (fun y a b => by omega), Ex.refl _⟩
  case round =>
    obtain ⟨x, hx1, hx2, rfl, hall, hxr⟩ := hrel
    have r0 := hxr.cell d0
    have r1 := hxr.cell d1
    have r2 := hxr.cell d2
    by_cases hlt : x < q
    · go_wp2_with fail
      refine (HPW.out x _ hlt (HMV.out.ex (e0.trans hxr))).mono ?_
      rintro e w5 ⟨v, L, rfl, hend, hv, hx5⟩
      have s0 := hx5.cell r0
      have s1 := hx5.cell r1
      have s2 := hx5.cell r2
      have hLq := HPE.out x L hend
      obtain ⟨va, vc, rfl, v1, v2, v3⟩ := hv.open
      have HV := hid_ hv
      have HG := hid_ (HGEN.out x L hend)
      have hL1 := hend.1
      rw [il_length] at *
      obtain ⟨vb, vo, rfl, v4⟩ := v3 (by omega)
      have hxw := hxr.trans hx5
      unfold maxLen at v2
      clear r0 r1 r2 v3 hv hend hxr hx5
      have k1 : IntKind.i64.wrap ((q : Int) - 1) = (q : Int) - 1 := IntWalk.i64_in _ (by omega)
      by_cases hLe : L = q - 1
      · have hc := v4 (q - 2) (pwI p m ml x (q - 2)) (il_get (by omega) _)
        have hb : ((L : Int) == (q : Int) - 1) = true := by simp; omega
        obtain ⟨y, hy⟩ : ∃ y, kpw p m (lw ml) x (q - 2) = y := ⟨_, rfl⟩
        have hyq : y < q := by rw [← hy]; exact HL.out x (q - 2)
        unfold pwI at hc
        rw [hy] at hc
        have HY := hid_ (show kpw p m (lw ml) x (q - 1) = kmul p m (lw ml) y x by rw [show q - 1 = (q - 2) + 1 by omega, HK.out, hy])
        have k2 : IntKind.i64.wrap ((q : Int) - 2) = (q : Int) - 2 := IntWalk.i64_in _ (by omega)
        have k3 : ((q : Int) - 2).toNat = q - 2 := by omega
        have k4 : (0 : Int) ≤ (q : Int) - 2 := by omega
        have k5 : (q : Int) - 2 < (L : Int) := by omega
        have k6 : (2 : Int) ≤ (q : Int) := by omega
        have k7 : (q : Int) < (L : Int) + 2 := by omega
        have k8 : 2 ≤ q := by omega
        have HLe := hid_ hLe
        clear v4 hy hLe
        go_wp2_with fail
        go_region_held3 (fun w' => w'.cell? ⟨xb, 0, none⟩ = some (.int .i64 p) ∧ w'.cell? ⟨xb, 1, none⟩ = some (.int .i64 m) ∧ w'.cell? ⟨xb, 2, none⟩ = some mv ∧ w'.cell? ⟨vb, vo + (q - 2), none⟩ = some (.int .i64 y) ∧ Ex w1 w')
          (first | exact ⟨s0, s1, s2, hc, hxw.drew⟩ | exact ⟨hx6.cell s0, hx6.cell s1, hx6.cell s2, hx6.cell hc, hxw.drew.trans hx6⟩)
          ((go_at_call 168; refine (HM.out x y _ hyq hlt (HMV.out.ex ((e0.trans hxw).drew))).mono ?_; rintro e w6 ⟨rfl, hx6⟩))
        by_cases h1 : kmul p m (lw ml) y x = 1
        · have hb1 : (((kmul p m (lw ml) y x : Nat) : Int) == 1) = true := by simp; omega
          have HGX := hid_ (HG.out.2 ⟨HLe.out, by rw [HY.out]; exact h1⟩)
          have HRES := hid_ (show ISl w6 (.slice (some ⟨vb, vo, none⟩) L vc) (il (q - 1) (pwI p m ml x)) by
            have := HV.out.ex ((Ex.refl _).drew.trans hx6)
            rwa [show il L (pwI p m ml x) = il (q - 1) (pwI p m ml x) by rw [HLe.out]] at this)
          clear h1
          go_wp2_with fail
          go_ret
          exact ⟨_, rfl, (HGO.out _ _).2 (.inl ⟨x, hx1, hlt, HGX.out, HRES.out⟩), e0.trans (hxw.drew.trans hx6)⟩
        · have hb1 : (((kmul p m (lw ml) y x : Nat) : Int) == 1) = false := by simp; omega
          have HN := hid_ (show ¬ GenOK p m (lw ml) x from fun h => h1 (by rw [← HY.out]; exact (HG.out.1 h).2))
          clear h1
          go_wp2_with fail
          go_roundw
          case rel => exact ⟨x + 1, by omega, by omega, by go_num, hid_ (fun z a b => by
            by_cases e : z = x
            · subst e; exact HN.out
            · exact hall.out z a (by omega)), hxw.drew.trans hx6⟩
          case measure => simp [intOf]; omega
      · have hb : ((L : Int) == (q : Int) - 1) = false := by simp; omega
        have HN := hid_ (show ¬ GenOK p m (lw ml) x from fun h => hLe (HG.out.1 h).1)
        clear hLe v4
        go_wp2_with fail
        go_quiet (fail)
        go_wp2_with fail
        go_roundw
        case rel => exact ⟨x + 1, by omega, by omega, by go_num, hid_ (fun y a b => by
          by_cases e : y = x
          · subst e; exact HN.out
          · exact hall.out y a (by omega)), hxw.drewN _⟩
        case measure => simp [intOf]; omega
    · obtain rfl : x = q := by omega
      have HNO := hid_ (show ¬ IsF p m (lw ml) from fun h => by
        obtain ⟨y, a, b, c⟩ := HIS.out.1 h
        exact hall.out y a b c)
      go_wp2_with fail
      go_ret
      exact ⟨_, rfl, (HGO.out _ _).2 (.inr ⟨HNO.out, rfl⟩), e0.trans hxr⟩
end Go.Proofs.YtgdmlmhpineibaaGreat
