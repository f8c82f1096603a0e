/- valid; the walk of PermGroup. -/
import Derived.Test.YtgfdhclpffakfaaPmUa
import Derived.Test.YtgfdhclpffakfaaPmUo
namespace Go.Proofs.Ytgfdhclpffakfaa
set_option linter.unusedVariables false
set_option linter.unusedSimpArgs false
open Go.RowKit

/-- All lists are permutations of one degree. -/
def VldP (d : Int) (rows : List (List Int)) : Prop := ∀ r ∈ rows, pchk r = 0 ∧ (r.length : Int) = d

set_option maxRecDepth 100000 in
set_option maxHeartbeats 4000000 in
theorem valid_any (w : World) (d : Int) (rows : List (List Int)) (v : Value) (hv : MSl w v rows) :
    Calls Try.prog 25 #[.int .i64 d, v] w fun r w' => BoolR (VldP d rows) r ∧ Ex w w' := by
  obtain ⟨a, cap, rfl, _, s2, s3⟩ := hv.open
  unfold maxLen at s2
  have S3 := hid_ s3
  clear hv s3
  go_enter Try.func25, Try.ntmps25
  go_wp2_with fail
  go_loopw [9] (fun k' wr => ∃ k : Nat, k ≤ rows.length ∧ k' = .int .i64 k ∧ Hid (∀ r ∈ rows.take k, pchk r = 0 ∧ (r.length : Int) = d) ∧ Hid (Ex w wr)) (fun k' _ => rows.length - (intOf k').toNat)
  case atStart => exact ⟨0, by omega, rfl, hid_ (fun r hr => by simp at hr), hid_ (Ex.refl _)⟩
  case round =>
    obtain ⟨k, hk, rfl, hall, hex⟩ := hrel
    by_cases hkl : k < rows.length
    · obtain ⟨r, hr⟩ : ∃ r, rows[k]? = some r := ⟨_, List.getElem?_eq_getElem hkl⟩
      obtain ⟨b, o, rfl, hc⟩ := S3.out (by omega)
      obtain ⟨u, c1, hu⟩ := hc k r hr
      have c1 := hex.out.cell c1
      have HCK := hid_ (rCheck_any _ r u (hu.ex hex.out))
      obtain ⟨ua, uc, rfl, _, _, _⟩ := hu.open
      have i1 : (0 : Int) ≤ (k : Int) := by omega
      have i2 : (k : Int) < (rows.length : Int) := by omega
      have HRK := hid_ hr
      obtain ⟨E, hE⟩ : ∃ E, pchk r = E := ⟨_, rfl⟩
      rw [hE] at HCK
      have HN := hid_ (show (E ≠ 0 ∨ (r.length : Int) ≠ d) → ¬ VldP d rows from fun h hv => by
        have := hv r (List.mem_of_getElem? hr)
        rw [hE] at this
        rcases h with h | h
        · exact h this.1
        · exact h this.2)
      have HY := hid_ (show E = 0 → (r.length : Int) = d → ∀ s ∈ rows.take (k + 1), pchk s = 0 ∧ (s.length : Int) = d from fun h1 h2 s hs => by
        rw [List.take_add_one, hr] at hs
        rcases List.mem_append.1 hs with h3 | h3
        · exact hall.out s h3
        · simp at h3
          subst h3
          exact ⟨by rw [hE, h1], h2⟩)
      clear hc hu hr hE hall
      by_cases h0 : E = 0
      · subst h0
        by_cases h1 : (r.length : Int) = d
        · have HA := hid_ (HY.out rfl h1)
          have hb : ((r.length : Int) != d) = false := by simpa using h1
          clear h1
          go_wp2_with (go_at_call 17; refine HCK.out.mono ?_; rintro e w2 ⟨rfl, q2, hw2⟩; have HX := hid_ (hex.out.trans (show Ex wr w2 from by rw [hw2]; exact (Ex.refl wr).drewN q2)); clear hw2)
          go_roundw
          case rel => exact ⟨k + 1, by omega, by go_num, HA, HX⟩
          case measure => simp [intOf]; omega
        · have HV := hid_ (HN.out (.inr h1))
          have hb : ((r.length : Int) != d) = true := by simpa using h1
          clear h1
          go_wp2_with (go_at_call 17; refine HCK.out.mono ?_; rintro e w2 ⟨rfl, q2, hw2⟩; have HX := hid_ (hex.out.trans (show Ex wr w2 from by rw [hw2]; exact (Ex.refl wr).drewN q2)); clear hw2)
          go_ret
          exact ⟨boolR_no HV.out, HX.out⟩
      · have HV := hid_ (HN.out (.inl h0))
        have hb : (E != 0) = true := by simpa using h0
        clear h0
        go_wp2_with (go_at_call 17; refine HCK.out.mono ?_; rintro e w2 ⟨rfl, q2, hw2⟩; have HX := hid_ (hex.out.trans (show Ex wr w2 from by rw [hw2]; exact (Ex.refl wr).drewN q2)); clear hw2)
        go_ret
        exact ⟨boolR_no HV.out, HX.out⟩
    · obtain rfl : k = rows.length := by omega
      have HV := hid_ (show VldP d rows from by have := hall.out; rwa [List.take_length] at this)
      go_wp2_with fail
      go_ret
      exact ⟨boolR_yes HV.out, hex.out⟩

theorem Compose2 (w : World) (n : Nat) (f g : Nat → Nat) (u v : Value) (hu : ISl w u (li n f)) (hv : ISl w v (li n g)) (h1 : 1 ≤ n) (h2 : n ≤ 64) (hf : IsP n f) (hg : IsP n g) (t : TypeId) :
    Calls Try.prog 13 #[.slice (some ⟨w.heap.size, 0, none⟩) 2 2] (w.alloc (.cells #[u, v] t)) fun r w' => ∃ a c, r = .returned (.tuple #[.slice a n c, .int .i64 0]) ∧ ISl w' (.slice a n c) (li n (thenP f g)) ∧ Ex w w' :=
  (Compose_some _ [li n f, li n g] _ (msl_lit w [li n f, li n g] [u, v] _ t rfl rfl (rows2 hu hv) rfl rfl (by simp)) _ _ (cmpS_two h1 h2 hf hg)).mono fun r w' ⟨a, c, h3, h4, h5⟩ => by
    rw [li_len] at h3 h4
    exact ⟨a, c, h3, h4, (Ex.al _ _).trans h5⟩

set_option maxRecDepth 100000 in
set_option maxHeartbeats 8000000 in
theorem PermGroup_any (w : World) (p q r : List Int) (pv qv rv : Value) (hp : ISl w pv p) (hq : ISl w qv q) (hr : ISl w rv r) :
    Calls Try.prog 4 #[pv, qv, rv] w fun r w' => r = .returned (.bool true) ∧ Ex w w' := by
  obtain ⟨pa, pc, rfl, _, _, _⟩ := hp.open
  obtain ⟨qa, qc, rfl, _, _, _⟩ := hq.open
  obtain ⟨ra, rc, rfl, _, _, _⟩ := hr.open
  have HP := hid_ hp
  have HQ := hid_ hq
  have HR := hid_ hr
  clear hp hq hr
  by_cases hlen : p.length ≤ 30 ∧ q.length = p.length ∧ r.length = p.length
  · have h1 : ¬ (30 : Int) < (p.length : Int) := by omega
    have h2 : ((q.length : Int) != (p.length : Int)) = false := by simp; omega
    have h3 : ((r.length : Int) != (p.length : Int)) = false := by simp; omega
    have HLQ := hid_ hlen
    clear hlen
    go_enter Try.func4, Try.ntmps4
    go_wp2_with fail
    refine (awake_any w).mono ?_
    rintro e w1 ⟨rfl, hx⟩
    have EX := hid_ hx
    have HP := hid_ (HP.out.ex hx)
    have HQ := hid_ (HQ.out.ex hx)
    have HR := hid_ (HR.out.ex hx)
    clear hx
    go_wp2_with fail
    refine (valid_any _ p.length [p, q, r] _ (msl_lit w1 [p, q, r] [.slice pa p.length pc, .slice qa q.length qc, .slice ra r.length rc] _ _ rfl rfl (rows3 HP.out HQ.out HR.out) rfl rfl (by simp))).mono ?_
    rintro e w2 ⟨⟨b, rfl, hb⟩, hx⟩
    have hx := (Ex.al w1 _).trans hx
    have EX := hid_ (EX.out.trans hx)
    have HP := hid_ (HP.out.ex hx)
    have HQ := hid_ (HQ.out.ex hx)
    have HR := hid_ (HR.out.ex hx)
    clear hx
    cases b with
    | false =>
      clear hb
      go_wp2_with fail
      refine (awake_any w2).mono ?_
      rintro e w3 ⟨rfl, hx⟩
      have EX := hid_ (EX.out.trans hx)
      clear hx
      go_wp2_with fail
      go_ret
      exact ⟨rfl, EX.out⟩
    | true =>
    have hvl := hb.1 rfl
    obtain ⟨n, f, hn1, hn2, hpl, hfP, hpe⟩ := pchk_ok (hvl p (by simp)).1
    obtain ⟨n2, g, _, _, hql, hgP, hqe⟩ := pchk_ok (hvl q (by simp)).1
    obtain ⟨n3, h, _, _, hrl, hhP, hre⟩ := pchk_ok (hvl r (by simp)).1
    have e2 : n = n2 := by have := HLQ.out; omega
    have e3 : n = n3 := by have := HLQ.out; omega
    subst e2 e3
    rw [hpl] at HP h1 h2 h3 ⊢
    rw [hql] at HQ h2 ⊢
    rw [hrl] at HR h3 ⊢
    rw [hpe] at HP
    rw [hqe] at HQ
    rw [hre] at HR
    have HFP := hid_ hfP
    have HGP := hid_ hgP
    have HHP := hid_ hhP
    clear hb hvl hfP hgP hhP hpe hqe hre hpl hql hrl HLQ
    go_wp2_with fail
    refine (Compose2 w2 n f g _ _ HP.out HQ.out hn1 hn2 HFP.out HGP.out 22).mono ?_
    rintro e w3 ⟨aa, ac, rfl, hu, hx⟩
    have EX := hid_ (EX.out.trans hx)
    have HP := hid_ (HP.out.ex hx)
    have HQ := hid_ (HQ.out.ex hx)
    have HR := hid_ (HR.out.ex hx)
    have HA := hid_ hu
    clear hx hu
    go_wp2_with fail
    refine (Compose2 w3 n g h _ _ HQ.out HR.out hn1 hn2 HGP.out HHP.out 22).mono ?_
    rintro e w4 ⟨ba, bc, rfl, hu, hx⟩
    have EX := hid_ (EX.out.trans hx)
    have HP := hid_ (HP.out.ex hx)
    have HQ := hid_ (HQ.out.ex hx)
    have HR := hid_ (HR.out.ex hx)
    have HA := hid_ (HA.out.ex hx)
    have HB := hid_ hu
    clear hx hu
    go_wp2_with fail
    refine (Compose2 w4 n (thenP f g) h _ _ HA.out HR.out hn1 hn2 (HFP.out.comp HGP.out) HHP.out 22).mono ?_
    rintro e w5 ⟨ca, cc, rfl, hu, hx⟩
    have EX := hid_ (EX.out.trans hx)
    have HP := hid_ (HP.out.ex hx)
    have HQ := hid_ (HQ.out.ex hx)
    have HR := hid_ (HR.out.ex hx)
    have HA := hid_ (HA.out.ex hx)
    have HB := hid_ (HB.out.ex hx)
    have HC := hid_ hu
    clear hx hu
    go_wp2_with fail
    refine (Compose2 w5 n f (thenP g h) _ _ HP.out HB.out hn1 hn2 HFP.out (HGP.out.comp HHP.out) 22).mono ?_
    rintro e w6 ⟨da, dc, rfl, hu, hx⟩
    have EX := hid_ (EX.out.trans hx)
    have HP := hid_ (HP.out.ex hx)
    have HQ := hid_ (HQ.out.ex hx)
    have HR := hid_ (HR.out.ex hx)
    have HA := hid_ (HA.out.ex hx)
    have HB := hid_ (HB.out.ex hx)
    have HC := hid_ (HC.out.ex hx)
    have HD := hid_ hu
    clear hx hu
    go_wp2_with fail
    refine (Inverse_some w6 _ _ HP.out _ 0 (invS_li hn1 hn2 HFP.out)).mono ?_
    rintro e w7 ⟨va, vc, rfl, hu, hx⟩
    rw [li_len] at hu ⊢
    have EX := hid_ (EX.out.trans hx)
    have HP := hid_ (HP.out.ex hx)
    have HQ := hid_ (HQ.out.ex hx)
    have HR := hid_ (HR.out.ex hx)
    have HA := hid_ (HA.out.ex hx)
    have HB := hid_ (HB.out.ex hx)
    have HC := hid_ (HC.out.ex hx)
    have HD := hid_ (HD.out.ex hx)
    have HV := hid_ hu
    clear hx hu
    go_wp2_with fail
    refine (Compose2 w7 n f (invP n f) _ _ HP.out HV.out hn1 hn2 HFP.out HFP.out.inv 22).mono ?_
    rintro e w8 ⟨xa, xc, rfl, hu, hx⟩
    have EX := hid_ (EX.out.trans hx)
    have HP := hid_ (HP.out.ex hx)
    have HQ := hid_ (HQ.out.ex hx)
    have HR := hid_ (HR.out.ex hx)
    have HA := hid_ (HA.out.ex hx)
    have HB := hid_ (HB.out.ex hx)
    have HC := hid_ (HC.out.ex hx)
    have HD := hid_ (HD.out.ex hx)
    have HV := hid_ (HV.out.ex hx)
    have HX := hid_ hu
    clear hx hu
    go_wp2_with fail
    refine (Compose2 w8 n (invP n f) f _ _ HV.out HP.out hn1 hn2 HFP.out.inv HFP.out 22).mono ?_
    rintro e w9 ⟨ya, yc, rfl, hu, hx⟩
    have EX := hid_ (EX.out.trans hx)
    have HP := hid_ (HP.out.ex hx)
    have HQ := hid_ (HQ.out.ex hx)
    have HR := hid_ (HR.out.ex hx)
    have HA := hid_ (HA.out.ex hx)
    have HB := hid_ (HB.out.ex hx)
    have HC := hid_ (HC.out.ex hx)
    have HD := hid_ (HD.out.ex hx)
    have HV := hid_ (HV.out.ex hx)
    have HX := hid_ (HX.out.ex hx)
    have HY := hid_ hu
    clear hx hu
    go_wp2_with fail
    refine (Order_any w9 _ _ HP.out).mono ?_
    rintro e w10 ⟨rfl, hx⟩
    rw [ordS_li hn1 hn2 HFP.out]
    have hNp := ord_pos (n := n) (f := f)
    have HNW := hid_ (ord_pw HFP.out)
    have HNL := hid_ (fun m h k => ord_least HFP.out (m := m) h k)
    obtain ⟨N, hN⟩ : ∃ N, lcmL (lensP n f) = N := ⟨_, rfl⟩
    rw [hN] at hNp HNW HNL
    dsimp only
    rw [hN]
    have EX := hid_ (EX.out.trans hx)
    have HP := hid_ (HP.out.ex hx)
    have HQ := hid_ (HQ.out.ex hx)
    have HR := hid_ (HR.out.ex hx)
    have HA := hid_ (HA.out.ex hx)
    have HB := hid_ (HB.out.ex hx)
    have HC := hid_ (HC.out.ex hx)
    have HD := hid_ (HD.out.ex hx)
    have HV := hid_ (HV.out.ex hx)
    have HX := hid_ (HX.out.ex hx)
    have HY := hid_ (HY.out.ex hx)
    clear hx
    clear hN
    go_wp2_with fail
    refine (k_ints w10 _ _ _ _ HC.out HD.out rfl).mono ?_
    rintro e w11 ⟨rfl, hx⟩
    have EX := hid_ (EX.out.trans hx)
    have HP := hid_ (HP.out.ex hx)
    have HQ := hid_ (HQ.out.ex hx)
    have HR := hid_ (HR.out.ex hx)
    have HA := hid_ (HA.out.ex hx)
    have HB := hid_ (HB.out.ex hx)
    have HC := hid_ (HC.out.ex hx)
    have HD := hid_ (HD.out.ex hx)
    have HV := hid_ (HV.out.ex hx)
    have HX := hid_ (HX.out.ex hx)
    have HY := hid_ (HY.out.ex hx)
    clear hx
    have hNb : ¬ (N : Int) < 1 := by omega
    go_wp2_with fail
    refine (rUnit_any w11 n (by omega)).mono ?_
    rintro e w12 ⟨ug, rfl, ho, hx⟩
    have hu := ho.li
    clear ho
    have EX := hid_ (EX.out.trans hx)
    have HP := hid_ (HP.out.ex hx)
    have HQ := hid_ (HQ.out.ex hx)
    have HR := hid_ (HR.out.ex hx)
    have HA := hid_ (HA.out.ex hx)
    have HB := hid_ (HB.out.ex hx)
    have HC := hid_ (HC.out.ex hx)
    have HD := hid_ (HD.out.ex hx)
    have HV := hid_ (HV.out.ex hx)
    have HX := hid_ (HX.out.ex hx)
    have HY := hid_ (HY.out.ex hx)
    have HU := hid_ hu
    clear hx hu
    rw [show thenP f (invP n f) = idP from HFP.out.then_inv] at HX
    rw [show thenP (invP n f) f = idP from HFP.out.inv_then] at HY
    go_wp2_with fail
    refine (k_ints w12 _ _ _ _ HX.out HU.out rfl).mono ?_
    rintro e w13 ⟨rfl, hx⟩
    have EX := hid_ (EX.out.trans hx)
    have HP := hid_ (HP.out.ex hx)
    have HQ := hid_ (HQ.out.ex hx)
    have HR := hid_ (HR.out.ex hx)
    have HA := hid_ (HA.out.ex hx)
    have HB := hid_ (HB.out.ex hx)
    have HC := hid_ (HC.out.ex hx)
    have HD := hid_ (HD.out.ex hx)
    have HV := hid_ (HV.out.ex hx)
    have HX := hid_ (HX.out.ex hx)
    have HY := hid_ (HY.out.ex hx)
    have HU := hid_ (HU.out.ex hx)
    clear hx
    go_wp2_with fail
    refine (k_ints w13 _ _ _ _ HY.out HU.out rfl).mono ?_
    rintro e w14 ⟨rfl, hx⟩
    have EX := hid_ (EX.out.trans hx)
    have HP := hid_ (HP.out.ex hx)
    have HQ := hid_ (HQ.out.ex hx)
    have HR := hid_ (HR.out.ex hx)
    have HA := hid_ (HA.out.ex hx)
    have HB := hid_ (HB.out.ex hx)
    have HC := hid_ (HC.out.ex hx)
    have HD := hid_ (HD.out.ex hx)
    have HV := hid_ (HV.out.ex hx)
    have HX := hid_ (HX.out.ex hx)
    have HY := hid_ (HY.out.ex hx)
    have HU := hid_ (HU.out.ex hx)
    clear hx
    go_wp2_with fail
    clear HQ HR HA HB HC HD HV HX HY
    go_loopw [24, 25] (fun z' m' wr => ∃ m : Nat, 1 ≤ m ∧ m ≤ 2001 ∧ m ≤ N ∧ m' = .int .i64 m ∧ Hid (ISl wr z' (li n (pwP f m))) ∧ Hid (Ex w14 wr)) (fun _ m' _ => 2001 - (intOf m').toNat)
    case atStart => exact ⟨1, by omega, by omega, by omega, rfl, HP, hid_ (Ex.refl _)⟩
    case round =>
      obtain ⟨m, hm1, hm2, hmN, rfl, hz, hex⟩ := hrel
      obtain ⟨za, zc, rfl, _, _, _⟩ := isl_li hz.out
      by_cases hm : m ≤ 2000
      · have i1 : (m : Int) ≤ 2000 := by omega
        have HSM := hid_ (SameInts_any wr _ _ _ _ hz.out (HU.out.ex hex.out))
        by_cases he : m = N
        · subst he
          have hd : decide (li n (pwP f m) = li n idP) = true := decide_eq_true (by rw [HNW.out])
          rw [hd] at HSM
          have hmm : ((m : Int) == (m : Int)) = true := by simp
          clear hd
          go_wp2_with fail
          refine HSM.out.mono ?_
          rintro e wa ⟨rfl, qa, hwa⟩
          have hx : Ex wr wa := by rw [hwa]; exact (Ex.refl wr).drewN qa
          have HSA := hid_ (k_ints wa _ _ _ _ (hz.out.ex hx) (HU.out.ex (hex.out.trans hx)) (by rw [HNW.out]))
          have HXA := hid_ (hex.out.trans hx)
          clear hwa hx
          go_wp2_with fail
          refine HSA.out.mono ?_
          rintro e wb ⟨rfl, hx⟩
          have HXB := hid_ (HXA.out.trans hx)
          clear hx
          go_wp2_with fail
          go_ret
          exact ⟨rfl, EX.out.trans HXB.out⟩
        · have hd : decide (li n (pwP f m) = li n idP) = false := decide_eq_false fun e => by
            have := HNL.out m hm1 (li_inj (isP_pw HFP.out m) (isP_id n) e)
            omega
          rw [hd] at HSM
          have hmm : ((m : Int) == (N : Int)) = false := by simp; omega
          clear hd
          go_wp2_with fail
          refine HSM.out.mono ?_
          rintro e wa ⟨rfl, qa, hwa⟩
          have hx : Ex wr wa := by rw [hwa]; exact (Ex.refl wr).drewN qa
          have HCA := hid_ (Compose2 wa n (pwP f m) f _ _ (hz.out.ex hx) (HP.out.ex (hex.out.trans hx)) hn1 hn2 (isP_pw HFP.out m) HFP.out 22)
          have HXA := hid_ (hex.out.trans hx)
          clear hwa hx
          go_wp2_with fail
          refine HCA.out.mono ?_
          rintro e wb ⟨ya, yc, rfl, hu, hx⟩
          have HXB := hid_ (HXA.out.trans hx)
          have HZ := hid_ (show ISl wb (.slice ya n yc) (li n (pwP f (m + 1))) from hu)
          clear hx hu
          go_wp2_with fail
          go_roundw
          case rel => exact ⟨m + 1, by omega, by omega, by omega, by go_num, HZ, HXB⟩
          case measure => simp [intOf]; omega
      · obtain rfl : m = 2001 := by omega
        go_wp2_with fail
        go_ret
        exact ⟨rfl, EX.out.trans hex.out⟩
  · have key : ∀ h : (30 : Int) < (p.length : Int) ∨ ((¬ (30 : Int) < (p.length : Int)) ∧ ((q.length : Int) != (p.length : Int)) = true) ∨ ((¬ (30 : Int) < (p.length : Int)) ∧ ((q.length : Int) != (p.length : Int)) = false ∧ ((r.length : Int) != (p.length : Int)) = true), Calls Try.prog 4 #[.slice pa p.length pc, .slice qa q.length qc, .slice ra r.length rc] w fun r w' => r = .returned (.bool true) ∧ Ex w w' := by
      intro h
      rcases h with h | ⟨h, h'⟩ | ⟨h, h', h''⟩
      all_goals
        go_enter Try.func4, Try.ntmps4
        go_wp2_with fail
        refine (awake_any w).mono ?_
        rintro e w1 ⟨rfl, hx⟩
        have EX := hid_ hx
        clear hx
        go_wp2_with fail
        refine (awake_any w1).mono ?_
        rintro e w2 ⟨rfl, hx⟩
        have EX := hid_ (EX.out.trans hx)
        clear hx
        go_wp2_with fail
        go_ret
        exact ⟨rfl, EX.out⟩
    refine key ?_
    simp only [bne_iff_ne, ne_eq, bne_eq_false_iff_eq]
    omega
end Go.Proofs.Ytgfdhclpffakfaa
