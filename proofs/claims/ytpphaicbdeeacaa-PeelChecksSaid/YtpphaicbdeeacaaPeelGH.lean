/- Walks of the reference's Sets and Smallest. -/
import Derived.Test.YtpphaicbdeeacaaPeelGF
namespace Go.Proofs.Ytpphaicbdeeacaa
set_option linter.unusedVariables false
set_option linter.unusedSimpArgs false
open Go.RowKit

theorem ints_one (l : List Int) : ∀ u ∈ ints l, u.oneCell' = true := fun u hu => by
  obtain ⟨z, _, rfl⟩ := List.mem_map.1 hu; rfl
/-- A list of rows that lies apart from a slice that is appended to. -/
def Keep (w : World) (base : Nat) (rv : Value) (RS : List (List Int)) (rvals : List Value) (cv : Value) : Prop := MRows w base rv RS rvals ∧ Aprt rv cv ∧ ∀ u ∈ rvals, Aprt u cv
theorem Keep.ex {w w' : World} {base : Nat} {rv cv : Value} {RS : List (List Int)} {rvals : List Value} (h : Keep w base rv RS rvals cv) (hx : Ex w w') : Keep w' base rv RS rvals cv := ⟨h.1.ex hx, h.2⟩
theorem Keep.app {w w' : World} {base b2 : Nat} {rv cv cv' : Value} {RS : List (List Int)} {rvals : List Value} {e : TypeId} {size n : Nat} {xs news : List Value} (h : Keep w base rv RS rvals cv) (ha : Appd w w' b2 e size cv cv' n xs news) : Keep w' base rv RS rvals cv' := by
  obtain ⟨h1, h2, h3⟩ := h
  have hn := h1.len
  refine ⟨⟨(ha.row h1.cvo h2).1, fun i r u k1 k2 => (ha.row (h1.row i r u k1 k2) (h3 u (List.mem_of_getElem? k2))).1, h1.apart⟩, (ha.row h1.cvo h2).2, fun u hu => ?_⟩
  obtain ⟨i, hi, e⟩ := List.getElem_of_mem hu
  exact (ha.row (h1.row i (RS[i]'(by omega)) u (List.getElem?_eq_getElem _) (by rw [List.getElem?_eq_getElem hi, e])) (h3 u hu)).2
theorem aprt_lt {w0 w : World} {b0 base : Nat} {e e2 : TypeId} {s s2 n n2 : Nat} {u cv : Value} {xs ys : List Value} (h : w.ownsRow b0 e s u n xs) (k : w0.ownsRow base e2 s2 cv n2 ys) (hb : w0.heap.size ≤ b0) : Aprt u cv := by
  unfold Aprt
  cases hu : u.ownBlock with
  | none => exact .inl rfl
  | some b =>
    right
    intro e
    have h1 := (h.lt b hu).1
    have h2 := (k.lt b e.symm).2
    omega
theorem MRows.keep {w0 w : World} {b0 base : Nat} {u cv : Value} {RS M : List (List Int)} {rvals vals : List Value} (h : MRows w b0 u RS rvals) (k : MRows w0 base cv M vals) (hb : w0.heap.size ≤ b0) : Keep w b0 u RS rvals cv := by
  have hn := h.len
  refine ⟨h, aprt_lt h.cvo k.cvo hb, fun x hx => ?_⟩
  obtain ⟨i, hi, e⟩ := List.getElem_of_mem hx
  exact aprt_lt (h.row i (RS[i]'(by omega)) x (List.getElem?_eq_getElem _) (by rw [List.getElem?_eq_getElem hi, e])) k.cvo hb

set_option maxRecDepth 100000 in
set_option maxHeartbeats 8000000 in
theorem Sets_any (N : Nat) (hN : N ≤ 16) : ∀ (s : Nat) (w : World) (lo : Nat), lo ≤ N → s ≤ 1000 →
    Calls Try.prog 58 #[.int .i64 lo, .int .i64 N, .int .i64 s] w fun r w' => ∃ u vals, r = .returned u ∧ MRows w' w.heap.size u (setsF N s lo) vals ∧ Ex w w' := by
  intro s
  induction s with
  | zero =>
    intro w lo hlo hs
    go_enter Try.func58, Try.ntmps58
    go_wp2_with fail
    go_ret
    refine ⟨_, [.slice none 0 0], rfl, ⟨own_lit1 w (.slice none 0 0) 22, fun i r u h1 h2 => ?_, fun u hu => ?_⟩, (Ex.refl w).alloc _⟩
    · cases i with
      | zero => simp [setsF] at h1 h2; subst h1 h2; exact World.ownsRow_nil _ _ _ _
      | succ i => simp [setsF] at h1
    · simp at hu; subst hu; exact Aprt.nil _
  | succ s ih =>
    intro w lo hlo hs
    have HIH := hid_ ih
    have hb : (((s + 1 : Nat) : Int) == 0) = false := by simp; omega
    have hb2 : ((s : Int) + 1 == 0) = false := by simp; omega
    obtain ⟨G, hG⟩ : ∃ G : Nat → List (List Int), (fun i => (setsF N s (i + 1)).map fun t => (i : Int) :: t) = G := ⟨_, rfl⟩
    have HG := hid_ (show ∀ i, G i = (setsF N s (i + 1)).map fun t => (i : Int) :: t from fun i => by rw [← hG])
    have HS := hid_ (show setsF N (s + 1) lo = catS G lo (N - lo) from by rw [← hG]; rfl)
    have HLN := hid_ (show ∀ k, k ≤ N - lo → (catS G lo k).length ≤ 65536 from fun k hk => by
      have h1 := catS_le G (i := lo) hk
      rw [← HS.out] at h1
      have h2 := setsF_len N (s + 1) lo
      have h3 : 2 ^ (N - lo) ≤ 2 ^ 16 := Nat.pow_le_pow_right (by omega) (by omega)
      omega)
    have hM0 : Hid (MRows w w.heap.size (.slice none 0 0) (catS G lo 0) []) := hid_ (MRows.nil _ _)
    clear ih hG
    go_enter Try.func58, Try.ntmps58
    go_wp2_with fail
    have HX0 := hid_ (Ex.refl w)
    go_loopw [7, 8] (fun cv i' wr => ∃ (k : Nat) (vals : List Value), k ≤ N - lo ∧ i' = .int .i64 ((lo + k : Nat) : Int) ∧ Hid (MRows wr w.heap.size cv (catS G lo k) vals) ∧ Hid (Ex w wr)) (fun _ i' _ => N - (intOf i').toNat)
    case atStart => exact ⟨0, [], by omega, rfl, hM0, HX0⟩
    case round =>
      clear hM0 HX0
      obtain ⟨k, vals, hk, rfl, hm, hx⟩ := hrel
      by_cases hkl : k < N - lo
      · obtain ⟨I, hI⟩ : ∃ I, lo + k = I := ⟨_, rfl⟩
        rw [hI]
        have hIN : I < N := by omega
        have hc : (I : Int) < (N : Int) := by omega
        have HC := hid_ (HIH.out wr (I + 1) (by omega) (by omega))
        have w1_ : ((I + 1 : Nat) : Int) = (I : Int) + 1 := by push_cast; rfl
        rw [w1_] at HC
        have w2_ : ((s + 1 : Nat) : Int) - 1 = (s : Int) := by omega
        have w3_ : (s : Int) + 1 - 1 = (s : Int) := by omega
        have HGI := hid_ (HG.out I)
        have HLK := hid_ (HLN.out (k + 1) (by omega))
        rw [catS_snoc, hI] at HLK
        have HKK := hid_ hI
        clear hI w1_
        go_wp2_with (go_at_call 58; refine HC.out.mono ?_; rintro e w1 ⟨u, rvals, rfl, hu, hx1⟩)
        obtain ⟨ra, rc, hru⟩ := own_shape hu.cvo
        subst hru
        have HU := hid_ (hu.keep hm.out (Nat.le_refl _))
        have HM1 := hid_ (hm.out.ex hx1)
        have HX1 := hid_ (hx.out.trans hx1)
        obtain ⟨RS, hRS⟩ : ∃ RS, setsF N s (I + 1) = RS := ⟨_, rfl⟩
        rw [hRS] at HU HGI
        simp only [hRS]
        have HRL := hid_ (show RS.length ≤ 65536 from by
          have h := HLK.out
          rw [List.length_append, HGI.out, List.length_map] at h
          omega)
        have HRT := hid_ (show ∀ (j : Nat) (t : List Int), RS[j]? = some t → t.length ≤ 1000 from fun j t ht => by
          have := (setsF_ok N s (I + 1) t (by rw [hRS]; exact List.mem_of_getElem? ht)).1
          omega)
        have HL0 := hid_ (show MRows w1 w.heap.size _ (catS G lo k ++ (RS.take 0).map fun t => (I : Int) :: t) vals from by simpa using HM1.out)
        generalize wr.heap.size = b0 at *
        clear hu hm hx hx1 HM1 HC hRS
        go_wp2_with fail
        go_loopw [7, 10] (fun cv j' wr => ∃ (j : Nat) (vals : List Value), j ≤ RS.length ∧ j' = .int .i64 j ∧ Hid (MRows wr w.heap.size cv (catS G lo k ++ (RS.take j).map fun t => (I : Int) :: t) vals) ∧ Hid (Keep wr b0 (.slice ra RS.length rc) RS rvals cv) ∧ Hid (Ex w wr)) (fun _ j' _ => RS.length - (intOf j').toNat)
        case atStart => exact ⟨0, vals, by omega, rfl, HL0, HU, HX1⟩
        case round =>
          clear HL0 HU HX1
          obtain ⟨j, vals2, hj, rfl, hm, hu, hx⟩ := hrel
          by_cases hjl : j < RS.length
          · obtain ⟨t, ht⟩ : ∃ t, RS[j]? = some t := ⟨_, List.getElem?_eq_getElem hjl⟩
            obtain ⟨zb, rc', hre, q1, q2⟩ := own_open hu.out.1.cvo (by omega)
            injection hre with e1 e2 e3
            subst e1 e3
            obtain ⟨uz, huv⟩ : ∃ uz, rvals[j]? = some uz := ⟨_, List.getElem?_eq_getElem (by have := hu.out.1.len; omega)⟩
            have c1 : wr.cell? ⟨zb, j, none⟩ = some uz := by rw [World.ownsRow.cellAt hu.out.1.cvo j (by omega)]; exact huv
            have huz : ISl wr uz t := Sl.own (hu.out.1.row j t uz ht huv)
            obtain ⟨ua, uc, rfl, u1, u2, _⟩ := huz.open
            unfold maxLen at u2 q2
            have i1 : (0 : Int) ≤ (j : Int) := by omega
            have i2 : (j : Int) < (RS.length : Int) := by omega
            have htl := HRT.out j t ht
            obtain ⟨Mc, hMc⟩ : ∃ Mc, catS G lo k ++ (RS.take j).map (fun t => (I : Int) :: t) = Mc := ⟨_, rfl⟩
            have HMN := hid_ (show catS G lo k ++ (RS.take (j + 1)).map (fun t => (I : Int) :: t) = Mc ++ [(I : Int) :: t] from by
              rw [← hMc, List.take_add_one, ht, List.map_append, List.append_assoc]; rfl)
            rw [hMc] at hm
            have hMl : Mc.length ≤ 65536 := by
              have h := HLK.out
              rw [← hMc, List.length_append, List.length_map, List.length_take]
              rw [List.length_append, HGI.out, List.length_map] at h
              omega
            obtain ⟨ca, cc, hcv⟩ := own_shape hm.out.cvo
            subst hcv
            have eL : Ex wr (wr.alloc (.cells #[.int .i64 I] 3)) := (Ex.refl wr).alloc _
            have c2 := eL.cell c1
            have HB := hid_ (own_lit1 wr (.int .i64 I) 3)
            have HSL := hid_ (huz.ex eL)
            have HEL := hid_ eL
            have HT1 := hid_ (ints_one t)
            clear huz huv ht hMc eL
            go_wp2_with (at_builtin; refine wpList_append_sl _ rfl _ _ 22 rfl wr.heap.size 3 (.int .i64 0) 1 8 Try.underlying22 infoInt rfl (by decide) _ 1 _ rfl HB.out (.slice ua t.length uc) t.length (ints t) rfl HSL.out HT1.out (by unfold maxLen; omega) (by omega) (by simp) ?_)
            intro v2 w2 hown2 hgr2 hat2
            have HX2 := hid_ (Ex.grown HEL.out HB.out (Nat.le_refl _) hgr2)
            change w2.ownsRow wr.heap.size 3 1 v2 (1 + t.length) (ints ((I : Int) :: t)) at hown2
            have hcvl : ∀ b, (Value.slice ca Mc.length cc).ownBlock = some b → b < wr.heap.size := fun b e => (hm.out.cvo.lt b e).2
            have HAL := hid_ (show Aprt v2 (.slice ca Mc.length cc) from by
              right
              rcases hat2 with h | h
              · rw [h]
                intro e
                have := hcvl _ e.symm
                exact Nat.lt_irrefl _ this
              · rw [h]
                intro e
                have h9 : wr.heap.size + 1 < wr.heap.size := hcvl _ e.symm
                omega)
            have HLW := hid_ (show w2.ownsRow w.heap.size 3 1 v2 ((I : Int) :: t).length (ints ((I : Int) :: t)) from by
              have h := ownsRow_mono hown2 (b' := w.heap.size) (by have := hx.out.size; omega)
              rwa [show 1 + t.length = ((I : Int) :: t).length by simp; omega] at h)
            obtain ⟨va, vc, hv2⟩ := own_shape hown2
            subst hv2
            have HMR := hid_ (hm.out.ex HX2.out)
            have HKP := hid_ (hu.out.ex HX2.out)
            have HSZ := hid_ (show w.heap.size ≤ w2.heap.size from by have := hx.out.size; have := HX2.out.size; omega)
            have HXW := hid_ (hx.out.trans HX2.out)
            clear hown2 hgr2 hat2 hcvl hm hu c1 c2
            go_wp2_with (at_builtin; refine wpList_append1 _ rfl _ _ 25 rfl w.heap.size 22 (.slice none 0 0) 1 24 Try.underlying25 infoIntsL rfl (by decide) _ Mc.length _ rfl HMR.out.cvo [.slice va (1 + t.length) vc] 22 _ rfl (by simp) rfl (by simp [Value.oneCell']) (by unfold maxLen; omega) (by omega) HSZ.out ?_)
            intro v3 w3 happ
            have HO := hid_ (HMR.out.app HLW.out HAL.out happ)
            have HX3 := hid_ (happ.ex HXW.out (Nat.le_refl _))
            have HK3 := hid_ (HKP.out.app happ)
            clear happ
            go_wp2_with fail
            go_roundw
            case rel => exact ⟨j + 1, _, by omega, by go_num, hid_ (by rw [HMN.out]; exact HO.out), HK3, HX3⟩
            case measure => simp [intOf]; omega
          · obtain rfl : RS.length = j := by omega
            have hms := hm.out
            rw [List.take_length, ← HGI.out] at hms
            have HMS := hid_ (show MRows wr w.heap.size _ (catS G lo (k + 1)) vals2 from by rw [catS_snoc, HKK.out]; exact hms)
            have HXX := hid_ hx.out
            have hki : (I : Int) + 1 = ((lo + (k + 1) : Nat) : Int) := by have := HKK.out; omega
            clear hm hms hx
            go_wp2_with fail
            go_roundw
            case rel => (repeat apply Exists.intro); exact ⟨⟨k + 1, vals2, by omega, by first | rfl | (push_cast; rfl) | go_num, HMS, HXX⟩, rfl⟩
            case measure => simp [intOf]; omega
      · have hkk : k = N - lo := by omega
        have hc : decide (((lo + k : Nat) : Int) < (N : Int)) = false := by simp; omega
        have hc2 : decide (lo + k < N) = false := by simp; omega
        have hms := hm.out
        rw [hkk, ← HS.out] at hms
        have HM := hid_ hms
        clear hm hms
        go_wp2_with fail
        go_ret
        exact ⟨_, vals, rfl, HM.out, hx.out⟩

theorem small_r {N : Nat} {rows : List (List Int)} (hk : pchkS N rows = 0) (hN : N ≤ 16) (hr : RowsIn N rows) : (∀ t, rSm rows N = some t → smallE N rows = 0 ∧ smallL N rows = t) ∧ (rSm rows N = none → smallE N rows = 11 ∧ smallL N rows = []) := by
  have h := smR_rSm hr
  refine ⟨fun t ht => ?_, fun ht => ?_⟩
  · rw [ht] at h
    obtain ⟨a, b⟩ := small_4 hk hN h
    exact ⟨a, by rw [b]; exact rSm_lft ht⟩
  · rw [ht] at h
    exact small_3 hk hN h
set_option maxRecDepth 100000 in
set_option maxHeartbeats 4000000 in
theorem rSmallest_any (w : World) (V : Int) (v : Value) (rows : List (List Int)) (hv : MSl w v rows) :
    Calls Try.prog 27 #[.agg #[.int .i64 V, v]] w fun r w' => ∃ u, r = .returned (.tuple #[u, .int .i64 (smallE V rows)]) ∧ ISl w' u (smallL V rows) ∧ Ex w w' := by
  obtain ⟨d0, d1, e0⟩ := boxT_facts w V v
  have HV := hid_ (hv.ex e0)
  obtain ⟨za, zc, rfl, z1, z2, _⟩ := hv.open
  clear hv
  go_enter Try.func27, Try.ntmps27
  go_wp2_with fail
  obtain ⟨xb, hxb⟩ : ∃ xb, w.heap.size = xb := ⟨_, rfl⟩
  rw [hxb] at d0 d1
  try simp only [hxb]
  clear hxb
  generalize w.alloc (.cells #[.int .i64 V, .slice za rows.length zc] 31) = w0 at *
  have D0 := hid_ d0
  have D1 := hid_ d1
  have E0 := hid_ e0
  refine (rChkT_any w0 V rows _ HV.out).mono ?_
  rintro e w1 ⟨rfl, hx1⟩
  have d0 := hx1.cell d0
  have d1 := hx1.cell d1
  have HX1 := hid_ hx1
  clear hx1 e0
  by_cases hk : pchkS V rows = 0
  · obtain ⟨N, rfl, hN1, hN2, hrl, hri, hris⟩ := pchkS_ok hk
    by_cases h16 : (16 : Int) < (N : Int)
    · obtain ⟨s1, s2⟩ := small_2 hk h16
      have HS1 := hid_ s1
      have HS2 := hid_ s2
      rw [hk]
      clear hk hri hris s1 s2
      go_wp2_with fail
      go_ret2
      exact ⟨_, by rw [HS1.out]; rfl, by rw [HS2.out]; exact isl_nil _, E0.out.trans HX1.out⟩
    · have hN16 : N ≤ 16 := by omega
      have dd : decide ((16 : Int) < (N : Int)) = false := by simp; omega
      have dd2 : decide (16 < N) = false := by simp; omega
      obtain ⟨sm1, sm2⟩ := small_r hk hN16 hri
      have HSM1 := hid_ sm1
      have HSM2 := hid_ sm2
      have H64 := hid_ (rows_len hris hN2)
      have HST := hid_ (show ∀ (w' : World) (u : Value) (t : List Int), Ex w0 w' → ISl w' u t → t.length ≤ 1000 → Calls Try.prog 52 #[.agg #[.int .i64 N, .slice za rows.length zc], u] w' fun r w'' => r = .returned (.bool (stopsB rows t)) ∧ Ex w' w'' from fun w' u t h h2 h3 => Stops_any w' N _ u rows t (HV.out.ex h) h2 H64.out h3)
      have HSE := hid_ (fun (w' : World) (s : Nat) (hs : s ≤ 1000) => Sets_any N hN16 s w' 0 (by omega) hs)
      obtain ⟨g, hg⟩ : ∃ g : Nat → Option (List Int), (fun s => (setsF N s 0).find? (stopsB rows)) = g := ⟨_, rfl⟩
      have HG := hid_ (show ∀ s, g s = (setsF N s 0).find? (stopsB rows) from fun s => by rw [← hg])
      have HR0 := hid_ (show rSm rows N = loopS g 1 (N + 1 - 1) from by rw [← hg]; rfl)
      rw [hk]
      clear hk h16 hri hris sm1 sm2 hg
      go_wp2_with fail
      go_loopw [5] (fun s' wr => ∃ s : Nat, 1 ≤ s ∧ s ≤ N + 1 ∧ s' = .int .i64 s ∧ Hid (rSm rows N = loopS g s (N + 1 - s)) ∧ Hid (Ex w0 wr)) (fun s' _ => N + 1 - (intOf s').toNat)
      case atStart => exact ⟨1, by omega, by omega, rfl, HR0, HX1⟩
      case round =>
        clear HR0 d0 d1
        obtain ⟨s, hs1, hs2, rfl, hrs, hx⟩ := hrel
        have d0 := hx.out.cell D0.out
        by_cases hsl : s ≤ N
        · have HC := hid_ (HSE.out wr s (by omega))
          have c1 : decide ((s : Int) ≤ (N : Int)) = true := by simp; omega
          have c2 : (s : Int) ≤ (N : Int) := by omega
          go_wp2_with (go_at_call 58; refine HC.out.mono ?_; rintro e w2 ⟨u, rvals, rfl, hu, hx2⟩)
          obtain ⟨ra, rc, hru⟩ := own_shape hu.cvo
          subst hru
          obtain ⟨RS, hRS⟩ : ∃ RS, setsF N s 0 = RS := ⟨_, rfl⟩
          have HLT := hid_ (show ∀ (j : Nat) (t : List Int), RS[j]? = some t → t.length ≤ 1000 from fun j t ht => by
            have := (setsF_ok N s 0 t (by rw [hRS]; exact List.mem_of_getElem? ht)).1
            omega)
          have HGS := hid_ (HG.out s)
          rw [hRS] at HGS hu
          simp only [hRS]
          have HF0 := hid_ (show g s = (RS.drop 0).find? (stopsB rows) from by rw [List.drop_zero]; exact HGS.out)
          have HU := hid_ hu.msl
          have HX2 := hid_ (hx.out.trans hx2)
          have hrsl : RS.length ≤ 65536 := by
            have h1 := setsF_len N s 0
            have h2 : 2 ^ (N - 0) ≤ 2 ^ 16 := Nat.pow_le_pow_right (by omega) (by omega)
            rw [hRS] at h1
            omega
          have HX2b := hid_ (Ex.refl w2)
          clear hu hx hx2 hRS HC d0
          go_wp2_with fail
          go_loopw [7] (fun i' wr => ∃ i : Nat, i ≤ RS.length ∧ i' = .int .i64 i ∧ Hid (g s = (RS.drop i).find? (stopsB rows)) ∧ Hid (Ex w2 wr)) (fun i' _ => RS.length - (intOf i').toNat)
          case atStart => exact ⟨0, by omega, rfl, HF0, HX2b⟩
          case round =>
            clear HF0 HX2b
            obtain ⟨i, hi, rfl, hf, hx⟩ := hrel
            by_cases hil : i < RS.length
            · obtain ⟨t, ht⟩ : ∃ t, RS[i]? = some t := ⟨_, List.getElem?_eq_getElem hil⟩
              have hdrop : RS.drop i = t :: RS.drop (i + 1) := by
                rw [List.drop_eq_getElem_cons hil]
                congr 1
                rw [List.getElem?_eq_getElem hil] at ht; injection ht
              obtain ⟨_, _, e1, _, _, h3⟩ := HU.out.open
              injection e1 with e1 e2 e3
              subst e1 e3
              obtain ⟨zb, zo, rfl, hzc⟩ := h3 (by omega)
              obtain ⟨uz, c1_, huz⟩ := hzc i t ht
              have htl := HLT.out i t ht
              obtain ⟨ua, uc, rfl, _, _, _⟩ := huz.open
              have HC1 := hid_ c1_
              have HUZ := hid_ huz
              have i1 : (0 : Int) ≤ (i : Int) := by omega
              have i2 : (i : Int) < (RS.length : Int) := by omega
              rw [hdrop, List.find?_cons] at hf
              have HCS := hid_ (fun w' (h : Ex w2 w') => HST.out w' (.slice ua t.length uc) t (HX2.out.trans h) (HUZ.out.ex h) htl)
              obtain ⟨b, hb⟩ : ∃ b, stopsB rows t = b := ⟨_, rfl⟩
              rw [hb] at hf HCS
              clear h3 hzc huz c1_ hdrop ht hb
              go_upto_region 13 with fail
              have E1 : Ex wr wr.drew := (Ex.refl wr).drew
              have G0 : Ex w2 wr.drew := hx.out.trans E1
              go_region_held3 (fun w' => w'.cell? ⟨xb, 0, none⟩ = some (.int .i64 N) ∧ w'.cell? ⟨xb, 1, none⟩ = some (.slice za rows.length zc) ∧ w'.cell? ⟨zb, zo + i, none⟩ = some (.slice ua t.length uc))
                (first | with_reducible exact ⟨G0.cell (HX2.out.cell D0.out), G0.cell (HX2.out.cell D1.out), G0.cell HC1.out⟩ | with_reducible exact ⟨G1.cell (HX2.out.cell D0.out), G1.cell (HX2.out.cell D1.out), G1.cell HC1.out⟩)
                ((go_at_call 52; (with_reducible refine (HCS.out _ G0).mono ?_); rintro e wx1 ⟨rfl, hy1⟩; have G1 := G0.trans hy1))
              have HG1 := hid_ G1
              have c3 := G1.cell HC1.out
              clear G0 G1 E1 hy1 hx HCS
              cases b with
              | true =>
                have hrt : rSm rows N = some t := by
                  rw [hrs.out]
                  exact loopS_some hf.out (show N + 1 - s = (N - s) + 1 by omega)
                obtain ⟨sa, sb⟩ := HSM1.out t hrt
                have HA := hid_ sa
                have HBB := hid_ sb
                clear hrt sa sb hf hrs
                go_wp2_with fail
                go_ret2
                exact ⟨_, by rw [HA.out]; rfl, by rw [HBB.out]; exact HUZ.out.ex HG1.out, (E0.out.trans HX2.out).trans HG1.out⟩
              | false =>
                clear c3
                go_wp2_with fail
                go_roundw
                case rel => exact ⟨i + 1, by omega, by go_num, hf, HG1⟩
                case measure => simp [intOf]; omega
            · obtain rfl : RS.length = i := by omega
              have hno : g s = none := by rw [hf.out, List.drop_length]; rfl
              have HRS2 := hid_ (show rSm rows N = loopS g (s + 1) (N + 1 - (s + 1)) from by
                rw [hrs.out]
                exact loopS_none hno (by omega))
              have HXX := hid_ (HX2.out.trans hx.out)
              clear hf hno hrs
              go_wp2_with fail
              go_roundw
              case rel => first | exact ⟨s + 1, by omega, by omega, by go_num, HRS2, HXX⟩ | ((repeat apply Exists.intro); exact ⟨⟨s + 1, by omega, by omega, by go_num, HRS2, HXX⟩, rfl⟩)
              case measure => simp [intOf]; omega
        · have hse : s = N + 1 := by omega
          have hn : rSm rows N = none := by rw [hrs.out, hse, Nat.sub_self]; rfl
          obtain ⟨sa, sb⟩ := HSM2.out hn
          have HA := hid_ sa
          have HBB := hid_ sb
          have c1 : decide ((s : Int) ≤ (N : Int)) = false := by simp; omega
          have c2 : decide (s ≤ N) = false := by simp; omega
          clear hse hn sa sb hrs
          go_wp2_with fail
          go_ret2
          exact ⟨_, by rw [HA.out]; rfl, by rw [HBB.out]; exact isl_nil _, E0.out.trans hx.out⟩
  · obtain ⟨s1, s2⟩ := small_1 hk
    have HS1 := hid_ s1
    have HS2 := hid_ s2
    have hb : (pchkS V rows != 0) = true := by simpa using hk
    clear hk s1 s2
    go_wp2_with fail
    go_ret2
    exact ⟨_, by rw [HS1.out]; rfl, by rw [HS2.out]; exact isl_nil _, E0.out.trans HX1.out⟩
end Go.Proofs.Ytpphaicbdeeacaa
