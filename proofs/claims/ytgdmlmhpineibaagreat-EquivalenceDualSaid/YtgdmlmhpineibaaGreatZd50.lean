/- Walk of matrix.Kernel, with all that its rows are. -/
import Derived.Test.YtgdmlmhpineibaaGreatZd16
import Derived.Test.YtgdmlmhpineibaaGreatZd20
import Derived.Test.YtgdmlmhpineibaaGreatZd24
import Derived.Test.YtgdmlmhpineibaaGreatZd47
namespace Go.Proofs.YtgdmlmhpineibaaGreat
set_option linter.unusedVariables false
set_option linter.unusedSimpArgs false
open Go.RowKit

/-- What the kernel's rows are: canonical, and orthogonal to exactly the words of the space. -/
def KerF (p m : Nat) (ml : List Int) (N : Nat) (rows ks : List (List Int)) : Prop :=
  ∃ (R : Nat) (b b' : Nat → Nat → Int) (piv : List Nat), R ≤ 256 ∧ ElO p m ml N R b b' piv ∧ ks = rowsL N piv.length b' ∧ ∀ f, (∀ j, j < N → 0 ≤ f j ∧ f j < ((p ^ m : Nat) : Int)) → (Sol p m ml N R b f ↔ Cl p m ml N rows.length (rowsF rows) f)
theorem EM.mslF {w : World} {base g R N k : Nat} {blk cap : Nat → Nat} {a : Nat → Nat → Int} {avs : List Nat} (h : EM w base g R N blk cap a avs) {b0 : Nat} (hb : b0 ≤ base) (hk : k ≤ R) (hR : R ≤ 256) : MSlF b0 w (.slice (some ⟨g, 0, none⟩) k k) (rowsL N k a) := fun w' hw' => by
  refine ⟨(List.range k).map fun i => rowV blk cap N i, ?_, fun i r u h1 h2 => ?_⟩
  · rw [rowsL_len]
    refine ⟨by simp, some ⟨g, 0, none⟩, k, rfl, Nat.le_refl _, by unfold maxLen; omega, fun h0 => ⟨g, 0, rfl, fun i z hz => ?_⟩⟩
    have hi : i < k := by have := (List.getElem?_eq_some_iff.1 hz).1; simpa using this
    simp [hi] at hz
    subst hz
    rw [Nat.zero_add]
    have hc := h.cell (i := i) (by omega)
    exact cell_heap (hw' g (by have := h.arr.lt.1; omega) (World.block_lt_of_cell? _ _ hc)) hc
  · have hi : i < k := by have := (List.getElem?_eq_some_iff.1 h1).1; rw [rowsL_len] at this; exact this
    rw [rowsL_get hi] at h1
    injection h1 with h1
    subst h1
    simp [hi] at h2
    subst h2
    have hr := h.row i (by omega)
    obtain ⟨g1, c, cc, g2, g3, g4, g5⟩ := hr.isl
    refine ⟨g1, c, cc, g2, g3, g4, fun hn => ?_⟩
    obtain ⟨b, o, rfl, g7⟩ := g5 hn
    refine ⟨b, o, rfl, fun j u hu => ?_⟩
    have hc := g7 j u hu
    have hbl : blk i = b := by
      injection g2 with g2 _ _
      injection g2 with g2
      injection g2
    exact cell_heap (hw' b (by have := hr.lt.1; omega) (World.block_lt_of_cell? _ _ hc)) hc
theorem PV.cut {p m R N c : Nat} {a : Nat → Nat → Int} {piv : List Nat} (h : PV p m R N a piv c) : PV p m piv.length N a piv c :=
  ⟨Nat.le_refl _, fun i hi => h.rng i (by have := h.le; omega), h.lt, h.one, fun j q i hq hi => h.zer j q i hq (by have := h.le; omega), fun i j h1 h2 _ => absurd h2 (by omega), h.lead, h.asc⟩
/-- The rows that hold all kernel words are orthogonal to exactly the words of the space. -/
theorem ker_sol {p m N R c0 : Nat} {ml : List Int} {rw0 a' : Nat → Nat → Int} {piv : List Nat} {KS : List (List Int)} (hp : 2 ≤ p) (hm : 1 ≤ m) (hc0 : c0 ≤ N) (hP : PV p m R N a' piv c0) (hend : piv.length = R ∨ c0 = N) (hS : ∀ x, Sol p m ml N R a' x ↔ Sol p m ml N R rw0 x)
    (hl : ∀ t ∈ KS, t.length = N) (hk : ∀ t ∈ KS, Sol p m ml N R rw0 (fun j => t.getD j 0)) (hcov : ∀ c, c < N → (∀ i : Nat, piv[i]? ≠ some c) → ∃ f, il N f ∈ KS ∧ Kv p m a' piv c piv.length f) {f : Nat → Int} (hf : ∀ j, j < N → 0 ≤ f j ∧ f j < ((p ^ m : Nat) : Int)) :
    Sol p m ml N KS.length (rowsF KS) f ↔ Cl p m ml N R rw0 f := by
  constructor
  · intro hs
    have hPc := hP.cut
    have hsol : ∀ x, Sol p m ml N piv.length a' x ↔ Sol p m ml N R a' x := fun x => ⟨fun h i hi => by
      by_cases hip : i < piv.length
      · exact h i hip
      · refine dt_zero hp fun j hj => ?_
        rcases hend with h1 | h1
        · omega
        · exact hP.tail i j (by omega) hi (by omega), fun h i hi => h i (by have := hP.le; omega)⟩
    have key : Cl p m ml N piv.length a' f := by
      rw [← rst_cl hp hm hPc hc0 rfl hf, zerB_iff, il_len]
      intro j hj
      have e : (il N (rst p m ml a' (fun i => piv.getD i 0) f piv.length)).getD j 0 = rst p m ml a' (fun i => piv.getD i 0) f piv.length j := by rw [List.getD_eq_getElem?_getD, il_get hj]; rfl
      rw [e]
      have hr := rst_rng (ml := ml) (a := a') hp (fun i => piv.getD i 0) hf piv.length
      have hpz : ∀ k r : Nat, piv[k]? = some r → rst p m ml a' (fun i => piv.getD i 0) f piv.length r = 0 := fun k r hk => by
        have hkl : k < piv.length := (List.getElem?_eq_some_iff.1 hk).1
        have h2 := rst_piv (ml := ml) hp hm hPc rfl hf piv.length (Nat.le_refl _) k hkl
        rw [if_pos hkl] at h2
        have : piv.getD k 0 = r := by rw [List.getD_eq_getElem?_getD, hk]; rfl
        rw [this] at h2; exact h2
      by_cases hpv : ∃ i : Nat, piv[i]? = some j
      · obtain ⟨i, hi⟩ := hpv
        exact hpz i j hi
      · obtain ⟨x, hx1, hx2⟩ := hcov j hj fun i h => hpv ⟨i, h⟩
        have hxs : Sol p m ml N R a' x := hx2.sol hp hm hP hend hc0 hj fun i h => hpv ⟨i, h⟩
        obtain ⟨t, ht, e2⟩ := List.getElem_of_mem hx1
        have h3 := hs t ht
        have e4 : dt p m ml N (rowsF KS t) f = dt p m ml N f x := by
          rw [dt_symm]
          refine dt_congr (fun _ _ => rfl) fun k hk => ?_
          unfold rowsF
          rw [List.getD_eq_getElem?_getD (l := KS), List.getElem?_eq_getElem ht]
          show (KS[t]).getD k 0 = _
          rw [e2, List.getD_eq_getElem?_getD, il_get hk]; rfl
        rw [e4] at h3
        rw [← rst_dt hp (fun i => piv.getD i 0) ((hsol x).2 hxs) piv.length (Nat.le_refl _), hx2.dt_none hp hm hj hpz] at h3
        obtain ⟨r1, r2⟩ := hr j hj
        have := kin_code r1 r2
        rw [h3] at this
        exact this.symm
    intro x hx
    exact key x ((hsol x).2 ((hS x).2 hx))
  · intro hc i hi
    have hmem := List.getElem_mem hi
    have h1 := hc _ (hk _ hmem)
    rw [dt_symm] at h1
    have e : dt p m ml N (rowsF KS i) f = dt p m ml N (fun j => (KS[i]).getD j 0) f := dt_congr (fun j hj => by
      unfold rowsF
      rw [List.getD_eq_getElem?_getD (l := KS), List.getElem?_eq_getElem hi]; rfl) fun _ _ => rfl
    rw [e]; exact h1
set_option maxRecDepth 100000 in
set_option maxHeartbeats 8000000 in
theorem KernelF_any (p m N : Nat) (ml : List Int) (mv : Value) (w : World) (hmv : ISl w mv ml) (rows : List (List Int)) (v : Value) (hv : MSl w v rows) (hfl : FldB p m ml) (hmk : mchkS (p ^ m) N rows = 0) (hN1 : 1 ≤ N) :
    Calls Tryz.prog 79 #[.agg #[.int .i64 p, .int .i64 m, mv], .agg #[.int .i64 N, v]] w fun r w' => ∃ ks kv, r = .returned (.tuple #[.agg #[.int .i64 N, kv], .int .i64 0]) ∧ KerF p m ml N rows ks ∧ MSlF w.heap.size w' kv ks ∧ Ex w w' := by
  obtain ⟨s1, s2, s3, s4⟩ := mchk_shape hmk
  have HROW := hid_ (show ∀ (i : Nat) (r : List Int), rows[i]? = some r → r.length = N ∧ entS (p ^ m) r = 0 from fun i r h => by
    have := s4 r (List.mem_of_getElem? h); exact ⟨by omega, this.2⟩)
  have HO := hid_ (fun w' B h1 h2 h3 h4 => open1_any p m ml mv w' h1 N rows v h2 B h3 h4)
  obtain ⟨g0, g1, g2, e0, gsz⟩ := box_facts w p m mv
  have HMV := hid_ hmv
  have HV := hid_ hv
  have HMK := hid_ hmk
  have HFL := hid_ hfl
  have HFS := hid_ (show FSh p m ml ∧ IsF p m (lw ml) from by
    obtain ⟨pn', mn', e3, e4, h, _, hF⟩ := hfl
    have e5 : pn' = p := by omega
    have e6 : mn' = m := by omega
    subst e5 e6
    exact ⟨h, hF⟩)
  obtain ⟨za, zc, rfl, z1, z2, z3⟩ := hv.open
  clear z1 z3
  unfold maxLen at z2
  obtain ⟨xb, hxb⟩ : ∃ xb, w.heap.size = xb := ⟨_, rfl⟩
  rw [hxb] at g0 g1 g2 gsz
  have hNN : N ≤ 256 := by omega
  have hRR : rows.length ≤ 256 := s3
  clear hmv hv s4 s1 s2 s3 hmk hfl
  go_enter Tryz.func79, Tryz.ntmps79
  go_wp2_with fail
  generalize w.alloc (.cells #[.int .i64 p, .int .i64 m, mv] 24) = wA at *
  obtain ⟨a0, a1, ea⟩ := boxM_facts wA N (.slice za rows.length zc)
  have asz : (wA.alloc (.cells #[.int .i64 N, .slice za rows.length zc] 113)).heap.size = xb + 1 + 1 := by simp [gsz]
  rw [gsz] at a0 a1
  generalize wA.alloc (.cells #[.int .i64 N, .slice za rows.length zc] 113) = wB at *
  obtain ⟨q0, q1, eb⟩ := boxM_facts wB 0 (.slice none 0 0)
  have qf : (wB.alloc (.cells #[.int .i64 0, .slice none 0 0] 113)).frozen? ⟨xb + 1 + 1, 1, none⟩ = false := by rw [← asz]; simp
  have qf0 : (wB.alloc (.cells #[.int .i64 0, .slice none 0 0] 113)).frozen? ⟨xb + 1 + 1, 0, none⟩ = false := by rw [← asz]; simp
  have bsz : (wB.alloc (.cells #[.int .i64 0, .slice none 0 0] 113)).heap.size = xb + 1 + 1 + 1 := by simp [asz]
  rw [asz] at q0 q1
  generalize wB.alloc (.cells #[.int .i64 0, .slice none 0 0] 113) = wC at *
  obtain ⟨l0, l1, ec⟩ := boxM_facts wC N (.slice za rows.length zc)
  rw [bsz] at l0 l1
  generalize wC.alloc (.cells #[.int .i64 N, .slice za rows.length zc] 113) = wD at *
  have eD : Ex w wD := ((e0.trans ea).trans eb).trans ec
  have A0 := hid_ ((eb.trans ec).cell a0)
  have A1 := hid_ ((eb.trans ec).cell a1)
  have Q0 := hid_ (ec.cell q0)
  have Q1 := hid_ (ec.cell q1)
  have QF := hid_ (ec.frz q1 qf)
  have QF0 := hid_ (ec.frz q0 qf0)
  have HXD := hid_ eD
  refine (HO.out wD (xb + 1 + 1 + 1) (HMV.out.ex eD) (HV.out.ex eD) l0 l1).mono ?_
  clear g0 g1 g2 e0 gsz ea asz a0 a1 eb bsz q0 q1 qf qf0 l0 l1 ec eD HO
  rintro e w2 ⟨ho, hx2⟩
  rcases ho with ⟨pn, mn, x0, b, e1, e2, hg, hx01, hx02, ⟨_, rfl⟩ | ⟨hno, _⟩⟩ | ⟨hno, _⟩
  · have e1 : pn = p := by omega
    have e2 : mn = m := by omega
    subst e1 e2
    have HG := hid_ hg
    have HX2 := hid_ (HXD.out.trans hx2)
    have c0 := hx2.cell A0.out
    have c1 := hx2.cell A1.out
    have QF := hid_ (hx2.frz Q1.out QF.out)
    have QF0 := hid_ (hx2.frz Q0.out QF0.out)
    have Q0 := hid_ (hx2.cell Q0.out)
    have Q1 := hid_ (hx2.cell Q1.out)
    have A0 := hid_ c0
    clear hg hx2 A1
    have HX01 := hid_ (show 1 ≤ x0 ∧ x0 < pn ^ mn from ⟨hx01, hx02⟩)
    have HCN := hid_ (canon_any w2 HG.out hx01 hx02 N rows.length rows _ (HV.out.ex HX2.out) rfl hRR hN1 hNN HROW.out)
    go_wp2_with (go_at_call 125; refine HCN.out.mono ?_; rintro e w3 ⟨piv, pv, rv, a', rfl, hel, hrv, hpv, hx3, _⟩; have a0n := hx3.cell A0.out)
    have HEL := hid_ hel
    have HRV := hid_ hrv
    have HPV := hid_ hpv
    have HX3 := hid_ (HX2.out.trans hx3)
    have HX23 := hid_ hx3
    obtain ⟨ra, rc, rfl, _, r2, r3⟩ := hrv.open
    obtain ⟨pa, pc, rfl, _, p2, p3⟩ := hpv.open
    unfold maxLen at r2 p2
    rw [pI_len] at HPV p3
    rw [rowsL_len] at HRV r3
    rw [pI_len, rowsL_len]
    have HR3 := hid_ r3
    have HP3 := hid_ p3
    obtain ⟨cE, hcE, hPV, hEnd, hSol⟩ := id hel
    have HPVV := hid_ hPV
    have HSOL := hid_ hSol
    have HEND := hid_ hEnd
    have HCE := hid_ hcE
    clear hcE hPV hEnd hSol r3 p3
    have hpl : piv.length ≤ rows.length := (elo_rows hel).1
    have HM0 := hid_ (MRows.nil w3 w3.heap.size)
    have HK0 := hid_ (show ∀ t ∈ ([] : List (List Int)), t.length = N ∧ entS (pn ^ mn) t = 0 ∧ ∀ r ∈ rows, kdot pn mn ml r t 0 = 0 from fun t h => by cases h)
    have HXX := hid_ (Ex.refl w3)
    clear hel hrv hpv hx3 a0n HCN
    go_loopw [10, 37] (fun cv c' wr => ∃ (c : Nat) (KS : List (List Int)) (vals : List Value), c ≤ N ∧ c' = .int .i64 c ∧ KS.length ≤ c ∧ Hid (MRows wr w3.heap.size cv KS vals) ∧ Hid (∀ t ∈ KS, t.length = N ∧ entS (pn ^ mn) t = 0 ∧ ∀ r ∈ rows, kdot pn mn ml r t 0 = 0) ∧ Hid (∀ c', c' < c → (∀ i : Nat, piv[i]? ≠ some c') → ∃ f, il N f ∈ KS ∧ Kv pn mn a' piv c' piv.length f) ∧ Hid (Ex w3 wr)) (fun _ c' _ => N - (intOf c').toNat)
    case atStart => exact ⟨0, [], [], by omega, rfl, by simp, HM0, HK0, hid_ (fun c' h => absurd h (by omega)), HXX⟩
    case round =>
      clear HM0 HK0 HXX
      obtain ⟨c, KS, vals, hc, rfl, hkl, hm, hks, hcv0, hx⟩ := hrel
      obtain ⟨ca, cc, hcv⟩ := own_shape hm.out.cvo
      subst hcv
      have a0n := hx.out.cell (HX23.out.cell A0.out)
      by_cases hcN : c < N
      · have HCT := hid_ (Contains_any wr (pI piv) _ c (HPV.out.ex hx.out))
        by_cases hcp : (pI piv).contains (c : Int) = true
        · rw [hcp] at HCT
          have HCV1 := hid_ (show ∀ c', c' < c + 1 → (∀ i : Nat, piv[i]? ≠ some c') → ∃ f, il N f ∈ KS ∧ Kv pn mn a' piv c' piv.length f from fun c' h1 h2 => by
            by_cases e : c' = c
            · exfalso
              subst e
              have hmem := List.contains_iff_mem.1 hcp
              unfold pI at hmem
              obtain ⟨q, hq, e2⟩ := List.mem_map.1 hmem
              obtain ⟨i, hi, e3⟩ := List.getElem_of_mem hq
              exact h2 i (by rw [List.getElem?_eq_getElem hi, e3]; congr 1; omega)
            · exact hcv0.out c' (by omega) h2)
          clear hcp
          go_wp2_with (go_at_call 109; refine HCT.out.mono ?_; rintro e w4 ⟨rfl, rfl⟩)
          go_roundw
          case rel => first | exact ⟨c + 1, KS, vals, by omega, by go_num, by omega, hm, hks, HCV1, hx⟩ | ((repeat apply Exists.intro); exact ⟨⟨c + 1, KS, vals, by omega, by go_num, by omega, hm, hks, HCV1, hx⟩, rfl⟩)
          case measure => simp [intOf]; omega
        · have hcf : (pI piv).contains (c : Int) = false := by simpa using hcp
          rw [hcf] at HCT
          have HNP := hid_ (show ∀ i : Nat, piv[i]? ≠ some c from fun i h => by
            have : (c : Int) ∈ pI piv := by unfold pI; exact List.mem_map.2 ⟨c, List.mem_of_getElem? h, rfl⟩
            rw [List.contains_eq_mem] at hcf
            simp at hcf
            exact hcf this)
          clear hcp hcf
          obtain ⟨X0, hX0⟩ : ∃ X0, wr.heap.size = X0 := ⟨_, rfl⟩
          go_wp2_with (first | (go_at_call 109; refine HCT.out.mono ?_; rintro e w4 ⟨rfl, rfl⟩) | (at_make; refine wpList_make_arr _ rfl _ _ 22 rfl 3 (.int .i64 0) 8 Tryz.underlying22 infoInt rfl _ N rfl rfl rfl (by omega) (by unfold maxLen; omega) ?_))
          intro w5 hown5 hx5
          try simp only [hX0] at hown5 ⊢
          have hc1 := hown5.cell hcN
          have hf1 := hown5.frz c
          have i1 : (0 : Int) ≤ (c : Int) := by omega
          have i2 : (c : Int) < (N : Int) := by omega
          have HKV0 := hid_ (show Kv pn mn a' piv c 0 (upd (fun _ => 0) c 1) from Kv.zero)
          have HO5 := hid_ (show Own (w5.setCell ⟨X0, c, none⟩ (.int .i64 1)) X0 3 X0 N (iv (upd (fun _ => (0 : Int)) c 1)) from by rw [← iv_upd]; exact hown5.set c _)
          have HX5 := hid_ (show Ex wr (w5.setCell ⟨X0, c, none⟩ (.int .i64 1)) from hown5.exSet (by omega) hx5 c _)
          clear hx5 a0n
          go_wp2_with fail
          clear hown5 hc1 hf1
          go_loopw [51] (fun i' wr2 => ∃ (i : Nat) (f : Nat → Int), i ≤ piv.length ∧ i' = .int .i64 i ∧ Hid (Own wr2 X0 3 X0 N (iv f)) ∧ Hid (Kv pn mn a' piv c i f) ∧ Hid (Ex wr wr2)) (fun i' _ => piv.length - (intOf i').toNat)
          case atStart => exact ⟨0, _, by omega, rfl, HO5, HKV0, HX5⟩
          case round =>
            clear HKV0 HO5 HX5
            obtain ⟨i, f, hi, rfl, hown, hkv, hx5⟩ := hrel
            by_cases hil : i < piv.length
            · obtain ⟨q, hq⟩ : ∃ q, piv[i]? = some q := ⟨_, List.getElem?_eq_getElem hil⟩
              have hqN : q < N := by have := HPVV.out.lt i q hq; have := HCE.out; omega
              have hqc : q ≠ c := fun e => HNP.out i (by rw [← e]; exact hq)
              have HKV1 := hid_ (hkv.out.succ HPVV.out hq hqc)
              have hpq : (pI piv)[i]? = some (q : Int) := by unfold pI; rw [List.getElem?_map, hq]; rfl
              obtain ⟨zb, zo, rfl, hzc⟩ := HR3.out (by omega)
              obtain ⟨yb, yo, rfl, hyc⟩ := HP3.out (by omega)
              obtain ⟨uz, c1, huz⟩ := hzc i _ (rowsL_get hil)
              have d1 := hyc i _ hpq
              have hxx := hx.out.trans hx5.out
              have c1 := hxx.cell c1
              have d1 := hxx.cell d1
              have huz := huz.ex hxx
              obtain ⟨ua, uc, rfl, _, u2, u3⟩ := huz.open
              rw [il_len] at u3 c1
              unfold maxLen at u2
              obtain ⟨vb, vo, rfl, hvc⟩ := u3 (by omega)
              have v1 := hvc c _ (il_get hcN _)
              have HNEG := hid_ (Neg_any wr (HG.out.ex (HX23.out.trans hxx)) (a' i c))
              obtain ⟨KN, hKN⟩ : ∃ K, kneg pn mn (kin (pn ^ mn) (a' i c)) = K := ⟨_, rfl⟩
              rw [hKN] at HNEG HKV1
              have hcx := hown.out.cell hqN
              have hfx := hown.out.frz q
              have HXX := hid_ hxx
              have j1 : (0 : Int) ≤ (q : Int) := by omega
              have j2 : (q : Int) < (N : Int) := by omega
              clear hq hzc hyc huz hvc u3 hkv hxx hpq
              go_wp2_with (go_at_call 126; refine HNEG.out.mono ?_; rintro e w7 ⟨rfl, n, rfl⟩; have hcx := ((Ex.refl wr).drewN n).cell hcx; have hfx := ((Ex.refl wr).drewN n).frz hcx hfx)
              go_roundw
              case rel =>
                have HO := hid_ (show Own ((wr.drewN n).setCell ⟨X0, q, none⟩ (.int .i64 KN)) X0 3 X0 N (iv (upd f q KN)) from by rw [← iv_upd]; exact (hown.out.drewN n).set q _)
                have HX := hid_ ((hown.out.drewN n).exSet (by omega) (hx5.out.drewN n) q (.int .i64 KN))
                first | exact ⟨i + 1, _, by omega, by go_num, HO, HKV1, HX⟩ | ((repeat apply Exists.intro); exact ⟨⟨i + 1, _, by omega, by go_num, HO, HKV1, HX⟩, rfl⟩)
              case measure => simp [intOf]; omega
            · obtain rfl : piv.length = i := by omega
              have HM2 := hid_ (hm.out.ex hx5.out)
              have HXX := hid_ (hx.out.trans hx5.out)
              have HSOLV := hid_ (hkv.out.sol (ml := ml) HFS.out.1.p2 HFS.out.1.m1 HPVV.out HEND.out HCE.out hcN HNP.out)
              have HKS2 := hid_ (show ∀ t ∈ KS ++ [il N f], t.length = N ∧ entS (pn ^ mn) t = 0 ∧ ∀ r ∈ rows, kdot pn mn ml r t 0 = 0 from fun t ht => by
                rcases List.mem_append.1 ht with ht | ht
                · exact hks.out t ht
                · simp at ht
                  subst ht
                  refine ⟨il_len _ _, entS_of fun x hx => ?_, sol_rows (fun i r h => (HROW.out i r h).1) ((HSOL.out _).1 HSOLV.out)⟩
                  obtain ⟨j, hj, rfl⟩ := il_mem hx
                  exact hkv.out.rng HFS.out.1.p2 HFS.out.1.m1 j)
              have HCV2 := hid_ (show ∀ c', c' < c + 1 → (∀ i : Nat, piv[i]? ≠ some c') → ∃ g, il N g ∈ KS ++ [il N f] ∧ Kv pn mn a' piv c' piv.length g from fun c' h1 h2 => by
                by_cases e : c' = c
                · subst e
                  exact ⟨f, by simp, hkv.out⟩
                · obtain ⟨g, hg1, hg2⟩ := hcv0.out c' (by omega) h2
                  exact ⟨g, List.mem_append_left _ hg1, hg2⟩)
              have HL := hid_ (show wr.ownsRow w3.heap.size 3 1 (.slice (some ⟨X0, 0, none⟩) N N) (il N f).length (ints (il N f)) from by
                rw [il_len, ints_il]; exact ownsRow_mono hown.out (by have := hx.out.size; omega))
              have HAL := hid_ (show Aprt (.slice (some ⟨X0, 0, none⟩) N N) (.slice ca KS.length cc) from by
                right
                show some X0 ≠ _
                intro e
                have := (hm.out.cvo.lt X0 e.symm).2
                omega)
              have HSZ := hid_ HXX.out.size
              clear hkv hown hm hks hx hx5 HSOLV
              go_wp2_with (at_builtin; refine wpList_append1 _ rfl _ _ 45 rfl w3.heap.size 22 (.slice none 0 0) 1 24 Tryz.underlying45 infoIntsL rfl (by decide) _ KS.length _ rfl HM2.out.cvo [.slice (some ⟨X0, 0, none⟩) N N] 22 _ rfl (by simp) rfl (by simp [Value.oneCell']) (by unfold maxLen; omega) (by omega) HSZ.out ?_)
              intro v2 w6 happ
              have HO := hid_ (HM2.out.app HL.out HAL.out happ)
              have HE := hid_ (happ.ex HXX.out (Nat.le_refl _))
              obtain ⟨va, vc, hv2⟩ := own_shape happ.own
              subst hv2
              clear happ HL HAL HM2
              go_wp2_with fail
              go_roundw
              case rel => first | exact ⟨c + 1, KS ++ [il N f], _, by omega, by go_num, by simp; omega, HO, HKS2, HCV2, HE⟩ | ((repeat apply Exists.intro); exact ⟨⟨c + 1, KS ++ [il N f], _, by omega, by go_num, by simp; omega, HO, HKS2, HCV2, HE⟩, rfl⟩)
              case measure => simp [intOf]; omega
      · obtain rfl : N = c := by omega
        have HMSK := hid_ hm.out.msl
        have hkl2 : KS.length ≤ 256 := by omega
        have HCN := hid_ (canon_any wr (HG.out.ex (HX23.out.trans hx.out)) HX01.out.1 HX01.out.2 N KS.length KS _ HMSK.out rfl hkl2 hN1 hNN fun i r h => by
          have := hks.out r (List.mem_of_getElem? h); exact ⟨this.1, this.2.1⟩)
        have QF0 := hid_ (hx.out.frz (HX23.out.cell Q0.out) (HX23.out.frz Q0.out QF0.out))
        have QF := hid_ (hx.out.frz (HX23.out.cell Q1.out) (HX23.out.frz Q1.out QF.out))
        have Q0 := hid_ (hx.out.cell (HX23.out.cell Q0.out))
        have Q1 := hid_ (hx.out.cell (HX23.out.cell Q1.out))
        have a0n := hx.out.cell (HX23.out.cell A0.out)
        go_wp2_with (go_at_call 125; refine HCN.out.mono ?_; rintro e w8 ⟨piv2, pv2, rv2, a2, rfl, hel2, hrv2, hpv2, hx8, g8, blk8, cap8, rfl, hem8⟩; have a0n := hx8.cell a0n; have q0 := hx8.cell Q0.out; have qf0 := hx8.frz Q0.out QF0.out; have q1 := hx8.cell Q1.out; have qf1 := hx8.frz Q1.out QF.out; have HEL2 := hid_ hel2; have HEM8 := hid_ hem8; have HX8 := hid_ hx8; clear hel2 hem8 hx8 hrv2 hpv2)
        have hbl : xb + 1 + 1 < wr.heap.size := World.block_lt_of_cell? _ _ Q0.out
        have hp2 := (elo_rows HEL2.out).1
        have HMF := hid_ (((((HEM8.out.mslF (Nat.le_refl _) hp2 hkl2).low (A := ⟨xb + 1 + 1, 0, none⟩) hbl (.int .i64 N)).low (A := ⟨xb + 1 + 1, 1, none⟩) hbl (.slice (some ⟨g8, 0, none⟩) piv2.length piv2.length))).mono (show w.heap.size ≤ wr.heap.size from by omega))
        have HKO := hid_ (show KerF pn mn ml N rows (rowsL N piv2.length a2) from ⟨KS.length, rowsF KS, a2, piv2, hkl2, HEL2.out, rfl, fun f hf => ker_sol HFS.out.1.p2 HFS.out.1.m1 HCE.out HPVV.out HEND.out HSOL.out (fun t ht => (hks.out t ht).1) (fun t ht => by
          have h1 := hks.out t ht
          refine rows_sol (fun i r h => (HROW.out i r h).1) fun r hr => ?_
          have e : il N (fun j => t.getD j 0) = t := by
            apply List.ext_getElem?
            intro j
            by_cases h : j < N
            · rw [il_get h, List.getD_eq_getElem?_getD, List.getElem?_eq_getElem (by omega)]; rfl
            · rw [List.getElem?_eq_none (by rw [il_len]; omega), List.getElem?_eq_none (by omega)]
          rw [e]; exact h1.2.2 r hr) (fun c hc => hcv0.out c hc) hf⟩)
        have HEX := hid_ ((((HX3.out.trans hx.out).trans HX8.out).setCell (p := ⟨xb + 1 + 1, 0, none⟩) (by show w.heap.size ≤ xb + 1 + 1; omega) (.int .i64 N)).setCell (p := ⟨xb + 1 + 1, 1, none⟩) (by show w.heap.size ≤ xb + 1 + 1; omega) (.slice (some ⟨g8, 0, none⟩) piv2.length piv2.length))
        go_wp2_with fail
        exact bodyPost_ret (v := .tuple #[.agg #[.int .i64 N, .slice (some ⟨g8, 0, none⟩) piv2.length piv2.length], .int .i64 0]) (by simp [results, Tryz.results79, go_sem, q0, q1]) rfl ⟨_, _, rfl, HKO.out, HMF.out, HEX.out⟩
  · exact absurd (by
      obtain ⟨pn', mn', e3, e4, h, _⟩ := HFL.out
      have e5 : pn = p := by omega
      have e6 : mn = m := by omega
      subst e5 e6
      exact HMK.out) hno
  · exact absurd HFL.out hno
end Go.Proofs.YtgdmlmhpineibaaGreat
