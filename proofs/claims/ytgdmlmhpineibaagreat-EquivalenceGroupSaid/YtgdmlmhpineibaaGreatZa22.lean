/- Walks of tower.prime, tower.Frobenius, the field's Sub, Order, Same, Check. -/
/- Plain: the canonical rows are determined by the words that are orthogonal to them; the space that rows generate. -/
/- Plain: sums over a permutation; linear combinations; the image of a word under a monomial map. -/
/- Walks of matrix.clone and matrix.canon. -/
/- Walk of matrix.Kernel. -/
import Derived.Test.YtgdmlmhpineibaaGreatZa16
import Derived.Test.YtgdmlmhpineibaaGreatZa20
import Derived.Test.YtgdmlmhpineibaaGreatZa21
namespace Go.Proofs.YtgdmlmhpineibaaGreat
set_option linter.unusedVariables false
set_option linter.unusedSimpArgs false
open Go.RowKit

/-- The power of the exponent p^k. -/
def frb (p m : Nat) (low : Vc) (x : Nat) : Nat → Nat
  | 0 => x
  | k + 1 => kpw p m low (frb p m low x k) p
theorem frb_lt {p m : Nat} {low : Vc} (hp : 2 ≤ p) (hm : 1 ≤ m) {x : Nat} (hx : x < p ^ m) : ∀ k, frb p m low x k < p ^ m
  | 0 => hx
  | k + 1 => kpw_lt hp hm _ _
section
variable {b p m x0 : Nat} {ml : List Int}
set_option maxRecDepth 100000 in
set_option maxHeartbeats 1000000 in
theorem prime_any (w : World) (hg : GFat w b p m ml x0) :
    Calls Tryz.prog 92 #[.pointer (some ⟨b, 0, none⟩)] w fun r w' => r = .returned (.tuple #[.int .i64 p, .int .i64 m]) ∧ Ex w w' := by
  have HF := hid_ (Field_any w hg)
  go_enter Tryz.func92, Tryz.ntmps92
  go_wp2_with fail
  refine HF.out.mono ?_
  rintro e w1 ⟨v, rfl, hv, hx⟩
  obtain ⟨va, vc, rfl, _, _, _⟩ := hv.open
  have d0 : (w1.alloc (.cells #[.int .i64 p, .int .i64 m, .slice va ml.length vc] 24)).cell? ⟨w1.heap.size, 0, none⟩ = some (.int .i64 p) := by simp
  have d1 : (w1.alloc (.cells #[.int .i64 p, .int .i64 m, .slice va ml.length vc] 24)).cell? ⟨w1.heap.size, 1, none⟩ = some (.int .i64 m) := by simp
  have HX := hid_ (hx.alloc (.cells #[.int .i64 p, .int .i64 m, .slice va ml.length vc] 24))
  clear hx hv
  go_wp2_with fail
  obtain ⟨q, hq⟩ : ∃ q, w1.heap.size = q := ⟨_, rfl⟩
  rw [hq] at d0 d1
  try simp only [hq]
  clear hq
  generalize w1.alloc (.cells #[.int .i64 p, .int .i64 m, .slice va ml.length vc] 24) = w2 at *
  go_quiet (fail)
  go_wp2_with fail
  go_ret2
  exact ⟨rfl, HX.out.drewN _⟩
set_option maxRecDepth 100000 in
set_option maxHeartbeats 1000000 in
theorem Frobenius_any (w : World) (hg : GFat w b p m ml x0) (x : Int) (k : Nat) (hk : k < m) :
    Calls Tryz.prog 53 #[.pointer (some ⟨b, 0, none⟩), .int .i64 x, .int .i64 k] w fun r w' => r = .returned (.int .i64 (frb p m (lw ml) (kin (p ^ m) x) k : Nat)) ∧ Ex w w' := by
  have HG := hid_ hg
  have HP := hid_ (prime_any w hg)
  have p2 := hg.sh.p2
  have m1 := hg.sh.m1
  have m8 := hg.sh.m8
  have hp256 := hg.sh.p256
  have hq0 : 0 < p ^ m := Nat.pow_pos (by omega)
  have T1 : (k : Int).tmod (m : Int) = (k : Int) := by
    rw [Int.tmod_eq_emod_of_nonneg (by omega)]
    exact Int.emod_eq_of_lt (by omega) (by omega)
  have T2 : ((k : Int) + (m : Int)).tmod (m : Int) = (k : Int) := by
    rw [Int.tmod_eq_emod_of_nonneg (by omega), Int.add_emod_right]
    exact Int.emod_eq_of_lt (by omega) (by omega)
  have i4 : ¬ m = 0 := by omega
  have i5 : ¬ ((m : Int) = 0) := by omega
  have i1 : IntKind.i64.wrap ((k : Int) + (m : Int)) = (k : Int) + (m : Int) := IntWalk.i64_in _ (by omega)
  clear hg
  go_enter Tryz.func53, Tryz.ntmps53
  go_wp2_with fail
  refine HP.out.mono ?_
  rintro e w1 ⟨rfl, hx⟩
  have HX := hid_ hx
  clear hx
  go_wp2_with fail
  go_loopw [1, 21] (fun x' j' wr => ∃ (j : Nat) (y : Int), j ≤ k ∧ j' = .int .i64 j ∧ x' = .int .i64 y ∧ Hid (kin (p ^ m) y = frb p m (lw ml) (kin (p ^ m) x) j) ∧ Hid (Ex w wr)) (fun _ j' _ => k - (intOf j').toNat)
  case atStart => exact ⟨0, x, by omega, rfl, rfl, hid_ rfl, HX⟩
  case round =>
    obtain ⟨j, y, hj, rfl, rfl, hy, hex⟩ := hrel
    by_cases hjk : j < k
    · have hpw := Pow_any wr (HG.out.ex hex.out) y p (by omega) (by omega)
      rw [hy.out] at hpw
      obtain ⟨z, hz⟩ : ∃ z, kpw p m (lw ml) (frb p m (lw ml) (kin (p ^ m) x) j) p = z := ⟨_, rfl⟩
      have HZ := hid_ (show kin (p ^ m) ((z : Nat) : Int) = frb p m (lw ml) (kin (p ^ m) x) (j + 1) from by
        rw [← hz, kin_of (kpw_lt p2 m1 _ _)]; rfl)
      rw [hz] at hpw
      have HPW := hid_ hpw
      clear hpw hz hy
      go_wp2_with fail
      refine HPW.out.mono ?_
      rintro e w2 ⟨rfl, n2, rfl⟩
      go_wp2_with fail
      go_roundw
      case rel => exact ⟨j + 1, _, by omega, by go_num, rfl, HZ, hid_ (hex.out.drewN _)⟩
      case measure => simp [intOf]; omega
    · obtain rfl : j = k := by omega
      have had := Add_any wr (HG.out.ex hex.out) y 0
      rw [hy.out, kin_zero, kadd_zero (by omega) (frb_lt p2 m1 (kin_lt hq0 _) _)] at had
      have HAD := hid_ had
      clear had
      go_wp2_with fail
      refine HAD.out.mono ?_
      rintro e w2 ⟨rfl, n2, rfl⟩
      go_wp2_with fail
      go_ret
      exact ⟨rfl, hex.out.drewN _⟩
set_option maxRecDepth 100000 in
set_option maxHeartbeats 1000000 in
theorem Sub_any (w : World) (hg : GFat w b p m ml x0) (x y : Int) :
    Calls Tryz.prog 172 #[.pointer (some ⟨b, 0, none⟩), .int .i64 x, .int .i64 y] w (Qt w (.int .i64 (kadd p m (kin (p ^ m) x) (kneg p m (kin (p ^ m) y)) : Nat))) := by
  have p2 := hg.sh.p2
  have HN := hid_ (Neg_any w hg y)
  have ha := fun n => Add_any (w.drewN n) (hg.drewN n) x ((kneg p m (kin (p ^ m) y) : Nat) : Int)
  rw [show kin (p ^ m) ((kneg p m (kin (p ^ m) y) : Nat) : Int) = kneg p m (kin (p ^ m) y) from kin_of (kneg_lt (by omega) _)] at ha
  have HA := hid_ ha
  clear ha hg
  go_enter Tryz.func172, Tryz.ntmps172
  go_wp2_with fail
  refine HN.out.mono ?_
  rintro e w1 ⟨rfl, n1, rfl⟩
  go_wp2_with fail
  refine (HA.out n1).mono ?_
  rintro e w2 ⟨rfl, n2, rfl⟩
  go_wp2_with fail
  go_ret
  exact ⟨rfl, _, rfl⟩
set_option maxRecDepth 100000 in
set_option maxHeartbeats 1000000 in
theorem Order_any (w : World) (hg : GFat w b p m ml x0) :
    Calls Tryz.prog 110 #[.pointer (some ⟨b, 0, none⟩)] w fun r w' => r = .returned (.int .i64 ((p ^ m : Nat) : Int)) ∧ w = w' := by
  have c3 := hg.c3
  generalize p ^ m = q at *
  clear hg
  go_enter Tryz.func110, Tryz.ntmps110
  go_wp2_with fail
  go_ret
  exact ⟨rfl, rfl⟩
end
end Go.Proofs.YtgdmlmhpineibaaGreat
namespace Go.Proofs.YtgdmlmhpineibaaGreat
set_option linter.unusedVariables false
set_option linter.unusedSimpArgs false
open Go.RowKit

theorem kneg_zero {p m : Nat} (hp : 1 ≤ p) : kneg p m 0 = 0 := by
  have h := kadd_kneg (p := p) (m := m) hp 0
  rwa [zero_kadd hp (kneg_lt hp 0)] at h
theorem kadd_eq_zero {p m a b : Nat} (hp : 1 ≤ p) (ha : a < p ^ m) (hb : b < p ^ m) (h : kadd p m a (kneg p m b) = 0) : a = b := by
  have h1 : kadd p m (kadd p m a (kneg p m b)) b = a := by
    rw [kadd_assoc hp, kadd_comm (kneg p m b), kadd_kneg hp, kadd_zero hp ha]
  rw [h, zero_kadd hp hb] at h1
  exact h1.symm
theorem kin_inj {q : Nat} {x y : Int} (hx : 0 ≤ x ∧ x < q) (hy : 0 ≤ y ∧ y < q) (h : kin q x = kin q y) : x = y := by
  have h1 := kin_code hx.1 hx.2
  have h2 := kin_code hy.1 hy.2
  rw [h] at h1
  omega
theorem kin_one {p m : Nat} (hp : 2 ≤ p) (hm : 1 ≤ m) : kin (p ^ m) 1 = 1 := kin_of (q := p ^ m) (x := 1) (one_lt_q hp hm)
/-- Two ascending lists with the same members are equal. -/
theorem asc_ext : ∀ {l k : List Nat}, l.Pairwise (· < ·) → k.Pairwise (· < ·) → (∀ x, x ∈ l ↔ x ∈ k) → l = k
  | [], [], _, _, _ => rfl
  | [], y :: k, _, _, h => by have := (h y).2 (List.mem_cons_self ..); cases this
  | x :: l, [], _, _, h => by have := (h x).1 (List.mem_cons_self ..); cases this
  | x :: l, y :: k, hl, hk, h => by
    obtain ⟨l1, l2⟩ := List.pairwise_cons.1 hl
    obtain ⟨k1, k2⟩ := List.pairwise_cons.1 hk
    have e : x = y := by
      rcases List.mem_cons.1 ((h x).1 (List.mem_cons_self ..)) with e | e
      · exact e
      · rcases List.mem_cons.1 ((h y).2 (List.mem_cons_self ..)) with e2 | e2
        · exact e2.symm
        · have h1 := k1 x e
          have h2 := l1 y e2
          omega
    subst e
    rw [asc_ext l2 k2 fun z => ?_]
    constructor
    · intro hz
      rcases List.mem_cons.1 ((h z).1 (List.mem_cons_of_mem _ hz)) with e | e
      · have := l1 z hz; omega
      · exact e
    · intro hz
      rcases List.mem_cons.1 ((h z).2 (List.mem_cons_of_mem _ hz)) with e | e
      · have := k1 z hz; omega
      · exact e
section
variable {p m : Nat} {ml : List Int} {N R : Nat} {a : Nat → Nat → Int} {piv : List Nat} {c0 c : Nat} {x : Nat → Int}
theorem Kv.ex (hP : PV p m R N a piv c0) (hnp : ∀ i : Nat, piv[i]? ≠ some c) : ∀ k, k ≤ piv.length → ∃ x, Kv p m a piv c k x
  | 0, _ => ⟨_, Kv.zero⟩
  | k + 1, hk => by
    obtain ⟨x, hx⟩ := Kv.ex hP hnp k (by omega)
    have hq : piv[k]? = some (piv[k]'(by omega)) := List.getElem?_eq_getElem _
    exact ⟨_, hx.succ hP hq fun e => hnp k (by rw [hq, e])⟩
/-- The product with a word that is zero where the row is not, but at one position. -/
theorem dt_single (hp : 2 ≤ p) {f : Nat → Int} {k : Nat} (hk : k < N) (h : ∀ j, j < N → j ≠ k → f j ≠ 0 → x j = 0) : dt p m ml N f x = kmul p m (lw ml) (kin (p ^ m) (f k)) (kin (p ^ m) (x k)) := by
  have hlen : (il N f).length = N := il_len _ _
  have hg : ∀ j, j < N → (il N f).getD j 0 = f j := fun j hj => by
    rw [List.getD_eq_getElem?_getD, il_get hj]; rfl
  have e1 : kdot p m ml (il N f) (il N x) 0 = kadd p m (kdot p m ml (il N f) (il N fun _ => (0 : Int)) 0) (kmul p m (lw ml) (kin (p ^ m) ((il N f).getD k 0)) (kin (p ^ m) (x k))) :=
    dot_at hp hlen hk rfl fun j hj hjk hr => h j hj hjk (by rwa [hg j hj] at hr)
  have e0 : kdot p m ml (il N f) (il N fun _ => (0 : Int)) 0 = 0 := by
    have := dt_zero (p := p) (m := m) (ml := ml) (N := N) hp (f := fun _ => 0) (x := f) (fun j _ => rfl)
    rw [dt_symm] at this
    exact this
  show kdot p m ml (il N f) (il N x) 0 = _
  rw [e1, e0, hg k hk, zero_kadd (by omega) (kmul_lt (by omega) _ _)]
theorem Kv.dt_piv (hp : 2 ≤ p) (hm : 1 ≤ m) (hc : c < N) (h : Kv p m a piv c piv.length x) {f : Nat → Int} {i q : Nat} (hq : piv[i]? = some q) (hqN : q < N) (hqc : q ≠ c) (hfq : f q = 1) (hz : ∀ k r : Nat, piv[k]? = some r → k ≠ i → f r = 0) :
    dt p m ml N f x = kadd p m (kin (p ^ m) (f c)) (kneg p m (kin (p ^ m) (a i c))) := by
  have hlen : (il N f).length = N := il_len _ _
  have hq0 : 0 < p ^ m := Nat.pow_pos (by omega)
  have hg : ∀ j, j < N → (il N f).getD j 0 = f j := fun j hj => by
    rw [List.getD_eq_getElem?_getD, il_get hj]; rfl
  have hil : i < piv.length := (List.getElem?_eq_some_iff.1 hq).1
  have e1 : dt p m ml N f (upd (fun _ => (0 : Int)) c 1) = kin (p ^ m) (f c) := by
    rw [dt_single hp hc fun j hj hjc _ => (show upd (fun _ => (0 : Int)) c 1 j = 0 from upd_ne _ _ hjc), upd_same, kin_one hp hm, kmul_one hp hm (kin_lt hq0 _)]
  have e2 : kdot p m ml (il N f) (il N x) 0 = kadd p m (kdot p m ml (il N f) (il N (upd (fun _ => (0 : Int)) c 1)) 0) (kmul p m (lw ml) (kin (p ^ m) ((il N f).getD q 0)) (kin (p ^ m) (x q))) :=
    dot_at hp hlen hqN (upd_ne _ _ hqc) fun j hj hjq hr => by
      rw [hg j hj] at hr
      by_cases e : j = c
      · rw [e, h.c1, upd_same]
      · rw [upd_ne _ _ e]
        refine h.z j e fun k hk hkp => ?_
        by_cases ek : k = i
        · subst ek; rw [hq] at hkp; injection hkp with hkp; exact hjq hkp.symm
        · exact hr (hz k j hkp ek)
  show kdot p m ml (il N f) (il N x) 0 = _
  rw [e2]
  show kadd p m (dt p m ml N f (upd (fun _ => (0 : Int)) c 1)) _ = _
  rw [e1, hg q hqN, hfq, h.pv i q hil hq, kin_one hp hm, kin_of (kneg_lt (by omega) _), one_kmul hp hm (kneg_lt (by omega) _)]
/-- Reduced rows. -/
def RR (p m N R : Nat) (a : Nat → Nat → Int) (piv : List Nat) : Prop := ∃ c, c ≤ N ∧ PV p m R N a piv c ∧ (piv.length = R ∨ c = N)
theorem RR.sol (hp : 2 ≤ p) (hm : 1 ≤ m) (h : RR p m N R a piv) (hc : c < N) (hnp : ∀ i : Nat, piv[i]? ≠ some c) (hx : Kv p m a piv c piv.length x) : Sol p m ml N R a x := by
  obtain ⟨c1, h1, h2, h3⟩ := h
  exact hx.sol hp hm h2 h3 h1 hc hnp
theorem RR.piv_iff (hp : 2 ≤ p) (hm : 1 ≤ m) (h : RR p m N R a piv) (hc : c < N) : c ∈ piv ↔ ¬ ∃ x, Sol p m ml N R a x ∧ kin (p ^ m) (x c) ≠ 0 ∧ ∀ j, c < j → x j = 0 := by
  have h0 := h
  obtain ⟨c1, h1, hP, h3⟩ := h
  constructor
  · rintro hm1 ⟨x, hS, hx, hz⟩
    obtain ⟨i, hi, e⟩ := List.getElem_of_mem hm1
    have hq : piv[i]? = some c := by rw [List.getElem?_eq_getElem hi, e]
    have := hS i (by have := hP.le; omega)
    rw [dt_single hp hc fun j hj hjc hf => by
      rcases Nat.lt_or_gt_of_ne hjc with e1 | e1
      · exact absurd (hP.lead i c j hq e1) hf
      · exact hz j e1, hP.one i c hq, kin_one hp hm, one_kmul hp hm (kin_lt (Nat.pow_pos (by omega)) _)] at this
    exact hx this
  · intro hn
    by_cases hm1 : c ∈ piv
    · exact hm1
    · exfalso
      have hnp : ∀ i : Nat, piv[i]? ≠ some c := fun i hi => hm1 (List.mem_of_getElem? hi)
      obtain ⟨x, hx⟩ := Kv.ex hP hnp piv.length (Nat.le_refl _)
      refine hn ⟨x, h0.sol hp hm hc hnp hx, by rw [hx.c1, kin_one hp hm]; decide, fun j hj => ?_⟩
      by_cases hj2 : ∃ i, i < piv.length ∧ piv[i]? = some j
      · obtain ⟨i, hi, hij⟩ := hj2
        rw [hx.pv i j hi hij, hP.lead i j c hij hj, kin_zero, kneg_zero (by omega)]; rfl
      · exact hx.z j (by omega) fun i hi hij => hj2 ⟨i, hi, hij⟩
theorem RR.asc (h : RR p m N R a piv) : piv.Pairwise (· < ·) ∧ ∀ q ∈ piv, q < N := by
  obtain ⟨c1, h1, hP, h3⟩ := h
  refine ⟨List.pairwise_iff_getElem.2 fun i j hi hj hij => hP.asc i j _ _ hij (List.getElem?_eq_getElem hi) (List.getElem?_eq_getElem hj), fun q hq => ?_⟩
  obtain ⟨i, hi, e⟩ := List.getElem_of_mem hq
  have := hP.lt i q (by rw [List.getElem?_eq_getElem hi, e])
  omega
/-- Reduced rows with the same orthogonal words are the same. -/
theorem rr_uniq (hp : 2 ≤ p) (hm : 1 ≤ m) {R' : Nat} {a' : Nat → Nat → Int} {piv' : List Nat} (h : RR p m N R a piv) (h' : RR p m N R' a' piv') (hS : ∀ x, Sol p m ml N R a x ↔ Sol p m ml N R' a' x) :
    piv = piv' ∧ ∀ i, i < piv.length → ∀ j, j < N → a i j = a' i j := by
  have hpe : piv = piv' := asc_ext h.asc.1 h'.asc.1 fun q => by
    constructor
    · intro hq
      have hqN := h.asc.2 q hq
      refine (h'.piv_iff (ml := ml) hp hm hqN).2 ?_
      rintro ⟨x, h1, h2⟩
      exact (h.piv_iff (ml := ml) hp hm hqN).1 hq ⟨x, (hS x).2 h1, h2⟩
    · intro hq
      have hqN := h'.asc.2 q hq
      refine (h.piv_iff (ml := ml) hp hm hqN).2 ?_
      rintro ⟨x, h1, h2⟩
      exact (h'.piv_iff (ml := ml) hp hm hqN).1 hq ⟨x, (hS x).1 h1, h2⟩
  subst hpe
  refine ⟨rfl, fun i hi j hj => ?_⟩
  have hq : piv[i]? = some piv[i] := List.getElem?_eq_getElem hi
  obtain ⟨q, hqe⟩ : ∃ q, piv[i] = q := ⟨_, rfl⟩
  rw [hqe] at hq
  have hqN := h.asc.2 q (List.mem_of_getElem? hq)
  have h0' := h'
  obtain ⟨c1, h1, hP, h3⟩ := h
  obtain ⟨c1', h1', hP', h3'⟩ := h'
  by_cases hjp : ∃ k : Nat, piv[k]? = some j
  · obtain ⟨k, hk⟩ := hjp
    by_cases e : k = i
    · subst e
      rw [hP.one k j hk, hP'.one k j hk]
    · rw [hP.zer k j i hk (by have := hP.le; omega) (fun e2 => e e2.symm), hP'.zer k j i hk (by have := hP'.le; omega) (fun e2 => e e2.symm)]
  · have hnp : ∀ k : Nat, piv[k]? ≠ some j := fun k hk => hjp ⟨k, hk⟩
    obtain ⟨x, hx⟩ := Kv.ex hP' hnp piv.length (Nat.le_refl _)
    have hs := (hS x).2 (h0'.sol hp hm hj hnp hx) i (by have := hP.le; omega)
    rw [hx.dt_piv hp hm hj hq hqN (fun e => hnp i (by rw [← e]; exact hq)) (hP.one i q hq) fun k r hk hki => hP.zer k r i hk (by have := hP.le; omega) (fun e => hki e.symm)] at hs
    have hq0 : 0 < p ^ m := Nat.pow_pos (by omega)
    exact kin_inj (hP.rng i (by have := hP.le; omega) j hj) (hP'.rng i (by have := hP'.le; omega) j hj) (kadd_eq_zero (by omega) (kin_lt hq0 _) (kin_lt hq0 _) hs)
end
end Go.Proofs.YtgdmlmhpineibaaGreat
namespace Go.Proofs.YtgdmlmhpineibaaGreat
set_option linter.unusedVariables false
set_option linter.unusedSimpArgs false
open Go.RowKit

section
variable {p m : Nat} {ml : List Int} {N R : Nat}
/-- The sum of the first n values. -/
def ks (p m : Nat) (g : Nat → Nat) : Nat → Nat
  | 0 => 0
  | n + 1 => kadd p m (ks p m g n) (g n)
/-- An injective map of the first N numbers. -/
structure InjN (N : Nat) (π : Nat → Nat) : Prop where
  lt : ∀ i, i < N → π i < N
  inj : ∀ i j, i < N → j < N → π i = π j → i = j
theorem InjN.perm {π : Nat → Nat} (h : InjN N π) : ((List.range N).map π).Perm (List.range N) := by
  have hnd : ((List.range N).map π).Nodup := nodup_range_map fun i j hj hij e => by
    have := h.inj i j (by omega) hj e; omega
  have hmem : ∀ x, x < N → x ∈ (List.range N).map π := fun x hx => by
    have := pigeon N (((List.range N).map π).map (· + 1)) (by
      rw [List.map_map]
      exact nodup_range_map fun i j hj hij e => by
        have e : π i + 1 = π j + 1 := e
        have := h.inj i j (by omega) hj (by omega); omega) (by simp) (fun y hy => by
      obtain ⟨z, hz, rfl⟩ := List.mem_map.1 hy
      obtain ⟨i, hi, rfl⟩ := List.mem_map.1 hz
      have := h.lt i (List.mem_range.1 hi)
      omega) (x + 1) (by omega) (by omega)
    obtain ⟨z, hz, e⟩ := List.mem_map.1 this
    have : z = x := by have e : z + 1 = x + 1 := e; omega
    rw [← this]; exact hz
  refine (List.perm_ext_iff_of_nodup hnd List.nodup_range).2 fun x => ⟨fun hx => ?_, fun hx => hmem x (List.mem_range.1 hx)⟩
  obtain ⟨i, hi, rfl⟩ := List.mem_map.1 hx
  exact List.mem_range.2 (h.lt i (List.mem_range.1 hi))
theorem InjN.surj {π : Nat → Nat} (h : InjN N π) {j : Nat} (hj : j < N) : ∃ i, i < N ∧ π i = j := by
  have := h.perm.mem_iff.2 (List.mem_range.2 hj)
  obtain ⟨i, hi, e⟩ := List.mem_map.1 this
  exact ⟨i, List.mem_range.1 hi, e⟩
/-- The word with the values at the images of the first k positions. -/
def plc (π : Nat → Nat) (v : Nat → Int) : Nat → Nat → Int
  | 0 => fun _ => 0
  | k + 1 => upd (plc π v k) (π k) (v k)
theorem plc_at {π : Nat → Nat} (h : InjN N π) (v : Nat → Int) : ∀ k, k ≤ N → ∀ i, i < k → plc π v k (π i) = v i
  | 0, _, i, hi => by omega
  | k + 1, hk, i, hi => by
    show upd (plc π v k) (π k) (v k) (π i) = v i
    by_cases e : i = k
    · subst e; exact upd_same _ _ _
    · rw [upd_ne _ _ fun e2 => e (h.inj i k (by omega) (by omega) e2)]
      exact plc_at h v k (by omega) i (by omega)
end
end Go.Proofs.YtgdmlmhpineibaaGreat
namespace Go.Proofs.YtgdmlmhpineibaaGreat
set_option linter.unusedVariables false
set_option linter.unusedSimpArgs false
open Go.RowKit

theorem infoInts : (Tryz.prog.info? 22).map (fun i => (i.zero, i.size, i.bytes)) = some (some (.slice none 0 0), 1, 24) := by kernel_rfl
/-- The rows of a list, as functions. -/
def rowsF (rows : List (List Int)) (i j : Nat) : Int := (rows.getD i []).getD j 0
/-- The first k rows are copied. -/
structure EK (w0 w : World) (g R N : Nat) (blk cap : Nat → Nat) (a : Nat → Nat → Int) (k : Nat) : Prop where
  arr : Own w w0.heap.size 22 g R (fun i => if i < k then rowV blk cap N i else .slice none 0 0)
  row : ∀ i, i < k → OwnC w w0.heap.size 3 (blk i) N (cap i) (iv (a i))
  apart : ∀ i j, i < k → j < k → i ≠ j → blk i ≠ blk j
  off : ∀ i, i < k → blk i ≠ g
  ex : Ex w0 w
theorem EK.later {w0 w w' : World} {g R N : Nat} {blk cap : Nat → Nat} {a : Nat → Nat → Int} {k : Nat} (h : EK w0 w g R N blk cap a k) (hx : Ex w w') : EK w0 w' g R N blk cap a k :=
  ⟨h.arr.ex hx, fun i hi => (h.row i hi).ex hx, h.apart, h.off, h.ex.trans hx⟩
theorem EK.put {w0 w : World} {g R N : Nat} {blk cap : Nat → Nat} {a : Nat → Nat → Int} {k : Nat} (h : EK w0 w g R N blk cap a k) {w' : World} (hx : Ex w w') {nb nc : Nat} (hn : OwnC w' w.heap.size 3 nb N nc (iv (a k))) (hw : w0.heap.size ≤ w.heap.size) :
    EK w0 (w'.setCell ⟨g, k, none⟩ (.slice (some ⟨nb, 0, none⟩) N nc)) g R N (upd blk k nb) (upd cap k nc) a (k + 1) := by
  have h1 := h.later hx
  have hgl := h.arr.lt.2
  have hnl := hn.lt.1
  have hng : nb ≠ g := by omega
  refine ⟨(h1.arr.set k _).congr fun i hi => ?_, fun i hi => ?_, fun i j hi hj hij => ?_, fun i hi => ?_, h1.arr.exSet (Nat.le_refl _) h1.ex k _⟩
  · by_cases e : i = k
    · subst e; rw [upd_same]
      show _ = (if i < i + 1 then rowV (upd blk i nb) (upd cap i nc) N i else .slice none 0 0)
      rw [if_pos (by omega)]; unfold rowV; rw [upd_same, upd_same]
    · rw [upd_ne _ _ e]
      show (if i < k then rowV blk cap N i else .slice none 0 0) = (if i < k + 1 then rowV (upd blk k nb) (upd cap k nc) N i else .slice none 0 0)
      by_cases h : i < k
      · rw [if_pos h, if_pos (by omega)]; unfold rowV; rw [upd_ne _ _ e, upd_ne _ _ e]
      · rw [if_neg h, if_neg (by omega)]
  · by_cases e : i = k
    · subst e; rw [upd_same, upd_same]
      exact (show OwnC w' w0.heap.size 3 nb N nc (iv (a i)) from ownsRow_mono hn hw).other hng _
    · rw [upd_ne _ _ e, upd_ne _ _ e]; exact (h1.row i (by omega)).other (h.off i (by omega)) _
  · by_cases e : i = k
    · subst e
      rw [upd_same, upd_ne _ _ (fun e => hij e.symm)]
      have := (h.row j (by omega)).lt.2
      omega
    · by_cases e2 : j = k
      · subst e2
        rw [upd_same, upd_ne _ _ e]
        have := (h.row i (by omega)).lt.2
        omega
      · rw [upd_ne _ _ e, upd_ne _ _ e2]; exact h.apart i j (by omega) (by omega) hij
  · by_cases e : i = k
    · subst e; rw [upd_same]; exact hng
    · rw [upd_ne _ _ e]; exact h.off i (by omega)
theorem EK.done {w0 w : World} {g R N : Nat} {blk cap : Nat → Nat} {a : Nat → Nat → Int} (h : EK w0 w g R N blk cap a R) : EM w w0.heap.size g R N blk cap a [] :=
  ⟨h.arr.congr fun i hi => by show (if i < R then rowV blk cap N i else .slice none 0 0) = _; rw [if_pos hi], h.row, h.apart, h.off, fun B hB => by cases hB⟩
set_option maxRecDepth 100000 in
set_option maxHeartbeats 4000000 in
theorem clone_any (w : World) (N R : Nat) (rows : List (List Int)) (v : Value) (hv : MSl w v rows) (hR : rows.length = R) (hR2 : R ≤ 256) (hN1 : 1 ≤ N) (hN : N ≤ 256) (hr : ∀ (i : Nat) (r : List Int), rows[i]? = some r → r.length = N) :
    Calls Tryz.prog 158 #[v] w fun r w' => ∃ g blk cap, r = .returned (.slice (some ⟨g, 0, none⟩) R R) ∧ EM w' w.heap.size g R N blk cap (rowsF rows) [] ∧ Ex w w' := by
  obtain ⟨za, zc, rfl, z1, z2, z3⟩ := hv.open
  rw [hR] at z1 z3 ⊢
  unfold maxLen at z2
  have Z3 := hid_ z3
  have HRN := hid_ hr
  have HRR := hid_ hR
  clear z3 hr hv hR
  go_enter Tryz.func158, Tryz.ntmps158
  go_wp2_with (at_make; refine wpList_make_arr _ rfl _ _ 45 rfl 22 (.slice none 0 0) 24 Tryz.underlying45 infoInts rfl _ R rfl rfl rfl (by omega) (by unfold maxLen; omega) ?_)
  intro w3 hown hx3
  obtain ⟨g, hgg⟩ : ∃ g, w.heap.size = g := ⟨_, rfl⟩
  have HSZ := hid_ hgg
  have HK0 := hid_ (show EK w w3 w.heap.size R N (fun _ => 0) (fun _ => 0) (rowsF rows) 0 from ⟨hown.congr fun i hi => by simp, fun i hi => by omega, fun i j hi => by omega, fun i hi => by omega, hx3⟩)
  rw [hgg] at HK0
  try simp only [hgg]
  clear hown hx3 hgg
  go_wp2_with fail
  go_loopw [11] (fun k' wr => ∃ (k : Nat) (blk cap : Nat → Nat), k ≤ R ∧ k' = .int .i64 k ∧ Hid (EK w wr g R N blk cap (rowsF rows) k)) (fun k' _ => R - (intOf k').toNat)
  case atStart => exact ⟨0, _, _, by omega, rfl, HK0⟩
  case round =>
    clear HK0
    obtain ⟨k, blk, cap, hk, rfl, hek⟩ := hrel
    by_cases hkR : k < R
    · obtain ⟨zb, zo, rfl, hzc⟩ := Z3.out (by omega)
      obtain ⟨r, hrr⟩ : ∃ r, rows[k]? = some r := ⟨_, List.getElem?_eq_getElem (by rw [HRR.out]; exact hkR)⟩
      obtain ⟨uz, c1, huz⟩ := hzc k r hrr
      have c1 := hek.out.ex.cell c1
      have hrl := HRN.out k r hrr
      have HC := hid_ (Clone_any wr r uz (huz.ex hek.out.ex) (by omega) (by omega))
      obtain ⟨ua, uc, rfl, _, u2, _⟩ := huz.open
      rw [hrl] at HC c1
      have i1 : (0 : Int) ≤ (k : Int) := by omega
      have i2 : (k : Int) < (R : Int) := by omega
      have HRF := hid_ (show (fun j => r.getD j 0) = rowsF rows k from by
        funext j; unfold rowsF; rw [List.getD_eq_getElem?_getD (l := rows), hrr]; rfl)
      have hcg := hek.out.arr.cell hkR
      have hfg := hek.out.arr.frz k
      clear hzc huz hrr hrl
      go_wp2_with (go_at_call 66; refine HC.out.mono ?_; rintro e w4 ⟨gg, cc, rfl, hown, hx4⟩; have hcg2 := hx4.cell hcg; have hfg2 := hx4.frz hcg hfg)
      rw [HRF.out] at hown
      have HP := hid_ (hek.out.put hx4 hown hek.out.ex.size)
      go_roundw
      case rel => first | exact ⟨k + 1, _, _, by omega, by go_num, HP⟩ | ((repeat apply Exists.intro); exact ⟨⟨k + 1, _, _, by omega, by go_num, HP⟩, rfl⟩)
      case measure => simp [intOf]; omega
    · obtain rfl : R = k := by omega
      have HE := hid_ hek.out.done
      have HX := hid_ hek.out.ex
      clear hek
      go_wp2_with fail
      go_ret
      exact ⟨g, blk, cap, rfl, HE.out, HX.out⟩
theorem EM.low {w : World} {base g R N : Nat} {blk cap : Nat → Nat} {a : Nat → Nat → Int} (h : EM w base g R N blk cap a []) {A : Addr} (hA : A.block < base) (u : Value) : EM (w.setCell A u) base g R N blk cap a [] :=
  ⟨h.arr.other (by have := h.arr.lt; omega) u, fun i hi => (h.row i hi).other (by have := (h.row i hi).lt; omega) u, h.apart, h.off, fun B hB => by cases hB⟩
/-- The first k rows as lists. -/
def rowsL (N k : Nat) (a : Nat → Nat → Int) : List (List Int) := (List.range k).map fun i => il N (a i)
theorem rowsL_get {N k i : Nat} {a : Nat → Nat → Int} (h : i < k) : (rowsL N k a)[i]? = some (il N (a i)) := by unfold rowsL; simp [h]
theorem rowsL_len (N k : Nat) (a : Nat → Nat → Int) : (rowsL N k a).length = k := by unfold rowsL; simp
theorem EM.msl {w : World} {base g R N k : Nat} {blk cap : Nat → Nat} {a : Nat → Nat → Int} {avs : List Nat} (h : EM w base g R N blk cap a avs) (hk : k ≤ R) (hR : R ≤ 256) : MSl w (.slice (some ⟨g, 0, none⟩) k k) (rowsL N k a) := by
  refine ⟨(List.range k).map fun i => rowV blk cap N i, ?_, fun i r u h1 h2 => ?_⟩
  · rw [rowsL_len]
    refine ⟨by simp, some ⟨g, 0, none⟩, k, rfl, Nat.le_refl _, by unfold maxLen; omega, fun h0 => ⟨g, 0, rfl, fun i z hz => ?_⟩⟩
    have hi : i < k := by have := (List.getElem?_eq_some_iff.1 hz).1; simpa using this
    simp [hi] at hz
    subst hz
    rw [Nat.zero_add]
    exact h.cell (by omega)
  · have hi : i < k := by have := (List.getElem?_eq_some_iff.1 h1).1; rw [rowsL_len] at this; exact this
    rw [rowsL_get hi] at h1
    injection h1 with h1
    subst h1
    simp [hi] at h2
    subst h2
    exact (h.row i (by omega)).isl
set_option maxRecDepth 100000 in
set_option maxHeartbeats 4000000 in
theorem canon_any2 {p m : Nat} {ml : List Int} {b x0 : Nat} (w : World) (hg : GFat w b p m ml x0) (hx1 : 1 ≤ x0) (hx2 : x0 < p ^ m) (N R : Nat) (rows : List (List Int)) (v : Value) (hv : MSl w v rows) (hR : rows.length = R) (hR2 : R ≤ 256) (hN1 : 1 ≤ N) (hN : N ≤ 256) (hr : ∀ (i : Nat) (r : List Int), rows[i]? = some r → r.length = N ∧ entS (p ^ m) r = 0) :
    Calls Tryz.prog 125 #[.pointer (some ⟨b, 0, none⟩), v, .int .i64 N] w fun r w' => ∃ piv pv rv a', r = .returned (.tuple #[rv, pv]) ∧ ElO p m ml N R (rowsF rows) a' piv ∧ MSl w' rv (rowsL N piv.length a') ∧ ISl w' pv (pI piv) ∧ Ex w w' ∧ ∃ g blk cap, rv = .slice (some ⟨g, 0, none⟩) piv.length piv.length ∧ EM w' w.heap.size g R N blk cap a' [] ∧ ∀ B, pv.ownBlock = some B → w.heap.size ≤ B := by
  have hrng : Rng p m R N (rowsF rows) := fun i hi j hj => by
    obtain ⟨r, hrr⟩ : ∃ r, rows[i]? = some r := ⟨_, List.getElem?_eq_getElem (by omega)⟩
    obtain ⟨h1, h2⟩ := hr i r hrr
    have e : rowsF rows i j = r.getD j 0 := by unfold rowsF; rw [List.getD_eq_getElem?_getD (l := rows), hrr]; rfl
    rw [e]
    refine entS_rng h2 _ ?_
    rw [List.getD_eq_getElem?_getD, List.getElem?_eq_getElem (by omega)]; exact List.getElem_mem _
  have HC := hid_ (clone_any w N R rows v hv hR hR2 hN1 hN fun i r h => (hr i r h).1)
  have HG := hid_ hg
  have HRG := hid_ hrng
  clear hv hr hrng hg
  go_enter Tryz.func125, Tryz.ntmps125
  go_wp2_with (go_at_call 158; refine HC.out.mono ?_; rintro e w1 ⟨g, blk, cap, rfl, hem, hx1_⟩)
  refine (elim_any w w1 HG.out hx1 hx2 hx1_ hem (Nat.le_refl _) hN hR2 HRG.out).mono ?_
  rintro e w2 ⟨piv, pv, det, blk', cap', a', rfl, hem2, hel, hpv, hx2_, hpb⟩
  have HEM := hid_ hem2
  have HEL := hid_ hel
  have HX := hid_ hx2_
  have HPV := hid_ hpv
  have HPB := hid_ hpb
  have hk : piv.length ≤ R := by obtain ⟨c, _, h, _⟩ := hel; exact h.le
  obtain ⟨pa, pc, rfl, _, p2_, _⟩ := hpv.open
  rw [pI_len] at HPV HPB ⊢
  clear hem hem2 hel hpv hx1_ hx2_ HC hpb
  have k1 : (0 : Int) ≤ (piv.length : Int) := by omega
  have k2 : (piv.length : Int) ≤ (R : Int) := by omega
  have HMS := hid_ (HEM.out.msl hk hR2)
  go_wp2_with fail
  go_ret2
  exact ⟨piv, _, _, a', rfl, HEL.out, HMS.out, HPV.out, HX.out, g, blk', cap', rfl, HEM.out, HPB.out⟩
end Go.Proofs.YtgdmlmhpineibaaGreat
namespace Go.Proofs.YtgdmlmhpineibaaGreat
set_option linter.unusedVariables false
set_option linter.unusedSimpArgs false
open Go.RowKit

theorem elo_rows {p m : Nat} {ml : List Int} {N R : Nat} {a a' : Nat → Nat → Int} {piv : List Nat} (h : ElO p m ml N R a a' piv) : piv.length ≤ R ∧ ∀ t ∈ rowsL N piv.length a', t.length = N ∧ entS (p ^ m) t = 0 := by
  obtain ⟨c, hc, hP, _, hS⟩ := h
  refine ⟨hP.le, fun t ht => ?_⟩
  unfold rowsL at ht
  obtain ⟨i, hi, rfl⟩ := List.mem_map.1 ht
  have hi := List.mem_range.1 hi
  refine ⟨il_len _ _, entS_of fun x hx => ?_⟩
  obtain ⟨j, hj, rfl⟩ := il_mem hx
  exact hP.rng i (by have := hP.le; omega) j hj
end Go.Proofs.YtgdmlmhpineibaaGreat
