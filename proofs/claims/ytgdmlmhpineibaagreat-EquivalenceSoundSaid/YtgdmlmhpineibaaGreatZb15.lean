/- Plain: the canonical rows are determined by the words that are orthogonal to them; the space that rows generate. -/
/- Walks of matrix.add and of the field's Scale. -/
import Derived.Test.YtgdmlmhpineibaaGreatZb12
import Derived.Test.YtgdmlmhpineibaaGreatZb13
namespace Go.Proofs.YtgdmlmhpineibaaGreat
set_option linter.unusedVariables false
set_option linter.unusedSimpArgs false
open Go.RowKit

theorem kneg_zero {p m : Nat} (hp : 1 ≤ p) : kneg p m 0 = 0 := by
  have h := kadd_kneg (p := p) (m := m) hp 0
  rwa [zero_kadd hp (kneg_lt hp 0)] at h
theorem kadd_eq_zero {p m a b : Nat} (hp : 1 ≤ p) (ha : a < p ^ m) (hb : b < p ^ m) (h : kadd p m a (kneg p m b) = 0) : a = b := by
  have h1 : kadd p m (kadd p m a (kneg p m b)) b = a := by
    rw [kadd_assoc hp, kadd_comm (kneg p m b), kadd_kneg hp, kadd_zero hp ha]
  rw [h, zero_kadd hp hb] at h1
  exact h1.symm
theorem kin_inj {q : Nat} {x y : Int} (hx : 0 ≤ x ∧ x < q) (hy : 0 ≤ y ∧ y < q) (h : kin q x = kin q y) : x = y := by
  have h1 := kin_code hx.1 hx.2
  have h2 := kin_code hy.1 hy.2
  rw [h] at h1
  omega
theorem kin_one {p m : Nat} (hp : 2 ≤ p) (hm : 1 ≤ m) : kin (p ^ m) 1 = 1 := kin_of (q := p ^ m) (x := 1) (one_lt_q hp hm)
/-- Two ascending lists with the same members are equal. -/
theorem asc_ext : ∀ {l k : List Nat}, l.Pairwise (· < ·) → k.Pairwise (· < ·) → (∀ x, x ∈ l ↔ x ∈ k) → l = k
  | [], [], _, _, _ => rfl
  | [], y :: k, _, _, h => by have := (h y).2 (List.mem_cons_self ..); cases this
  | x :: l, [], _, _, h => by have := (h x).1 (List.mem_cons_self ..); cases this
  | x :: l, y :: k, hl, hk, h => by
    obtain ⟨l1, l2⟩ := List.pairwise_cons.1 hl
    obtain ⟨k1, k2⟩ := List.pairwise_cons.1 hk
    have e : x = y := by
      rcases List.mem_cons.1 ((h x).1 (List.mem_cons_self ..)) with e | e
      · exact e
      · rcases List.mem_cons.1 ((h y).2 (List.mem_cons_self ..)) with e2 | e2
        · exact e2.symm
        · have h1 := k1 x e
          have h2 := l1 y e2
          omega
    subst e
    rw [asc_ext l2 k2 fun z => ?_]
    constructor
    · intro hz
      rcases List.mem_cons.1 ((h z).1 (List.mem_cons_of_mem _ hz)) with e | e
      · have := l1 z hz; omega
      · exact e
    · intro hz
      rcases List.mem_cons.1 ((h z).2 (List.mem_cons_of_mem _ hz)) with e | e
      · have := k1 z hz; omega
      · exact e
section
variable {p m : Nat} {ml : List Int} {N R : Nat} {a : Nat → Nat → Int} {piv : List Nat} {c0 c : Nat} {x : Nat → Int}
theorem Kv.ex (hP : PV p m R N a piv c0) (hnp : ∀ i : Nat, piv[i]? ≠ some c) : ∀ k, k ≤ piv.length → ∃ x, Kv p m a piv c k x
  | 0, _ => ⟨_, Kv.zero⟩
  | k + 1, hk => by
    obtain ⟨x, hx⟩ := Kv.ex hP hnp k (by omega)
    have hq : piv[k]? = some (piv[k]'(by omega)) := List.getElem?_eq_getElem _
    exact ⟨_, hx.succ hP hq fun e => hnp k (by rw [hq, e])⟩
/-- The product with a word that is zero where the row is not, but at one position. -/
theorem dt_single (hp : 2 ≤ p) {f : Nat → Int} {k : Nat} (hk : k < N) (h : ∀ j, j < N → j ≠ k → f j ≠ 0 → x j = 0) : dt p m ml N f x = kmul p m (lw ml) (kin (p ^ m) (f k)) (kin (p ^ m) (x k)) := by
  have hlen : (il N f).length = N := il_len _ _
  have hg : ∀ j, j < N → (il N f).getD j 0 = f j := fun j hj => by
    rw [List.getD_eq_getElem?_getD, il_get hj]; rfl
  have e1 : kdot p m ml (il N f) (il N x) 0 = kadd p m (kdot p m ml (il N f) (il N fun _ => (0 : Int)) 0) (kmul p m (lw ml) (kin (p ^ m) ((il N f).getD k 0)) (kin (p ^ m) (x k))) :=
    dot_at hp hlen hk rfl fun j hj hjk hr => h j hj hjk (by rwa [hg j hj] at hr)
  have e0 : kdot p m ml (il N f) (il N fun _ => (0 : Int)) 0 = 0 := by
    have := dt_zero (p := p) (m := m) (ml := ml) (N := N) hp (f := fun _ => 0) (x := f) (fun j _ => rfl)
    rw [dt_symm] at this
    exact this
  show kdot p m ml (il N f) (il N x) 0 = _
  rw [e1, e0, hg k hk, zero_kadd (by omega) (kmul_lt (by omega) _ _)]
theorem Kv.dt_piv (hp : 2 ≤ p) (hm : 1 ≤ m) (hc : c < N) (h : Kv p m a piv c piv.length x) {f : Nat → Int} {i q : Nat} (hq : piv[i]? = some q) (hqN : q < N) (hqc : q ≠ c) (hfq : f q = 1) (hz : ∀ k r : Nat, piv[k]? = some r → k ≠ i → f r = 0) :
    dt p m ml N f x = kadd p m (kin (p ^ m) (f c)) (kneg p m (kin (p ^ m) (a i c))) := by
  have hlen : (il N f).length = N := il_len _ _
  have hq0 : 0 < p ^ m := Nat.pow_pos (by omega)
  have hg : ∀ j, j < N → (il N f).getD j 0 = f j := fun j hj => by
    rw [List.getD_eq_getElem?_getD, il_get hj]; rfl
  have hil : i < piv.length := (List.getElem?_eq_some_iff.1 hq).1
  have e1 : dt p m ml N f (upd (fun _ => (0 : Int)) c 1) = kin (p ^ m) (f c) := by
    rw [dt_single hp hc fun j hj hjc _ => (show upd (fun _ => (0 : Int)) c 1 j = 0 from upd_ne _ _ hjc), upd_same, kin_one hp hm, kmul_one hp hm (kin_lt hq0 _)]
  have e2 : kdot p m ml (il N f) (il N x) 0 = kadd p m (kdot p m ml (il N f) (il N (upd (fun _ => (0 : Int)) c 1)) 0) (kmul p m (lw ml) (kin (p ^ m) ((il N f).getD q 0)) (kin (p ^ m) (x q))) :=
    dot_at hp hlen hqN (upd_ne _ _ hqc) fun j hj hjq hr => by
      rw [hg j hj] at hr
      by_cases e : j = c
      · rw [e, h.c1, upd_same]
      · rw [upd_ne _ _ e]
        refine h.z j e fun k hk hkp => ?_
        by_cases ek : k = i
        · subst ek; rw [hq] at hkp; injection hkp with hkp; exact hjq hkp.symm
        · exact hr (hz k j hkp ek)
  show kdot p m ml (il N f) (il N x) 0 = _
  rw [e2]
  show kadd p m (dt p m ml N f (upd (fun _ => (0 : Int)) c 1)) _ = _
  rw [e1, hg q hqN, hfq, h.pv i q hil hq, kin_one hp hm, kin_of (kneg_lt (by omega) _), one_kmul hp hm (kneg_lt (by omega) _)]
/-- Reduced rows. -/
def RR (p m N R : Nat) (a : Nat → Nat → Int) (piv : List Nat) : Prop := ∃ c, c ≤ N ∧ PV p m R N a piv c ∧ (piv.length = R ∨ c = N)
theorem RR.sol (hp : 2 ≤ p) (hm : 1 ≤ m) (h : RR p m N R a piv) (hc : c < N) (hnp : ∀ i : Nat, piv[i]? ≠ some c) (hx : Kv p m a piv c piv.length x) : Sol p m ml N R a x := by
  obtain ⟨c1, h1, h2, h3⟩ := h
  exact hx.sol hp hm h2 h3 h1 hc hnp
theorem RR.piv_iff (hp : 2 ≤ p) (hm : 1 ≤ m) (h : RR p m N R a piv) (hc : c < N) : c ∈ piv ↔ ¬ ∃ x, Sol p m ml N R a x ∧ kin (p ^ m) (x c) ≠ 0 ∧ ∀ j, c < j → x j = 0 := by
  have h0 := h
  obtain ⟨c1, h1, hP, h3⟩ := h
  constructor
  · rintro hm1 ⟨x, hS, hx, hz⟩
    obtain ⟨i, hi, e⟩ := List.getElem_of_mem hm1
    have hq : piv[i]? = some c := by rw [List.getElem?_eq_getElem hi, e]
    have := hS i (by have := hP.le; omega)
    rw [dt_single hp hc fun j hj hjc hf => by
      rcases Nat.lt_or_gt_of_ne hjc with e1 | e1
      · exact absurd (hP.lead i c j hq e1) hf
      · exact hz j e1, hP.one i c hq, kin_one hp hm, one_kmul hp hm (kin_lt (Nat.pow_pos (by omega)) _)] at this
    exact hx this
  · intro hn
    by_cases hm1 : c ∈ piv
    · exact hm1
    · exfalso
      have hnp : ∀ i : Nat, piv[i]? ≠ some c := fun i hi => hm1 (List.mem_of_getElem? hi)
      obtain ⟨x, hx⟩ := Kv.ex hP hnp piv.length (Nat.le_refl _)
      refine hn ⟨x, h0.sol hp hm hc hnp hx, by rw [hx.c1, kin_one hp hm]; decide, fun j hj => ?_⟩
      by_cases hj2 : ∃ i, i < piv.length ∧ piv[i]? = some j
      · obtain ⟨i, hi, hij⟩ := hj2
        rw [hx.pv i j hi hij, hP.lead i j c hij hj, kin_zero, kneg_zero (by omega)]; rfl
      · exact hx.z j (by omega) fun i hi hij => hj2 ⟨i, hi, hij⟩
theorem RR.asc (h : RR p m N R a piv) : piv.Pairwise (· < ·) ∧ ∀ q ∈ piv, q < N := by
  obtain ⟨c1, h1, hP, h3⟩ := h
  refine ⟨List.pairwise_iff_getElem.2 fun i j hi hj hij => hP.asc i j _ _ hij (List.getElem?_eq_getElem hi) (List.getElem?_eq_getElem hj), fun q hq => ?_⟩
  obtain ⟨i, hi, e⟩ := List.getElem_of_mem hq
  have := hP.lt i q (by rw [List.getElem?_eq_getElem hi, e])
  omega
/-- Reduced rows with the same orthogonal words are the same. -/
theorem rr_uniq (hp : 2 ≤ p) (hm : 1 ≤ m) {R' : Nat} {a' : Nat → Nat → Int} {piv' : List Nat} (h : RR p m N R a piv) (h' : RR p m N R' a' piv') (hS : ∀ x, Sol p m ml N R a x ↔ Sol p m ml N R' a' x) :
    piv = piv' ∧ ∀ i, i < piv.length → ∀ j, j < N → a i j = a' i j := by
  have hpe : piv = piv' := asc_ext h.asc.1 h'.asc.1 fun q => by
    constructor
    · intro hq
      have hqN := h.asc.2 q hq
      refine (h'.piv_iff (ml := ml) hp hm hqN).2 ?_
      rintro ⟨x, h1, h2⟩
      exact (h.piv_iff (ml := ml) hp hm hqN).1 hq ⟨x, (hS x).2 h1, h2⟩
    · intro hq
      have hqN := h'.asc.2 q hq
      refine (h.piv_iff (ml := ml) hp hm hqN).2 ?_
      rintro ⟨x, h1, h2⟩
      exact (h'.piv_iff (ml := ml) hp hm hqN).1 hq ⟨x, (hS x).1 h1, h2⟩
  subst hpe
  refine ⟨rfl, fun i hi j hj => ?_⟩
  have hq : piv[i]? = some piv[i] := List.getElem?_eq_getElem hi
  obtain ⟨q, hqe⟩ : ∃ q, piv[i] = q := ⟨_, rfl⟩
  rw [hqe] at hq
  have hqN := h.asc.2 q (List.mem_of_getElem? hq)
  have h0' := h'
  obtain ⟨c1, h1, hP, h3⟩ := h
  obtain ⟨c1', h1', hP', h3'⟩ := h'
  by_cases hjp : ∃ k : Nat, piv[k]? = some j
  · obtain ⟨k, hk⟩ := hjp
    by_cases e : k = i
    · subst e
      rw [hP.one k j hk, hP'.one k j hk]
    · rw [hP.zer k j i hk (by have := hP.le; omega) (fun e2 => e e2.symm), hP'.zer k j i hk (by have := hP'.le; omega) (fun e2 => e e2.symm)]
  · have hnp : ∀ k : Nat, piv[k]? ≠ some j := fun k hk => hjp ⟨k, hk⟩
    obtain ⟨x, hx⟩ := Kv.ex hP' hnp piv.length (Nat.le_refl _)
    have hs := (hS x).2 (h0'.sol hp hm hj hnp hx) i (by have := hP.le; omega)
    rw [hx.dt_piv hp hm hj hq hqN (fun e => hnp i (by rw [← e]; exact hq)) (hP.one i q hq) fun k r hk hki => hP.zer k r i hk (by have := hP.le; omega) (fun e => hki e.symm)] at hs
    have hq0 : 0 < p ^ m := Nat.pow_pos (by omega)
    exact kin_inj (hP.rng i (by have := hP.le; omega) j hj) (hP'.rng i (by have := hP'.le; omega) j hj) (kadd_eq_zero (by omega) (kin_lt hq0 _) (kin_lt hq0 _) hs)
/-- Orthogonal to all words that are orthogonal to the rows: in the space of the rows. -/
def Cl (p m : Nat) (ml : List Int) (N R : Nat) (a : Nat → Nat → Int) (v : Nat → Int) : Prop := ∀ x, Sol p m ml N R a x → dt p m ml N v x = 0
/-- Rows with a place each: 1 there, and 0 at the places of the rows ahead. -/
structure Ech (N : Nat) (a : Nat → Nat → Int) (pl : Nat → Nat) (n : Nat) : Prop where
  lt : ∀ i, i < n → pl i < N
  one : ∀ i, i < n → a i (pl i) = 1
  zer : ∀ i j, j < i → i < n → a i (pl j) = 0
theorem Ech.mono {pl : Nat → Nat} {n k : Nat} (h : Ech N a pl n) (hk : k ≤ n) : Ech N a pl k := ⟨fun i hi => h.lt i (by omega), fun i hi => h.one i (by omega), fun i j hj hi => h.zer i j hj (by omega)⟩
/-- A word can be completed at the places. -/
theorem Ech.solve (hp : 2 ≤ p) (hm : 1 ≤ m) {pl : Nat → Nat} : ∀ n, Ech N a pl n → ∀ y : Nat → Int, ∃ x, (∀ j, (∀ i, i < n → pl i ≠ j) → x j = y j) ∧ Sol p m ml N n a x
  | 0, _, y => ⟨y, fun _ _ => rfl, fun i hi => by omega⟩
  | n + 1, h, y => by
    have hq0 : 0 < p ^ m := Nat.pow_pos (by omega)
    obtain ⟨s, hs⟩ : ∃ s, dt p m ml N (a n) (upd y (pl n) 0) = s := ⟨_, rfl⟩
    have hsl : s < p ^ m := by rw [← hs]; exact dt_lt hp _ _
    obtain ⟨x, hx1, hx2⟩ := Ech.solve hp hm n (h.mono (by omega)) (upd y (pl n) ((kneg p m s : Nat) : Int))
    refine ⟨x, fun j hj => ?_, fun i hi => ?_⟩
    · rw [hx1 j fun i hi => hj i (by omega), upd_ne _ _ (fun e => hj n (by omega) e.symm)]
    · by_cases e : i = n
      · subst e
        have hlen : (il N (a i)).length = N := il_len _ _
        have hg : ∀ j, j < N → (il N (a i)).getD j 0 = a i j := fun j hj => by
          rw [List.getD_eq_getElem?_getD, il_get hj]; rfl
        have hpn := h.lt i (by omega)
        have e1 : kdot p m ml (il N (a i)) (il N x) 0 = kadd p m (kdot p m ml (il N (a i)) (il N (upd y (pl i) 0)) 0) (kmul p m (lw ml) (kin (p ^ m) ((il N (a i)).getD (pl i) 0)) (kin (p ^ m) (x (pl i)))) :=
          dot_at hp hlen hpn (upd_same _ _ _) fun j hj hji hr => by
            rw [hg j hj] at hr
            rw [hx1 j fun k hk e => hr (by rw [← e]; exact h.zer i k hk (by omega)), upd_ne _ _ hji, upd_ne _ _ hji]
        have e3 : x (pl i) = ((kneg p m s : Nat) : Int) := by
          rw [hx1 (pl i) fun k hk e => by
            have h1 := h.zer i k hk (by omega)
            rw [e, h.one i (by omega)] at h1
            exact absurd h1 (by decide), upd_same]
        show kdot p m ml (il N (a i)) (il N x) 0 = 0
        rw [e1, hg _ hpn, h.one i (by omega), e3, kin_one hp hm, kin_of (kneg_lt (by omega) _), one_kmul hp hm (kneg_lt (by omega) _)]
        show kadd p m (dt p m ml N (a i) (upd y (pl i) 0)) _ = 0
        rw [hs, kadd_kneg (by omega)]
      · exact hx2 i (by omega)
/-- A word in the space that is zero at the places is zero. -/
theorem Ech.zero (hp : 2 ≤ p) (hm : 1 ≤ m) {pl : Nat → Nat} {n : Nat} (h : Ech N a pl n) {r : Nat → Int} (hz : ∀ i, i < n → r (pl i) = 0) (hc : Cl p m ml N n a r) {k : Nat} (hk : k < N) : kin (p ^ m) (r k) = 0 := by
  by_cases hkp : ∃ i, i < n ∧ pl i = k
  · obtain ⟨i, hi, rfl⟩ := hkp
    rw [hz i hi, kin_zero]
  · obtain ⟨x, h1, h2⟩ := Ech.solve (ml := ml) hp hm n h (upd (fun _ => 0) k 1)
    have h3 := hc x h2
    rw [dt_single hp hk fun j hj hjk hr => by
      rw [h1 j fun i hi e => hr (by rw [← e]; exact hz i hi), upd_ne _ _ hjk], h1 k fun i hi e => hkp ⟨i, hi, e⟩, upd_same, kin_one hp hm, kmul_one hp hm (kin_lt (Nat.pow_pos (by omega)) _)] at h3
    exact h3
end
end Go.Proofs.YtgdmlmhpineibaaGreat
namespace Go.Proofs.YtgdmlmhpineibaaGreat
set_option linter.unusedVariables false
set_option linter.unusedSimpArgs false
open Go.RowKit

theorem grow_trans {a b c : World} {row : Option Nat} (h : a.grownBy b row) (k : b.grownBy c row) : a.grownBy c row :=
  ⟨k.os.trans h.os, k.tape.trans h.tape, k.output.trans h.output, Nat.le_trans h.size k.size, fun i hi hne => (k.block i (Nat.lt_of_lt_of_le hi h.size) hne).trans (h.block i hi hne)⟩
theorem grow_ex {a b : World} (row : Option Nat) (h : Ex a b) : a.grownBy b row := ⟨h.os, h.tape, h.output, h.size, fun i hi _ => h.block i hi⟩
theorem grow_set (w : World) (g j : Nat) (u : Value) : w.grownBy (w.setCell ⟨g, j, none⟩ u) (some g) := by
  have h : Below g w (w.setCell ⟨g, j, none⟩ u) := Below.setCell (Below.refl g w) (Nat.le_refl _) u
  refine ⟨h.os, h.tape, h.output, h.size, fun k hk hne => ?_⟩
  have hk' : k ≠ g := fun e => hne (by rw [e])
  by_cases hlt : k < g
  · exact h.block k hlt
  · exact Below.heap_setCell w ⟨g, j, none⟩ u k hk'
set_option maxRecDepth 100000 in
set_option maxHeartbeats 4000000 in
theorem madd_any {p m : Nat} {ml : List Int} {b x0 : Nat} (w0 w : World) (hg : GFat w0 b p m ml x0) (hx : Ex w0 w) (N vb cap base : Nat) (f u : Nat → Int) (a : Int) (uv : Value) (hb : w0.heap.size ≤ base) (hv : OwnC w base 3 vb N cap (iv f)) (hu : ISl w uv (il N u)) (hub : uv.ownBlock ≠ some vb) (hN : N ≤ 1000) :
    Calls Tryz.prog 160 #[.pointer (some ⟨b, 0, none⟩), .slice (some ⟨vb, 0, none⟩) N cap, .int .i64 a, uv] w fun r w' => (∃ t, r = .returned t) ∧ OwnC w' base 3 vb N cap (iv (addF p m ml f (kin (p ^ m) a) u)) ∧ w.grownBy w' (some vb) := by
  obtain ⟨ua, uc, rfl, u1, u2, u3⟩ := hu.open
  rw [il_len] at u1 u3 ⊢
  unfold maxLen at u2
  obtain ⟨c1, c2⟩ := hv.caps
  unfold maxLen at c2
  have U3 := hid_ u3
  have HUB := hid_ hub
  have HX := hid_ hx
  have HGF := hid_ hg
  have HV := hid_ hv
  have HO := hid_ (show OwnC w base 3 vb N cap (iv fun j => if j < 0 then addF p m ml f (kin (p ^ m) a) u j else f j) from hv.icongr fun j _ => by simp)
  clear u3 hu hub hv hx hg
  go_enter Tryz.func160, Tryz.ntmps160
  go_wp2_with fail
  go_loopw [12] (fun k' wr => ∃ k : Nat, k ≤ N ∧ k' = .int .i64 k ∧ Hid (OwnC wr base 3 vb N cap (iv fun j => if j < k then addF p m ml f (kin (p ^ m) a) u j else f j)) ∧ Hid (w.grownBy wr (some vb))) (fun k' _ => N - (intOf k').toNat)
  case atStart => exact ⟨0, by omega, rfl, HO, hid_ (World.grownBy.refl _ _)⟩
  case round =>
    clear HO
    obtain ⟨k, hk, rfl, hown, hgr⟩ := hrel
    by_cases hkl : k < N
    · obtain ⟨ub, uo, rfl, huc⟩ := U3.out (by omega)
      have hne : ub ≠ vb := fun e => HUB.out (by rw [e]; rfl)
      have d1 := hgr.out.cell (huc k (u k) (il_get hkl u)) (by intro e; injection e with e; exact hne e)
      have i1 : (0 : Int) ≤ (k : Int) := by omega
      have i2 : (k : Int) < (N : Int) := by omega
      have HEX := hid_ (Ex.grown HX.out HV.out hb hgr.out)
      clear huc hne
      by_cases h0 : u k = 0
      · have hb0 : (u k != 0) = false := by simp [h0]
        have HO2 := hid_ (show OwnC wr base 3 vb N cap (iv fun j => if j < k + 1 then addF p m ml f (kin (p ^ m) a) u j else f j) from hown.out.icongr fun j hj => by
          by_cases e : j = k
          · subst e; rw [if_neg (show ¬ j < j by omega), if_pos (show j < j + 1 by omega)]; unfold addF; rw [if_pos h0]
          · by_cases h : j < k
            · rw [if_pos h, if_pos (show j < k + 1 by omega)]
            · rw [if_neg h, if_neg (show ¬ j < k + 1 by omega)])
        clear hown h0
        go_wp2_with fail
        go_roundw
        case rel => exact ⟨k + 1, by omega, by go_num, HO2, hgr⟩
        case measure => simp [intOf]; omega
      · have hb0 : (u k != 0) = true := by simpa using h0
        have hcv : wr.cell? ⟨vb, k, none⟩ = some (.int .i64 (f k)) := by
          rw [hown.out.cell hkl]; show some (Value.int .i64 (if k < k then _ else f k)) = _; rw [if_neg (by omega)]
        have hfv := hown.out.frz k
        obtain ⟨K1, hK1⟩ : ∃ K, kmul p m (lw ml) (kin (p ^ m) a) (kin (p ^ m) (u k)) = K := ⟨_, rfl⟩
        have hK1l : K1 < p ^ m := by rw [← hK1]; exact kmul_lt (by have := HGF.out.sh.p2; omega) _ _
        have HMUL := hid_ (fun w' (h : Ex w0 w') => Mul_any w' (HGF.out.ex h) a (u k))
        rw [hK1] at HMUL
        obtain ⟨K2, hK2⟩ : ∃ K, kadd p m (kin (p ^ m) (f k)) (kin (p ^ m) (K1 : Nat)) = K := ⟨_, rfl⟩
        have HADD := hid_ (fun w' (h : Ex w0 w') => Add_any w' (HGF.out.ex h) (f k) (K1 : Nat))
        rw [hK2] at HADD
        have HAF := hid_ (show addF p m ml f (kin (p ^ m) a) u k = (K2 : Nat) from by
          unfold addF; rw [if_neg h0, hK1, ← hK2, kin_of hK1l])
        clear hK1 hK2 hK1l h0
        go_upto_region 4 with fail
        have E1 : Ex wr wr.drew := (Ex.refl wr).drew
        have G0 : Ex w0 wr.drew := HEX.out.trans E1
        go_region_law
          ((first
            | (go_simp; go_at_call 59; (with_reducible refine (HMUL.out _ (HEX.out.drewN _)).mono ?_); rintro e wx1 ⟨rfl, n1, rfl⟩)
            | (go_simp; go_at_call 59; (with_reducible refine (HMUL.out _ G0).mono ?_); rintro e wx1 ⟨rfl, n1, rfl⟩)
            | (go_simp; go_at_call 94; (with_reducible refine (HADD.out _ (HEX.out.drewN _)).mono ?_); rintro e wx2 ⟨rfl, n2, rfl⟩)))
        all_goals
          have HO2 := hid_ (fun n => ((hown.out.drewN n).set k (.int .i64 (K2 : Nat))))
          have HG2 := hid_ (fun n => grow_trans hgr.out (grow_trans (grow_ex (some vb) ((Ex.refl wr).drewN n)) (grow_set (wr.drewN n) vb k (.int .i64 (K2 : Nat)))))
          clear hown hgr HMUL HADD E1 G0 hcv hfv
          go_wp2_with fail
          go_roundw
          case rel => exact ⟨k + 1, by omega, by go_num, hid_ ((HO2.out _).congr fun j hj => by
            by_cases e : j = k
            · subst e; rw [upd_same]; show _ = Value.int .i64 (if j < j + 1 then addF p m ml f (kin (p ^ m) a) u j else f j); rw [if_pos (by omega), HAF.out]
            · rw [upd_ne _ _ e]; show Value.int .i64 (if j < k then addF p m ml f (kin (p ^ m) a) u j else f j) = Value.int .i64 (if j < k + 1 then addF p m ml f (kin (p ^ m) a) u j else f j)
              by_cases h : j < k
              · rw [if_pos h, if_pos (by omega)]
              · rw [if_neg h, if_neg (by omega)]), hid_ (HG2.out _)⟩
          case measure => simp [intOf]; omega
    · obtain rfl : N = k := by omega
      have HO2 := hid_ (show OwnC wr base 3 vb N cap (iv (addF p m ml f (kin (p ^ m) a) u)) from hown.out.icongr fun j hj => by rw [if_pos hj])
      clear hown
      go_wp2_with fail
      go_end0
      exact ⟨⟨_, rfl⟩, HO2.out, hgr.out⟩
set_option maxRecDepth 100000 in
set_option maxHeartbeats 4000000 in
theorem Scale_any {p m : Nat} {ml : List Int} {b x0 : Nat} (w : World) (hg : GFat w b p m ml x0) (N : Nat) (u : Nat → Int) (a : Int) (uv : Value) (hu : ISl w uv (il N u)) (hN : N ≤ 1000) :
    Calls Tryz.prog 152 #[.pointer (some ⟨b, 0, none⟩), .int .i64 a, uv] w fun r w' => ∃ g, r = .returned (.slice (some ⟨g, 0, none⟩) N N) ∧ Own w' w.heap.size 3 g N (iv (sclF p m ml (kin (p ^ m) a) u)) ∧ Ex w w' := by
  obtain ⟨ua, uc, rfl, u1, u2, u3⟩ := hu.open
  rw [il_len] at u1 u3 ⊢
  unfold maxLen at u2
  have U3 := hid_ u3
  have HGF := hid_ hg
  clear u3 hu hg
  go_enter Tryz.func152, Tryz.ntmps152
  go_wp2_with (at_make; refine wpList_make_arr _ rfl _ _ 22 rfl 3 (.int .i64 0) 8 Tryz.underlying22 infoInt rfl _ N rfl rfl rfl (by omega) (by unfold maxLen; omega) ?_)
  intro w3 hown hx3
  obtain ⟨g, hgg⟩ : ∃ g, w.heap.size = g := ⟨_, rfl⟩
  have HSZ := hid_ hgg
  rw [hgg] at hown ⊢
  try simp only [hgg]
  have HO := hid_ (show Own w3 g 3 g N (iv fun j => if j < 0 then sclF p m ml (kin (p ^ m) a) u j else 0) from hown.icongr fun j _ => by simp)
  have HX := hid_ hx3
  clear hown hx3 hgg
  go_wp2_with fail
  go_loopw [15] (fun k' wr => ∃ k : Nat, k ≤ N ∧ k' = .int .i64 k ∧ Hid (Own wr g 3 g N (iv fun j => if j < k then sclF p m ml (kin (p ^ m) a) u j else 0)) ∧ Hid (Ex w wr)) (fun k' _ => N - (intOf k').toNat)
  case atStart => exact ⟨0, by omega, rfl, HO, HX⟩
  case round =>
    clear HO HX
    obtain ⟨k, hk, rfl, hown, hx⟩ := hrel
    by_cases hkl : k < N
    · obtain ⟨ub, uo, rfl, huc⟩ := U3.out (by omega)
      have d1 := hx.out.cell (huc k (u k) (il_get hkl u))
      have i1 : (0 : Int) ≤ (k : Int) := by omega
      have i2 : (k : Int) < (N : Int) := by omega
      have hcv := hown.out.cell hkl
      have hfv := hown.out.frz k
      obtain ⟨K1, hK1⟩ : ∃ K, kmul p m (lw ml) (kin (p ^ m) a) (kin (p ^ m) (u k)) = K := ⟨_, rfl⟩
      have HMUL := hid_ (Mul_any wr (HGF.out.ex hx.out) a (u k))
      rw [hK1] at HMUL
      have HSC := hid_ (show sclF p m ml (kin (p ^ m) a) u k = (K1 : Nat) from by unfold sclF; rw [hK1])
      clear hK1 huc
      go_wp2_with (go_at_call 59; refine HMUL.out.mono ?_; rintro e w4 ⟨rfl, n, rfl⟩)
      have HO2 := hid_ (fun n => (hown.out.drewN n).set k (.int .i64 (K1 : Nat)))
      have HX2 := hid_ (fun n => (hown.out.drewN n).exSet (a := w) (by have := HSZ.out; omega) (hx.out.drewN n) k (.int .i64 (K1 : Nat)))
      clear hown hx HMUL hcv hfv d1
      go_roundw
      case rel => exact ⟨k + 1, by omega, by go_num, hid_ ((HO2.out _).congr fun j hj => by
        by_cases e : j = k
        · subst e; rw [upd_same]; show _ = Value.int .i64 (if j < j + 1 then sclF p m ml (kin (p ^ m) a) u j else 0); rw [if_pos (by omega), HSC.out]
        · rw [upd_ne _ _ e]; show Value.int .i64 (if j < k then sclF p m ml (kin (p ^ m) a) u j else 0) = Value.int .i64 (if j < k + 1 then sclF p m ml (kin (p ^ m) a) u j else 0)
          by_cases h : j < k
          · rw [if_pos h, if_pos (by omega)]
          · rw [if_neg h, if_neg (by omega)]), hid_ (HX2.out _)⟩
      case measure => simp [intOf]; omega
    · obtain rfl : N = k := by omega
      have HO2 := hid_ (show Own wr g 3 g N (iv (sclF p m ml (kin (p ^ m) a) u)) from hown.out.icongr fun j hj => by rw [if_pos hj])
      clear hown
      go_wp2_with fail
      go_ret
      exact ⟨g, rfl, by rw [HSZ.out]; exact HO2.out, hx.out⟩
end Go.Proofs.YtgdmlmhpineibaaGreat
