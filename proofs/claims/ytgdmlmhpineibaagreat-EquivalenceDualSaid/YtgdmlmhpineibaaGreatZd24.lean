/- Plain: sums over a permutation; linear combinations; the image of a word under a monomial map. -/
/- Walk of matrix.Kernel. -/
/- Walk of matrix.Canonical. -/
/- slices.Clone at any list of ints; code.own, code.gen, code.length, code.of. -/
/- The reference's Canon. -/
import Derived.Test.YtgdmlmhpineibaaGreatZd16
import Derived.Test.YtgdmlmhpineibaaGreatZd20
import Derived.Test.YtgdmlmhpineibaaGreatZd23
namespace Go.Proofs.YtgdmlmhpineibaaGreat
set_option linter.unusedVariables false
set_option linter.unusedSimpArgs false
open Go.RowKit

section
variable {p m : Nat} {ml : List Int} {N R : Nat}
/-- The sum of the first n values. -/
def ks (p m : Nat) (g : Nat → Nat) : Nat → Nat
  | 0 => 0
  | n + 1 => kadd p m (ks p m g n) (g n)
theorem ks_lt (hp : 1 ≤ p) (g : Nat → Nat) : ∀ n, ks p m g n < p ^ m
  | 0 => Nat.pow_pos (by omega)
  | n + 1 => kadd_lt hp _ _
theorem ks_congr {g h : Nat → Nat} : ∀ n, (∀ j, j < n → g j = h j) → ks p m g n = ks p m h n
  | 0, _ => rfl
  | n + 1, e => by
    show kadd p m _ _ = kadd p m _ _
    rw [ks_congr n fun j hj => e j (by omega), e n (by omega)]
theorem dt_ks (f x : Nat → Int) : dt p m ml N f x = ks p m (fun j => kmul p m (lw ml) (kin (p ^ m) (f j)) (kin (p ^ m) (x j))) N := by
  have key : ∀ n, n ≤ N → dtK p m ml N f x n = ks p m (fun j => kmul p m (lw ml) (kin (p ^ m) (f j)) (kin (p ^ m) (x j))) n := fun n => by
    induction n with
    | zero => intro _; rw [dtK_zero]; rfl
    | succ n ih =>
      intro hn
      rw [dtK_succ _ _ (by omega), ih (by omega)]
      rfl
  rw [← dtK_all, key N (Nat.le_refl _)]
/-- The sum over a list. -/
def ksL (p m : Nat) (g : Nat → Nat) (l : List Nat) : Nat := l.foldr (fun j s => kadd p m s (g j)) 0
theorem ksL_lt (hp : 1 ≤ p) (g : Nat → Nat) : ∀ l, ksL p m g l < p ^ m
  | [] => Nat.pow_pos (by omega)
  | j :: l => kadd_lt hp _ _
theorem ksL_app (hp : 1 ≤ p) (g : Nat → Nat) : ∀ l k, ksL p m g (l ++ k) = kadd p m (ksL p m g l) (ksL p m g k)
  | [], k => by
    show ksL p m g k = kadd p m 0 _
    rw [zero_kadd hp (ksL_lt hp g k)]
  | j :: l, k => by
    show kadd p m (ksL p m g (l ++ k)) (g j) = kadd p m (kadd p m (ksL p m g l) (g j)) _
    rw [ksL_app hp g l k, kadd_assoc hp, kadd_assoc hp, kadd_comm (ksL p m g k)]
theorem ksL_range (hp : 1 ≤ p) {g : Nat → Nat} (hg : ∀ j, g j < p ^ m) : ∀ n, ksL p m g (List.range n) = ks p m g n
  | 0 => rfl
  | n + 1 => by
    rw [List.range_succ, ksL_app hp, ksL_range hp hg n]
    show kadd p m _ (kadd p m 0 (g n)) = kadd p m _ _
    rw [zero_kadd hp (hg n)]
theorem ksL_perm (hp : 1 ≤ p) (g : Nat → Nat) {l k : List Nat} (h : l.Perm k) : ksL p m g l = ksL p m g k := by
  induction h with
  | nil => rfl
  | @cons x l1 l2 _ ih => show kadd p m (ksL p m g l1) (g x) = kadd p m (ksL p m g l2) (g x); rw [ih]
  | swap x y l =>
    show kadd p m (kadd p m (ksL p m g l) (g x)) (g y) = kadd p m (kadd p m (ksL p m g l) (g y)) (g x)
    rw [kadd_assoc hp, kadd_assoc hp, kadd_comm (g x)]
  | trans _ _ i1 i2 => rw [i1, i2]
theorem ksL_map (g : Nat → Nat) (f : Nat → Nat) : ∀ l : List Nat, ksL p m g (l.map f) = ksL p m (fun j => g (f j)) l
  | [] => rfl
  | j :: l => by show kadd p m (ksL p m g (l.map f)) (g (f j)) = kadd p m (ksL p m (fun j => g (f j)) l) (g (f j)); rw [ksL_map g f l]
/-- An injective map of the first N numbers. -/
structure InjN (N : Nat) (π : Nat → Nat) : Prop where
  lt : ∀ i, i < N → π i < N
  inj : ∀ i j, i < N → j < N → π i = π j → i = j
theorem InjN.perm {π : Nat → Nat} (h : InjN N π) : ((List.range N).map π).Perm (List.range N) := by
  have hnd : ((List.range N).map π).Nodup := nodup_range_map fun i j hj hij e => by
    have := h.inj i j (by omega) hj e; omega
  have hmem : ∀ x, x < N → x ∈ (List.range N).map π := fun x hx => by
    have := pigeon N (((List.range N).map π).map (· + 1)) (by
      rw [List.map_map]
      exact nodup_range_map fun i j hj hij e => by
        have e : π i + 1 = π j + 1 := e
        have := h.inj i j (by omega) hj (by omega); omega) (by simp) (fun y hy => by
      obtain ⟨z, hz, rfl⟩ := List.mem_map.1 hy
      obtain ⟨i, hi, rfl⟩ := List.mem_map.1 hz
      have := h.lt i (List.mem_range.1 hi)
      omega) (x + 1) (by omega) (by omega)
    obtain ⟨z, hz, e⟩ := List.mem_map.1 this
    have : z = x := by have e : z + 1 = x + 1 := e; omega
    rw [← this]; exact hz
  refine (List.perm_ext_iff_of_nodup hnd List.nodup_range).2 fun x => ⟨fun hx => ?_, fun hx => hmem x (List.mem_range.1 hx)⟩
  obtain ⟨i, hi, rfl⟩ := List.mem_map.1 hx
  exact List.mem_range.2 (h.lt i (List.mem_range.1 hi))
theorem InjN.surj {π : Nat → Nat} (h : InjN N π) {j : Nat} (hj : j < N) : ∃ i, i < N ∧ π i = j := by
  have := h.perm.mem_iff.2 (List.mem_range.2 hj)
  obtain ⟨i, hi, e⟩ := List.mem_map.1 this
  exact ⟨i, List.mem_range.1 hi, e⟩
theorem InjN.sum (hp : 1 ≤ p) {π : Nat → Nat} (h : InjN N π) {g : Nat → Nat} (hg : ∀ j, g j < p ^ m) : ks p m (fun i => g (π i)) N = ks p m g N := by
  rw [← ksL_range hp hg, ← ksL_range hp fun i => hg (π i), ← ksL_map, ksL_perm hp g h.perm]
/-- The word with the values at the images of the first k positions. -/
def plc (π : Nat → Nat) (v : Nat → Int) : Nat → Nat → Int
  | 0 => fun _ => 0
  | k + 1 => upd (plc π v k) (π k) (v k)
theorem plc_at {π : Nat → Nat} (h : InjN N π) (v : Nat → Int) : ∀ k, k ≤ N → ∀ i, i < k → plc π v k (π i) = v i
  | 0, _, i, hi => by omega
  | k + 1, hk, i, hi => by
    show upd (plc π v k) (π k) (v k) (π i) = v i
    by_cases e : i = k
    · subst e; exact upd_same _ _ _
    · rw [upd_ne _ _ fun e2 => e (h.inj i k (by omega) (by omega) e2)]
      exact plc_at h v k (by omega) i (by omega)
/-- The product of an image with a word: the product with the word pulled back. -/
theorem dt_plc (hp : 1 ≤ p) {π : Nat → Nat} (h : InjN N π) (v x : Nat → Int) : dt p m ml N (plc π v N) x = dt p m ml N v (fun i => x (π i)) := by
  rw [dt_ks, dt_ks, ← h.sum hp fun j => kmul_lt hp _ _]
  exact ks_congr N fun i hi => by rw [plc_at h v N (Nat.le_refl _) i hi]
end
end Go.Proofs.YtgdmlmhpineibaaGreat
namespace Go.Proofs.YtgdmlmhpineibaaGreat
set_option linter.unusedVariables false
set_option linter.unusedSimpArgs false
open Go.RowKit

theorem rowsF_il {N i : Nat} {rows : List (List Int)} {r : List Int} (hr : rows[i]? = some r) (hl : r.length = N) : il N (rowsF rows i) = r := by
  apply List.ext_getElem?
  intro j
  by_cases h : j < N
  · rw [il_get h]
    unfold rowsF
    rw [List.getD_eq_getElem?_getD (l := rows), hr, List.getD_eq_getElem?_getD]
    show some (r[j]?.getD 0) = r[j]?
    rw [List.getElem?_eq_getElem (by omega)]; rfl
  · rw [List.getElem?_eq_none (by rw [il_len]; omega), List.getElem?_eq_none (by omega)]
/-- All rows of ks satisfy all rows of the matrix: said by functions. -/
theorem sol_rows {p m : Nat} {ml : List Int} {N : Nat} {rows : List (List Int)} {x : Nat → Int} (hr : ∀ (i : Nat) (r : List Int), rows[i]? = some r → r.length = N) (h : Sol p m ml N rows.length (rowsF rows) x) : ∀ r ∈ rows, kdot p m ml r (il N x) 0 = 0 := fun r hm => by
  obtain ⟨i, hi, e⟩ := List.getElem_of_mem hm
  have hri : rows[i]? = some r := by rw [List.getElem?_eq_getElem hi, e]
  have := h i hi
  unfold dt at this
  rw [rowsF_il hri (hr i r hri)] at this
  exact this
theorem rows_sol {p m : Nat} {ml : List Int} {N : Nat} {rows : List (List Int)} {x : Nat → Int} (hr : ∀ (i : Nat) (r : List Int), rows[i]? = some r → r.length = N) (h : ∀ r ∈ rows, kdot p m ml r (il N x) 0 = 0) : Sol p m ml N rows.length (rowsF rows) x := fun i hi => by
  have hri : rows[i]? = some (rows[i]) := List.getElem?_eq_getElem hi
  unfold dt
  rw [rowsF_il hri (hr i _ hri)]
  exact h _ (List.getElem_mem hi)
theorem elo_rows {p m : Nat} {ml : List Int} {N R : Nat} {a a' : Nat → Nat → Int} {piv : List Nat} (h : ElO p m ml N R a a' piv) : piv.length ≤ R ∧ ∀ t ∈ rowsL N piv.length a', t.length = N ∧ entS (p ^ m) t = 0 := by
  obtain ⟨c, hc, hP, _, hS⟩ := h
  refine ⟨hP.le, fun t ht => ?_⟩
  unfold rowsL at ht
  obtain ⟨i, hi, rfl⟩ := List.mem_map.1 ht
  have hi := List.mem_range.1 hi
  refine ⟨il_len _ _, entS_of fun x hx => ?_⟩
  obtain ⟨j, hj, rfl⟩ := il_mem hx
  exact hP.rng i (by have := hP.le; omega) j hj
end Go.Proofs.YtgdmlmhpineibaaGreat
namespace Go.Proofs.YtgdmlmhpineibaaGreat
set_option linter.unusedVariables false
set_option linter.unusedSimpArgs false
open Go.RowKit

/-- The error of a field and a matrix. -/
def canE (p m : Int) (ml : List Int) (cols : Int) (rows : List (List Int)) : Int := if chkS p m ml ≠ 0 then 1 else mchkS (p.toNat ^ m.toNat) cols rows
/-- What Canonical hands back. -/
def CanR (p m : Int) (ml : List Int) (cols : Int) (rows : List (List Int)) (b0 : Nat) (r : Ending) (w' : World) : Prop :=
  (canE p m ml cols rows = 0 ∧ ∃ (pn mn N : Nat) (piv : List Nat) (a' : Nat → Nat → Int) (rv pv : Value), p = pn ∧ m = mn ∧ cols = N ∧ FldB p m ml ∧ mchkS (pn ^ mn) N rows = 0 ∧ r = .returned (.tuple #[.agg #[.int .i64 N, rv], pv, .int .i64 0]) ∧ ElO pn mn ml N rows.length (rowsF rows) a' piv ∧ MSl w' rv (rowsL N piv.length a') ∧ ISl w' pv (pI piv) ∧ ∃ g blk cap base, b0 ≤ base ∧ rv = .slice (some ⟨g, 0, none⟩) piv.length piv.length ∧ EM w' base g rows.length N blk cap a' []) ∨
  (canE p m ml cols rows ≠ 0 ∧ r = .returned (.tuple #[.agg #[.int .i64 0, .slice none 0 0], .slice none 0 0, .int .i64 (canE p m ml cols rows)]))
set_option maxRecDepth 100000 in
set_option maxHeartbeats 8000000 in
theorem Canonical_any (w : World) (p m : Int) (ml : List Int) (mv : Value) (hmv : ISl w mv ml) (cols : Int) (rows : List (List Int)) (v : Value) (hv : MSl w v rows) (h0 : canE p m ml cols rows = 0 → 1 ≤ cols) :
    Calls Tryz.prog 121 #[.agg #[.int .i64 p, .int .i64 m, mv], .agg #[.int .i64 cols, v]] w fun r w' => CanR p m ml cols rows w.heap.size r w' ∧ Ex w w' := by
  have HO := hid_ (fun w' B h1 h2 h3 h4 => open1_any p m ml mv w' h1 cols rows v h2 B h3 h4)
  obtain ⟨g0, g1, g2, e0, gsz⟩ := box_facts w p m mv
  have HMV := hid_ hmv
  have HV := hid_ hv
  have H0 := hid_ h0
  obtain ⟨za, zc, rfl, z1, z2, z3⟩ := hv.open
  clear z1 z3
  unfold maxLen at z2
  obtain ⟨xb, hxb⟩ : ∃ xb, w.heap.size = xb := ⟨_, rfl⟩
  rw [hxb] at g0 g1 g2 gsz
  clear hmv hv h0
  go_enter Tryz.func121, Tryz.ntmps121
  go_wp2_with fail
  generalize w.alloc (.cells #[.int .i64 p, .int .i64 m, mv] 24) = wA at *
  obtain ⟨a0, a1, ea⟩ := boxM_facts wA cols (.slice za rows.length zc)
  have asz : (wA.alloc (.cells #[.int .i64 cols, .slice za rows.length zc] 113)).heap.size = xb + 1 + 1 := by simp [gsz]
  rw [gsz] at a0 a1
  generalize wA.alloc (.cells #[.int .i64 cols, .slice za rows.length zc] 113) = wB at *
  obtain ⟨q0, q1, eb⟩ := boxM_facts wB 0 (.slice none 0 0)
  have qf : (wB.alloc (.cells #[.int .i64 0, .slice none 0 0] 113)).frozen? ⟨xb + 1 + 1, 1, none⟩ = false := by rw [← asz]; simp
  have qf0 : (wB.alloc (.cells #[.int .i64 0, .slice none 0 0] 113)).frozen? ⟨xb + 1 + 1, 0, none⟩ = false := by rw [← asz]; simp
  have bsz : (wB.alloc (.cells #[.int .i64 0, .slice none 0 0] 113)).heap.size = xb + 1 + 1 + 1 := by simp [asz]
  rw [asz] at q0 q1
  generalize wB.alloc (.cells #[.int .i64 0, .slice none 0 0] 113) = wC at *
  obtain ⟨l0, l1, ec⟩ := boxM_facts wC cols (.slice za rows.length zc)
  rw [bsz] at l0 l1
  generalize wC.alloc (.cells #[.int .i64 cols, .slice za rows.length zc] 113) = wD at *
  have eD : Ex w wD := ((e0.trans ea).trans eb).trans ec
  have A0 := hid_ ((eb.trans ec).cell a0)
  have A1 := hid_ ((eb.trans ec).cell a1)
  have Q0 := hid_ (ec.cell q0)
  have Q1 := hid_ (ec.cell q1)
  have QF := hid_ (ec.frz q1 qf)
  have QF0 := hid_ (ec.frz q0 qf0)
  have HXD := hid_ eD
  refine (HO.out wD (xb + 1 + 1 + 1) (HMV.out.ex eD) (HV.out.ex eD) l0 l1).mono ?_
  clear g0 g1 g2 e0 gsz ea asz a0 a1 eb bsz q0 q1 qf qf0 l0 l1 ec eD HO
  rintro e w2 ⟨ho, hx2⟩
  have HX2 := hid_ (HXD.out.trans hx2)
  have QF := hid_ (hx2.frz Q1.out QF.out)
  have QF0 := hid_ (hx2.frz Q0.out QF0.out)
  have c0 := hx2.cell A0.out
  have c1 := hx2.cell A1.out
  have Q0 := hid_ (hx2.cell Q0.out)
  have Q1 := hid_ (hx2.cell Q1.out)
  have A0 := hid_ c0
  clear hx2 A1
  have HEE := hid_ (fun (i : Value) (j : Value) => ((HX2.out).setCell (p := ⟨xb + 1 + 1, 0, none⟩) (by show w.heap.size ≤ xb + 1 + 1; omega) i).setCell (p := ⟨xb + 1 + 1, 1, none⟩) (by show w.heap.size ≤ xb + 1 + 1; omega) j)
  rcases ho with ⟨pn, mn, x0, b, rfl, rfl, hg, hx01, hx02, ⟨hmk, rfl⟩ | ⟨hno, rfl⟩⟩ | ⟨hno, rfl⟩
  · have hch : chkS pn mn ml = 0 := (chk_iff _ _ _).2 ⟨pn, mn, rfl, rfl, hg.sh, hg.pr, hg.isF hx01 hx02⟩
    have hce : canE pn mn ml cols rows = 0 := by
      unfold canE
      rw [if_neg (by simp [hch]), Int.toNat_natCast, Int.toNat_natCast]
      exact hmk
    have hc1 := H0.out hce
    obtain ⟨s1, s2, s3, s4⟩ := mchk_shape hmk
    obtain ⟨N, rfl⟩ : ∃ N : Nat, cols = N := ⟨cols.toNat, by omega⟩
    have HCE := hid_ hce
    have HFB := hid_ ((chk_iff _ _ _).1 hch)
    have HMK := hid_ hmk
    have HCN := hid_ (canon_any2 w2 hg hx01 hx02 N rows.length rows _ (HV.out.ex HX2.out) rfl s3 (by omega) (by omega) fun i r h => by
      have := s4 r (List.mem_of_getElem? h); exact ⟨by omega, this.2⟩)
    have HS3 := hid_ s3
    clear hg hch hce hc1 s1 s2 s3 s4 hmk hx01 hx02
    go_wp2_with (go_at_call 125; refine HCN.out.mono ?_; rintro e w8 ⟨piv2, pv2, rv2, a2, rfl, hel2, hrv2, hpv2, hx8, g8, blk8, cap8, rfl, hem8, hpb8⟩; have a0n := hx8.cell A0.out; have q0 := hx8.cell Q0.out; have qf0 := hx8.frz Q0.out QF0.out; have q1 := hx8.cell Q1.out; have qf1 := hx8.frz Q1.out QF.out; have HEL2 := hid_ hel2; have HEM8 := hid_ hem8; have HX8 := hid_ hx8; have HPV8 := hid_ hpv2; have HPB := hid_ hpb8; obtain ⟨pa, pc, rfl, -, -, -⟩ := hpv2.open; clear hel2 hem8 hx8 hpb8 hrv2 hpv2)
    have hbl : xb + 1 + 1 < w2.heap.size := World.block_lt_of_cell? _ _ Q0.out
    have hp2 := (elo_rows HEL2.out).1
    have HMS := hid_ (((HEM8.out.low (A := ⟨xb + 1 + 1, 0, none⟩) hbl (.int .i64 N)).low (A := ⟨xb + 1 + 1, 1, none⟩) hbl (.slice (some ⟨g8, 0, none⟩) piv2.length piv2.length)).msl hp2 HS3.out)
    have HEM9 := hid_ ((HEM8.out.low (A := ⟨xb + 1 + 1, 0, none⟩) hbl (.int .i64 N)).low (A := ⟨xb + 1 + 1, 1, none⟩) hbl (.slice (some ⟨g8, 0, none⟩) piv2.length piv2.length))
    have HPN := hid_ (fun B h => show B ≠ xb + 1 + 1 from by have := HPB.out B h; omega)
    have HEX := hid_ ((((HX2.out).trans HX8.out).setCell (p := ⟨xb + 1 + 1, 0, none⟩) (by show w.heap.size ≤ xb + 1 + 1; omega) (.int .i64 N)).setCell (p := ⟨xb + 1 + 1, 1, none⟩) (by show w.heap.size ≤ xb + 1 + 1; omega) (.slice (some ⟨g8, 0, none⟩) piv2.length piv2.length))
    exact bodyPost_ret (v := .tuple #[.agg #[.int .i64 N, .slice (some ⟨g8, 0, none⟩) piv2.length piv2.length], .slice pa (pI piv2).length pc, .int .i64 0]) (by simp [results, Tryz.results121, go_sem, q0, q1]) rfl ⟨.inl ⟨HCE.out, pn, mn, N, piv2, a2, _, _, rfl, rfl, rfl, HFB.out, HMK.out, rfl, HEL2.out, HMS.out, Sl.other (Sl.other HPV8.out (fun B h => HPN.out B h) _) (fun B h => HPN.out B h) _, g8, blk8, cap8, _, HX2.out.size, rfl, HEM9.out⟩, HEX.out⟩
  · have hch : chkS pn mn ml = 0 := (chk_iff _ _ _).2 ⟨pn, mn, rfl, rfl, hg.sh, hg.pr, hg.isF hx01 hx02⟩
    have hce : canE pn mn ml cols rows = mchkS (pn ^ mn) cols rows := by
      unfold canE
      rw [if_neg (by simp [hch]), Int.toNat_natCast, Int.toNat_natCast]
    have HCE := hid_ hce
    clear hg hch hce hx01 hx02 HMV HV H0
    obtain ⟨E, hE⟩ : ∃ E, mchkS (pn ^ mn) cols rows = E := ⟨_, rfl⟩
    rw [hE] at HCE hno ⊢
    have hb : (E != 0) = true := by simpa using hno
    have HNO := hid_ hno
    have q0 := Q0.out
    have q1 := Q1.out
    have qf0 := QF0.out
    have qf1 := QF.out
    clear hE hno
    go_wp2_with fail
    exact bodyPost_ret (v := .tuple #[.agg #[.int .i64 0, .slice none 0 0], .slice none 0 0, .int .i64 E]) (by simp [results, Tryz.results121, go_sem, q0, q1]) rfl ⟨.inr ⟨by rw [HCE.out]; exact HNO.out, by rw [HCE.out]⟩, HEE.out _ _⟩
  · have hce : canE p m ml cols rows = 1 := by
      unfold canE
      rw [if_pos (fun h => hno ((chk_iff _ _ _).1 h))]
    have HCE := hid_ hce
    clear hno hce HMV HV H0
    have q0 := Q0.out
    have q1 := Q1.out
    have qf0 := QF0.out
    have qf1 := QF.out
    go_wp2_with fail
    exact bodyPost_ret (v := .tuple #[.agg #[.int .i64 0, .slice none 0 0], .slice none 0 0, .int .i64 1]) (by simp [results, Tryz.results121, go_sem, q0, q1]) rfl ⟨.inr ⟨by rw [HCE.out]; decide, by rw [HCE.out]⟩, HEE.out _ _⟩
end Go.Proofs.YtgdmlmhpineibaaGreat
namespace Go.Proofs.YtgdmlmhpineibaaGreat
set_option linter.unusedVariables false
set_option linter.unusedSimpArgs false
open Go.RowKit

set_option maxRecDepth 100000 in
set_option maxHeartbeats 1000000 in
theorem CloneE_any (w : World) (l : List Int) (v : Value) (hl : ISl w v l) (hn2 : l.length ≤ 1000) :
    Calls Tryz.prog 66 #[v] w fun r w' => ∃ v', r = .returned v' ∧ ISl w' v' l ∧ (∀ B, v'.ownBlock = some B → w.heap.size ≤ B) ∧ Ex w w' := by
  have HL := hid_ hl
  obtain ⟨a, cap, rfl, s1, s2, s3⟩ := hl.open
  have hmi : ∀ u ∈ ints l, u.oneCell' = true := by
    intro u hu; obtain ⟨z, _, rfl⟩ := List.mem_map.1 hu; rfl
  have HON := hid_ hmi
  clear hl hmi
  cases a with
  | none =>
    have h0 : l = [] := by
      cases l with
      | nil => rfl
      | cons x t => obtain ⟨_, _, h, _⟩ := s3 (by simp); cases h
    subst h0
    have hnil := fun w' => run_eql_slice_nil (P := Tryz.prog) w' 22 3 none 0 cap Tryz.underlying22
    simp only [Option.isNone] at hnil
    clear s1 s2 s3
    go_enter Tryz.func66, Tryz.ntmps66
    go_wp2_with fail
    go_ret
    exact ⟨_, rfl, isl_nil _, by simp [Value.ownBlock], Ex.refl _⟩
  | some ad =>
    have hnil := fun w' => run_eql_slice_nil (P := Tryz.prog) w' 22 3 (some ad) l.length cap Tryz.underlying22
    simp only [Option.isNone] at hnil
    clear s3
    go_enter Tryz.func66, Tryz.ntmps66
    go_wp2_with (at_builtin; refine wpList_append_sl _ rfl _ _ 22 rfl w.heap.size 3 (.int .i64 0) 1 8 Tryz.underlying22 infoInt rfl (by decide) _ 0 [] rfl (own_lit0 w 3) (.slice (some ad) l.length cap) l.length (ints l) rfl (HL.out.ex ((Ex.refl w).alloc _)) HON.out (by unfold maxLen; omega) (by omega) (by simp) ?_)
    intro v1 w1 hown1 hg1 ha1
    have hx1 : Ex w w1 := Ex.grown ((Ex.refl w).alloc _) (own_lit0 w 3) (Nat.le_refl _) hg1
    have HI := hid_ (show ISl w1 v1 l from Sl.own hown1)
    have HB := hid_ (fun B (e : v1.ownBlock = some B) => (hown1.lt B e).1)
    have HX := hid_ hx1
    clear hown1 hg1 ha1 hx1 hnil
    go_wp2_with fail
    go_ret
    exact ⟨_, rfl, HI.out, HB.out, HX.out⟩
/-- code.length. -/
def lenE (n : Int) : Int := if n < 1 ∨ 64 < n then 4 else 0
set_option maxRecDepth 100000 in
theorem length_any (w : World) (n : Int) : Calls Tryz.prog 119 #[.int .i64 n] w fun r w' => r = .returned (.int .i64 (lenE n)) ∧ w' = w := by
  unfold lenE
  go_enter Tryz.func119, Tryz.ntmps119
  by_cases h1 : n < 1
  · have b1 : decide (n < 1) = true := by simpa using h1
    rw [if_pos (.inl h1)]
    go_wp2_with fail
    go_ret
    exact ⟨rfl, rfl⟩
  · have b1 : decide (n < 1) = false := by simpa using h1
    by_cases h2 : 64 < n
    · have b2 : decide (64 < n) = true := by simpa using h2
      rw [if_pos (.inr h2)]
      go_wp2_with fail
      go_ret
      exact ⟨rfl, rfl⟩
    · have b2 : decide (64 < n) = false := by simpa using h2
      rw [if_neg (by omega)]
      go_wp2_with fail
      go_ret
      exact ⟨rfl, rfl⟩
theorem boxC_facts (w : World) (p m : Int) (mv : Value) (n : Int) (gv : Value) : (w.alloc (.cells #[.int .i64 p, .int .i64 m, mv, .int .i64 n, gv] 47)).cell? ⟨w.heap.size, 0, none⟩ = some (.int .i64 p) ∧ (w.alloc (.cells #[.int .i64 p, .int .i64 m, mv, .int .i64 n, gv] 47)).cell? ⟨w.heap.size, 1, none⟩ = some (.int .i64 m) ∧ (w.alloc (.cells #[.int .i64 p, .int .i64 m, mv, .int .i64 n, gv] 47)).cell? ⟨w.heap.size, 2, none⟩ = some mv ∧ (w.alloc (.cells #[.int .i64 p, .int .i64 m, mv, .int .i64 n, gv] 47)).cell? ⟨w.heap.size, 3, none⟩ = some (.int .i64 n) ∧ (w.alloc (.cells #[.int .i64 p, .int .i64 m, mv, .int .i64 n, gv] 47)).cell? ⟨w.heap.size, 4, none⟩ = some gv ∧ Ex w (w.alloc (.cells #[.int .i64 p, .int .i64 m, mv, .int .i64 n, gv] 47)) :=
  ⟨by simp, by simp, by simp, by simp, by simp, (Ex.refl _).alloc _⟩
set_option maxRecDepth 100000 in
set_option maxHeartbeats 1000000 in
theorem gen_any (w : World) (p m : Int) (mv : Value) (n : Int) (rows : List (List Int)) (gv : Value) (hg : MSl w gv rows) :
    Calls Tryz.prog 80 #[.agg #[.int .i64 p, .int .i64 m, mv, .int .i64 n, gv]] w fun r w' => r = .returned (.agg #[.int .i64 n, gv]) ∧ Ex w w' := by
  obtain ⟨a0, a1, a2, a3, a4, ea⟩ := boxC_facts w p m mv n gv
  obtain ⟨za, zc, rfl, z1, z2, z3⟩ := hg.open
  clear z3
  unfold maxLen at z2
  go_enter Tryz.func80, Tryz.ntmps80
  go_wp2_with fail
  exact bodyPost_ret (v := .agg #[.int .i64 n, .slice za rows.length zc]) (by simp [results, Tryz.results80, go_sem]) rfl ⟨rfl, ea.trans ((Ex.refl _).alloc _)⟩
set_option maxRecDepth 100000 in
set_option maxHeartbeats 1000000 in
theorem own_any (w : World) (p m : Int) (ml : List Int) (mv : Value) (hmv : ISl w mv ml) (hn : ml.length ≤ 1000) :
    Calls Tryz.prog 127 #[.agg #[.int .i64 p, .int .i64 m, mv]] w fun r w' => ∃ v', r = .returned (.agg #[.int .i64 p, .int .i64 m, v']) ∧ ISl w' v' ml ∧ (∀ B, v'.ownBlock = some B → w.heap.size ≤ B) ∧ Ex w w' := by
  obtain ⟨a0, a1, a2, e0, asz⟩ := box_facts w p m mv
  obtain ⟨q0, q1, q2, eb, bsz⟩ := box_facts (w.alloc (.cells #[.int .i64 p, .int .i64 m, mv] 24)) 0 0 (.slice none 0 0)
  have af : (w.alloc (.cells #[.int .i64 p, .int .i64 m, mv] 24)).frozen? ⟨w.heap.size, 2, none⟩ = false := by simp
  have qf : ((w.alloc (.cells #[.int .i64 p, .int .i64 m, mv] 24)).alloc (.cells #[.int .i64 0, .int .i64 0, .slice none 0 0] 24)).frozen? ⟨(w.alloc (.cells #[.int .i64 p, .int .i64 m, mv] 24)).heap.size, 0, none⟩ = false ∧ ((w.alloc (.cells #[.int .i64 p, .int .i64 m, mv] 24)).alloc (.cells #[.int .i64 0, .int .i64 0, .slice none 0 0] 24)).frozen? ⟨(w.alloc (.cells #[.int .i64 p, .int .i64 m, mv] 24)).heap.size, 1, none⟩ = false ∧ ((w.alloc (.cells #[.int .i64 p, .int .i64 m, mv] 24)).alloc (.cells #[.int .i64 0, .int .i64 0, .slice none 0 0] 24)).frozen? ⟨(w.alloc (.cells #[.int .i64 p, .int .i64 m, mv] 24)).heap.size, 2, none⟩ = false := ⟨by simp, by simp, by simp⟩
  replace af := eb.frz a2 af
  replace a0 := eb.cell a0
  replace a1 := eb.cell a1
  replace a2 := eb.cell a2
  rw [asz] at q0 q1 q2 qf bsz
  have HE := hid_ (e0.trans eb)
  have HMV := hid_ (hmv.ex HE.out)
  obtain ⟨ma, mc, rfl, m1', m2, m3⟩ := hmv.open
  unfold maxLen at m2
  clear hmv m3 e0 eb asz
  go_enter Tryz.func127, Tryz.ntmps127
  go_wp2_with fail
  obtain ⟨xb, hxb⟩ : ∃ xb, w.heap.size = xb := ⟨_, rfl⟩
  rw [hxb] at a0 a1 a2 q0 q1 q2 qf bsz af
  try simp only [hxb]
  generalize (w.alloc (.cells #[.int .i64 p, .int .i64 m, .slice ma ml.length mc] 24)).alloc (.cells #[.int .i64 0, .int .i64 0, .slice none 0 0] 24) = w1 at *
  have HXB := hid_ hxb
  obtain ⟨qf0, qf1, qf2⟩ := qf
  clear hxb
  refine (CloneE_any w1 ml _ HMV.out hn).mono ?_
  rintro e w2 ⟨v', rfl, hv', hb', hx⟩
  have HV := hid_ hv'
  have HB := hid_ (fun B e => show xb + 1 + 1 ≤ B from by have := hb' B e; omega)
  have HX := hid_ hx
  obtain ⟨va, vc, rfl, -, -, -⟩ := hv'.open
  have a0' := hx.cell a0
  have a1' := hx.cell a1
  have af' := hx.frz a2 af
  have a2' := hx.cell a2
  have q0' := hx.cell q0
  have q1' := hx.cell q1
  have q2' := hx.cell q2
  have qf0' := hx.frz q0 qf0
  have qf1' := hx.frz q1 qf1
  have qf2' := hx.frz q2 qf2
  clear a0 a1 a2 af q0 q1 q2 qf0 qf1 qf2 hv' hb' hx
  go_wp2_with fail
  have hne : ∀ B, (Value.slice va ml.length vc).ownBlock = some B → B ≠ xb ∧ B ≠ xb + 1 := fun B e => by have := HB.out B e; omega
  have hw : w.heap.size = xb := HXB.out
  exact bodyPost_ret (v := .agg #[.int .i64 p, .int .i64 m, .slice va ml.length vc]) (by simp [results, Tryz.results127, go_sem, q0', q1', q2']) rfl ⟨_, rfl, Sl.other (Sl.other (Sl.other (Sl.other HV.out (fun B h => (hne B h).1) _) (fun B h => (hne B h).2) _) (fun B h => (hne B h).2) _) (fun B h => (hne B h).2) _, fun B e => by have := HB.out B e; omega,
    ((((HE.out.trans HX.out).setCell (p := ⟨xb, 2, none⟩) (by show w.heap.size ≤ xb; omega) _).setCell (p := ⟨xb + 1, 0, none⟩) (by show w.heap.size ≤ xb + 1; omega) _).setCell (p := ⟨xb + 1, 1, none⟩) (by show w.heap.size ≤ xb + 1; omega) _).setCell (p := ⟨xb + 1, 2, none⟩) (by show w.heap.size ≤ xb + 1; omega) _⟩
end Go.Proofs.YtgdmlmhpineibaaGreat
namespace Go.Proofs.YtgdmlmhpineibaaGreat
set_option linter.unusedVariables false
set_option linter.unusedSimpArgs false
open Go.RowKit

theorem ElO.le {p m N R : Nat} {ml : List Int} {a a' : Nat → Nat → Int} {piv : List Nat} (h : ElO p m ml N R a a' piv) : piv.length ≤ R := by
  obtain ⟨c, _, h, _⟩ := h; exact h.le
set_option maxRecDepth 100000 in
set_option maxHeartbeats 4000000 in
theorem rCanonF_any {p m : Nat} {ml : List Int} {mv : Value} (w : World) (hf : FSh p m ml) (hF : IsF p m (lw ml)) (hmv : ISl w mv ml) (N R : Nat) (hN : N ≤ 256) (hR : R ≤ 256) (a : Nat → Nat → Int) (hrng : Rng p m R N a) (v : Value) (hv : MSl w v (rowsL N R a)) :
    Calls Tryz.prog 123 #[.agg #[.int .i64 p, .int .i64 m, mv], v, .int .i64 N] w fun r w' => ∃ piv pv rv a', r = .returned (.tuple #[rv, pv]) ∧ ElO p m ml N R a a' piv ∧ MSl w' rv (rowsL N piv.length a') ∧ ISl w' pv (pI piv) ∧ Ex w w' ∧ MSlF w.heap.size w' rv (rowsL N piv.length a') := by
  obtain ⟨a0, a1, a2, ea, asz⟩ := box_facts w p m mv
  have HEL := hid_ (rElim_any (w.alloc (.cells #[.int .i64 p, .int .i64 m, mv] 24)) hf hF (hmv.ex ea) N R hN hR a hrng v (hv.ex ea))
  have HE := hid_ ea
  obtain ⟨va, vc, hve, v1, v2, -⟩ := hv.open
  rw [rowsL_len] at hve v1
  subst hve
  obtain ⟨ma, mc, rfl, -, -, -⟩ := hmv.open
  clear hf hF hmv hv hrng ea
  go_enter Tryz.func123, Tryz.ntmps123
  go_wp2_with fail
  refine HEL.out.mono ?_
  rintro e w2 ⟨⟨piv, pa, pc, la, lc, a', rfl, hel, hpv, hlc, hms⟩, hx⟩
  have hk := hel.le
  have HELO := hid_ hel
  have HMF := hid_ ((hms _ hk).mono (by have := HE.out.size; omega : w.heap.size ≤ _))
  have HMS := hid_ HMF.out.msl
  have HPV := hid_ hpv
  have HX := hid_ (HE.out.trans hx)
  have l2 : lc ≤ maxLen := by
    obtain ⟨l3, l4, hle, l1, l2, _⟩ := (hms _ (Nat.le_refl R)).msl.open
    injection hle with _ _ h3
    rw [h3]; exact l2
  unfold maxLen at l2
  have k1 : (0 : Int) ≤ (piv.length : Int) := by omega
  have k2 : (piv.length : Int) ≤ (lc : Int) := by omega
  clear hel hms hpv hx HEL HE a0 a1 a2 asz
  go_wp2_with fail
  go_ret2
  exact ⟨piv, _, _, a', rfl, HELO.out, HMS.out, HPV.out, HX.out, HMF.out⟩
theorem rCanon_any {p m : Nat} {ml : List Int} {mv : Value} (w : World) (hf : FSh p m ml) (hF : IsF p m (lw ml)) (hmv : ISl w mv ml) (N R : Nat) (hN : N ≤ 256) (hR : R ≤ 256) (a : Nat → Nat → Int) (hrng : Rng p m R N a) (v : Value) (hv : MSl w v (rowsL N R a)) :
    Calls Tryz.prog 123 #[.agg #[.int .i64 p, .int .i64 m, mv], v, .int .i64 N] w fun r w' => ∃ piv pv rv a', r = .returned (.tuple #[rv, pv]) ∧ ElO p m ml N R a a' piv ∧ MSl w' rv (rowsL N piv.length a') ∧ ISl w' pv (pI piv) ∧ Ex w w' :=
  (rCanonF_any w hf hF hmv N R hN hR a hrng v hv).mono fun r w' ⟨piv, pv, rv, a', h1, h2, h3, h4, h5, _⟩ => ⟨piv, pv, rv, a', h1, h2, h3, h4, h5⟩
end Go.Proofs.YtgdmlmhpineibaaGreat
