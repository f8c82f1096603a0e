/- Walks of the reference of the package field: Is, In, Digits, Value, Add, Neg. -/
import Derived.Test.YtpphaicbdeeacaaFldR
namespace Go.Proofs.Ytpphaicbdeeacaa
set_option linter.unusedVariables false
set_option linter.unusedSimpArgs false
open Go.RowKit

/-- The block of a description that came in. -/
theorem box_facts (w : World) (p m : Int) (mv : Value) : (w.alloc (.cells #[.int .i64 p, .int .i64 m, mv] 24)).cell? ⟨w.heap.size, 0, none⟩ = some (.int .i64 p) ∧
    (w.alloc (.cells #[.int .i64 p, .int .i64 m, mv] 24)).cell? ⟨w.heap.size, 1, none⟩ = some (.int .i64 m) ∧
    (w.alloc (.cells #[.int .i64 p, .int .i64 m, mv] 24)).cell? ⟨w.heap.size, 2, none⟩ = some mv ∧ Ex w (w.alloc (.cells #[.int .i64 p, .int .i64 m, mv] 24)) ∧
    (w.alloc (.cells #[.int .i64 p, .int .i64 m, mv] 24)).heap.size = w.heap.size + 1 :=
  ⟨by simp, by simp, by simp, (Ex.refl _).alloc _, by simp⟩

def isI (p m x : Int) : Bool := decide (0 ≤ x ∧ x < ordS p m)

set_option maxHeartbeats 1000000 in
theorem rIs_any (p m x : Int) (mv : Value) (w : World) :
    Calls Try.prog 33 #[.agg #[.int .i64 p, .int .i64 m, mv], .int .i64 x] w fun r w' => r = .returned (.bool (isI p m x)) ∧ Ex w w' := by
  obtain ⟨d0, d1, d2, e0, _⟩ := box_facts w p m mv
  have HO := hid_ (fun w => rOrder_any p m mv w)
  have HI := hid_ (show isI p m x = decide (0 ≤ x ∧ x < ordS p m) from rfl)
  generalize ordS p m = q at *
  by_cases h0 : 0 ≤ x
  · go_enter Try.func33, Try.ntmps33
    go_wp2_with fail
    generalize w.alloc (.cells #[.int .i64 p, .int .i64 m, mv] 24) = w1 at *
    refine (HO.out _).mono ?_
    rintro e w2 ⟨rfl, hx⟩
    go_wp2_with fail
    go_ret
    exact ⟨ret_bool (by rw [HI.out]; simp [h0]), e0.trans hx⟩
  · go_enter Try.func33, Try.ntmps33
    go_wp2_with fail
    go_ret
    exact ⟨ret_bool (by rw [HI.out]; simp; omega), e0⟩

theorem FSh.ord {p m : Nat} {ml : List Int} (h : FSh p m ml) : ordS p m = ((p ^ m : Nat) : Int) := by
  obtain ⟨a, b, c, d, e, f⟩ := h
  unfold ordS
  rw [if_pos ⟨by omega, by omega, by omega, by rw [Int.toNat_natCast, ← Int.natCast_pow]; omega⟩, Int.toNat_natCast, Int.natCast_pow]

section
variable {p m : Nat} {ml : List Int} {mv : Value}

theorem rIn_any (w : World) (hf : FSh p m ml) (x : Int) :
    Calls Try.prog 106 #[.agg #[.int .i64 p, .int .i64 m, mv], .int .i64 x] w fun r w' => r = .returned (.int .i64 (kin (p ^ m) x : Nat)) ∧ Ex w w' := by
  obtain ⟨d0, d1, d2, e0, _⟩ := box_facts w p m mv
  have HI := hid_ (fun w => rIs_any p m x mv w)
  have ho := hf.ord
  by_cases h : 0 ≤ x ∧ x < ((p ^ m : Nat) : Int)
  · have HK := hid_ (show ((kin (p ^ m) x : Nat) : Int) = x by unfold kin; rw [if_pos h]; omega)
    rw [show isI p m x = true from decide_eq_true (by rw [ho]; exact h)] at HI
    clear h ho hf
    go_enter Try.func106, Try.ntmps106
    go_wp2_with fail
    generalize w.alloc (.cells #[.int .i64 p, .int .i64 m, mv] 24) = w1 at *
    refine (HI.out _).mono ?_
    rintro e w2 ⟨rfl, hx⟩
    go_wp2_with fail
    go_ret
    exact ⟨ret_int HK.out.symm, e0.trans hx⟩
  · have HK := hid_ (show ((kin (p ^ m) x : Nat) : Int) = 0 by unfold kin; rw [if_neg h]; rfl)
    rw [show isI p m x = false from decide_eq_false (by rw [ho]; exact h)] at HI
    clear h ho hf
    go_enter Try.func106, Try.ntmps106
    go_wp2_with fail
    generalize w.alloc (.cells #[.int .i64 p, .int .i64 m, mv] 24) = w1 at *
    refine (HI.out _).mono ?_
    rintro e w2 ⟨rfl, hx⟩
    go_wp2_with fail
    go_ret
    exact ⟨ret_int HK.out.symm, e0.trans hx⟩

/-- A new array with the digits of x. -/
def DgOut (p m : Nat) (x : Nat) (w w' : World) (v : Value) : Prop := ∃ g, v = .slice (some ⟨g, 0, none⟩) m m ∧ Own w' w.heap.size 3 g m (iv (dig p m x))

set_option maxRecDepth 100000 in
set_option maxHeartbeats 1000000 in
theorem rDigits_any (w : World) (hf : FSh p m ml) (x : Int) :
    Calls Try.prog 94 #[.agg #[.int .i64 p, .int .i64 m, mv], .int .i64 x] w fun r w' => ∃ v, r = .returned v ∧ DgOut p m (kin (p ^ m) x) w w' v ∧ Ex w w' := by
  obtain ⟨d0, d1, d2, e0, _⟩ := box_facts w p m mv
  have HI := hid_ (fun w => rIn_any (mv := mv) w hf x)
  have p2 := hf.p2
  have m8 := hf.m8
  have p256 := hf.p256
  have hq := hf.q
  have hz := kin_lt (show 1 ≤ p ^ m from Nat.pow_pos (by omega)) x
  generalize kin (p ^ m) x = z at *
  have z256 : z ≤ 65536 := by omega
  clear hz hf hq
  go_enter Try.func94, Try.ntmps94
  go_wp2_with fail
  generalize w.alloc (.cells #[.int .i64 p, .int .i64 m, mv] 24) = w1 at *
  have HW := hid_ e0.size
  obtain ⟨xb, hxb⟩ : ∃ xb, w.heap.size = xb := ⟨_, rfl⟩
  rw [hxb] at d0 d1 d2
  try simp only [hxb]
  have HXB := hid_ hxb
  clear hxb
  go_region_held3 (fun w' => w'.cell? ⟨xb, 0, none⟩ = some (.int .i64 p) ∧ w'.cell? ⟨xb, 1, none⟩ = some (.int .i64 m) ∧ w'.cell? ⟨xb, 2, none⟩ = some mv ∧ Ex w w')
    (first | exact ⟨d0, d1, d2, e0.drew⟩ | exact ⟨hx1.cell d0, hx1.cell d1, hx1.cell d2, e0.drew.trans hx1⟩ | (obtain ⟨k0, k1, k2, k3⟩ := ‹_ ∧ _ ∧ _ ∧ Ex w _›; exact ⟨hx1.cell k0, hx1.cell k1, hx1.cell k2, k3.trans hx1⟩))
    ((first
      | (go_at_call 106; refine (HI.out _).mono ?_; rintro e w2 ⟨rfl, hx1⟩)
      | (go_at_call 105; refine (rdigits_any _ _ _ _ z256 (by omega) (by omega) (by omega)).mono ?_; rintro e w3 ⟨v, rfl, ⟨g, rfl, hg1, hg2⟩, hx1⟩)))
  go_wp2_with fail
  go_ret
  have hE := (‹_ ∧ _ ∧ _ ∧ Ex w _›).2.2.2
  exact ⟨_, rfl, ⟨g, rfl, hg2.mono (by
    have := hx1.size
    have h1 := (e0.drew.trans ‹Ex w1.drew w2›).size
    omega)⟩, hE⟩

set_option maxRecDepth 100000 in
set_option maxHeartbeats 1000000 in
theorem rValue_any (w : World) (hf : FSh p m ml) (l : List Int) (v : Value) (hl : ISl w v l) (hb : ∀ x ∈ l, 0 ≤ x ∧ x < p) (hq : p ^ l.length ≤ 65536) :
    Calls Try.prog 95 #[.agg #[.int .i64 p, .int .i64 m, mv], v] w fun r w' => r = .returned (.int .i64 (vl p l)) ∧ Ex w w' := by
  obtain ⟨d0, d1, d2, e0, _⟩ := box_facts w p m mv
  obtain ⟨a, cap, rfl, s1, s2, s3⟩ := (hl.ex e0).open
  have p2 := hf.p2
  have p256 := hf.p256
  have hp : 1 ≤ p := by omega
  unfold maxLen at s2
  have S3 := hid_ s3
  have HV := hid_ (show vl p l = vl p (l.drop 0) from rfl)
  have HR := hid_ (show ∀ k, 0 ≤ vl p (l.drop k) ∧ vl p (l.drop k) * (p : Int) ≤ 16777216 ∧ vl p (l.drop k) ≤ 65536 from fun k => by
    obtain ⟨h1, h2⟩ := vl_rng hp (l.drop k) fun x hx => hb x (List.mem_of_mem_drop hx)
    have h3 : p ^ (l.drop k).length ≤ p ^ l.length := Nat.pow_le_pow_right hp (by rw [List.length_drop]; omega)
    have h4 := Int.mul_le_mul (show vl p (l.drop k) ≤ 65536 by omega) (show (p : Int) ≤ 256 by omega) (by omega) (by omega)
    exact ⟨h1, h4, by omega⟩)
  have HX := hid_ (show ∀ (k : Nat) (x : Int), l[k]? = some x → 0 ≤ x ∧ x ≤ 256 from fun k x h => by have := hb x (List.mem_of_getElem? h); omega)
  have HN := hid_ (show vl p (l.drop l.length) = 0 by rw [List.drop_length]; rfl)
  clear hl s3 hb hq hf
  go_enter Try.func95, Try.ntmps95
  go_wp2_with fail
  generalize w.alloc (.cells #[.int .i64 p, .int .i64 m, mv] 24) = w1 at *
  go_loopw [5, 6] (fun x' i' wr => ∃ k : Nat, k ≤ l.length ∧ i' = .int .i64 ((k : Int) - 1) ∧ x' = .int .i64 (vl p (l.drop k)) ∧ Ex w1 wr) (fun _ i' _ => (intOf i' + 1).toNat)
  case atStart => exact ⟨l.length, by omega, rfl, by rw [HN.out], Ex.refl _⟩
  case round =>
    obtain ⟨k, hk, rfl, rfl, hx⟩ := hrel
    obtain ⟨r1, r2, r3⟩ := HR.out k
    rcases k with _ | k
    · have HF := hid_ HV.out
      generalize vl p (l.drop 0) = y at *
      go_wp2_with fail
      go_ret
      exact ⟨ret_int HF.out.symm, e0.trans hx⟩
    · have r0 : 0 ≤ vl p (l.drop (k + 1)) * (p : Int) := Int.mul_nonneg r1 (by omega)
      obtain ⟨x, hxx⟩ : ∃ x, l[k]? = some x := ⟨_, List.getElem?_eq_getElem (by omega)⟩
      obtain ⟨b, o, rfl, hc⟩ := S3.out (by omega)
      have c1 := hx.cell (hc k x hxx)
      have c0 := hx.cell d0
      obtain ⟨x1, x2⟩ := HX.out k x hxx
      have HG := hid_ (codGo p l k x hxx)
      have e : (((k + 1 : Nat)) : Int) - 1 = k := by omega
      rw [e]
      have hkl : k < l.length := by omega
      clear hc hxx e
      generalize vl p (l.drop (k + 1)) = y at *
      have i1 : IntKind.i64.wrap (y * (p : Int)) = y * (p : Int) := IntWalk.i64_in _ (by omega)
      have i2 : IntKind.i64.wrap (y * (p : Int) + x) = y * (p : Int) + x := IntWalk.i64_in _ (by omega)
      go_wp2_with fail
      go_quiet (fail)
      clear i1 i2
      go_wp2_with fail
      go_roundw
      case rel => exact ⟨k, by omega, rfl, by rw [HG.out], hx.drewN _⟩
      case measure => simp [intOf]
end
end Go.Proofs.Ytpphaicbdeeacaa
