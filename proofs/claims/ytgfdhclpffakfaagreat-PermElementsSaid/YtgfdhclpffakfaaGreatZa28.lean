/- Numbers of limbs in memory: nat.short, nat.Trim, nat.Of. -/
import Derived.Test.YtgfdhclpffakfaaGreatZa27
namespace Go.Proofs.YtgfdhclpffakfaaGreat
set_option linter.unusedVariables false
set_option linter.unusedSimpArgs false
open Go.RowKit

theorem infoU32 : (Tryz.prog.info? 65).map (fun i => (i.zero, i.size, i.bytes)) = some (some (.int .u32 0), 1, 4) := by kernel_rfl
def uv (f : Nat → Nat) : Nat → Value := fun j => .int .u32 (f j : Int)
theorem uv_upd (f : Nat → Nat) (k : Nat) (y : Nat) : upd (uv f) k (.int .u32 (y : Int)) = uv (upd f k y) := by
  funext j; unfold upd uv; by_cases h : j = k <;> simp [h]
/-- A slice of limbs. -/
def NL (w : World) (v : Value) (n : Nat) (f : Nat → Nat) : Prop := Sl w v n 1 (vs n (uv f))
/-- A number. -/
def NSl (w : World) (v : Value) (x : Nat) : Prop := ∃ n f, Cano n f ∧ vS f n = x ∧ NL w v n f
theorem NL.ex {w w' : World} {v : Value} {n : Nat} {f : Nat → Nat} (h : NL w v n f) (hx : Ex w w') : NL w' v n f := Sl.ex h hx
theorem NSl.ex {w w' : World} {v : Value} {x : Nat} (h : NSl w v x) (hx : Ex w w') : NSl w' v x := by
  obtain ⟨n, f, h1, h2, h3⟩ := h
  exact ⟨n, f, h1, h2, h3.ex hx⟩
theorem NL.open {w : World} {v : Value} {n : Nat} {f : Nat → Nat} (h : NL w v n f) : ∃ a cap, v = .slice a n cap ∧ n ≤ cap ∧ cap ≤ maxLen ∧
    (0 < n → ∃ b o, a = some ⟨b, o, none⟩ ∧ ∀ j, j < n → w.cell? ⟨b, o + j, none⟩ = some (.int .u32 (f j : Int))) := by
  obtain ⟨h1, a, cap, rfl, h3, h4, h5⟩ := h
  refine ⟨a, cap, rfl, h3, h4, fun hn => ?_⟩
  obtain ⟨b, o, rfl, h6⟩ := h5 hn
  exact ⟨b, o, rfl, fun j hj => h6 j _ (vs_get hj (uv f))⟩
theorem NL.mk {w : World} {a : Option Addr} {n cap : Nat} {f : Nat → Nat} (h1 : n ≤ cap) (h2 : cap ≤ maxLen) (h3 : 0 < n → ∃ b o, a = some ⟨b, o, none⟩ ∧ ∀ j, j < n → w.cell? ⟨b, o + j, none⟩ = some (.int .u32 (f j : Int))) : NL w (.slice a n cap) n f := by
  refine ⟨by rw [vs_length, Nat.mul_one], a, cap, rfl, h1, h2, fun hn => ?_⟩
  obtain ⟨b, o, rfl, h4⟩ := h3 hn
  refine ⟨b, o, rfl, fun j u hu => ?_⟩
  have hj : j < n := by have := (List.getElem?_eq_some_iff.1 hu).1; rwa [vs_length] at this
  rw [vs_get hj] at hu
  injection hu with hu
  rw [h4 j hj, ← hu]; rfl
theorem NL.take {w : World} {a : Option Addr} {n cap m : Nat} {f : Nat → Nat} (h : NL w (.slice a n cap) n f) (hm : m ≤ n) {c : Nat} (hc : m ≤ c) (hc2 : c ≤ cap) : NL w (.slice a m c) m f := by
  obtain ⟨a', cap', e, h1, h2, h3⟩ := h.open
  injection e with e1 e2 e3
  subst e1 e3
  exact NL.mk hc (Nat.le_trans hc2 h2) fun hn => by
    obtain ⟨b, o, rfl, h4⟩ := h3 (by omega)
    exact ⟨b, o, rfl, fun j hj => h4 j (by omega)⟩
set_option maxRecDepth 100000 in
set_option maxHeartbeats 1000000 in
theorem short_any (w : World) (n : Nat) (f : Nat → Nat) (v : Value) (hv : NL w v n f) (hlt : ∀ k, k < n → f k < B32) :
    Calls Tryz.prog 74 #[v] w fun r w' => (∃ u m, r = .returned u ∧ m ≤ n ∧ Cano m f ∧ vS f m = vS f n ∧ NL w u m f) ∧ w' = w := by
  obtain ⟨a, cap, rfl, s1, s2, s3⟩ := hv.open
  have HV := hid_ hv
  have S3 := hid_ s3
  have HLT := hid_ hlt
  have HCM := hid_ s2
  unfold maxLen at s2
  clear hv s3 hlt
  go_enter Tryz.func74, Tryz.ntmps74
  go_wp2_with fail
  go_loopw [3] (fun m' wr => ∃ m : Nat, m' = .int .i64 m ∧ wr = w ∧ Hid (ShrtI f n m)) (fun m' _ => (intOf m').toNat)
  case atStart => exact ⟨n, rfl, rfl, ⟨Nat.le_refl _, rfl⟩⟩
  case round =>
    obtain ⟨m, rfl, rfl, hs⟩ := hrel
    have hle := hs.out.le
    cases m with
    | zero =>
      have HC := hid_ (hs.out.fin HLT.out (fun m h => by cases h))
      go_wp2_with fail
      go_ret
      exact ⟨⟨_, 0, rfl, Nat.zero_le _, HC.out, hs.out.val, HV.out.take (Nat.zero_le _) (Nat.le_refl _) (Nat.zero_le _)⟩, rfl⟩
    | succ k =>
      have i1 : (0 : Int) ≤ (k : Int) := by omega
      have i2 : (k : Int) < (n : Int) := by omega
      obtain ⟨b, o, rfl, hc⟩ := S3.out (by omega)
      have c1 := hc k (by omega)
      have hw1 : ((k + 1 : Nat) : Int) - 1 = (k : Int) := by omega
      by_cases h0 : f k = 0
      · have HS := hid_ (hs.out.step h0)
        rw [h0] at c1
        clear hc h0
        go_wp2_with fail
        go_roundw
        case rel => exact ⟨k, by go_num, trivial, HS⟩
        case measure => simp [intOf]
      · have HC := hid_ (hs.out.fin HLT.out (fun m h => by injection h with h; subst h; exact h0))
        have hb : ((f k : Int) == 0) = false := by simpa using h0
        clear hc h0
        go_wp2_with fail
        go_ret
        exact ⟨⟨_, k + 1, rfl, hle, HC.out, hs.out.val, HV.out.take hle (Nat.le_refl _) (by omega)⟩, rfl⟩
theorem NL.cells {w : World} {v : Value} {n : Nat} {f : Nat → Nat} (h : NL w v n f) : ∀ u ∈ vs n (uv f), u.oneCell' = true := fun u hu => by
  unfold vs uv at hu
  obtain ⟨j, _, rfl⟩ := List.mem_map.1 hu
  rfl
set_option maxRecDepth 100000 in
set_option maxHeartbeats 1000000 in
theorem Trim_any (w : World) (n : Nat) (f : Nat → Nat) (v : Value) (hv : NL w v n f) (hlt : ∀ k, k < n → f k < B32) (hn : n ≤ 100000) :
    Calls Tryz.prog 72 #[v] w fun r w' => (∃ u, r = .returned u ∧ NSl w' u (vS f n)) ∧ Ex w w' := by
  obtain ⟨a, cap, rfl, s1, s2, s3⟩ := hv.open
  have HS := hid_ (short_any w n f _ hv hlt)
  have HN := hid_ hn
  clear hv s3 hlt hn
  go_enter Tryz.func72, Tryz.ntmps72
  go_wp2_with (first | (go_at_call 74; refine HS.out.mono ?_; rintro e w2 ⟨⟨u, m, rfl, hm, hc, hvm, hu⟩, rfl⟩; obtain ⟨ua, uc, rfl, _, _, _⟩ := hu.open; have HU := hid_ hu; have HM := hid_ hm; have HC := hid_ hc; have HVM := hid_ hvm; clear hu hm hc hvm; have hm2 : m ≤ 100000 := Nat.le_trans HM.out HN.out)
                        | (at_builtin; refine wpList_append_sl _ rfl _ _ 38 rfl w2.heap.size 65 (.int .u32 0) 1 4 Tryz.underlying38 infoU32 rfl (by decide) (.slice none 0 0) 0 [] rfl (World.ownsRow_nil _ _ _ _) (.slice ua m uc) m _ rfl HU.out HU.out.cells (by unfold maxLen; omega) (by omega) (by simp) ?_; intro v' w' hown hg hb; obtain ⟨oa, oc, rfl⟩ := own_shape hown; have HO := hid_ hown; have HXA := hid_ (Below.grown (Below.refl _ _) hg (Nat.le_refl _) (fun k hk => by cases hk)); clear hown hg hb))
  go_ret
  exact ⟨⟨_, rfl, m, f, HC.out, HVM.out, by have := Sl.own HO.out; rw [Nat.zero_add, List.nil_append] at this; exact this⟩, HXA.out⟩
theorem b32_eq : B32 = 4294967296 := rfl
theorem b32_mod (S : Nat) : (S : Int) % 4294967296 = ((S % B32 : Nat) : Int) := by rw [b32_eq]; omega
theorem b32_div (S : Nat) : (S : Int) / 4294967296 = ((S / B32 : Nat) : Int) := by rw [b32_eq]; omega
def fl2 (x : Nat) : Nat → Nat := fun k => if k = 0 then x % B32 else x / B32
theorem fl2_val (x : Nat) : vS (fl2 x) 2 = x := by
  show 0 + x % B32 * 1 + x / B32 * B32 ^ 1 = x
  have := Nat.div_add_mod x B32
  rw [Nat.pow_one, Nat.mul_comm (x / B32)]; omega
theorem fl2_lt {x : Nat} (hx : x < 18446744073709551616) : ∀ k, k < 2 → fl2 x k < B32 := fun k hk => by
  unfold fl2
  split
  · exact Nat.mod_lt _ b32_pos
  · unfold B32; omega
theorem fl2_nl (w : World) (x : Nat) (t : TypeId) : NL (w.alloc (.cells #[.int .u32 ((x : Int) % 4294967296), .int .u32 ((x : Int) / 4294967296)] t)) (.slice (some ⟨w.heap.size, 0, none⟩) 2 2) 2 (fl2 x) :=
  NL.mk (Nat.le_refl _) (by unfold maxLen; omega) fun _ => ⟨_, 0, rfl, fun j hj => by
    match j, hj with
    | 0, _ => simp [fl2, B32]
    | 1, _ => simp [fl2, B32]⟩
set_option maxRecDepth 100000 in
set_option maxHeartbeats 1000000 in
theorem Of_any (w : World) (x : Nat) (hx : x < 18446744073709551616) :
    Calls Tryz.prog 49 #[.int .u64 x] w fun r w' => (∃ u, r = .returned u ∧ NSl w' u x) ∧ Ex w w' := by
  have HT := hid_ (Trim_any (w.alloc (.cells #[.int .u32 ((x : Int) % 4294967296), .int .u32 ((x : Int) / 4294967296)] 65)) 2 (fl2 x) _ (fl2_nl w x _) (fl2_lt hx) (by omega))
  have EA := hid_ ((Ex.refl w).alloc (.cells #[.int .u32 ((x : Int) % 4294967296), .int .u32 ((x : Int) / 4294967296)] 65))
  rw [fl2_val] at HT
  go_enter Tryz.func49, Tryz.ntmps49
  go_wp2_with (go_at_call 72; refine HT.out.mono ?_; rintro e w2 ⟨⟨u, rfl, hu⟩, hx⟩; obtain ⟨n, f, _, _, hu2⟩ := id hu; obtain ⟨ua, uc, rfl, _, _, _⟩ := hu2.open; have HU := hid_ hu; have HX := hid_ hx; clear hu hu2 hx)
  go_ret
  exact ⟨⟨_, rfl, HU.out⟩, EA.out.trans HX.out⟩
set_option maxRecDepth 100000 in
set_option maxHeartbeats 1000000 in
theorem times_any (w : World) (n m : Nat) (a b : Nat → Nat) (u v : Value) (hu : NL w u n a) (hv : NL w v m b) (ha : ∀ k, k < n → a k < B32) (hb : ∀ k, k < m → b k < B32) (hn : n ≤ 10000) (hm : m ≤ 10000) :
    Calls Tryz.prog 73 #[u, v] w fun r w' => (∃ u, r = .returned u ∧ NSl w' u (vS a n * vS b m)) ∧ Ex w w' := by
  obtain ⟨ua, uc, rfl, s1, s2, s3⟩ := hu.open
  obtain ⟨va, vc, rfl, t1, t2, t3⟩ := hv.open
  unfold maxLen at s2 t2
  have S3 := hid_ s3
  have T3 := hid_ t3
  have HA := hid_ ha
  have HB := hid_ hb
  have hw0 : wrap64 ((n : Int) + (m : Int)) = ((n + m : Nat) : Int) := by rw [← Int.natCast_add]; exact w64 (by omega) (by omega)
  clear hu hv s3 t3 ha hb
  go_enter Tryz.func73, Tryz.ntmps73
  go_wp2_with (at_make; refine wpList_make_arr _ rfl _ _ 38 rfl 65 (.int .u32 0) 4 Tryz.underlying38 infoU32 rfl _ (n + m) rfl rfl (by first | rfl | omega) (by omega) (by unfold maxLen; omega) ?_)
  intro w3 hown hx3
  obtain ⟨g, hg⟩ : ∃ g, w.heap.size = g := ⟨_, rfl⟩
  have HO3 := hid_ (show Own w3 w.heap.size 65 g (n + m) (uv fun _ => 0) from by rw [← hg]; exact hown)
  have HX3 := hid_ hx3
  have HGG := hid_ hg
  try simp only [hg]
  clear hown hx3 hg
  go_wp2_with fail
  go_loopw [20] (fun i' wr => ∃ (i : Nat) (f : Nat → Nat), i ≤ n ∧ i' = .int .i64 i ∧ Hid (Own wr w.heap.size 65 g (n + m) (uv f)) ∧ Hid (MulI (n + m) i m a b f) ∧ Hid (Ex w wr)) (fun i' _ => n - (intOf i').toNat)
  case atStart => exact ⟨0, _, by omega, rfl, HO3, hid_ (MulI.start _ _ _ _), HX3⟩
  case round =>
    clear HO3 HX3
    obtain ⟨i, f, hi, rfl, ho, hmi, hex⟩ := hrel
    by_cases hin : i < n
    · obtain ⟨sb, so, rfl, hsc⟩ := S3.out (by omega)
      have c1 := hex.out.cell (hsc i hin)
      have i1 : (0 : Int) ≤ (i : Int) := by omega
      have i2 : (i : Int) < (n : Int) := by omega
      have HAI := hid_ (HA.out i hin)
      obtain ⟨A, hA⟩ : ∃ A, a i = A := ⟨_, rfl⟩
      rw [hA] at c1
      have HAE := hid_ hA
      clear hA hsc
      go_wp2_with fail
      go_loopw [8, 27] (fun c' j' wr => ∃ (c j : Nat) (f : Nat → Nat), j ≤ m ∧ c' = .int .u64 c ∧ j' = .int .i64 j ∧ Hid (Own wr w.heap.size 65 g (n + m) (uv f)) ∧ Hid (MulJ (n + m) i m a b f c j) ∧ Hid (Ex w wr)) (fun _ j' _ => m - (intOf j').toNat)
      case atStart => exact ⟨0, 0, f, by omega, rfl, rfl, ho, hid_ hmi.out.inner, hex⟩
      case round =>
        clear c1 ho hmi hex
        obtain ⟨c, j, f, hj, rfl, rfl, ho, hmj, hex⟩ := hrel
        by_cases hjm : j < m
        · obtain ⟨tb, tp, rfl, htc⟩ := T3.out (by omega)
          have c2 := hex.out.cell (htc j hjm)
          have hij : i + j < n + m := by omega
          have c3 := ho.out.cell hij
          have c3f := ho.out.frz (i + j)
          have i3 : (0 : Int) ≤ (j : Int) := by omega
          have i4 : (j : Int) < (m : Int) := by omega
          have i5 : (0 : Int) ≤ (i : Int) + (j : Int) := Int.add_nonneg i1 i3
          have i6 : (i : Int) + (j : Int) < (n : Int) + (m : Int) := Int.add_lt_add i2 i4
          have HST := hid_ (hmj.out.step hjm (by omega) HAI.out (HB.out j hjm))
          have hbnd := mul_bound HAI.out (HB.out j hjm) (hmj.out.lt (i + j) hij) hmj.out.cl
          have hOS := fun y : Nat => ho.out.set (i + j) (.int .u32 (y : Int))
          have hES := fun y : Nat => ho.out.exSet (Nat.le_refl _) hex.out (i + j) (.int .u32 (y : Int))
          simp only [uv_upd] at hOS
          have hlb : a i < 4294967296 := HAI.out
          have hlc : b j < 4294967296 := HB.out j hjm
          have hld : f (i + j) < 4294967296 := hmj.out.lt (i + j) hij
          have hlee : c < 4294967296 := hmj.out.cl
          have hbd : a i * b j + f (i + j) + c < 18446744073709551616 := hbnd
          clear hbnd
          unfold uv at c3
          rw [HAE.out] at HST hbd hlb
          obtain ⟨B, hB⟩ : ∃ B, b j = B := ⟨_, rfl⟩
          obtain ⟨F, hF⟩ : ∃ F, f (i + j) = F := ⟨_, rfl⟩
          rw [hB] at HST hbd c2 hlc
          simp only [hF] at c3
          rw [hF] at HST hbd hld
          obtain ⟨P, hP⟩ : ∃ P, A * B = P := ⟨_, rfl⟩
          rw [hP] at HST hbd
          obtain ⟨T, hT⟩ : ∃ T, P + F = T := ⟨_, rfl⟩
          rw [hT] at HST hbd
          obtain ⟨S, hS⟩ : ∃ S, T + c = S := ⟨_, rfl⟩
          rw [hS] at HST hbd
          have e1 : IntKind.u64.wrap ((A : Int) * (B : Int)) = (P : Int) := by rw [← Int.natCast_mul, hP, IntKind.wrap_u64]; omega
          have e2 : IntKind.u64.wrap ((P : Int) + (F : Int)) = (T : Int) := by rw [IntKind.wrap_u64]; omega
          have e3 : IntKind.u64.wrap ((T : Int) + (c : Int)) = (S : Int) := by rw [IntKind.wrap_u64]; omega
          have e7 : IntKind.u64.wrap (A : Int) = (A : Int) := by rw [IntKind.wrap_u64]; omega
          have e8 : IntKind.u64.wrap (B : Int) = (B : Int) := by rw [IntKind.wrap_u64]; omega
          have e9 : IntKind.u64.wrap (F : Int) = (F : Int) := by rw [IntKind.wrap_u64]; omega
          have e5 : (S : Int) % 4294967296 = ((S % B32 : Nat) : Int) := b32_mod S
          have e6 : (S : Int) / 4294967296 = ((S / B32 : Nat) : Int) := b32_div S
          obtain ⟨r, hr⟩ : ∃ r, S % B32 = r := ⟨_, rfl⟩
          obtain ⟨k, hk⟩ : ∃ k, S / B32 = k := ⟨_, rfl⟩
          rw [hr] at e5 HST
          rw [hk] at e6 HST
          have HOS := hid_ (hOS r)
          have HES := hid_ (hES r)
          clear hOS hES htc hP hT hS hB hF hr hk hbd hlb hlc hld hlee
          go_wp2_with fail
          clear e1 e2 e3 e5 e6 e7 e8 e9
          go_roundw
          case rel => exact ⟨k, j + 1, _, by omega, rfl, by go_num, HOS, HST, HES⟩
          case measure => simp [intOf]; omega
        · obtain rfl : j = m := by omega
          have HFI := hid_ (hmj.out.fin (by omega))
          have hnm : i + j < n + j := by omega
          have c3 := ho.out.cell hnm
          have c3f := ho.out.frz (i + j)
          have hOS := ho.out.set (i + j) (.int .u32 (c : Int))
          have HES := hid_ (ho.out.exSet (Nat.le_refl _) hex.out (i + j) (.int .u32 (c : Int)))
          rw [uv_upd] at hOS
          have HOS := hid_ hOS
          have k5 : (0 : Int) ≤ (i : Int) + (j : Int) := Int.add_nonneg i1 (Int.natCast_nonneg j)
          have k6 : (i : Int) + (j : Int) < (n : Int) + (j : Int) := Int.add_lt_add_right i2 _
          have hc : c < 4294967296 := hmj.out.cl
          have hw2 := hid_ (show (c : Int) % 4294967296 = (c : Int) from by omega)
          have e2 := hw2.out
          unfold uv at c3
          clear hc hOS
          go_wp2_with fail
          clear e2
          go_roundw
          case rel => exact ⟨i + 1, _, by omega, by go_num, HOS, HFI, HES⟩
          case measure => simp [intOf]; omega
    · obtain rfl : i = n := by omega
      have hSH := short_any wr (i + m) f _ (show NL wr (.slice (some ⟨g, 0, none⟩) (i + m) (i + m)) (i + m) f from ho.out.sl) hmi.out.lt
      rw [hmi.out.val] at hSH
      have HSH := hid_ hSH
      clear hSH
      go_wp2_with (go_at_call 74; refine HSH.out.mono ?_; rintro e w5 ⟨⟨u, k, rfl, hk1, hk2, hk3, hk4⟩, rfl⟩; obtain ⟨oa, oc, rfl, _, _, _⟩ := hk4.open; have HK2 := hid_ hk2; have HK3 := hid_ hk3; have HK4 := hid_ hk4; clear hk2 hk3 hk4)
      go_ret
      exact ⟨⟨_, rfl, k, f, HK2.out, HK3.out, HK4.out⟩, hex.out⟩
end Go.Proofs.YtgfdhclpffakfaaGreat
