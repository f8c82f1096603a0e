/- Walks of the slices functions, Chinese, Product. -/
import Derived.Test.YtdnmhjpeklaijaaNumA
namespace Go.Proofs.Ytdnmhjpeklaijaa
set_option linter.unusedVariables false
set_option linter.unusedSimpArgs false
open Go.RowKit

/-- What a predicate's function value does, in every world that has only grown. -/
def PredAt (f : FuncId) (cap : Array Value) (w : World) (l : List Int) (p : Int → Bool) : Prop :=
  ∀ x w', x ∈ l → Ex w w' → Calls Try.prog f (#[.int .i64 x] ++ cap) w' fun e w'' => e = .returned (.bool (p x)) ∧ Ex w' w''

def idxOf_ (l : List Int) (p : Int → Bool) : Int := if l.any p then (l.findIdx p : Nat) else -1

theorem idxOf_hit {l : List Int} {p : Int → Bool} {k : Nat} {x : Int} (hx : l[k]? = some x) (hp : p x = true) (h : ∀ j y, j < k → l[j]? = some y → p y = false) : idxOf_ l p = k := by
  obtain ⟨hk, rfl⟩ := List.getElem?_eq_some_iff.1 hx
  unfold idxOf_
  rw [if_pos (List.any_eq_true.2 ⟨_, List.getElem_mem hk, hp⟩)]
  congr 1
  rw [List.findIdx_eq hk]
  exact ⟨hp, fun j hj => by simpa using h j l[j] hj (List.getElem?_eq_getElem (by omega))⟩

theorem idxOf_miss {l : List Int} {p : Int → Bool} (h : ∀ j y, j < l.length → l[j]? = some y → p y = false) : idxOf_ l p = -1 := by
  unfold idxOf_
  rw [if_neg]
  intro hc
  obtain ⟨x, hx, hp⟩ := List.any_eq_true.1 hc
  obtain ⟨j, hj, rfl⟩ := List.mem_iff_getElem.1 hx
  rw [h j _ hj (List.getElem?_eq_getElem hj)] at hp
  cases hp

theorem idxOf_nonneg (l : List Int) (p : Int → Bool) : decide (0 ≤ idxOf_ l p) = l.any p := by
  unfold idxOf_
  split
  · rename_i h; rw [h]; simp
  · rename_i h; rw [Bool.not_eq_true] at h; rw [h]; simp

set_option maxHeartbeats 1000000 in
theorem IndexFunc_any (f : FuncId) (cap : Array Value) (l : List Int) (p : Int → Bool) (v : Value) (w : World) (hl : ISl w v l) (hp : PredAt f cap w l p) (hcf : ∀ args w, (callFunc f args).run Try.prog w = .ok (.enter f args) w) :
    Calls Try.prog 72 #[v, .func (.func f) #[] cap] w fun r w' => r = .returned (.int .i64 (idxOf_ l p)) ∧ Ex w w' := by
  obtain ⟨sa, scap, rfl, s1, s2, s3⟩ := hl.open
  unfold maxLen at s2
  have S3 := hid_ s3
  have HP := hid_ hp
  clear s3 hp
  go_enter Try.func72, Try.ntmps72
  go_wp2
  go_loopw [8] (fun k' wr => ∃ k : Nat, k' = .int .i64 k ∧ k ≤ l.length ∧ Hid (∀ j y, j < k → l[j]? = some y → p y = false) ∧ Ex w wr) (fun k' _ => l.length - (intOf k').toNat)
  case atStart => exact ⟨0, rfl, by omega, hid_ (by intro j y h; omega), Ex.refl _⟩
  case round =>
    obtain ⟨k, rfl, hk, hall, hx⟩ := hrel
    by_cases hlt : k < l.length
    · obtain ⟨y, hy⟩ : ∃ y, l[k]? = some y := ⟨_, List.getElem?_eq_getElem hlt⟩
      obtain ⟨b, o, rfl, hc⟩ := S3.out (by omega)
      have c1 := hx.cell (hc k y hy)
      have HY := hid_ hy
      clear hc hy
      cases hpy : p y
      · have HPY := hid_ hpy
        have hall' : ∀ j z, j < k + 1 → l[j]? = some z → p z = false := by
          intro j z hj hz
          by_cases e : j = k
          · subst e; rw [HY.out] at hz; injection hz with hz; subst hz; exact hpy
          · exact hall.out j z (by omega) hz
        have HA := hid_ hall'
        clear hall hall'
        go_wp2_with (refine (HP.out y wr (List.mem_of_getElem? HY.out) hx).mono ?_; rintro e w1 ⟨rfl, hx1⟩)
        go_roundw
        case rel => exact ⟨k + 1, by go_num, by omega, HA, hx.trans hx1⟩
        case measure => simp [intOf]; omega
      · have HI := hid_ (idxOf_hit HY.out hpy hall.out)
        go_wp2_with (refine (HP.out y wr (List.mem_of_getElem? HY.out) hx).mono ?_; rintro e w1 ⟨rfl, hx1⟩)
        go_ret
        exact ⟨ret_int HI.out.symm, hx.trans hx1⟩
    · obtain rfl : k = l.length := by omega
      have HI := hid_ (idxOf_miss hall.out)
      go_wp2
      go_ret
      exact ⟨ret_int HI.out.symm, hx⟩

set_option maxHeartbeats 1000000 in
theorem Index_any (l : List Int) (x : Int) (v : Value) (w : World) (hl : ISl w v l) :
    Calls Try.prog 73 #[v, .int .i64 x] w fun r w' => r = .returned (.int .i64 (idxOf_ l (· == x))) ∧ Ex w w' := by
  obtain ⟨sa, scap, rfl, s1, s2, s3⟩ := hl.open
  unfold maxLen at s2
  have S3 := hid_ s3
  clear s3
  go_enter Try.func73, Try.ntmps73
  go_wp2
  go_loopw [8] (fun k' wr => ∃ k : Nat, k' = .int .i64 k ∧ k ≤ l.length ∧ Hid (∀ j y, j < k → l[j]? = some y → (y == x) = false) ∧ Ex w wr) (fun k' _ => l.length - (intOf k').toNat)
  case atStart => exact ⟨0, rfl, by omega, hid_ (by intro j y h; omega), Ex.refl _⟩
  case round =>
    obtain ⟨k, rfl, hk, hall, hx⟩ := hrel
    by_cases hlt : k < l.length
    · obtain ⟨y, hy⟩ : ∃ y, l[k]? = some y := ⟨_, List.getElem?_eq_getElem hlt⟩
      obtain ⟨b, o, rfl, hc⟩ := S3.out (by omega)
      have c1 := hx.cell (hc k y hy)
      have HY := hid_ hy
      clear hc hy
      cases hpy : (y == x)
      · have HPY := hid_ hpy
        have hall' : ∀ j z, j < k + 1 → l[j]? = some z → (z == x) = false := by
          intro j z hj hz
          by_cases e : j = k
          · subst e; rw [HY.out] at hz; injection hz with hz; subst hz; exact hpy
          · exact hall.out j z (by omega) hz
        have HA := hid_ hall'
        clear hall hall'
        go_wp2
        go_roundw
        case rel => exact ⟨k + 1, by go_num, by omega, HA, hx⟩
        case measure => simp [intOf]; omega
      · have HI := hid_ (idxOf_hit HY.out hpy hall.out)
        go_wp2
        go_ret
        exact ⟨ret_int HI.out.symm, hx⟩
    · obtain rfl : k = l.length := by omega
      have HI := hid_ (idxOf_miss hall.out)
      go_wp2
      go_ret
      exact ⟨ret_int HI.out.symm, hx⟩
set_option maxHeartbeats 1000000 in
theorem ContainsFunc_any (f : FuncId) (cap : Array Value) (l : List Int) (p : Int → Bool) (v : Value) (w : World) (hl : ISl w v l) (hp : PredAt f cap w l p) (hcf : ∀ args w, (callFunc f args).run Try.prog w = .ok (.enter f args) w) :
    Calls Try.prog 60 #[v, .func (.func f) #[] cap] w fun r w' => r = .returned (.bool (l.any p)) ∧ Ex w w' := by
  have HP := hid_ hp
  have HL := hid_ hl
  have HF := hid_ hcf
  have HD := hid_ (idxOf_nonneg l p)
  clear hp hl hcf
  generalize idxOf_ l p = r at *
  have hc := fun w (h1 : ISl w v l) (h2 : PredAt f cap w l p) => hid_ (IndexFunc_any f cap l p v w h1 h2 HF.out)
  go_enter Try.func60, Try.ntmps60
  go_wp2_with fail
  refine (IndexFunc_any f cap l p v w HL.out HP.out HF.out).mono ?_
  rintro e w1 ⟨rfl, hx⟩
  go_wp2
  go_ret
  exact ⟨ret_bool (idxOf_nonneg l p), hx⟩

set_option maxHeartbeats 1000000 in
theorem Contains_any (l : List Int) (x : Int) (v : Value) (w : World) (hl : ISl w v l) :
    Calls Try.prog 62 #[v, .int .i64 x] w fun r w' => r = .returned (.bool (l.any (· == x))) ∧ Ex w w' := by
  have HL := hid_ hl
  clear hl
  go_enter Try.func62, Try.ntmps62
  go_wp2_with fail
  refine (Index_any l x v w HL.out).mono ?_
  rintro e w1 ⟨rfl, hx⟩
  go_wp2
  go_ret
  exact ⟨ret_bool (idxOf_nonneg l _), hx⟩

set_option maxHeartbeats 1000000 in
theorem Product1_any (x : Int) (w : World) :
    Calls Try.prog 61 #[.int .i64 x] w fun r w' => r = .returned (.bool (decide (x < 0))) ∧ w = w' := by
  go_enter Try.func61, Try.ntmps61
  go_wp2
  go_ret
  exact ⟨rfl, rfl⟩
theorem Product1_call (args : Array Value) (w : World) : (callFunc 61 args).run Try.prog w = .ok (.enter 61 args) w := by kernel_rfl
theorem Product1_pred (w : World) (l : List Int) : PredAt 61 #[] w l (fun x => decide (x < 0)) := fun x w' _ _ =>
  (Product1_any x w').mono fun e w'' ⟨h1, h2⟩ => ⟨h1, h2 ▸ Ex.refl _⟩

set_option maxHeartbeats 1000000 in
theorem Product_any (m : Int) (l : List Int) (v : Value) (w : World) (hl : ISl w v l) (hm : m ≤ 9223372036854775807) (hb : ∀ x ∈ l, x ≤ 9223372036854775807) :
    Calls Try.prog 29 #[.int .i64 m, v] w fun r w' => r = .returned (.tuple #[.int .i64 (prodS m l).1, .int .i64 (prodS m l).2]) ∧ Ex w w' := by
  have HL := hid_ hl
  have HB := hid_ hb
  clear hl hb
  have HC1 := fun w (h : ISl w v l) => hid_ (ContainsFunc_any 61 #[] l (fun x => decide (x < 0)) v w h (Product1_pred w l) Product1_call)
  have HC2 := fun w (h : ISl w v l) => hid_ (Contains_any l 0 v w h)
  have HS := hid_ (show prodS m l = if (decide (m < 0) || l.any fun x => decide (x < 0)) = true then (0, 6) else if (l.any (· == 0)) = true then (0, 0) else if prodL l ≤ m then (prodL l, 0) else (0, 8) from rfl)
  by_cases hm0 : m < 0
  · go_enter Try.func29, Try.ntmps29
    go_wp2_with fail
    go_ret2
    rw [HS.out, if_pos (by simp [hm0])]
    exact ⟨rfl, Ex.refl _⟩
  · have hm1 : 0 ≤ m := by omega
    by_cases hn : (l.any fun x => decide (x < 0)) = true
    · go_enter Try.func29, Try.ntmps29
      go_wp2_with fail
      refine ((HC1 w HL.out).out).mono ?_
      rintro e w1 ⟨rfl, hx⟩
      go_wp2
      go_ret2
      rw [HS.out, if_pos (by simp only [hn, Bool.or_true])]
      exact ⟨rfl, hx⟩
    · have hn' : (l.any fun x => decide (x < 0)) = false := by rw [← Bool.not_eq_true]; exact hn
      clear hn
      by_cases hz : (l.any fun x => x == 0) = true
      · go_enter Try.func29, Try.ntmps29
        go_wp2_with fail
        refine ((HC1 w HL.out).out).mono ?_
        rintro e w1 ⟨rfl, hx⟩
        go_wp2_with fail
        refine ((HC2 w1 (HL.out.ex hx)).out).mono ?_
        rintro e w2 ⟨rfl, hx1⟩
        go_wp2
        go_ret2
        rw [HS.out, if_neg (by simp only [hn', Bool.or_false, decide_eq_true_eq]; omega), if_pos hz]
        exact ⟨rfl, hx.trans hx1⟩
      · have hz' : (l.any fun x => x == 0) = false := by rw [← Bool.not_eq_true]; exact hz
        clear hz
        have hall := all_pos_of hn' hz'
        have HA := hid_ hall
        have HS2 := hid_ (show prodS m l = if prodL l ≤ m then (prodL l, 0) else (0, 8) by rw [HS.out, if_neg (by simp only [hn', Bool.or_false, decide_eq_true_eq]; omega), if_neg (by rw [hz']; simp)])
        clear hall
        go_enter Try.func29, Try.ntmps29
        go_wp2_with fail
        refine ((HC1 w HL.out).out).mono ?_
        rintro e w1 ⟨rfl, hx⟩
        go_wp2_with fail
        refine ((HC2 w1 (HL.out.ex hx)).out).mono ?_
        rintro e w2 ⟨rfl, hx1⟩
        have hx2 := hx.trans hx1
        have HL2 := HL.out.ex hx2
        clear hx hx1 HC1 HC2
        obtain ⟨sa, cap, rfl, s1, s2, s3⟩ := HL2.open
        unfold maxLen at s2
        have S3 := hid_ s3
        clear s3 HL2
        go_wp2
        clear hn' hz'
        have hbd : ∀ k, 1 ≤ prodL (l.take k) ∧ prodL (l.take k) ≤ prodL l := fun k => ⟨prodL_pos _ fun x hx => HA.out x (List.mem_of_mem_take hx), prodL_take_le l k HA.out⟩
        have HBD := hid_ hbd
        clear hbd
        go_loopw [6, 19] (fun o' k' wr => ∃ k : Nat, o' = .int .i64 (prodL (l.take k)) ∧ k' = .int .i64 k ∧ k ≤ l.length ∧ prodL (l.take k) ≤ 9223372036854775807 ∧ Ex w2 wr) (fun _ k' _ => l.length - (intOf k').toNat)
        case atStart => exact ⟨0, by simp [prodL], rfl, by omega, by simp [prodL], Ex.refl _⟩
        case round =>
          obtain ⟨k, rfl, rfl, hk, ho, hx⟩ := hrel
          by_cases hlt : k < l.length
          · obtain ⟨x, hxk⟩ : ∃ x, l[k]? = some x := ⟨_, List.getElem?_eq_getElem hlt⟩
            obtain ⟨b, o, rfl, hc⟩ := S3.out (by omega)
            have c1 := hx.cell (hc k x hxk)
            have x1 := HA.out x (List.mem_of_getElem? hxk)
            have x2 := HB.out x (List.mem_of_getElem? hxk)
            obtain ⟨p1, p2⟩ := HBD.out k
            have hst : prodL (l.take (k + 1)) = prodL (l.take k) * x := by rw [take_snoc_ hxk, prodL_append]; simp [prodL]
            have hup := (HBD.out (k + 1)).2
            rw [hst] at hup
            have HST := hid_ hst
            clear hc hxk hst
            generalize prodL (l.take k) = q at *
            by_cases hlt2 : m / x < q
            · have hbig := lt_of_div_lt x1 hlt2
              have HS3 := hid_ (show prodS m l = (0, 8) by rw [HS2.out, if_neg (by omega)])
              clear hup hbig
              go_wp2
              go_ret2
              rw [HS3.out]
              exact ⟨rfl, hx2.trans hx⟩
            · have hle := le_of_le_div x1 (show q ≤ m / x by omega)
              have hpos : 0 ≤ q * x := Int.mul_nonneg (by omega) (by omega)
              clear hup
              go_wp2
              go_roundw
              case rel => exact ⟨k + 1, by rw [HST.out], by go_num, by omega, by rw [HST.out]; omega, hx⟩
              case measure => simp [intOf]; omega
          · obtain rfl : k = l.length := by omega
            rw [List.take_length] at *
            by_cases hle : prodL l ≤ m
            · have HS3 := hid_ (show prodS m l = (prodL l, 0) by rw [HS2.out, if_pos hle])
              go_wp2
              go_ret2
              rw [HS3.out]
              exact ⟨rfl, hx2.trans hx⟩
            · have HS3 := hid_ (show prodS m l = (0, 8) by rw [HS2.out, if_neg hle])
              have hle' : m < prodL l := by omega
              clear hle
              go_wp2
              go_ret2
              rw [HS3.out]
              exact ⟨rfl, hx2.trans hx⟩
end Go.Proofs.Ytdnmhjpeklaijaa
