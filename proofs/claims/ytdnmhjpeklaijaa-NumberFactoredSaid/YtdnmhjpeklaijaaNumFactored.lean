/- The walk of the law NumberFactored. -/
import Derived.Test.YtdnmhjpeklaijaaNumK
import Derived.Test.YtdnmhjpeklaijaaNumS
namespace Go.Proofs.Ytdnmhjpeklaijaa
set_option linter.unusedVariables false
set_option linter.unusedSimpArgs false
open Go.RowKit

theorem prodL_reverse (l : List Int) : prodL l.reverse = prodL l := by
  induction l with
  | nil => rfl
  | cons x l ih => rw [List.reverse_cons, prodL_append, ih]; simp only [prodL]; rw [Int.mul_one, Int.mul_comm]

theorem prodS_reverse (m : Int) (l : List Int) : prodS m l.reverse = prodS m l := by
  unfold prodS
  rw [List.any_reverse, List.any_reverse, prodL_reverse]

theorem infoI : (Try.prog.info? 3).map (fun i => (i.zero, i.size, i.bytes)) = some (some (.int .i64 0), 1, 8) := by kernel_rfl

set_option maxRecDepth 100000 in
set_option maxHeartbeats 2000000 in
theorem NumberFactored_any (m : Int) (a : Option Addr) (cap : Nat) (l : List Int) (w : World) (hm : -9223372036854775808 ≤ m ∧ m ≤ 9223372036854775807) (hl : ISl w (.slice a l.length cap) l) (hb : ∀ x ∈ l, -9223372036854775808 ≤ x ∧ x ≤ 9223372036854775807) :
    Calls Try.prog 9 #[.int .i64 m, .slice a l.length cap] w fun r w' => r = .returned (.bool true) ∧ Ex w w' := by
  obtain ⟨m1, m2⟩ := hm
  have HL := hid_ hl
  have hlc : l.length ≤ 9223372036854775807 := by
    obtain ⟨_, cap', he, h1, h2, _⟩ := hl.open
    unfold maxLen at h2; omega
  have HB := hid_ hb
  have HP := fun w h => hid_ (Product_any m l (.slice a l.length cap) w h m2 (fun x hx => (hb x hx).2))
  have HR := fun w h => hid_ (rProduct_any m l (.slice a l.length cap) w h m2 (fun x hx => (hb x hx).2))
  have HRV := fun v w h => hid_ (Product_any m l.reverse v w h m2 (fun x hx => (hb x (List.mem_reverse.1 hx)).2))
  rw [prodS_reverse] at HRV
  clear hb hl
  by_cases hbig : 100 < l.length
  · have hbig' : (100 : Int) < (l.length : Int) := by omega
    go_enter Try.func9, Try.ntmps9
    go_wp2_with fail
    refine (awake_any _).mono ?_
    rintro e w1 ⟨rfl, hx1⟩
    go_wp2_with fail
    refine (awake_any _).mono ?_
    rintro e w2 ⟨rfl, hx2⟩
    go_wp2_with fail
    go_ret
    exact ⟨rfl, hx1.trans hx2⟩
  · have hbig' : (l.length : Int) ≤ 100 := by omega
    go_enter Try.func9, Try.ntmps9
    go_wp2_with fail
    refine (awake_any _).mono ?_
    rintro e w1 ⟨rfl, hx1⟩
    go_wp2_with fail
    refine (HP _ (HL.out.ex hx1)).out.mono ?_
    rintro e w2 ⟨rfl, hx2⟩
    go_wp2_with fail
    refine (HR _ (HL.out.ex (hx1.trans hx2))).out.mono ?_
    rintro e w3 ⟨rfl, hx3⟩
    go_wp2_with fail
    have hx4 := (hx1.trans hx2).trans hx3
    have HX4 := hid_ hx4
    have HX0 := hid_ hx1
    clear hx1 hx2 hx3 HP HR
    obtain ⟨ii, hii, hz0, hz1, hz2⟩ := info_parts infoI
    generalize prodS m l = pr at *
    go_loopw [9, 10] (fun v' i' wr => ∃ k : Nat, i' = .int .i64 ((l.length : Int) - 1 - k) ∧ k ≤ l.length ∧ wr.ownsRow w3.heap.size 3 1 v' k (ints (l.reverse.take k)) ∧ Ex w3 wr) (fun _ i' _ => (intOf i' + 1).toNat)
    case atStart => exact ⟨0, by simp, by omega, World.ownsRow_nil _ _ _ _, Ex.refl _⟩
    case round =>
      obtain ⟨k, rfl, hk, hown, hx⟩ := hrel
      by_cases hlt : k < l.length
      · obtain ⟨y, hy⟩ : ∃ y, l[l.length - 1 - k]? = some y := ⟨_, List.getElem?_eq_getElem (by omega)⟩
        obtain ⟨aa, cap', he, s1, s2, s3⟩ := (HL.out.ex hx4).open
        injection he with he1 he2 he3
        subst he1; subst he3
        obtain ⟨b, o, rfl, hc⟩ := s3 (by omega)
        have c1 := hx.cell (hc _ y hy)
        unfold maxLen at s2
        have hry : l.reverse[k]? = some y := by rw [List.getElem?_reverse hlt]; exact hy
        have hi0 : (0 : Int) ≤ (l.length : Int) - 1 - (k : Int) := by omega
        have hidx : ((l.length : Int) - 1 - (k : Int)).toNat = l.length - 1 - k := by omega
        clear hc s3 hy hx4
        go_wp2_with (at_builtin; refine wpList_append_own _ rfl _ _ 36 rfl w3.heap.size 3 ii (.int .i64 0) 1 8 Try.underlying36 hii hz0 hz1 hz2 rfl (by decide) _ _ _ rfl (hown.alloc _) ⟨wr.heap.size, 0, none⟩ 1 1 [.int .i64 y] rfl rfl ?c1 ?c2 ?c3 ?c4 ?c5 ?_)
        case c3 => unfold maxLen; omega
        case c4 => omega
        case c2 => rfl
        case c5 => exact Nat.le_trans hx.size (by simp)
        intro v' w4 hown4 hg4 hnil4
        have hx5 : Ex w3 w4 := Ex.grown (hx.alloc _) (hown.alloc _) (Nat.le_refl _) hg4
        have hown5 : w4.ownsRow w3.heap.size 3 1 v' (k + 1) (ints (l.reverse.take (k + 1))) := by
          rw [take_snoc_ hry]; simpa [ints] using hown4
        clear hown4 hg4 hnil4 hown c1
        go_wp2
        go_roundw
        case rel => exact ⟨k + 1, by go_num, by omega, hown5, hx5⟩
        case measure => simp [intOf]; omega
      · obtain rfl : k = l.length := by omega
        rw [List.take_of_length_le (by simp)] at hown
        have hsl : ISl wr u9 l.reverse := by
          have := Sl.own hown
          unfold ISl
          rw [List.length_reverse]
          exact this
        have HSL := hid_ hsl
        clear hsl hown hx4
        go_wp2_with fail
        refine (HRV _ _ HSL.out).out.mono ?_
        rintro e w5 ⟨rfl, hx5⟩
        go_wp2
        go_ret
        exact ⟨rfl, (HX4.out.trans hx).trans hx5⟩
end Go.Proofs.Ytdnmhjpeklaijaa
