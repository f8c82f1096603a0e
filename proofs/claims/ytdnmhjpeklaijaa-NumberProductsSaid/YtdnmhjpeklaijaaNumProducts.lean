/- The walk of the law NumberProducts. -/
import Derived.Test.YtdnmhjpeklaijaaNumK
import Derived.Test.YtdnmhjpeklaijaaNumP
import Derived.Deep.RegionHeld3
namespace Go.Proofs.Ytdnmhjpeklaijaa
set_option linter.unusedVariables false
set_option linter.unusedSimpArgs false
open Go.RowKit

theorem keep2 {w0 w' : World} {a b : Addr} {u v : Value} (h1 : w0.cell? a = some u) (h2 : w0.cell? b = some v) (h : Ex w0 w') : w'.cell? a = some u ∧ w'.cell? b = some v ∧ Ex w0 w' := ⟨h.cell h1, h.cell h2, h⟩

theorem keep3 {w0 w' : World} {a b c : Addr} {u v y : Value} (h1 : w0.cell? a = some u) (h2 : w0.cell? b = some v) (h3 : w0.cell? c = some y) (h : Ex w0 w') : w'.cell? a = some u ∧ w'.cell? b = some v ∧ w'.cell? c = some y ∧ Ex w0 w' := ⟨h.cell h1, h.cell h2, h.cell h3, h⟩

set_option maxRecDepth 100000 in
set_option maxHeartbeats 2000000 in
theorem NumberProducts_any (n : Int) (w : World) (hn : 0 ≤ n ∧ n ≤ 4294967295) :
    Calls Try.prog 3 #[.int .u32 n] w fun r w' => r = .returned (.bool true) ∧ Ex w w' := by
  obtain ⟨n0, n1⟩ := hn
  obtain ⟨v, hv⟩ : ∃ v : Nat, n % 2147483647 + 1 = (v : Int) := ⟨(n % 2147483647 + 1).toNat, by omega⟩
  have v1 : 1 ≤ v := by omega
  have v2 : v ≤ 2147483647 := by omega
  have n2 : 0 ≤ n % 2147483647 := by omega
  have n3 : n % 2147483647 < 2147483647 := by omega
  have HV := hid_ hv
  have hlen : (facs v).length ≤ 30 := facs_len v1 v2
  go_enter Try.func3, Try.ntmps3
  go_wp2_with fail
  refine (awake_any _).mono ?_
  rintro e w1 ⟨rfl, hx1⟩
  go_wp2_with fail
  refine (Factor_yes v _ v1 v2).mono ?_
  rintro e w2 ⟨vv, rfl, hsl, hx2⟩
  obtain ⟨sa, cap, rfl, s1, s2, s3⟩ := PSl.open hsl
  unfold maxLen at s2
  have S3 := hid_ s3
  clear s3 hsl hv
  go_wp2_with fail
  have HF := hid_ (fun x hx => facs_dvd v v1 x hx)
  have HG := hid_ (fun x hx => facs_ge v x hx)
  have HE := hid_ (fun x hx => facs_exp v1 v2 x hx)
  have HA := hid_ (facs_asc v)
  have HPW := hid_ (facs_pw v v1)
  generalize facs v = l at *
  go_loopw [6, 29] (fun p' k' wr => ∃ k : Nat, p' = .int .i64 (pw (l.take k)) ∧ k' = .int .i64 k ∧ k ≤ l.length ∧ Ex w2 wr) (fun _ k' _ => l.length - (intOf k').toNat)
  case atStart => exact ⟨0, by simp [pw], rfl, by omega, Ex.refl _⟩
  case round =>
    obtain ⟨k, rfl, rfl, hk, hx⟩ := hrel
    by_cases hlt : k < l.length
    · obtain ⟨x, hxk⟩ : ∃ x, l[k]? = some x := ⟨_, List.getElem?_eq_getElem hlt⟩
      obtain ⟨b, o, rfl, hc⟩ := S3.out (by omega)
      obtain ⟨c1, c2⟩ := hc k x hxk
      replace c1 := hx.cell c1
      replace c2 := hx.cell c2
      have hmem := List.mem_of_getElem? hxk
      obtain ⟨g1, g2, g3⟩ := HG.out x hmem
      have g4 := HE.out x hmem
      have hpb : primeB x.1 = true := by
        have := (HF.out x hmem).2
        unfold primeB
        simp only [decide_eq_true_eq]
        refine ⟨by omega, by omega, ?_⟩
        rw [Int.toNat_natCast, this.2]
      have hd1 : decide ((x.2 : Int) < 1) = false := by simp; omega
      have hd2 : decide ((31 : Int) < (x.2 : Int)) = false := by simp; omega
      have hst := take_snoc_ hxk
      have HPP := hid_ (fun e (he : e ≤ x.2) => (HPW.out ▸ pw_part l k e x hxk he : pw (l.take k) * x.1 ^ e ∣ v))
      have HST := hid_ (show pw (l.take (k + 1)) = pw (l.take k) * x.1 ^ x.2 by rw [hst, pw_append]; simp [pw])
      have hw : Ex wr (wr.alloc (Obj.cells #[.int .i64 x.1, .int .i64 x.2] 29)) := (Ex.refl _).alloc _
      have hn1 : wr.heap.size ≠ b := by
        intro h; have := World.block_lt_of_cell? _ _ c1; rw [h] at this; exact Nat.lt_irrefl _ this
      go_wp2_with fail
      by_cases hk0 : k = 0
      · have hd : decide ((0 : Int) < (k : Int)) = false := by simp [hk0]
        have hd' : decide (0 < k) = false := by simp [hk0]
        have HK0 := hid_ hk0
        clear hxk hmem hc hk0
        obtain ⟨w0, hw0⟩ : ∃ w0, wr.alloc (Obj.cells #[.int .i64 x.1, .int .i64 x.2] 29) = w0 := ⟨_, rfl⟩
        have cz0 : w0.cell? ⟨wr.heap.size, 0, none⟩ = some (.int .i64 x.1) := by rw [← hw0]; simp [go_sem]
        have cz1 : w0.cell? ⟨wr.heap.size, 1, none⟩ = some (.int .i64 x.2) := by rw [← hw0]; simp [go_sem]
        rw [hw0] at hw ⊢
        clear hw0
        refine wp_region_held_drew (S := fun w' => w'.cell? ⟨wr.heap.size, 0, none⟩ = some (.int .i64 x.1) ∧ w'.cell? ⟨wr.heap.size, 1, none⟩ = some (.int .i64 x.2) ∧ Ex w0 w') (by kernel_rfl) (keep2 cz0 cz1 (Ex.refl _).drew) (fun hHeld => ?_)
        refine wpAnyH_take (i := 0) (oi := ?w0b) (v := ?v0b) ?o0b ?k0b ?l0b ?m0b ?q0b ?y0b hHeld ?r0b
        case o0b => (simp only [List.getElem?_toArray, List.getElem?_cons_succ, List.getElem?_cons_zero]; rfl)
        case k0b => kernel_rfl
        case l0b => kernel_rfl
        case m0b => kernel_rfl
        case q0b => exact fun _ _ _ h => h
        case y0b => exact Or.inl ⟨by rfl, by (intro w hSw; (try dsimp only at hSw); go_simp) <;> with_reducible rfl⟩
        try simp only [Act.put, List.setIfInBounds_toArray, List.set_cons_zero, List.set_cons_succ]
        refine wpAnyH_take (i := 1) (oi := ?w1b) (v := ?v1b) ?o1b ?k1b ?l1b ?m1b ?q1b ?y1b hHeld ?r1b
        case o1b => (simp only [List.getElem?_toArray, List.getElem?_cons_succ, List.getElem?_cons_zero]; rfl)
        case k1b => kernel_rfl
        case l1b => kernel_rfl
        case m1b => kernel_rfl
        case q1b => exact fun _ _ _ h => h
        case y1b => exact Or.inl ⟨by rfl, by (intro w hSw; (try dsimp only at hSw); go_simp) <;> with_reducible rfl⟩
        try simp only [Act.put, List.setIfInBounds_toArray, List.set_cons_zero, List.set_cons_succ]
        refine wpAnyH_ready (rs := [2]) (by kernel_rfl) (by simp) ?_
        refine AllReadyH.cons rfl (fun K hK => ?_) AllReadyH.nil
        go_simp
        go_at_call 18
        refine (Prime_any _ _).mono ?_
        rintro e w6 ⟨rfl, hx6⟩
        go_wp2_with fail
        refine hK.out _ _ (keep2 cz0 cz1 ((Ex.refl _).drew.trans hx6)) (fun hHeld => ?_)
        clear hK K
        
        try simp only [Act.put, List.setIfInBounds_toArray, List.set_cons_zero, List.set_cons_succ]
        refine wpAnyH_take (i := 3) (oi := ?w3c) (v := ?v3c) ?o3c ?k3c ?l3c ?m3c ?q3c ?y3c hHeld ?r3c
        case o3c => (simp only [List.getElem?_toArray, List.getElem?_cons_succ, List.getElem?_cons_zero]; rfl)
        case k3c => kernel_rfl
        case l3c => kernel_rfl
        case m3c => kernel_rfl
        case q3c => exact fun _ _ _ h => h
        case y3c => exact Or.inl ⟨by rfl, by (intro w hSw; (try dsimp only at hSw); go_simp) <;> with_reducible rfl⟩
        try simp only [Act.put, List.setIfInBounds_toArray, List.set_cons_zero, List.set_cons_succ]
        refine wpAnyH_take (i := 4) (oi := ?w4c) (v := ?v4c) ?o4c ?k4c ?l4c ?m4c ?q4c ?y4c hHeld ?r4c
        case o4c => (simp only [List.getElem?_toArray, List.getElem?_cons_succ, List.getElem?_cons_zero]; rfl)
        case k4c => kernel_rfl
        case l4c => kernel_rfl
        case m4c => kernel_rfl
        case q4c => exact fun _ _ _ h => h
        case y4c => exact Or.inl ⟨by rfl, by (intro w hSw; (try dsimp only at hSw); go_simp) <;> with_reducible rfl⟩
        try simp only [Act.put, List.setIfInBounds_toArray, List.set_cons_zero, List.set_cons_succ]
        refine wpAnyH_take (i := 5) (oi := ?w5c) (v := ?v5c) ?o5c ?k5c ?l5c ?m5c ?q5c ?y5c hHeld ?r5c
        case o5c => (simp only [List.getElem?_toArray, List.getElem?_cons_succ, List.getElem?_cons_zero]; rfl)
        case k5c => kernel_rfl
        case l5c => kernel_rfl
        case m5c => kernel_rfl
        case q5c => exact fun _ _ _ h => h
        case y5c => exact Or.inl ⟨by rfl, by (intro w hSw; (try dsimp only at hSw); go_simp) <;> with_reducible rfl⟩
        try simp only [Act.put, List.setIfInBounds_toArray, List.set_cons_zero, List.set_cons_succ]
        refine wpAnyH_take (i := 6) (oi := ?w6c) (v := ?v6c) ?o6c ?k6c ?l6c ?m6c ?q6c ?y6c hHeld ?r6c
        case o6c => (simp only [List.getElem?_toArray, List.getElem?_cons_succ, List.getElem?_cons_zero]; rfl)
        case k6c => kernel_rfl
        case l6c => kernel_rfl
        case m6c => kernel_rfl
        case q6c => exact fun _ _ _ h => h
        case y6c => exact Or.inl ⟨by rfl, by (intro w hSw; (try dsimp only at hSw); go_simp) <;> with_reducible rfl⟩
        try simp only [Act.put, List.setIfInBounds_toArray, List.set_cons_zero, List.set_cons_succ]
        refine wpAnyH_take (i := 7) (oi := ?w7c) (v := ?v7c) ?o7c ?k7c ?l7c ?m7c ?q7c ?y7c hHeld ?r7c
        case o7c => (simp only [List.getElem?_toArray, List.getElem?_cons_succ, List.getElem?_cons_zero]; rfl)
        case k7c => kernel_rfl
        case l7c => kernel_rfl
        case m7c => kernel_rfl
        case q7c => exact fun _ _ _ h => h
        case y7c => exact Or.inl ⟨by rfl, by (intro w hSw; (try dsimp only at hSw); go_simp) <;> with_reducible rfl⟩
        try simp only [Act.put, List.setIfInBounds_toArray, List.set_cons_zero, List.set_cons_succ]
        refine wpAnyH_take (i := 8) (oi := ?w8c) (v := ?v8c) ?o8c ?k8c ?l8c ?m8c ?q8c ?y8c hHeld ?r8c
        case o8c => (simp only [List.getElem?_toArray, List.getElem?_cons_succ, List.getElem?_cons_zero]; rfl)
        case k8c => kernel_rfl
        case l8c => kernel_rfl
        case m8c => kernel_rfl
        case q8c => exact fun _ _ _ h => h
        case y8c => exact Or.inl ⟨by rfl, by (intro w hSw; (try dsimp only at hSw); go_simp) <;> with_reducible rfl⟩
        try simp only [Act.put, List.setIfInBounds_toArray, List.set_cons_zero, List.set_cons_succ]
        refine wpAnyH_take (i := 9) (oi := ?w9c) (v := ?v9c) ?o9c ?k9c ?l9c ?m9c ?q9c ?y9c hHeld ?r9c
        case o9c => (simp only [List.getElem?_toArray, List.getElem?_cons_succ, List.getElem?_cons_zero]; rfl)
        case k9c => kernel_rfl
        case l9c => kernel_rfl
        case m9c => kernel_rfl
        case q9c => exact fun _ _ _ h => h
        case y9c => exact Or.inl ⟨by rfl, by (intro w hSw; (try dsimp only at hSw); go_simp) <;> with_reducible rfl⟩
        try simp only [Act.put, List.setIfInBounds_toArray, List.set_cons_zero, List.set_cons_succ]
        refine wpAnyH_take (i := 10) (oi := ?w10c) (v := ?v10c) ?o10c ?k10c ?l10c ?m10c ?q10c ?y10c hHeld ?r10c
        case o10c => (simp only [List.getElem?_toArray, List.getElem?_cons_succ, List.getElem?_cons_zero]; rfl)
        case k10c => kernel_rfl
        case l10c => kernel_rfl
        case m10c => kernel_rfl
        case q10c => exact fun _ _ _ h => h
        case y10c => exact Or.inl ⟨by rfl, by (intro w hSw; (try dsimp only at hSw); go_simp) <;> with_reducible rfl⟩
        try simp only [Act.put, List.setIfInBounds_toArray, List.set_cons_zero, List.set_cons_succ]
        refine wpAnyH_take (i := 11) (oi := ?w11c) (v := ?v11c) ?o11c ?k11c ?l11c ?m11c ?q11c ?y11c hHeld ?r11c
        case o11c => (simp only [List.getElem?_toArray, List.getElem?_cons_succ, List.getElem?_cons_zero]; rfl)
        case k11c => kernel_rfl
        case l11c => kernel_rfl
        case m11c => kernel_rfl
        case q11c => exact fun _ _ _ h => h
        case y11c => exact Or.inl ⟨by rfl, by (intro w hSw; (try dsimp only at hSw); go_simp) <;> with_reducible rfl⟩
        try simp only [Act.put, List.setIfInBounds_toArray, List.set_cons_zero, List.set_cons_succ]
        refine wpAnyH_take (i := 12) (oi := ?w12c) (v := ?v12c) ?o12c ?k12c ?l12c ?m12c ?q12c ?y12c hHeld ?r12c
        case o12c => (simp only [List.getElem?_toArray, List.getElem?_cons_succ, List.getElem?_cons_zero]; rfl)
        case k12c => kernel_rfl
        case l12c => kernel_rfl
        case m12c => kernel_rfl
        case q12c => exact fun _ _ _ h => h
        case y12c => exact Or.inl ⟨by rfl, by (intro w hSw; (try dsimp only at hSw); go_simp) <;> with_reducible rfl⟩
        try simp only [Act.put, List.setIfInBounds_toArray, List.set_cons_zero, List.set_cons_succ]
        refine wpAnyH_take (i := 13) (oi := ?w13c) (v := ?v13c) ?o13c ?k13c ?l13c ?m13c ?q13c ?y13c hHeld ?r13c
        case o13c => (simp only [List.getElem?_toArray, List.getElem?_cons_succ, List.getElem?_cons_zero]; rfl)
        case k13c => kernel_rfl
        case l13c => kernel_rfl
        case m13c => kernel_rfl
        case q13c => exact fun _ _ _ h => h
        case y13c => exact Or.inl ⟨by rfl, by (intro w hSw; (try dsimp only at hSw); go_simp) <;> with_reducible rfl⟩
        try simp only [Act.put, List.setIfInBounds_toArray, List.set_cons_zero, List.set_cons_succ]
        refine wpAnyH_take (i := 14) (oi := ?w14c) (v := ?v14c) ?o14c ?k14c ?l14c ?m14c ?q14c ?y14c hHeld ?r14c
        case o14c => (simp only [List.getElem?_toArray, List.getElem?_cons_succ, List.getElem?_cons_zero]; rfl)
        case k14c => kernel_rfl
        case l14c => kernel_rfl
        case m14c => kernel_rfl
        case q14c => exact fun _ _ _ h => h
        case y14c => exact Or.inl ⟨by rfl, by (intro w hSw; (try dsimp only at hSw); go_simp) <;> with_reducible rfl⟩
        try simp only [Act.put, List.setIfInBounds_toArray, List.set_cons_zero, List.set_cons_succ]
        refine wpAnyH_take (i := 15) (oi := ?w15c) (v := ?v15c) ?o15c ?k15c ?l15c ?m15c ?q15c ?y15c hHeld ?r15c
        case o15c => (simp only [List.getElem?_toArray, List.getElem?_cons_succ, List.getElem?_cons_zero]; rfl)
        case k15c => kernel_rfl
        case l15c => kernel_rfl
        case m15c => kernel_rfl
        case q15c => exact fun _ _ _ h => h
        case y15c => exact Or.inl ⟨by rfl, by (intro w hSw; (try dsimp only at hSw); go_simp) <;> with_reducible rfl⟩
        try simp only [Act.put, List.setIfInBounds_toArray, List.set_cons_zero, List.set_cons_succ]
        refine wpAnyH_take (i := 16) (oi := ?w16c) (v := ?v16c) ?o16c ?k16c ?l16c ?m16c ?q16c ?y16c hHeld ?r16c
        case o16c => (simp only [List.getElem?_toArray, List.getElem?_cons_succ, List.getElem?_cons_zero]; rfl)
        case k16c => kernel_rfl
        case l16c => kernel_rfl
        case m16c => kernel_rfl
        case q16c => exact fun _ _ _ h => h
        case y16c => exact Or.inl ⟨by rfl, by (intro w hSw; (try dsimp only at hSw); go_simp) <;> with_reducible rfl⟩
        try simp only [Act.put, List.setIfInBounds_toArray, List.set_cons_zero, List.set_cons_succ]
        refine wpAnyH_take (i := 17) (oi := ?w17c) (v := ?v17c) ?o17c ?k17c ?l17c ?m17c ?q17c ?y17c hHeld ?r17c
        case o17c => (simp only [List.getElem?_toArray, List.getElem?_cons_succ, List.getElem?_cons_zero]; rfl)
        case k17c => kernel_rfl
        case l17c => kernel_rfl
        case m17c => kernel_rfl
        case q17c => exact fun _ _ _ h => h
        case y17c => exact Or.inl ⟨by rfl, by (intro w hSw; (try dsimp only at hSw); go_simp) <;> with_reducible rfl⟩
        try simp only [Act.put, List.setIfInBounds_toArray, List.set_cons_zero, List.set_cons_succ]
        refine wpAnyH_take (i := 18) (oi := ?w18d) (v := undef) ?o18d ?k18d ?l18d ?m18d ?q18d ?y18d hHeld ?r18d
        case o18d => (simp only [List.getElem?_toArray, List.getElem?_cons_succ, List.getElem?_cons_zero]; rfl)
        case k18d => kernel_rfl
        case l18d => kernel_rfl
        case m18d => kernel_rfl
        case q18d => exact fun _ _ _ h => h
        case y18d => exact Or.inr ⟨by rfl, rfl⟩
        try simp only [Act.put, List.setIfInBounds_toArray, List.set_cons_zero, List.set_cons_succ]
        refine wpAnyH_take (i := 19) (oi := ?w19d) (v := undef) ?o19d ?k19d ?l19d ?m19d ?q19d ?y19d hHeld ?r19d
        case o19d => (simp only [List.getElem?_toArray, List.getElem?_cons_succ, List.getElem?_cons_zero]; rfl)
        case k19d => kernel_rfl
        case l19d => kernel_rfl
        case m19d => kernel_rfl
        case q19d => exact fun _ _ _ h => h
        case y19d => exact Or.inr ⟨by rfl, rfl⟩
        try simp only [Act.put, List.setIfInBounds_toArray, List.set_cons_zero, List.set_cons_succ]
        refine wpAnyH_take (i := 20) (oi := ?w20d) (v := undef) ?o20d ?k20d ?l20d ?m20d ?q20d ?y20d hHeld ?r20d
        case o20d => (simp only [List.getElem?_toArray, List.getElem?_cons_succ, List.getElem?_cons_zero]; rfl)
        case k20d => kernel_rfl
        case l20d => kernel_rfl
        case m20d => kernel_rfl
        case q20d => exact fun _ _ _ h => h
        case y20d => exact Or.inr ⟨by rfl, rfl⟩
        try simp only [Act.put, List.setIfInBounds_toArray, List.set_cons_zero, List.set_cons_succ]
        refine wpAnyH_take (i := 21) (oi := ?w21d) (v := undef) ?o21d ?k21d ?l21d ?m21d ?q21d ?y21d hHeld ?r21d
        case o21d => (simp only [List.getElem?_toArray, List.getElem?_cons_succ, List.getElem?_cons_zero]; rfl)
        case k21d => kernel_rfl
        case l21d => kernel_rfl
        case m21d => kernel_rfl
        case q21d => exact fun _ _ _ h => h
        case y21d => exact Or.inr ⟨by rfl, rfl⟩
        try simp only [Act.put, List.setIfInBounds_toArray, List.set_cons_zero, List.set_cons_succ]
        refine wpAnyH_take (i := 22) (oi := ?w22d) (v := undef) ?o22d ?k22d ?l22d ?m22d ?q22d ?y22d hHeld ?r22d
        case o22d => (simp only [List.getElem?_toArray, List.getElem?_cons_succ, List.getElem?_cons_zero]; rfl)
        case k22d => kernel_rfl
        case l22d => kernel_rfl
        case m22d => kernel_rfl
        case q22d => exact fun _ _ _ h => h
        case y22d => exact Or.inr ⟨by rfl, rfl⟩
        try simp only [Act.put, List.setIfInBounds_toArray, List.set_cons_zero, List.set_cons_succ]
        refine wpAnyH_take (i := 23) (oi := ?w23d) (v := undef) ?o23d ?k23d ?l23d ?m23d ?q23d ?y23d hHeld ?r23d
        case o23d => (simp only [List.getElem?_toArray, List.getElem?_cons_succ, List.getElem?_cons_zero]; rfl)
        case k23d => kernel_rfl
        case l23d => kernel_rfl
        case m23d => kernel_rfl
        case q23d => exact fun _ _ _ h => h
        case y23d => exact Or.inr ⟨by rfl, rfl⟩
        try simp only [Act.put, List.setIfInBounds_toArray, List.set_cons_zero, List.set_cons_succ]
        refine wpAnyH_take (i := 24) (oi := ?w24d) (v := undef) ?o24d ?k24d ?l24d ?m24d ?q24d ?y24d hHeld ?r24d
        case o24d => (simp only [List.getElem?_toArray, List.getElem?_cons_succ, List.getElem?_cons_zero]; rfl)
        case k24d => kernel_rfl
        case l24d => kernel_rfl
        case m24d => kernel_rfl
        case q24d => exact fun _ _ _ h => h
        case y24d => exact Or.inr ⟨by rfl, rfl⟩
        try simp only [Act.put, List.setIfInBounds_toArray, List.set_cons_zero, List.set_cons_succ]
        refine wpAnyH_take (i := 25) (oi := ?w25d) (v := undef) ?o25d ?k25d ?l25d ?m25d ?q25d ?y25d hHeld ?r25d
        case o25d => (simp only [List.getElem?_toArray, List.getElem?_cons_succ, List.getElem?_cons_zero]; rfl)
        case k25d => kernel_rfl
        case l25d => kernel_rfl
        case m25d => kernel_rfl
        case q25d => exact fun _ _ _ h => h
        case y25d => exact Or.inr ⟨by rfl, rfl⟩
        try simp only [Act.put, List.setIfInBounds_toArray, List.set_cons_zero, List.set_cons_succ]
        refine wpAnyH_take (i := 26) (oi := ?w26d) (v := undef) ?o26d ?k26d ?l26d ?m26d ?q26d ?y26d hHeld ?r26d
        case o26d => (simp only [List.getElem?_toArray, List.getElem?_cons_succ, List.getElem?_cons_zero]; rfl)
        case k26d => kernel_rfl
        case l26d => kernel_rfl
        case m26d => kernel_rfl
        case q26d => exact fun _ _ _ h => h
        case y26d => exact Or.inr ⟨by rfl, rfl⟩
        try simp only [Act.put, List.setIfInBounds_toArray, List.set_cons_zero, List.set_cons_succ]
        refine wpAnyH_take (i := 27) (oi := ?w27e) (v := ?v27e) ?o27e ?k27e ?l27e ?m27e ?q27e ?y27e hHeld ?r27e
        case o27e => (simp only [List.getElem?_toArray, List.getElem?_cons_succ, List.getElem?_cons_zero]; rfl)
        case k27e => kernel_rfl
        case l27e => kernel_rfl
        case m27e => kernel_rfl
        case q27e => exact fun _ _ _ h => h
        case y27e => exact Or.inl ⟨by rfl, by (intro w hSw; (try dsimp only at hSw); go_simp) <;> with_reducible rfl⟩
        try simp only [Act.put, List.setIfInBounds_toArray, List.set_cons_zero, List.set_cons_succ]
        refine wpAnyH_take (i := 28) (oi := ?w28e) (v := ?v28e) ?o28e ?k28e ?l28e ?m28e ?q28e ?y28e hHeld ?r28e
        case o28e => (simp only [List.getElem?_toArray, List.getElem?_cons_succ, List.getElem?_cons_zero]; rfl)
        case k28e => kernel_rfl
        case l28e => kernel_rfl
        case m28e => kernel_rfl
        case q28e => exact fun _ _ _ h => h
        case y28e => exact Or.inl ⟨by rfl, by (intro w hSw; (try dsimp only at hSw); go_simp) <;> with_reducible rfl⟩
        try simp only [Act.put, List.setIfInBounds_toArray, List.set_cons_zero, List.set_cons_succ]
        refine wpAnyH_done (by kernel_rfl) ?_ _
        go_wp2_with fail
        have hx8 := (Ex.refl w0).drew.trans hx6
        have hx9 := (hx.trans hw).trans hx8
        have cy0 := hx8.cell cz0
        have cy1 := hx8.cell cz1
        go_loopw [6, 65] (fun p' e' wy => ∃ e : Nat, p' = .int .i64 (pw (l.take k) * x.1 ^ e : Nat) ∧ e' = .int .i64 e ∧ e ≤ x.2 ∧ Ex w6 wy) (fun _ e' _ => x.2 - (intOf e').toNat)
        case atStart => exact ⟨0, by simp, rfl, by omega, Ex.refl _⟩
        case round =>
          obtain ⟨e, rfl, rfl, he, hxr⟩ := hrel
          by_cases hlt2 : e < x.2
          · have d1 := HPP.out (e + 1) (by omega)
            have d2 := Nat.le_of_dvd (by omega) d1
            rw [Nat.pow_succ, ← Nat.mul_assoc] at d2
            have cx0 := hxr.cell cy0
            have HPS := hid_ (show pw (l.take k) * x.1 ^ (e + 1) = pw (l.take k) * x.1 ^ e * x.1 by rw [Nat.pow_succ, Nat.mul_assoc])
            generalize pw (l.take k) * x.1 ^ e = m at *
            have d3 : (m : Int) ≤ (v : Int) / (x.1 : Int) := by
              have : m ≤ v / x.1 := (Nat.le_div_iff_mul_le (by omega)).2 d2
              omega
            have d4 : 0 ≤ (v : Int) / (x.1 : Int) := by omega
            have d5 : (v : Int) / (x.1 : Int) ≤ v := Int.ediv_le_self _ (by omega)
            have d6 : (m : Int) * (x.1 : Int) = ((m * x.1 : Nat) : Int) := by simp
            have d7 : 0 ≤ (m : Int) * (x.1 : Int) := by omega
            have d8 : (m : Int) * (x.1 : Int) ≤ 2147483647 := by omega
            clear d6
            go_wp2_with fail
            go_roundw
            case rel => exact ⟨e + 1, by rw [HPS.out]; simp, by go_num, by omega, hxr⟩
            case measure => simp [intOf]; omega
          · obtain rfl : e = x.2 := by omega
            have hps := HST.out
            go_wp2
            go_roundw
            case rel => exact ⟨k + 1, by rw [hps], by go_num, by omega, hx9.trans hxr⟩
            case measure => simp [intOf]; omega
      · obtain ⟨y, hyk⟩ : ∃ y, l[k - 1]? = some y := ⟨_, List.getElem?_eq_getElem (by omega)⟩
        have hyx := HA.out.get (k - 1) y x hyk (by rw [show k - 1 + 1 = k by omega]; exact hxk)
        have cp0 := hw.cell (hx.cell (hc _ y hyk).1)
        have hd : decide ((0 : Int) < (k : Int)) = true := by simp; omega
        have hd' : decide (0 < k) = true := by simp; omega
        have hge : decide ((x.1 : Int) ≤ (y.1 : Int)) = false := by simp; omega
        have hge' : decide (x.1 ≤ y.1) = false := by simp; omega
        have hi0 : (0 : Int) ≤ (k : Int) - 1 := by omega
        have hi1 : (k : Int) - 1 < (l.length : Int) := by omega
        have hidx : ((k : Int) - 1).toNat = k - 1 := by omega
        have hwr : IntKind.i64.wrap ((k : Int) - 1) = (k : Int) - 1 := IntWalk.i64_in _ (by omega)
        have hi2 : 1 ≤ k := by omega
        have hi3 : (1 : Int) ≤ (k : Int) := by omega
        have HK0 := hid_ hk0
        clear hxk hyk hmem hc hk0 hyx
        obtain ⟨w0, hw0⟩ : ∃ w0, wr.alloc (Obj.cells #[.int .i64 x.1, .int .i64 x.2] 29) = w0 := ⟨_, rfl⟩
        have cz0 : w0.cell? ⟨wr.heap.size, 0, none⟩ = some (.int .i64 x.1) := by rw [← hw0]; simp [go_sem]
        have cz1 : w0.cell? ⟨wr.heap.size, 1, none⟩ = some (.int .i64 x.2) := by rw [← hw0]; simp [go_sem]
        rw [hw0] at hw cp0 ⊢
        clear hw0
        refine wp_region_held_drew (S := fun w' => w'.cell? ⟨wr.heap.size, 0, none⟩ = some (.int .i64 x.1) ∧ w'.cell? ⟨wr.heap.size, 1, none⟩ = some (.int .i64 x.2) ∧ w'.cell? ⟨b, o + (k - 1) * 2, none⟩ = some (.int .i64 y.1) ∧ Ex w0 w') (by kernel_rfl) (keep3 cz0 cz1 cp0 (Ex.refl _).drew) (fun hHeld => ?_)
        refine wpAnyH_take (i := 0) (oi := ?w0f) (v := ?v0f) ?o0f ?k0f ?l0f ?m0f ?q0f ?y0f hHeld ?r0f
        case o0f => (simp only [List.getElem?_toArray, List.getElem?_cons_succ, List.getElem?_cons_zero]; rfl)
        case k0f => kernel_rfl
        case l0f => kernel_rfl
        case m0f => kernel_rfl
        case q0f => exact fun _ _ _ h => h
        case y0f => exact Or.inl ⟨by rfl, by (intro w hSw; (try dsimp only at hSw); go_simp) <;> with_reducible rfl⟩
        try simp only [Act.put, List.setIfInBounds_toArray, List.set_cons_zero, List.set_cons_succ]
        refine wpAnyH_take (i := 1) (oi := ?w1f) (v := ?v1f) ?o1f ?k1f ?l1f ?m1f ?q1f ?y1f hHeld ?r1f
        case o1f => (simp only [List.getElem?_toArray, List.getElem?_cons_succ, List.getElem?_cons_zero]; rfl)
        case k1f => kernel_rfl
        case l1f => kernel_rfl
        case m1f => kernel_rfl
        case q1f => exact fun _ _ _ h => h
        case y1f => exact Or.inl ⟨by rfl, by (intro w hSw; (try dsimp only at hSw); go_simp) <;> with_reducible rfl⟩
        try simp only [Act.put, List.setIfInBounds_toArray, List.set_cons_zero, List.set_cons_succ]
        refine wpAnyH_ready (rs := [2]) (by kernel_rfl) (by simp) ?_
        refine AllReadyH.cons rfl (fun K hK => ?_) AllReadyH.nil
        go_simp
        go_at_call 18
        refine (Prime_any _ _).mono ?_
        rintro e w6 ⟨rfl, hx6⟩
        go_wp2_with fail
        refine hK.out _ _ (keep3 cz0 cz1 cp0 ((Ex.refl _).drew.trans hx6)) (fun hHeld => ?_)
        clear hK K
        
        try simp only [Act.put, List.setIfInBounds_toArray, List.set_cons_zero, List.set_cons_succ]
        refine wpAnyH_take (i := 3) (oi := ?w3g) (v := ?v3g) ?o3g ?k3g ?l3g ?m3g ?q3g ?y3g hHeld ?r3g
        case o3g => (simp only [List.getElem?_toArray, List.getElem?_cons_succ, List.getElem?_cons_zero]; rfl)
        case k3g => kernel_rfl
        case l3g => kernel_rfl
        case m3g => kernel_rfl
        case q3g => exact fun _ _ _ h => h
        case y3g => exact Or.inl ⟨by rfl, by (intro w hSw; (try dsimp only at hSw); go_simp) <;> with_reducible rfl⟩
        try simp only [Act.put, List.setIfInBounds_toArray, List.set_cons_zero, List.set_cons_succ]
        refine wpAnyH_take (i := 4) (oi := ?w4g) (v := ?v4g) ?o4g ?k4g ?l4g ?m4g ?q4g ?y4g hHeld ?r4g
        case o4g => (simp only [List.getElem?_toArray, List.getElem?_cons_succ, List.getElem?_cons_zero]; rfl)
        case k4g => kernel_rfl
        case l4g => kernel_rfl
        case m4g => kernel_rfl
        case q4g => exact fun _ _ _ h => h
        case y4g => exact Or.inl ⟨by rfl, by (intro w hSw; (try dsimp only at hSw); go_simp) <;> with_reducible rfl⟩
        try simp only [Act.put, List.setIfInBounds_toArray, List.set_cons_zero, List.set_cons_succ]
        refine wpAnyH_take (i := 5) (oi := ?w5g) (v := ?v5g) ?o5g ?k5g ?l5g ?m5g ?q5g ?y5g hHeld ?r5g
        case o5g => (simp only [List.getElem?_toArray, List.getElem?_cons_succ, List.getElem?_cons_zero]; rfl)
        case k5g => kernel_rfl
        case l5g => kernel_rfl
        case m5g => kernel_rfl
        case q5g => exact fun _ _ _ h => h
        case y5g => exact Or.inl ⟨by rfl, by (intro w hSw; (try dsimp only at hSw); go_simp) <;> with_reducible rfl⟩
        try simp only [Act.put, List.setIfInBounds_toArray, List.set_cons_zero, List.set_cons_succ]
        refine wpAnyH_take (i := 6) (oi := ?w6g) (v := ?v6g) ?o6g ?k6g ?l6g ?m6g ?q6g ?y6g hHeld ?r6g
        case o6g => (simp only [List.getElem?_toArray, List.getElem?_cons_succ, List.getElem?_cons_zero]; rfl)
        case k6g => kernel_rfl
        case l6g => kernel_rfl
        case m6g => kernel_rfl
        case q6g => exact fun _ _ _ h => h
        case y6g => exact Or.inl ⟨by rfl, by (intro w hSw; (try dsimp only at hSw); go_simp) <;> with_reducible rfl⟩
        try simp only [Act.put, List.setIfInBounds_toArray, List.set_cons_zero, List.set_cons_succ]
        refine wpAnyH_take (i := 7) (oi := ?w7g) (v := ?v7g) ?o7g ?k7g ?l7g ?m7g ?q7g ?y7g hHeld ?r7g
        case o7g => (simp only [List.getElem?_toArray, List.getElem?_cons_succ, List.getElem?_cons_zero]; rfl)
        case k7g => kernel_rfl
        case l7g => kernel_rfl
        case m7g => kernel_rfl
        case q7g => exact fun _ _ _ h => h
        case y7g => exact Or.inl ⟨by rfl, by (intro w hSw; (try dsimp only at hSw); go_simp) <;> with_reducible rfl⟩
        try simp only [Act.put, List.setIfInBounds_toArray, List.set_cons_zero, List.set_cons_succ]
        refine wpAnyH_take (i := 8) (oi := ?w8g) (v := ?v8g) ?o8g ?k8g ?l8g ?m8g ?q8g ?y8g hHeld ?r8g
        case o8g => (simp only [List.getElem?_toArray, List.getElem?_cons_succ, List.getElem?_cons_zero]; rfl)
        case k8g => kernel_rfl
        case l8g => kernel_rfl
        case m8g => kernel_rfl
        case q8g => exact fun _ _ _ h => h
        case y8g => exact Or.inl ⟨by rfl, by (intro w hSw; (try dsimp only at hSw); go_simp) <;> with_reducible rfl⟩
        try simp only [Act.put, List.setIfInBounds_toArray, List.set_cons_zero, List.set_cons_succ]
        refine wpAnyH_take (i := 9) (oi := ?w9g) (v := ?v9g) ?o9g ?k9g ?l9g ?m9g ?q9g ?y9g hHeld ?r9g
        case o9g => (simp only [List.getElem?_toArray, List.getElem?_cons_succ, List.getElem?_cons_zero]; rfl)
        case k9g => kernel_rfl
        case l9g => kernel_rfl
        case m9g => kernel_rfl
        case q9g => exact fun _ _ _ h => h
        case y9g => exact Or.inl ⟨by rfl, by (intro w hSw; (try dsimp only at hSw); go_simp) <;> with_reducible rfl⟩
        try simp only [Act.put, List.setIfInBounds_toArray, List.set_cons_zero, List.set_cons_succ]
        refine wpAnyH_take (i := 10) (oi := ?w10g) (v := ?v10g) ?o10g ?k10g ?l10g ?m10g ?q10g ?y10g hHeld ?r10g
        case o10g => (simp only [List.getElem?_toArray, List.getElem?_cons_succ, List.getElem?_cons_zero]; rfl)
        case k10g => kernel_rfl
        case l10g => kernel_rfl
        case m10g => kernel_rfl
        case q10g => exact fun _ _ _ h => h
        case y10g => exact Or.inl ⟨by rfl, by (intro w hSw; (try dsimp only at hSw); go_simp) <;> with_reducible rfl⟩
        try simp only [Act.put, List.setIfInBounds_toArray, List.set_cons_zero, List.set_cons_succ]
        refine wpAnyH_take (i := 11) (oi := ?w11g) (v := ?v11g) ?o11g ?k11g ?l11g ?m11g ?q11g ?y11g hHeld ?r11g
        case o11g => (simp only [List.getElem?_toArray, List.getElem?_cons_succ, List.getElem?_cons_zero]; rfl)
        case k11g => kernel_rfl
        case l11g => kernel_rfl
        case m11g => kernel_rfl
        case q11g => exact fun _ _ _ h => h
        case y11g => exact Or.inl ⟨by rfl, by (intro w hSw; (try dsimp only at hSw); go_simp) <;> with_reducible rfl⟩
        try simp only [Act.put, List.setIfInBounds_toArray, List.set_cons_zero, List.set_cons_succ]
        refine wpAnyH_take (i := 12) (oi := ?w12g) (v := ?v12g) ?o12g ?k12g ?l12g ?m12g ?q12g ?y12g hHeld ?r12g
        case o12g => (simp only [List.getElem?_toArray, List.getElem?_cons_succ, List.getElem?_cons_zero]; rfl)
        case k12g => kernel_rfl
        case l12g => kernel_rfl
        case m12g => kernel_rfl
        case q12g => exact fun _ _ _ h => h
        case y12g => exact Or.inl ⟨by rfl, by (intro w hSw; (try dsimp only at hSw); go_simp) <;> with_reducible rfl⟩
        try simp only [Act.put, List.setIfInBounds_toArray, List.set_cons_zero, List.set_cons_succ]
        refine wpAnyH_take (i := 13) (oi := ?w13g) (v := ?v13g) ?o13g ?k13g ?l13g ?m13g ?q13g ?y13g hHeld ?r13g
        case o13g => (simp only [List.getElem?_toArray, List.getElem?_cons_succ, List.getElem?_cons_zero]; rfl)
        case k13g => kernel_rfl
        case l13g => kernel_rfl
        case m13g => kernel_rfl
        case q13g => exact fun _ _ _ h => h
        case y13g => exact Or.inl ⟨by rfl, by (intro w hSw; (try dsimp only at hSw); go_simp) <;> with_reducible rfl⟩
        try simp only [Act.put, List.setIfInBounds_toArray, List.set_cons_zero, List.set_cons_succ]
        refine wpAnyH_take (i := 14) (oi := ?w14g) (v := ?v14g) ?o14g ?k14g ?l14g ?m14g ?q14g ?y14g hHeld ?r14g
        case o14g => (simp only [List.getElem?_toArray, List.getElem?_cons_succ, List.getElem?_cons_zero]; rfl)
        case k14g => kernel_rfl
        case l14g => kernel_rfl
        case m14g => kernel_rfl
        case q14g => exact fun _ _ _ h => h
        case y14g => exact Or.inl ⟨by rfl, by (intro w hSw; (try dsimp only at hSw); go_simp) <;> with_reducible rfl⟩
        try simp only [Act.put, List.setIfInBounds_toArray, List.set_cons_zero, List.set_cons_succ]
        refine wpAnyH_take (i := 15) (oi := ?w15g) (v := ?v15g) ?o15g ?k15g ?l15g ?m15g ?q15g ?y15g hHeld ?r15g
        case o15g => (simp only [List.getElem?_toArray, List.getElem?_cons_succ, List.getElem?_cons_zero]; rfl)
        case k15g => kernel_rfl
        case l15g => kernel_rfl
        case m15g => kernel_rfl
        case q15g => exact fun _ _ _ h => h
        case y15g => exact Or.inl ⟨by rfl, by (intro w hSw; (try dsimp only at hSw); go_simp) <;> with_reducible rfl⟩
        try simp only [Act.put, List.setIfInBounds_toArray, List.set_cons_zero, List.set_cons_succ]
        refine wpAnyH_take (i := 16) (oi := ?w16g) (v := ?v16g) ?o16g ?k16g ?l16g ?m16g ?q16g ?y16g hHeld ?r16g
        case o16g => (simp only [List.getElem?_toArray, List.getElem?_cons_succ, List.getElem?_cons_zero]; rfl)
        case k16g => kernel_rfl
        case l16g => kernel_rfl
        case m16g => kernel_rfl
        case q16g => exact fun _ _ _ h => h
        case y16g => exact Or.inl ⟨by rfl, by (intro w hSw; (try dsimp only at hSw); go_simp) <;> with_reducible rfl⟩
        try simp only [Act.put, List.setIfInBounds_toArray, List.set_cons_zero, List.set_cons_succ]
        refine wpAnyH_take (i := 17) (oi := ?w17g) (v := ?v17g) ?o17g ?k17g ?l17g ?m17g ?q17g ?y17g hHeld ?r17g
        case o17g => (simp only [List.getElem?_toArray, List.getElem?_cons_succ, List.getElem?_cons_zero]; rfl)
        case k17g => kernel_rfl
        case l17g => kernel_rfl
        case m17g => kernel_rfl
        case q17g => exact fun _ _ _ h => h
        case y17g => exact Or.inl ⟨by rfl, by (intro w hSw; (try dsimp only at hSw); go_simp) <;> with_reducible rfl⟩
        try simp only [Act.put, List.setIfInBounds_toArray, List.set_cons_zero, List.set_cons_succ]
        refine wpAnyH_take (i := 18) (oi := ?w18h) (v := ?v18h) ?o18h ?k18h ?l18h ?m18h ?q18h ?y18h hHeld ?r18h
        case o18h => (simp only [List.getElem?_toArray, List.getElem?_cons_succ, List.getElem?_cons_zero]; rfl)
        case k18h => kernel_rfl
        case l18h => kernel_rfl
        case m18h => kernel_rfl
        case q18h => exact fun _ _ _ h => h
        case y18h => exact Or.inl ⟨by rfl, by (intro w hSw; (try dsimp only at hSw); go_simp) <;> with_reducible rfl⟩
        try simp only [Act.put, List.setIfInBounds_toArray, List.set_cons_zero, List.set_cons_succ]
        refine wpAnyH_take (i := 19) (oi := ?w19h) (v := ?v19h) ?o19h ?k19h ?l19h ?m19h ?q19h ?y19h hHeld ?r19h
        case o19h => (simp only [List.getElem?_toArray, List.getElem?_cons_succ, List.getElem?_cons_zero]; rfl)
        case k19h => kernel_rfl
        case l19h => kernel_rfl
        case m19h => kernel_rfl
        case q19h => exact fun _ _ _ h => h
        case y19h => exact Or.inl ⟨by rfl, by (intro w hSw; (try dsimp only at hSw); go_simp) <;> with_reducible rfl⟩
        try simp only [Act.put, List.setIfInBounds_toArray, List.set_cons_zero, List.set_cons_succ]
        refine wpAnyH_take (i := 20) (oi := ?w20h) (v := ?v20h) ?o20h ?k20h ?l20h ?m20h ?q20h ?y20h hHeld ?r20h
        case o20h => (simp only [List.getElem?_toArray, List.getElem?_cons_succ, List.getElem?_cons_zero]; rfl)
        case k20h => kernel_rfl
        case l20h => kernel_rfl
        case m20h => kernel_rfl
        case q20h => exact fun _ _ _ h => h
        case y20h => exact Or.inl ⟨by rfl, by (intro w hSw; (try dsimp only at hSw); go_simp) <;> with_reducible rfl⟩
        try simp only [Act.put, List.setIfInBounds_toArray, List.set_cons_zero, List.set_cons_succ]
        refine wpAnyH_take (i := 21) (oi := ?w21h) (v := ?v21h) ?o21h ?k21h ?l21h ?m21h ?q21h ?y21h hHeld ?r21h
        case o21h => (simp only [List.getElem?_toArray, List.getElem?_cons_succ, List.getElem?_cons_zero]; rfl)
        case k21h => kernel_rfl
        case l21h => kernel_rfl
        case m21h => kernel_rfl
        case q21h => exact fun _ _ _ h => h
        case y21h => exact Or.inl ⟨by rfl, by (intro w hSw; (try dsimp only at hSw); go_simp) <;> with_reducible rfl⟩
        try simp only [Act.put, List.setIfInBounds_toArray, List.set_cons_zero, List.set_cons_succ]
        refine wpAnyH_take (i := 22) (oi := ?w22h) (v := ?v22h) ?o22h ?k22h ?l22h ?m22h ?q22h ?y22h hHeld ?r22h
        case o22h => (simp only [List.getElem?_toArray, List.getElem?_cons_succ, List.getElem?_cons_zero]; rfl)
        case k22h => kernel_rfl
        case l22h => kernel_rfl
        case m22h => kernel_rfl
        case q22h => exact fun _ _ _ h => h
        case y22h => exact Or.inl ⟨by rfl, by (intro w hSw; (try dsimp only at hSw); go_simp) <;> with_reducible rfl⟩
        try simp only [Act.put, List.setIfInBounds_toArray, List.set_cons_zero, List.set_cons_succ]
        refine wpAnyH_take (i := 23) (oi := ?w23h) (v := ?v23h) ?o23h ?k23h ?l23h ?m23h ?q23h ?y23h hHeld ?r23h
        case o23h => (simp only [List.getElem?_toArray, List.getElem?_cons_succ, List.getElem?_cons_zero]; rfl)
        case k23h => kernel_rfl
        case l23h => kernel_rfl
        case m23h => kernel_rfl
        case q23h => exact fun _ _ _ h => h
        case y23h => exact Or.inl ⟨by rfl, by (intro w hSw; (try dsimp only at hSw); go_simp) <;> with_reducible rfl⟩
        try simp only [Act.put, List.setIfInBounds_toArray, List.set_cons_zero, List.set_cons_succ]
        refine wpAnyH_take (i := 24) (oi := ?w24h) (v := ?v24h) ?o24h ?k24h ?l24h ?m24h ?q24h ?y24h hHeld ?r24h
        case o24h => (simp only [List.getElem?_toArray, List.getElem?_cons_succ, List.getElem?_cons_zero]; rfl)
        case k24h => kernel_rfl
        case l24h => kernel_rfl
        case m24h => kernel_rfl
        case q24h => exact fun _ _ _ h => h
        case y24h => exact Or.inl ⟨by rfl, by (intro w hSw; (try dsimp only at hSw); go_simp) <;> with_reducible rfl⟩
        try simp only [Act.put, List.setIfInBounds_toArray, List.set_cons_zero, List.set_cons_succ]
        refine wpAnyH_take (i := 25) (oi := ?w25h) (v := ?v25h) ?o25h ?k25h ?l25h ?m25h ?q25h ?y25h hHeld ?r25h
        case o25h => (simp only [List.getElem?_toArray, List.getElem?_cons_succ, List.getElem?_cons_zero]; rfl)
        case k25h => kernel_rfl
        case l25h => kernel_rfl
        case m25h => kernel_rfl
        case q25h => exact fun _ _ _ h => h
        case y25h => exact Or.inl ⟨by rfl, by (intro w hSw; (try dsimp only at hSw); go_simp) <;> with_reducible rfl⟩
        try simp only [Act.put, List.setIfInBounds_toArray, List.set_cons_zero, List.set_cons_succ]
        refine wpAnyH_take (i := 26) (oi := ?w26h) (v := ?v26h) ?o26h ?k26h ?l26h ?m26h ?q26h ?y26h hHeld ?r26h
        case o26h => (simp only [List.getElem?_toArray, List.getElem?_cons_succ, List.getElem?_cons_zero]; rfl)
        case k26h => kernel_rfl
        case l26h => kernel_rfl
        case m26h => kernel_rfl
        case q26h => exact fun _ _ _ h => h
        case y26h => exact Or.inl ⟨by rfl, by (intro w hSw; (try dsimp only at hSw); go_simp) <;> with_reducible rfl⟩
        try simp only [Act.put, List.setIfInBounds_toArray, List.set_cons_zero, List.set_cons_succ]
        refine wpAnyH_take (i := 27) (oi := ?w27h) (v := ?v27h) ?o27h ?k27h ?l27h ?m27h ?q27h ?y27h hHeld ?r27h
        case o27h => (simp only [List.getElem?_toArray, List.getElem?_cons_succ, List.getElem?_cons_zero]; rfl)
        case k27h => kernel_rfl
        case l27h => kernel_rfl
        case m27h => kernel_rfl
        case q27h => exact fun _ _ _ h => h
        case y27h => exact Or.inl ⟨by rfl, by (intro w hSw; (try dsimp only at hSw); go_simp) <;> with_reducible rfl⟩
        try simp only [Act.put, List.setIfInBounds_toArray, List.set_cons_zero, List.set_cons_succ]
        refine wpAnyH_take (i := 28) (oi := ?w28h) (v := ?v28h) ?o28h ?k28h ?l28h ?m28h ?q28h ?y28h hHeld ?r28h
        case o28h => (simp only [List.getElem?_toArray, List.getElem?_cons_succ, List.getElem?_cons_zero]; rfl)
        case k28h => kernel_rfl
        case l28h => kernel_rfl
        case m28h => kernel_rfl
        case q28h => exact fun _ _ _ h => h
        case y28h => exact Or.inl ⟨by rfl, by (intro w hSw; (try dsimp only at hSw); go_simp) <;> with_reducible rfl⟩
        try simp only [Act.put, List.setIfInBounds_toArray, List.set_cons_zero, List.set_cons_succ]
        refine wpAnyH_done (by kernel_rfl) ?_ _
        go_wp2_with fail
        have hx8 := (Ex.refl w0).drew.trans hx6
        have hx9 := (hx.trans hw).trans hx8
        have cy0 := hx8.cell cz0
        have cy1 := hx8.cell cz1
        go_loopw [6, 65] (fun p' e' wy => ∃ e : Nat, p' = .int .i64 (pw (l.take k) * x.1 ^ e : Nat) ∧ e' = .int .i64 e ∧ e ≤ x.2 ∧ Ex w6 wy) (fun _ e' _ => x.2 - (intOf e').toNat)
        case atStart => exact ⟨0, by simp, rfl, by omega, Ex.refl _⟩
        case round =>
          obtain ⟨e, rfl, rfl, he, hxr⟩ := hrel
          by_cases hlt2 : e < x.2
          · have d1 := HPP.out (e + 1) (by omega)
            have d2 := Nat.le_of_dvd (by omega) d1
            rw [Nat.pow_succ, ← Nat.mul_assoc] at d2
            have cx0 := hxr.cell cy0
            have HPS := hid_ (show pw (l.take k) * x.1 ^ (e + 1) = pw (l.take k) * x.1 ^ e * x.1 by rw [Nat.pow_succ, Nat.mul_assoc])
            generalize pw (l.take k) * x.1 ^ e = m at *
            have d3 : (m : Int) ≤ (v : Int) / (x.1 : Int) := by
              have : m ≤ v / x.1 := (Nat.le_div_iff_mul_le (by omega)).2 d2
              omega
            have d4 : 0 ≤ (v : Int) / (x.1 : Int) := by omega
            have d5 : (v : Int) / (x.1 : Int) ≤ v := Int.ediv_le_self _ (by omega)
            have d6 : (m : Int) * (x.1 : Int) = ((m * x.1 : Nat) : Int) := by simp
            have d7 : 0 ≤ (m : Int) * (x.1 : Int) := by omega
            have d8 : (m : Int) * (x.1 : Int) ≤ 2147483647 := by omega
            clear d6
            go_wp2_with fail
            go_roundw
            case rel => exact ⟨e + 1, by rw [HPS.out]; simp, by go_num, by omega, hxr⟩
            case measure => simp [intOf]; omega
          · obtain rfl : e = x.2 := by omega
            have hps := HST.out
            go_wp2
            go_roundw
            case rel => exact ⟨k + 1, by rw [hps], by go_num, by omega, hx9.trans hxr⟩
            case measure => simp [intOf]; omega
    · obtain rfl : k = l.length := by omega
      rw [List.take_length] at *
      have hv2 := HPW.out
      have hv3 := HV.out
      go_wp2
      go_ret
      exact ⟨rfl, (hx1.trans hx2).trans hx⟩
end Go.Proofs.Ytdnmhjpeklaijaa
