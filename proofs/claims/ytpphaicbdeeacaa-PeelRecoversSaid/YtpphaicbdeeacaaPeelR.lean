/- Walk of awake. -/
import Derived.Test.YtpphaicbdeeacaaPeelQ
import Derived.Test.YtpphaicbdeeacaaPeelP
namespace Go.Proofs.Ytpphaicbdeeacaa
set_option linter.unusedVariables false
set_option linter.unusedSimpArgs false
open Go.RowKit

theorem isl_lit (w : World) (l : List Int) (cs : Array Value) (t : TypeId) (h : (ints l).toArray = cs) {B n : Nat} (hB : w.heap.size = B) (hn : l.length = n) (hl : l.length ≤ 1000) : ISl (w.alloc (.cells cs t)) (.slice (some ⟨B, 0, none⟩) n n) l := by
  subst hB hn
  subst h
  exact isl_made w l t hl
theorem msl_lit4 (w : World) (u1 u2 u3 u4 : Value) (l1 l2 l3 l4 : List Int) (t : TypeId) {B : Nat} (hB : w.heap.size = B) (h1 : ISl w u1 l1) (h2 : ISl w u2 l2) (h3 : ISl w u3 l3) (h4 : ISl w u4 l4) :
    MSl (w.alloc (.cells #[u1, u2, u3, u4] t)) (.slice (some ⟨B, 0, none⟩) 4 4) [l1, l2, l3, l4] := by
  subst hB
  have e : Ex w (w.alloc (.cells #[u1, u2, u3, u4] t)) := (Ex.refl _).alloc _
  refine ⟨[u1, u2, u3, u4], ⟨rfl, some ⟨w.heap.size, 0, none⟩, 4, rfl, Nat.le_refl _, by unfold maxLen; omega, fun _ => ⟨_, _, rfl, fun j u h => ?_⟩⟩, fun i r u hr hu => ?_⟩
  · rw [Nat.zero_add]; simpa using h
  · rcases i with _ | _ | _ | _ | i
    · simp at hr hu; subst hr hu; exact h1.ex e
    · simp at hr hu; subst hr hu; exact h2.ex e
    · simp at hr hu; subst hr hu; exact h3.ex e
    · simp at hr hu; subst hr hu; exact h4.ex e
    · simp at hr

def exW1 (w : World) : World := ((((w.alloc (.cells #[.int .i64 2, .int .i64 1, .slice none 0 0] 24)).alloc
    (.cells #[.int .i64 1, .int .i64 1, .int .i64 0, .int .i64 1, .int .i64 0, .int .i64 0, .int .i64 0] 3)).alloc
    (.cells #[.int .i64 0, .int .i64 1, .int .i64 1, .int .i64 0, .int .i64 1, .int .i64 0, .int .i64 0] 3)).alloc
    (.cells #[.int .i64 0, .int .i64 0, .int .i64 1, .int .i64 1, .int .i64 0, .int .i64 1, .int .i64 0] 3)).alloc
    (.cells #[.int .i64 0, .int .i64 0, .int .i64 0, .int .i64 1, .int .i64 1, .int .i64 0, .int .i64 1] 3)
def exW (w : World) : World := (((exW1 w).alloc
    (.cells #[.slice (some ⟨w.heap.size + 1, 0, none⟩) 7 7, .slice (some ⟨w.heap.size + 1 + 1, 0, none⟩) 7 7, .slice (some ⟨w.heap.size + 1 + 1 + 1, 0, none⟩) 7 7, .slice (some ⟨w.heap.size + 1 + 1 + 1 + 1, 0, none⟩) 7 7] 22)).alloc
    (.cells #[.int .i64 7, .slice (some ⟨w.heap.size + 1 + 1 + 1 + 1 + 1, 0, none⟩) 4 4] 27)).alloc
    (.cells #[.int .i64 1, .int .i64 1, .int .i64 0, .int .i64 0, .int .i64 1, .int .i64 0, .int .i64 1] 3)

theorem Ex.al (w : World) (o : Obj) : Ex w (w.alloc o) := (Ex.refl w).alloc o
theorem exW_facts (w : World) : MSl (exW w) (.slice (some ⟨w.heap.size + 1 + 1 + 1 + 1 + 1, 0, none⟩) 4 4) exH ∧ ISl (exW w) (.slice (some ⟨w.heap.size + 1 + 1 + 1 + 1 + 1 + 1 + 1, 0, none⟩) 7 7) [1, 1, 0, 0, 1, 0, 1] ∧
    (exW w).cell? ⟨w.heap.size, 0, none⟩ = some (.int .i64 2) ∧ (exW w).cell? ⟨w.heap.size, 1, none⟩ = some (.int .i64 1) ∧ (exW w).cell? ⟨w.heap.size, 2, none⟩ = some (.slice none 0 0) ∧
    (exW w).cell? ⟨w.heap.size + 1 + 1 + 1 + 1 + 1 + 1, 0, none⟩ = some (.int .i64 7) ∧ (exW w).cell? ⟨w.heap.size + 1 + 1 + 1 + 1 + 1 + 1, 1, none⟩ = some (.slice (some ⟨w.heap.size + 1 + 1 + 1 + 1 + 1, 0, none⟩) 4 4) ∧ Ex w (exW w) := by
  unfold exW exW1
  generalize h0 : w.alloc (.cells #[.int .i64 2, .int .i64 1, .slice none 0 0] 24) = w0
  have a0 : w0.cell? ⟨w.heap.size, 0, none⟩ = some (.int .i64 2) := by rw [← h0]; simp
  have a1 : w0.cell? ⟨w.heap.size, 1, none⟩ = some (.int .i64 1) := by rw [← h0]; simp
  have a2 : w0.cell? ⟨w.heap.size, 2, none⟩ = some (.slice none 0 0) := by rw [← h0]; simp
  have e0 : Ex w w0 := by rw [← h0]; exact Ex.al _ _
  have s0 : w0.heap.size = w.heap.size + 1 := by rw [← h0]; simp
  clear h0
  generalize h1 : w0.alloc (.cells #[.int .i64 1, .int .i64 1, .int .i64 0, .int .i64 1, .int .i64 0, .int .i64 0, .int .i64 0] 3) = w1
  have e1 : Ex w0 w1 := by rw [← h1]; exact Ex.al _ _
  have s1 : w1.heap.size = w.heap.size + 1 + 1 := by rw [← h1]; simp [s0]
  have i1 : ISl w1 (.slice (some ⟨w.heap.size + 1, 0, none⟩) 7 7) [1, 1, 0, 1, 0, 0, 0] := by rw [← h1]; exact isl_lit _ _ _ _ rfl s0 rfl (by decide)
  clear h1
  generalize h2 : w1.alloc (.cells #[.int .i64 0, .int .i64 1, .int .i64 1, .int .i64 0, .int .i64 1, .int .i64 0, .int .i64 0] 3) = w2
  have e2 : Ex w1 w2 := by rw [← h2]; exact Ex.al _ _
  have s2 : w2.heap.size = w.heap.size + 1 + 1 + 1 := by rw [← h2]; simp [s1]
  have i2 : ISl w2 (.slice (some ⟨w.heap.size + 1 + 1, 0, none⟩) 7 7) [0, 1, 1, 0, 1, 0, 0] := by rw [← h2]; exact isl_lit _ _ _ _ rfl s1 rfl (by decide)
  clear h2
  generalize h3 : w2.alloc (.cells #[.int .i64 0, .int .i64 0, .int .i64 1, .int .i64 1, .int .i64 0, .int .i64 1, .int .i64 0] 3) = w3
  have e3 : Ex w2 w3 := by rw [← h3]; exact Ex.al _ _
  have s3 : w3.heap.size = w.heap.size + 1 + 1 + 1 + 1 := by rw [← h3]; simp [s2]
  have i3 : ISl w3 (.slice (some ⟨w.heap.size + 1 + 1 + 1, 0, none⟩) 7 7) [0, 0, 1, 1, 0, 1, 0] := by rw [← h3]; exact isl_lit _ _ _ _ rfl s2 rfl (by decide)
  clear h3
  generalize h4 : w3.alloc (.cells #[.int .i64 0, .int .i64 0, .int .i64 0, .int .i64 1, .int .i64 1, .int .i64 0, .int .i64 1] 3) = w4
  have e4 : Ex w3 w4 := by rw [← h4]; exact Ex.al _ _
  have s4 : w4.heap.size = w.heap.size + 1 + 1 + 1 + 1 + 1 := by rw [← h4]; simp [s3]
  have i4 : ISl w4 (.slice (some ⟨w.heap.size + 1 + 1 + 1 + 1, 0, none⟩) 7 7) [0, 0, 0, 1, 1, 0, 1] := by rw [← h4]; exact isl_lit _ _ _ _ rfl s3 rfl (by decide)
  clear h4
  generalize h5 : w4.alloc (.cells #[.slice (some ⟨w.heap.size + 1, 0, none⟩) 7 7, .slice (some ⟨w.heap.size + 1 + 1, 0, none⟩) 7 7, .slice (some ⟨w.heap.size + 1 + 1 + 1, 0, none⟩) 7 7, .slice (some ⟨w.heap.size + 1 + 1 + 1 + 1, 0, none⟩) 7 7] 22) = w5
  have e5 : Ex w4 w5 := by rw [← h5]; exact Ex.al _ _
  have s5 : w5.heap.size = w.heap.size + 1 + 1 + 1 + 1 + 1 + 1 := by rw [← h5]; simp [s4]
  have m5 : MSl w5 (.slice (some ⟨w.heap.size + 1 + 1 + 1 + 1 + 1, 0, none⟩) 4 4) exH := by
    rw [← h5]
    exact msl_lit4 _ _ _ _ _ _ _ _ _ _ s4 (((i1.ex e2).ex e3).ex e4) ((i2.ex e3).ex e4) (i3.ex e4) i4
  clear h5
  generalize h6 : w5.alloc (.cells #[.int .i64 7, .slice (some ⟨w.heap.size + 1 + 1 + 1 + 1 + 1, 0, none⟩) 4 4] 27) = w6
  have e6 : Ex w5 w6 := by rw [← h6]; exact Ex.al _ _
  have s6 : w6.heap.size = w.heap.size + 1 + 1 + 1 + 1 + 1 + 1 + 1 := by rw [← h6]; simp [s5]
  have b0 : w6.cell? ⟨w.heap.size + 1 + 1 + 1 + 1 + 1 + 1, 0, none⟩ = some (.int .i64 7) := by rw [← h6, ← s5]; simp
  have b1 : w6.cell? ⟨w.heap.size + 1 + 1 + 1 + 1 + 1 + 1, 1, none⟩ = some (.slice (some ⟨w.heap.size + 1 + 1 + 1 + 1 + 1, 0, none⟩) 4 4) := by rw [← h6, ← s5]; simp
  clear h6
  have e7 := Ex.al w6 (.cells #[.int .i64 1, .int .i64 1, .int .i64 0, .int .i64 0, .int .i64 1, .int .i64 0, .int .i64 1] 3)
  have e06 := ((((e1.trans e2).trans e3).trans e4).trans e5).trans e6
  exact ⟨(m5.ex e6).ex e7, isl_lit _ _ _ _ rfl s6 rfl (by decide), e7.cell (e06.cell a0), e7.cell (e06.cell a1), e7.cell (e06.cell a2), e7.cell b0, e7.cell b1, (e0.trans e06).trans e7⟩

theorem exT_facts (w : World) : MSl (((((w.alloc (.cells #[.int .i64 0, .int .i64 1, .int .i64 3] 3)).alloc (.cells #[.int .i64 1, .int .i64 2, .int .i64 4] 3)).alloc (.cells #[.int .i64 2, .int .i64 3, .int .i64 5] 3)).alloc (.cells #[.int .i64 3, .int .i64 4, .int .i64 6] 3)).alloc
    (.cells #[.slice (some ⟨w.heap.size, 0, none⟩) 3 3, .slice (some ⟨w.heap.size + 1, 0, none⟩) 3 3, .slice (some ⟨w.heap.size + 1 + 1, 0, none⟩) 3 3, .slice (some ⟨w.heap.size + 1 + 1 + 1, 0, none⟩) 3 3] 22)) (.slice (some ⟨w.heap.size + 1 + 1 + 1 + 1, 0, none⟩) 4 4) exT := by
  generalize h1 : w.alloc (.cells #[.int .i64 0, .int .i64 1, .int .i64 3] 3) = w1
  have s1 : w1.heap.size = w.heap.size + 1 := by rw [← h1]; simp
  have i1 : ISl w1 (.slice (some ⟨w.heap.size, 0, none⟩) 3 3) [0, 1, 3] := by rw [← h1]; exact isl_lit _ _ _ _ rfl rfl rfl (by decide)
  clear h1
  generalize h2 : w1.alloc (.cells #[.int .i64 1, .int .i64 2, .int .i64 4] 3) = w2
  have e2 : Ex w1 w2 := by rw [← h2]; exact Ex.al _ _
  have s2 : w2.heap.size = w.heap.size + 1 + 1 := by rw [← h2]; simp [s1]
  have i2 : ISl w2 (.slice (some ⟨w.heap.size + 1, 0, none⟩) 3 3) [1, 2, 4] := by rw [← h2]; exact isl_lit _ _ _ _ rfl s1 rfl (by decide)
  clear h2
  generalize h3 : w2.alloc (.cells #[.int .i64 2, .int .i64 3, .int .i64 5] 3) = w3
  have e3 : Ex w2 w3 := by rw [← h3]; exact Ex.al _ _
  have s3 : w3.heap.size = w.heap.size + 1 + 1 + 1 := by rw [← h3]; simp [s2]
  have i3 : ISl w3 (.slice (some ⟨w.heap.size + 1 + 1, 0, none⟩) 3 3) [2, 3, 5] := by rw [← h3]; exact isl_lit _ _ _ _ rfl s2 rfl (by decide)
  clear h3
  generalize h4 : w3.alloc (.cells #[.int .i64 3, .int .i64 4, .int .i64 6] 3) = w4
  have e4 : Ex w3 w4 := by rw [← h4]; exact Ex.al _ _
  have s4 : w4.heap.size = w.heap.size + 1 + 1 + 1 + 1 := by rw [← h4]; simp [s3]
  have i4 : ISl w4 (.slice (some ⟨w.heap.size + 1 + 1 + 1, 0, none⟩) 3 3) [3, 4, 6] := by rw [← h4]; exact isl_lit _ _ _ _ rfl s3 rfl (by decide)
  exact msl_lit4 _ _ _ _ _ _ _ _ _ _ s4 (((i1.ex e2).ex e3).ex e4) ((i2.ex e3).ex e4) (i3.ex e4) i4

theorem k_graph (w : World) (v : Value) (hv : MSl w v exH) : Calls Try.prog 14 #[.agg #[.int .i64 2, .int .i64 1, .slice none 0 0], .agg #[.int .i64 7, v]] w fun r w' => ∃ ca cc, r = .returned (.tuple #[.agg #[.int .i64 7, .slice ca 4 cc], .int .i64 0]) ∧ MSl w' (.slice ca 4 cc) exT ∧ Ex w w' := by
  refine (Graph_any 2 1 [] (.slice none 0 0) w (isl_nil _) 7 exH v hv).mono ?_
  rintro e w1 ⟨V, cv, gr, e, rfl, hg, hcv, hx1⟩
  obtain ⟨rfl, rfl, rfl⟩ := exGr hg
  obtain ⟨ca, cc, rfl, _⟩ := hcv.open
  exact ⟨ca, cc, rfl, hcv, hx1⟩
theorem k_girth (w : World) (v : Value) (hv : MSl w v exT) : Calls Try.prog 18 #[.agg #[.int .i64 7, v]] w fun r w' => r = .returned (.tuple #[.int .i64 6, .int .i64 0]) ∧ Ex w w' := by
  refine (Girth_any w 7 exT v hv).mono ?_
  rintro e w1 ⟨n, rfl, hn, hx⟩
  obtain rfl := exGir hn
  exact ⟨by rw [exChkT], hx⟩
theorem k_small (w : World) (v : Value) (hv : MSl w v exT) : Calls Try.prog 26 #[.agg #[.int .i64 7, v]] w fun r w' => ∃ a c, r = .returned (.tuple #[.slice a 4 c, .int .i64 0]) ∧ ISl w' (.slice a 4 c) [0, 1, 2, 5] ∧ Ex w w' := by
  refine (Smallest_any w 7 exT v hv).mono ?_
  rintro e w1 ⟨u, rfl, hu, hx⟩
  rw [exSmL] at hu
  obtain ⟨a, c, rfl, _⟩ := hu.open
  exact ⟨a, c, by rw [exSmE]; rfl, hu, hx⟩
theorem k_stop (w : World) (v lv : Value) (hv : MSl w v exT) (hl : ISl w lv [5, 6]) : Calls Try.prog 20 #[.agg #[.int .i64 7, v], lv] w fun r w' => r = .returned (.tuple #[.bool false, .int .i64 0]) ∧ Ex w w' := by
  have := Stopping_any w 7 exT v hv [5, 6] lv hl
  rw [exStB, exStE] at this
  exact this
theorem k_great (w : World) (v lv : Value) (hv : MSl w v exT) (hl : ISl w lv [0, 1, 2, 4]) : Calls Try.prog 24 #[.agg #[.int .i64 7, v], lv] w fun r w' => ∃ a c, r = .returned (.tuple #[.slice a 0 c, .int .i64 0]) ∧ Ex w w' := by
  refine (Greatest_any w 7 exT v hv [0, 1, 2, 4] lv hl).mono ?_
  rintro e w1 ⟨u, L, rfl, hL, hu, hx⟩
  obtain rfl := exGrL hL
  obtain ⟨a, c, rfl, _⟩ := hu.open
  exact ⟨a, c, by rw [exGrE]; rfl, hx⟩
theorem k_check (w : World) (v : Value) (hv : MSl w v exT) : Calls Try.prog 22 #[.agg #[.int .i64 7, v]] w fun r w' => r = .returned (.int .i64 0) ∧ Ex w w' := by
  have := pCheck_any w 7 exT v hv
  rw [exChkT] at this
  exact this
theorem k_peel (w : World) (v wv ev : Value) (wd er X L : List Int) (e : Int) (hc : exC wd er X L e = true) (hv : MSl w v exH) (hw : ISl w wv wd) (he : ISl w ev er) :
    Calls Try.prog 30 #[.agg #[.int .i64 2, .int .i64 1, .slice none 0 0], .agg #[.int .i64 7, v], wv, ev] w fun r w' => ∃ a c b d, r = .returned (.tuple #[.slice a X.length c, .slice b L.length d, .int .i64 e]) ∧ ISl w' (.slice a X.length c) X ∧ ISl w' (.slice b L.length d) L ∧ Ex w w' := by
  refine (Peel_any 2 1 [] (.slice none 0 0) w (isl_nil _) 7 exH v hv wd er wv ev hw he).mono ?_
  rintro r w1 ⟨X', L', xv, lv, e', rfl, hp, hx, hl, hE⟩
  obtain ⟨rfl, rfl, rfl⟩ := exP hp hc
  obtain ⟨a, c, rfl, _⟩ := hx.open
  obtain ⟨b, d, rfl, _⟩ := hl.open
  exact ⟨a, c, b, d, rfl, hx, hl, hE⟩
theorem k_same (w : World) (v u : Value) (hv : MSl w v exT) (hu : MSl w u exT) : Calls Try.prog 16 #[.agg #[.int .i64 7, v], .agg #[.int .i64 7, u]] w fun r w' => r = .returned (.bool true) ∧ Ex w w' := by
  have := Same_any w 7 7 exT exT v u hv hu
  rw [show (decide ((7 : Int) = 7) && decide (exT = exT)) = true by simp] at this
  exact this
theorem k_ints (w : World) (l : List Int) (v u : Value) (hv : ISl w v l) (hu : ISl w u l) : Calls Try.prog 28 #[v, u] w fun r w' => r = .returned (.bool true) ∧ Ex w w' := by
  refine (SameInts_any w l l v u hv hu).mono ?_
  rintro e w1 ⟨rfl, n, rfl⟩
  exact ⟨by simp, (Ex.refl _).drewN n⟩

structure AwS (W : World) (B0 B5 B6 B7 : Nat) : Prop where
  m0 : MSl W (.slice (some ⟨B5, 0, none⟩) 4 4) exH
  x0 : ISl W (.slice (some ⟨B7, 0, none⟩) 7 7) [1, 1, 0, 0, 1, 0, 1]
  f0 : W.cell? ⟨B0, 0, none⟩ = some (.int .i64 2)
  f1 : W.cell? ⟨B0, 1, none⟩ = some (.int .i64 1)
  f2 : W.cell? ⟨B0, 2, none⟩ = some (.slice none 0 0)
  h0 : W.cell? ⟨B6, 0, none⟩ = some (.int .i64 7)
  h1 : W.cell? ⟨B6, 1, none⟩ = some (.slice (some ⟨B5, 0, none⟩) 4 4)
theorem AwS.later {W W' : World} {B0 B5 B6 B7 : Nat} (h : AwS W B0 B5 B6 B7) (hx : Ex W W') : AwS W' B0 B5 B6 B7 :=
  ⟨h.m0.ex hx, h.x0.ex hx, hx.cell h.f0, hx.cell h.f1, hx.cell h.f2, hx.cell h.h0, hx.cell h.h1⟩
structure AwT (W : World) (tb : Nat) (ca : Option Addr) (cc : Nat) : Prop where
  hcv : MSl W (.slice ca 4 cc) exT
  t0 : W.cell? ⟨tb, 0, none⟩ = some (.int .i64 7)
  t1 : W.cell? ⟨tb, 1, none⟩ = some (.slice ca 4 cc)
theorem AwT.later {W W' : World} {tb : Nat} {ca : Option Addr} {cc : Nat} (h : AwT W tb ca cc) (hx : Ex W W') : AwT W' tb ca cc := ⟨h.hcv.ex hx, hx.cell h.t0, hx.cell h.t1⟩

set_option maxRecDepth 100000 in
set_option maxHeartbeats 4000000 in
theorem awake_any (w : World) : Calls Try.prog 12 #[] w fun r w' => r = .returned (.bool true) ∧ Ex w w' := by
  go_enter Try.func12, Try.ntmps12
  go_wp2_with fail
  obtain ⟨m0, x0, f0, f1, f2, h0, h1, eW⟩ := exW_facts w
  change Calls Try.prog 14 _ (exW w) _
  generalize exW w = W at *
  obtain ⟨B0, hB0⟩ : ∃ B, w.heap.size = B := ⟨_, rfl⟩
  rw [hB0] at m0 x0 f0 f1 f2 h0 h1
  try simp only [hB0]
  obtain ⟨B5, hB5⟩ : ∃ B, B0 + 1 + 1 + 1 + 1 + 1 = B := ⟨_, rfl⟩
  rw [hB5] at m0 x0 h0 h1
  try simp only [hB5]
  obtain ⟨B6, hB6⟩ : ∃ B, B5 + 1 = B := ⟨_, rfl⟩
  rw [hB6] at x0 h0 h1
  try simp only [hB6]
  obtain ⟨B7, hB7⟩ : ∃ B, B6 + 1 = B := ⟨_, rfl⟩
  rw [hB7] at x0
  try simp only [hB7]
  clear hB0 hB5 hB6 hB7
  have A := hid_ (AwS.mk m0 x0 f0 f1 f2 h0 h1)
  have EW := hid_ eW
  clear m0 x0 f0 f1 f2 h0 h1 eW
  refine (k_graph W _ A.out.m0).mono ?_
  rintro e w1 ⟨ca, cc, rfl, hcv, hx1⟩
  have e2 : Ex w1 (w1.alloc (.cells #[.int .i64 7, .slice ca 4 cc] 31)) := Ex.al _ _
  have t0 : (w1.alloc (.cells #[.int .i64 7, .slice ca 4 cc] 31)).cell? ⟨w1.heap.size, 0, none⟩ = some (.int .i64 7) := by simp
  have t1 : (w1.alloc (.cells #[.int .i64 7, .slice ca 4 cc] 31)).cell? ⟨w1.heap.size, 1, none⟩ = some (.slice ca 4 cc) := by simp
  have EX := hid_ ((EW.out.trans hx1).trans e2)
  have A := hid_ (A.out.later (hx1.trans e2))
  have T := hid_ (AwT.mk (hcv.ex e2) t0 t1)
  clear hcv hx1 e2 EW
  go_wp2_with fail
  generalize w1.alloc (.cells #[.int .i64 7, .slice ca 4 cc] 31) = w2 at *
  obtain ⟨tb, htb⟩ : ∃ tb, w1.heap.size = tb := ⟨_, rfl⟩
  rw [htb] at T t0 t1
  try simp only [htb]
  clear htb t0 t1
  refine (k_girth w2 _ T.out.hcv).mono ?_
  rintro e w3 ⟨rfl, hx3⟩
  have EX := hid_ (EX.out.trans hx3)
  have A := hid_ (A.out.later hx3)
  have T := hid_ (T.out.later hx3)
  have t0 := T.out.t0
  have t1 := T.out.t1
  clear hx3
  go_wp2_with fail
  refine (k_small w3 _ T.out.hcv).mono ?_
  rintro e w4 ⟨sa, sc, rfl, hsm, hx4⟩
  have EX := hid_ (EX.out.trans hx4)
  have A := hid_ (A.out.later hx4)
  have T := hid_ (T.out.later hx4)
  have SM := hid_ hsm
  have t0 := T.out.t0
  have t1 := T.out.t1
  clear hx4 hsm
  go_wp2_with fail
  refine (k_stop _ _ _ (T.out.hcv.ex (Ex.al _ _)) (isl_lit _ [5, 6] _ _ rfl rfl rfl (by decide))).mono ?_
  rintro e w5 ⟨rfl, hx5⟩
  have hx5 := (Ex.al w4 _).trans hx5
  have EX := hid_ (EX.out.trans hx5)
  have A := hid_ (A.out.later hx5)
  have T := hid_ (T.out.later hx5)
  have SM := hid_ (SM.out.ex hx5)
  clear hx5 t0 t1
  have f0 := A.out.f0
  have f1 := A.out.f1
  have f2 := A.out.f2
  have h0 := A.out.h0
  have h1 := A.out.h1
  go_wp2_with fail
  refine (k_peel _ _ _ _ [0, 1, 0, 1, 1, 0, 1] [0, 3] _ _ _ exP1 ((A.out.m0.ex (Ex.al _ _)).ex (Ex.al _ _)) ((isl_lit _ [0, 1, 0, 1, 1, 0, 1] _ _ rfl rfl rfl (by decide)).ex (Ex.al _ _)) (isl_lit _ [0, 3] _ _ rfl (by simp) rfl (by decide))).mono ?_
  rintro e w6 ⟨p1, p2, p3, p4, rfl, hy1, hy2, hx6⟩
  have hx6 := (Ex.al w5 _).trans ((Ex.al _ _).trans hx6)
  have EX := hid_ (EX.out.trans hx6)
  have A := hid_ (A.out.later hx6)
  have T := hid_ (T.out.later hx6)
  have SM := hid_ (SM.out.ex hx6)
  have Y1 := hid_ hy1
  have Y2 := hid_ hy2
  clear hx6 hy1 hy2 f0 f1 f2 h0 h1
  have f0 := A.out.f0
  have f1 := A.out.f1
  have f2 := A.out.f2
  have h0 := A.out.h0
  have h1 := A.out.h1
  go_wp2_with fail
  refine (k_peel _ _ _ _ [1, 1, 0, 0, 1, 0, 1] [0, 1, 4, 6] _ _ _ exP2 (A.out.m0.ex (Ex.al _ _)) (A.out.x0.ex (Ex.al _ _)) (isl_lit _ [0, 1, 4, 6] _ _ rfl rfl rfl (by decide))).mono ?_
  rintro e w7 ⟨p5, p6, p7, p8, rfl, hy3, hy4, hx7⟩
  have hx7 := (Ex.al w6 _).trans hx7
  have EX := hid_ (EX.out.trans hx7)
  have A := hid_ (A.out.later hx7)
  have T := hid_ (T.out.later hx7)
  have SM := hid_ (SM.out.ex hx7)
  have Y1 := hid_ (Y1.out.ex hx7)
  have Y2 := hid_ (Y2.out.ex hx7)
  have Y3 := hid_ hy3
  have Y4 := hid_ hy4
  clear hx7 hy3 hy4 f0 f1 f2 h0 h1
  have f0 := A.out.f0
  have f1 := A.out.f1
  have f2 := A.out.f2
  have h0 := A.out.h0
  have h1 := A.out.h1
  go_wp2_with fail
  refine (k_peel _ _ _ _ [1, 0, 0, 0, 0, 0, 0] [] _ _ _ exP3 (A.out.m0.ex (Ex.al _ _)) (isl_lit _ [1, 0, 0, 0, 0, 0, 0] _ _ rfl rfl rfl (by decide)) (isl_nil _)).mono ?_
  rintro e w8 ⟨p9, p10, p11, p12, rfl, hy5, hy6, hx8⟩
  have hx8 := (Ex.al w7 _).trans hx8
  have EX := hid_ (EX.out.trans hx8)
  have A := hid_ (A.out.later hx8)
  have T := hid_ (T.out.later hx8)
  have SM := hid_ (SM.out.ex hx8)
  have Y1 := hid_ (Y1.out.ex hx8)
  have Y2 := hid_ (Y2.out.ex hx8)
  have Y3 := hid_ (Y3.out.ex hx8)
  have Y4 := hid_ (Y4.out.ex hx8)
  clear hx8 hy5 hy6 f0 f1 f2 h0 h1
  have t0 := T.out.t0
  have t1 := T.out.t1
  go_wp2_with fail
  refine (k_great _ _ _ (T.out.hcv.ex (Ex.al _ _)) (isl_lit _ [0, 1, 2, 4] _ _ rfl rfl rfl (by decide))).mono ?_
  rintro e w9 ⟨p13, p14, rfl, hx9⟩
  have hx9 := (Ex.al w8 _).trans hx9
  have EX := hid_ (EX.out.trans hx9)
  have A := hid_ (A.out.later hx9)
  have T := hid_ (T.out.later hx9)
  have SM := hid_ (SM.out.ex hx9)
  have Y1 := hid_ (Y1.out.ex hx9)
  have Y2 := hid_ (Y2.out.ex hx9)
  have Y3 := hid_ (Y3.out.ex hx9)
  have Y4 := hid_ (Y4.out.ex hx9)
  clear hx9 t0 t1
  have t0 := T.out.t0
  have t1 := T.out.t1
  go_wp2_with fail
  have e9 := ((((Ex.al w9 (.cells #[.int .i64 0, .int .i64 1, .int .i64 3] 3)).trans (Ex.al _ (.cells #[.int .i64 1, .int .i64 2, .int .i64 4] 3))).trans (Ex.al _ (.cells #[.int .i64 2, .int .i64 3, .int .i64 5] 3))).trans (Ex.al _ (.cells #[.int .i64 3, .int .i64 4, .int .i64 6] 3))).trans
    (Ex.al _ (.cells #[.slice (some ⟨w9.heap.size, 0, none⟩) 3 3, .slice (some ⟨w9.heap.size + 1, 0, none⟩) 3 3, .slice (some ⟨w9.heap.size + 1 + 1, 0, none⟩) 3 3, .slice (some ⟨w9.heap.size + 1 + 1 + 1, 0, none⟩) 3 3] 22))
  refine (k_same _ _ _ (T.out.hcv.ex e9) (exT_facts w9)).mono ?_
  rintro e w10 ⟨rfl, hx10⟩
  have hx10 := e9.trans hx10
  have EX := hid_ (EX.out.trans hx10)
  have A := hid_ (A.out.later hx10)
  have T := hid_ (T.out.later hx10)
  have SM := hid_ (SM.out.ex hx10)
  have Y1 := hid_ (Y1.out.ex hx10)
  have Y2 := hid_ (Y2.out.ex hx10)
  have Y3 := hid_ (Y3.out.ex hx10)
  have Y4 := hid_ (Y4.out.ex hx10)
  clear hx10 t0 t1 e9
  go_wp2_with fail
  refine (k_ints _ [0, 1, 2, 5] _ _ (SM.out.ex (Ex.al _ _)) (isl_lit _ [0, 1, 2, 5] _ _ rfl rfl rfl (by decide))).mono ?_
  rintro e w11 ⟨rfl, hx11⟩
  have hx11 := (Ex.al w10 _).trans hx11
  have EX := hid_ (EX.out.trans hx11)
  have A := hid_ (A.out.later hx11)
  have T := hid_ (T.out.later hx11)
  have Y1 := hid_ (Y1.out.ex hx11)
  have Y2 := hid_ (Y2.out.ex hx11)
  have Y3 := hid_ (Y3.out.ex hx11)
  have Y4 := hid_ (Y4.out.ex hx11)
  clear hx11
  have t0 := T.out.t0
  have t1 := T.out.t1
  go_wp2_with fail
  refine (k_check _ _ T.out.hcv).mono ?_
  rintro e w12 ⟨rfl, hx12⟩
  have EX := hid_ (EX.out.trans hx12)
  have A := hid_ (A.out.later hx12)
  have Y1 := hid_ (Y1.out.ex hx12)
  have Y3 := hid_ (Y3.out.ex hx12)
  have Y4 := hid_ (Y4.out.ex hx12)
  clear hx12 t0 t1
  go_wp2_with fail
  refine (k_ints _ [1, 1, 0, 0, 1, 0, 1] _ _ Y1.out A.out.x0).mono ?_
  rintro e w13 ⟨rfl, hx13⟩
  have EX := hid_ (EX.out.trans hx13)
  have Y3 := hid_ (Y3.out.ex hx13)
  have Y4 := hid_ (Y4.out.ex hx13)
  clear hx13
  have hmk : ∀ w, (Instr.makeSlice 22 (.int .i64 7) (.int .i64 7)).run Try.prog w = .ok (.slice (some ⟨w.heap.size, 0, none⟩) 7 7) (w.alloc (.cells #[.int .i64 0, .int .i64 0, .int .i64 0, .int .i64 0, .int .i64 0, .int .i64 0, .int .i64 0] 3)) := fun _ => by kernel_rfl
  go_wp2_with fail
  refine (k_ints _ [0, 0, 0, 0, 0, 0, 0] _ _ (Y3.out.ex (Ex.al _ _)) (isl_lit _ [0, 0, 0, 0, 0, 0, 0] _ _ rfl rfl rfl (by decide))).mono ?_
  rintro e w14 ⟨rfl, hx14⟩
  have hx14 := (Ex.al w13 _).trans hx14
  have EX := hid_ (EX.out.trans hx14)
  have Y4 := hid_ (Y4.out.ex hx14)
  clear hx14
  go_wp2_with fail
  refine (k_ints _ [0, 1, 4, 6] _ _ (Y4.out.ex (Ex.al _ _)) (isl_lit _ [0, 1, 4, 6] _ _ rfl rfl rfl (by decide))).mono ?_
  rintro e w15 ⟨rfl, hx15⟩
  have EX := hid_ (EX.out.trans ((Ex.al w14 _).trans hx15))
  clear hx15
  go_wp2_with fail
  go_ret
  exact ⟨rfl, EX.out⟩
end Go.Proofs.Ytpphaicbdeeacaa
