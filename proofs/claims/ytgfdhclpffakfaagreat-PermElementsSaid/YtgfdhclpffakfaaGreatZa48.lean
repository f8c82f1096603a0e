/- Walk of PermElements. -/
import Derived.Test.YtgfdhclpffakfaaGreatZa36
import Derived.Test.YtgfdhclpffakfaaGreatZa41
import Derived.Test.YtgfdhclpffakfaaGreatZa42
import Derived.Test.YtgfdhclpffakfaaGreatZa43
import Derived.Test.YtgfdhclpffakfaaGreatZa45
import Derived.Test.YtgfdhclpffakfaaGreatZa47
namespace Go.Proofs.YtgfdhclpffakfaaGreat
set_option linter.unusedVariables false
set_option linter.unusedSimpArgs false
open Go.RowKit

set_option maxRecDepth 100000 in
theorem Elements_any (w : World) (d : Int) (la : Option Addr) (ln lc : Nat) :
    Calls Tryz.prog 6 #[.agg #[.int .i64 d, .slice la ln lc]] w fun r w' => r = .returned (.func (.func 30) #[] #[.pointer (some ⟨w.heap.size, 0, none⟩)]) ∧ w' = w.alloc (.cells #[.int .i64 d, .slice la ln lc] 24) := by
  go_enter Tryz.func6, Tryz.ntmps6
  go_wp2_with fail
  go_ret
  exact ⟨rfl, rfl⟩
theorem isl_own {W W' : World} {row : Option Nat} {v : Value} {n size : Nat} {xs : List Value} (h : Sl W v n size xs) (hg : W.grownBy W' row) (hr : ∀ r, row = some r → ∃ o : Obj, W.heap[r]? = some o ∧ o.isCells = false) : Sl W' v n size xs := by
  obtain ⟨h1, c, cap, rfl, h3, h4, h5⟩ := h
  refine ⟨h1, c, cap, rfl, h3, h4, fun hn => ?_⟩
  obtain ⟨X, o, rfl, h6⟩ := h5 hn
  exact ⟨X, o, rfl, fun j u hu => cell_kept (h6 j u hu) hg hr⟩
theorem eqfn0 (w : World) (d : Nat) (f : Fn) (a b : Array Value) : (Op.equalIn (d + 1) 28 (.func f a b) .nilFunc).run Tryz.prog w = .ok false w := by
  simp [Op.equalIn, run_underlying Tryz.underlying28]
theorem eqfn (w : World) (f : Fn) (a b : Array Value) : (binOp .eql 28 (.func f a b) .nilFunc).run Tryz.prog w = .ok (.bool false) w := by
  simp only [binOp]
  simp [Op.equal, Op.maxDepth, eqfn0 w 9999 f a b]
theorem al1 {w : World} {v : Value} {t : TypeId} {B : Nat} (h : w.heap.size = B) : (w.alloc (.cells #[v] t)).cell? ⟨B, 0, none⟩ = some v ∧ (w.alloc (.cells #[v] t)).frozen? ⟨B, 0, none⟩ = false ∧ (w.alloc (.cells #[v] t)).heap.size = B + 1 := by subst h; simp
/-- What stands between two rounds. -/
structure ItS (w : World) (X OB n : Nat) (d : Int) (lv : Value) (mo : Int) (E : List (Nat → Nat)) (pre : List Yl) (W : World) : Prop where
  ex : Ex w W
  q0 : W.cell? ⟨X, 0, none⟩ = some (.int .i64 d)
  q1 : W.cell? ⟨X, 1, none⟩ = some lv
  m0 : W.cell? ⟨X + 1, 0, none⟩ = some (.int .u8 mo)
  r0 : W.cell? ⟨X + 1 + 1, 0, none⟩ = some (.bool false)
  rf : W.frozen? ⟨X + 1 + 1, 0, none⟩ = false
  o0 : W.cell? ⟨OB, 0, none⟩ = some (.bool true)
  n0 : W.cell? ⟨OB + 1, 0, none⟩ = some (.int .i64 (pre.length : Int))
  nf : W.frozen? ⟨OB + 1, 0, none⟩ = false
  last : ∃ a l c, W.cell? ⟨OB + 1 + 1, 0, none⟩ = some (.slice a l c) ∧ ∀ x, pre.getLast? = some x → ISl W (.slice a l c) (li n x.2)
  lf : W.frozen? ⟨OB + 1 + 1, 0, none⟩ = false
  pf : pre.map (·.2) <+: E
  bd : (pre.length : Int) ≤ mo
section
variable {w A B : World} {X OB n : Nat} {d : Int} {lv : Value} {mo : Int} {E : List (Nat → Nat)} {pre : List Yl}
theorem ItS.exx (h : ItS w X OB n d lv mo E pre A) (hx : Ex A B) : ItS w X OB n d lv mo E pre B := by
  obtain ⟨a, l, c, h1, h2⟩ := h.last
  exact ⟨h.ex.trans hx, hx.cell h.q0, hx.cell h.q1, hx.cell h.m0, hx.cell h.r0, hx.frz h.r0 h.rf, hx.cell h.o0, hx.cell h.n0, hx.frz h.n0 h.nf, ⟨a, l, c, hx.cell h1, fun x e => (h2 x e).ex hx⟩, hx.frz h1 h.lf, h.pf, h.bd⟩
theorem ItS.kept {S0 : Nat} (h : ItS w X OB n d lv mo E pre A) (hS : w.heap.size ≤ S0) {row : Option Nat} (hg : A.grownBy B row) (hr : ∀ r, row = some r → S0 ≤ r ∧ ∃ o : Obj, A.heap[r]? = some o ∧ o.isCells = false) : ItS w X OB n d lv mo E pre B := by
  have hr2 := fun r e => (hr r e).2
  obtain ⟨a, l, c, h1, h2⟩ := h.last
  exact ⟨Below.grown h.ex hg h.ex.size (fun k e => Nat.le_trans hS (hr k e).1), cell_kept h.q0 hg hr2, cell_kept h.q1 hg hr2, cell_kept h.m0 hg hr2, cell_kept h.r0 hg hr2, (frozen_kept h.r0 hg hr2).trans h.rf, cell_kept h.o0 hg hr2, cell_kept h.n0 hg hr2, (frozen_kept h.n0 hg hr2).trans h.nf,
    ⟨a, l, c, cell_kept h1 hg hr2, fun x e => isl_own (h2 x e) hg hr2⟩, (frozen_kept h1 hg hr2).trans h.lf, h.pf, h.bd⟩
theorem ItS.next {w9 : World} (h : ItS w X OB n d lv mo E pre A) (hx : Ex A w9) {x : Yl} {g9 c9 : Nat} (hv : ISl w9 (.slice (some ⟨g9, 0, none⟩) n c9) (li n x.2)) (hg : A.heap.size ≤ g9)
    (hdd : (X + 1 + 1 ≠ OB ∧ X + 1 + 1 ≠ OB + 1 ∧ X + 1 + 1 ≠ OB + 1 + 1) ∧ (X ≠ OB + 1 ∧ X ≠ OB + 1 + 1) ∧ (X + 1 ≠ OB + 1 ∧ X + 1 ≠ OB + 1 + 1)) (hS : w.heap.size ≤ OB) (hpf : (pre.map (·.2) ++ [x.2]) <+: E) {cn : Int} (hcn : cn = pre.length + 1) (hm : cn ≤ mo) :
    ItS w X OB n d lv mo E (pre ++ [x]) ((w9.setCell ⟨OB + 1 + 1, 0, none⟩ (.slice (some ⟨g9, 0, none⟩) n c9)).setCell ⟨OB + 1, 0, none⟩ (.int .i64 cn)) := by
  obtain ⟨⟨E1, E2, E3⟩, ⟨E4, E5⟩, E6, E7⟩ := hdd
  obtain ⟨ya, yl, yc, l0, -⟩ := h.last
  have hl := World.block_lt_of_cell? _ _ l0
  have hlt : OB + 1 + 1 < A.heap.size := hl
  have l9 := hx.cell l0
  have n9 := hx.cell h.n0
  have key : ∀ {b : Nat} {u v v2 : Value}, w9.cell? ⟨b, 0, none⟩ = some u → b ≠ OB + 1 + 1 → b ≠ OB + 1 → ((w9.setCell ⟨OB + 1 + 1, 0, none⟩ v).setCell ⟨OB + 1, 0, none⟩ v2).cell? ⟨b, 0, none⟩ = some u := fun {b u v v2} hc h1 h2 =>
    (World.cell?_setCell_other _ _ _ _ (by intro e; simp at e <;> omega)).trans ((World.cell?_setCell_other _ _ _ _ (by intro e; simp at e <;> omega)).trans hc)
  have key1 : ∀ {b : Nat} {u v v2 : Value}, w9.cell? ⟨b, 1, none⟩ = some u → ((w9.setCell ⟨OB + 1 + 1, 0, none⟩ v).setCell ⟨OB + 1, 0, none⟩ v2).cell? ⟨b, 1, none⟩ = some u := fun {b u v v2} hc =>
    (World.cell?_setCell_other _ _ _ _ (by intro e; simp at e)).trans ((World.cell?_setCell_other _ _ _ _ (by intro e; simp at e)).trans hc)
  have kf : ∀ {p : Addr} {v v2 : Value}, w9.frozen? p = false → ((w9.setCell ⟨OB + 1 + 1, 0, none⟩ v).setCell ⟨OB + 1, 0, none⟩ v2).frozen? p = false := fun {p v v2} hf => by simpa using hf
  have kx : Ex w ((w9.setCell ⟨OB + 1 + 1, 0, none⟩ (.slice (some ⟨g9, 0, none⟩) n c9)).setCell ⟨OB + 1, 0, none⟩ (.int .i64 cn)) :=
    ((h.ex.trans hx).setCell (by show w.heap.size ≤ OB + 1 + 1; omega) _).setCell (by show w.heap.size ≤ OB + 1; omega) _
  have n1 : (w9.setCell ⟨OB + 1 + 1, 0, none⟩ (.slice (some ⟨g9, 0, none⟩) n c9)).cell? ⟨OB + 1, 0, none⟩ = some (.int .i64 pre.length) := (World.cell?_setCell_other _ _ _ _ (by intro e; simp at e)).trans n9
  refine ⟨kx, key (hx.cell h.q0) E5 E4, key1 (hx.cell h.q1), key (hx.cell h.m0) E7 E6, key (hx.cell h.r0) E3 E2, kf (hx.frz h.r0 h.rf), key (hx.cell h.o0) (by omega) (by omega), ?_, kf (hx.frz h.n0 h.nf), ⟨some ⟨g9, 0, none⟩, n, c9, ?_, ?_⟩, kf (hx.frz l0 h.lf), ?_, ?_⟩
  · rw [World.cell?_setCell_same _ _ _ n1, List.length_append, List.length_singleton, hcn]; norm_cast
  · exact (World.cell?_setCell_other _ _ _ _ (by intro e; simp at e)).trans (World.cell?_setCell_same _ _ _ l9)
  · intro y hy
    rw [List.getLast?_append] at hy
    simp at hy
    subst hy
    refine Sl.kps (M := fun k => k = OB + 1 + 1 ∨ k = OB + 1) ((Kps.grown (grownBy_setCell' _ _ _) (fun k e => by cases e; exact .inl rfl)).trans (Kps.grown (grownBy_setCell' _ _ _) (fun k e => by cases e; exact .inr rfl))) hv ?_
    intro _ B hB hM
    have : g9 = B := by simpa [Value.ownBlock] using hB
    rcases hM with e | e <;> omega
  · rw [List.map_append]; exact hpf
  · rw [List.length_append, List.length_singleton]; push_cast; omega
theorem keeps_of_ex (B : Nat) {V V' : World} (hx : Ex V V') : KeepsFrom B V V' := ⟨hx.size, fun k o _ hk _ => (hx.block k (Array.getElem?_eq_some_iff.1 hk).1).trans hk⟩
theorem kps_set {M : Nat → Prop} {V V' : World} (h : Kps M V V') {b : Nat} (hb : M b) (u : Value) : Kps M V (V'.setCell ⟨b, 0, none⟩ u) := h.trans (Kps.grown (grownBy_setCell' _ _ _) (fun k e => by cases e; exact hb))
end
theorem encY_fold (p : Tmp) (x : Yl) (T : Array Value) : (#[p].zip (encY x)).foldl (fun t (p, v) => t.setIfInBounds p v) T = T.setIfInBounds p x.1 := by simp [encY]
theorem wpListIn_append_sl {F : Fence} {nn : Nat} {P : Program} (w : World) {ops : Array Oper} {rest : List Oper} {o : Oper} {a : Act} {Q : Exit → Act → World → Prop} (hgd : o.guard = none) (s x : Operand) (t : TypeId)
    (ho : o.op = .call { callee := .builtin .append, args := #[s, x], argTypes := #[t, t] })
    (base : Nat) (e : TypeId) (z : Value) (size bytes : Nat) (ht : P.underlying t = some (.slice e)) (hi : (P.info? e).map (fun i => (i.zero, i.size, i.bytes)) = some (some z, size, bytes))
    (hzs : z.cells.size = size) (hsz : 0 < size) (v : Value) (n : Nat) (xs : List Value) (hs : a.eval s = v) (hown : w.ownsRow base e size v n xs)
    (xv : Value) (m : Nat) (news : List Value) (hx : a.eval x = xv) (hsl : Sl w xv m size news) (h1 : ∀ u ∈ news, u.oneCell' = true)
    (h63 : n + m ≤ maxLen) (hbytes : (n + m) * bytes ≤ 140737488355328) (hbase : base ≤ w.heap.size)
    (h : ∀ v' w', w'.ownsRow base e size v' (n + m) (xs ++ news) → w.grownBy w' v.ownBlock → (v'.ownBlock = v.ownBlock ∨ v'.ownBlock = some w.heap.size) → wpListIn F nn P ops Q rest (a.put o.dst v') w') :
    wpListIn F nn P ops Q (o :: rest) a w := by
  refine wpListIn_plain hgd fun K hK => ?_
  obtain ⟨v', w', hr, h2, h3, h4⟩ := run_append_sl (P := P) w base t o.type e z size bytes ht hi hzs hsz v n xs hown xv m news hsl h1 h63 hbytes hbase
  unfold Oper.wpIn
  refine ⟨by simp [Oper.about, ho, resolve, Target.leads, Sem.run_pure], ?_⟩
  rw [Oper.semAt_plain F _ _ (by rw [ho]; intro c hc'; cases hc')]
  simp only [execOp, ho, resolve, invoke, builtin, Sem.run_bind, Sem.run_pure, Result.andThen_ok, List.map_toArray, List.map_cons, List.map_nil, hs, hx, hr]
  exact hK _ _ (h v' w' h2 h3 h4)
section
attribute [local go_sem] Oper.semAt_some
set_option maxRecDepth 100000 in
set_option maxHeartbeats 8000000 in
theorem PermElements_any (w : World) (d : Int) (L : List Lv) (lv : Value) (hL : LSl w lv L) (mo : Int) (hmo : 0 ≤ mo ∧ mo ≤ 255) :
    Calls Tryz.prog 3 #[.agg #[.int .i64 d, lv], .int .u8 mo] w fun r w' => r = .returned (.bool true) ∧ Ex w w' := by
  obtain ⟨la, lc, rfl, z1, z2, -⟩ := hL.open3
  unfold maxLen at z2
  obtain ⟨q0, q1, eq⟩ := boxCh_facts w d (.slice la L.length lc)
  have e2 : Ex (w.alloc (.cells #[.int .i64 d, .slice la L.length lc] 24)) ((w.alloc (.cells #[.int .i64 d, .slice la L.length lc] 24)).alloc (.cells #[.int .u8 mo] 5)) := (Ex.refl _).alloc _
  have e3 : Ex ((w.alloc (.cells #[.int .i64 d, .slice la L.length lc] 24)).alloc (.cells #[.int .u8 mo] 5)) (((w.alloc (.cells #[.int .i64 d, .slice la L.length lc] 24)).alloc (.cells #[.int .u8 mo] 5)).alloc (.cells #[.bool false] 4)) := (Ex.refl _).alloc _
  obtain ⟨X, hX⟩ : ∃ X, w.heap.size = X := ⟨_, rfl⟩
  rw [hX] at q0 q1
  have sz1 : (w.alloc (.cells #[.int .i64 d, .slice la L.length lc] 24)).heap.size = X + 1 := by simp [hX]
  obtain ⟨m0, -, sz2⟩ := al1 (v := .int .u8 mo) (t := 5) sz1
  obtain ⟨r0, rf, sz3⟩ := al1 (v := .bool false) (t := 4) sz2
  have q0 := (e2.trans e3).cell q0
  have q1 := (e2.trans e3).cell q1
  have m0 := e3.cell m0
  have HX0 := hid_ (eq.trans (e2.trans e3))
  have HSZ := hid_ sz3
  have HL := hid_ hL
  clear hL eq e2 e3 sz1 sz2 sz3
  refine (callsIn_wide (n := 3)).1 ?_
  refine callsIn_of_wp_marks Tryz.func3 rfl trivial ?_ rfl
  simp only [Tryz.ntmps3, List.size_toArray, List.length_cons, List.length_nil, Nat.reduceAdd, Nat.reduceSub, Array.replicate_succ, Array.replicate_zero, List.push_toArray, List.append_toArray, List.nil_append, List.cons_append]
  gi_wp2
  try simp only [hX]
  have HXX := hid_ hX
  clear hX
  generalize ((w.alloc (.cells #[.int .i64 d, .slice la L.length lc] 24)).alloc (.cells #[.int .u8 mo] 5)).alloc (.cells #[.bool false] 4) = w1 at *
  refine ⟨trivial, ?_⟩
  refine (callsIn_wide.2 (awake_any w1)).mono ?_
  rintro e w2 ⟨rfl, hx2⟩
  have HX2 := hid_ (HX0.out.trans hx2)
  have q0 := hx2.cell q0
  have q1 := hx2.cell q1
  have m0 := hx2.cell m0
  have rf := hx2.frz r0 rf
  have r0 := hx2.cell r0
  clear hx2
  gi_wp2
  refine ⟨trivial, ?_⟩
  refine (callsIn_wide.2 (rFew2_any w2 d L _ (HL.out.ex HX2.out))).mono ?_
  rintro e w3 ⟨⟨b, rfl, hfew⟩, hx3⟩
  have HX3 := hid_ (HX2.out.trans hx3)
  have q0 := hx3.cell q0
  have q1 := hx3.cell q1
  have m0 := hx3.cell m0
  have rf := hx3.frz r0 rf
  have r0 := hx3.cell r0
  have HFW := hid_ hfew
  clear hx3 hfew
  cases b with
  | false =>
    gi_wp2
    refine ⟨trivial, ?_⟩
    refine (callsIn_wide.2 (awake_any w3)).mono ?_
    rintro e w4 ⟨rfl, hx4⟩
    have HX4 := hid_ (HX3.out.trans hx4)
    have rf := hx4.frz r0 rf
    have r0 := hx4.cell r0
    clear hx4
    gi_wp2
    have c9 := World.cell?_setCell_same _ _ (.bool true) r0
    exact ⟨.bool true, by simp [results, Tryz.results3, go_sem, c9], rfl, HX4.out.setCell (by show w.heap.size ≤ X + 1 + 1; have := HXX.out; omega) _⟩
  | true =>
    gi_wp2
    refine ⟨trivial, ?_⟩
    refine (callsIn_wide.2 (Elements_any w3 d la L.length lc)).mono ?_
    rintro e w4 ⟨rfl, hw4⟩
    obtain ⟨tb, htb⟩ : ∃ q, w3.heap.size = q := ⟨_, rfl⟩
    obtain ⟨t0, t1, et⟩ := boxCh_facts w3 d (.slice la L.length lc)
    rw [htb] at t0 t1
    rw [← hw4] at t0 t1 et
    have HTB := hid_ htb
    have HX4 := hid_ (HX3.out.trans et)
    have q0 := et.cell q0
    have q1 := et.cell q1
    have m0 := et.cell m0
    have rf := et.frz r0 rf
    have r0 := et.cell r0
    clear et hw4
    simp only [htb]
    clear htb
    have hnil := fun w' => eqfn w' (.func 30) #[] #[.pointer (some ⟨tb, 0, none⟩)]
    gi_wp2
    obtain ⟨hd6, hgl⟩ := HFW.out (by first | rfl | trivial)
    have HG := hid_ hgl
    have HD := hid_ hd6
    refine ⟨trivial, ?_⟩
    refine (callsIn_wide.2 (rCheckChain_any w4 d L _ (HL.out.ex HX4.out) (by omega) hd6)).mono ?_
    rintro e w5 ⟨rfl, hx5⟩
    have HX5 := hid_ (HX4.out.trans hx5)
    have q0 := hx5.cell q0
    have q1 := hx5.cell q1
    have m0 := hx5.cell m0
    have rf := hx5.frz r0 rf
    have r0 := hx5.cell r0
    have t0 := hx5.cell t0
    have t1 := hx5.cell t1
    clear hx5 hgl hd6 hnil
    obtain ⟨OK, hOK⟩ : ∃ b, (chkS d L == 0) = b := ⟨_, rfl⟩
    have HOK := hid_ hOK
    obtain ⟨KK, hKK⟩ : ∃ b, chkS d L = b := ⟨_, rfl⟩
    rw [hKK] at hOK ⊢
    gi_wp2
    obtain ⟨OB, hOB⟩ : ∃ q, w5.heap.size = q := ⟨_, rfl⟩
    obtain ⟨o0, -, s1⟩ := al1 (v := .bool OK) (t := 4) hOB
    obtain ⟨n0, nf, s2⟩ := al1 (v := .int .i64 0) (t := 3) s1
    obtain ⟨l0, lf, s3⟩ := al1 (v := .slice none 0 0) (t := 32) s2
    have a1 := (Ex.refl w5).alloc (.cells #[.bool OK] 4)
    have a2 := (Ex.refl (w5.alloc (.cells #[.bool OK] 4))).alloc (.cells #[.int .i64 0] 3)
    have a3 := (Ex.refl ((w5.alloc (.cells #[.bool OK] 4)).alloc (.cells #[.int .i64 0] 3))).alloc (.cells #[.slice none 0 0] 32)
    replace o0 := (a2.trans a3).cell o0
    replace nf := a3.frz n0 nf
    replace n0 := a3.cell n0
    have HX6 := hid_ (HX5.out.trans ((a1.trans a2).trans a3))
    replace q0 := ((a1.trans a2).trans a3).cell q0
    replace q1 := ((a1.trans a2).trans a3).cell q1
    replace m0 := ((a1.trans a2).trans a3).cell m0
    replace rf := ((a1.trans a2).trans a3).frz r0 rf
    replace r0 := ((a1.trans a2).trans a3).cell r0
    replace t0 := ((a1.trans a2).trans a3).cell t0
    replace t1 := ((a1.trans a2).trans a3).cell t1
    have HOB := hid_ hOB
    have HS3 := hid_ s3
    simp only [hOB]
    clear a1 a2 a3 hOB s1 s2 s3
    generalize ((w5.alloc (.cells #[.bool OK] 4)).alloc (.cells #[.int .i64 0] 3)).alloc (.cells #[.slice none 0 0] 32) = W6 at *
    by_cases h0 : KK = 0
    rotate_left
    · have hok : OK = false := by rw [← hOK]; simpa using h0
      have HKE := hid_ hKK
      have HN := hid_ h0
      subst hok
      refine rf_own (α := Yl) rfl rfl (gf := 30) (lb := #[.pointer (some ⟨tb, 0, none⟩)]) rfl trivial (enters_of Tryz.func30 (by kernel_rfl) rfl)
        (iter_any (w0 := w) HL.out HX6.out (by have := HG.out; omega) HD.out t0 t1 (Mc := fun _ => False) (fun k e => e.elim) (fun e => e) (E := []) (fun e => absurd (HKE.out.symm.trans e) HN.out) _) (fun _ => rfl)
        (fun pre W => pre = [] ∧ Ex w W ∧ W.cell? ⟨OB, 0, none⟩ = some (.bool false) ∧ W.cell? ⟨OB + 1, 0, none⟩ = some (.int .i64 0) ∧ W.cell? ⟨X + 1 + 1, 0, none⟩ = some (.bool false) ∧ W.frozen? ⟨X + 1 + 1, 0, none⟩ = false) (fun _ _ _ => False)
        ?i1 (fun _ _ _ _ _ h => h.elim) ?i2 (fun s A B h hx => ⟨h.1, h.2.1.trans hx, hx.cell h.2.2.1, hx.cell h.2.2.2.1, hx.cell h.2.2.2.2.1, hx.frz h.2.2.2.2.1 h.2.2.2.2.2⟩) (fun _ _ _ _ h => h.elim) ⟨rfl, HX6.out, o0, n0, r0, rf⟩ ?a1 ?i3 ?i4 ?i5 ?i6
      case i3 =>
        intro l x W K hK
        gi_wp2
        exact hK
      case i1 =>
        intro s A B row hs hg hr
        have hr2 := fun r e => (hr r e).2
        exact ⟨hs.1, Below.grown hs.2.1 hg hs.2.1.size (fun k e => Nat.le_trans HX6.out.size (hr k e).1), cell_kept hs.2.2.1 hg hr2, cell_kept hs.2.2.2.1 hg hr2, cell_kept hs.2.2.2.2.1 hg hr2, (frozen_kept hs.2.2.2.2.1 hg hr2).trans hs.2.2.2.2.2⟩
      case i2 =>
        intro pre x s A B row hs hg hr
        exact ⟨isl_own hs.1 hg (fun r e => (hr r e).2), hs.2⟩
      case i4 =>
        rintro l pre x W hl ⟨rfl, -⟩ ⟨-, hpr⟩
        exact absurd (List.prefix_nil.1 hpr) (by simp)
      case i6 =>
        rintro D c pre W hD - h
        exact h.elim
      case i5 =>
        rintro D xs W hD - ⟨-, hex, ho, hn, hr0, hrf⟩ hK
        have hmix : Tryz.prog.follows .mixedOrders = true := by kernel_rfl
        clear q0 q1 m0 t0 t1 o0 n0 nf l0 lf r0 rf
        have HEX := hid_ hex
        have hK0 := hK
        clear hex
        gi_wp2
        refine wpIn_wide.2 ?_
        go_upto_region 17 with fail
        refine wp_region_rs (fun k => ([.bool false, .bool true, .bool true, .int .i64 0, .bool true, .bool true, .bool true, undef, undef, undef, undef, undef, undef, undef, undef, undef, .bool true, undef] : List Value).getD k undef) [] (fun _ _ _ => True) (fun w' => w'.cell? ⟨X + 1 + 1, 0, none⟩ = some (.bool true) ∧ w'.frozen? ⟨X + 1 + 1, 0, none⟩ = false ∧ Ex w w' ∧ w'.heap[D]? = some (.deferred (some []))) 17 (by kernel_rfl) (by kernel_rfl) (by kernel_rfl) (by kernel_rfl) (by kernel_rfl) (by kernel_rfl) (fun _ _ _ _ h _ => h) ?_ ?_
        · simp only [StepAll]
          refine ⟨?_, ?_, ?_, ?_, ?_, ?_, ?_, ?_, ?_, ?_, ?_, ?_, ?_, ?_, ?_, ?_, ?_, ?_, trivial⟩
          · refine OpRs.val rfl (by decide) rfl fun Lq Vq a w' hin hv hrel hout hd hx K hK => ?_
            have e6 : a.tmps[6]? = some (.pointer (some ⟨OB, 0, none⟩)) := hout 6 (by kernel_rfl)
            have c6 := hx.cell ho
            clear hin hout hd hv hrel
            go_simp
            exact hK _ (Ex.refl w')
          · refine OpRs.val rfl (by decide) rfl fun Lq Vq a w' hin hv hrel hout hd hx K hK => ?_
            have d0 : Lq 0 = true := hd ⟨0, .data⟩ (by simp) rfl
            have e66 := hin 0 66 _ d0 rfl rfl
            have s0 : Vq 0 = .bool false := hv 0 d0 rfl
            rw [s0] at e66
            clear hin hout hd hv hrel
            go_simp
            exact hK _ (Ex.refl w')
          · refine OpRs.val rfl (by decide) rfl fun Lq Vq a w' hin hv hrel hout hd hx K hK => ?_
            have d1 : Lq 1 = true := hd ⟨1, .data⟩ (by simp) rfl
            have e67 := hin 1 67 _ d1 rfl rfl
            have s1 : Vq 1 = .bool true := hv 1 d1 rfl
            rw [s1] at e67
            clear hin hout hd hv hrel
            go_simp
            exact hK _ (Ex.refl w')
          · refine OpRs.val rfl (by decide) rfl fun Lq Vq a w' hin hv hrel hout hd hx K hK => ?_
            have e7 : a.tmps[7]? = some (.pointer (some ⟨OB + 1, 0, none⟩)) := hout 7 (by kernel_rfl)
            have c7 := hx.cell hn
            clear hin hout hd hv hrel
            go_simp
            exact hK _ (Ex.refl w')
          · refine OpRs.val rfl (by decide) rfl fun Lq Vq a w' hin hv hrel hout hd hx K hK => ?_
            have d3 : Lq 3 = true := hd ⟨3, .data⟩ (by simp) rfl
            have e69 := hin 3 69 _ d3 rfl rfl
            have s3 : Vq 3 = .int .i64 0 := hv 3 d3 rfl
            rw [s3] at e69
            clear hin hout hd hv hrel
            go_simp
            exact hK _ (Ex.refl w')
          · refine OpRs.val rfl (by decide) rfl fun Lq Vq a w' hin hv hrel hout hd hx K hK => ?_
            have d2 : Lq 2 = true := hd ⟨2, .data⟩ (by simp) rfl
            have e68 := hin 2 68 _ d2 rfl rfl
            have s2 : Vq 2 = .bool true := hv 2 d2 rfl
            rw [s2] at e68
            have d4 : Lq 4 = true := hd ⟨4, .data⟩ (by simp) rfl
            have e70 := hin 4 70 _ d4 rfl rfl
            have s4 : Vq 4 = .bool true := hv 4 d4 rfl
            rw [s4] at e70
            clear hin hout hd hv hrel
            go_simp
            exact hK _ (Ex.refl w')
          · refine OpRs.val rfl (by decide) rfl fun Lq Vq a w' hin hv hrel hout hd hx K hK => ?_
            have d5 : Lq 5 = true := hd ⟨5, .data⟩ (by simp) rfl
            have e71 := hin 5 71 _ d5 rfl rfl
            have s5 : Vq 5 = .bool true := hv 5 d5 rfl
            rw [s5] at e71
            clear hin hout hd hv hrel
            go_simp
            exact hK _ (Ex.refl w')
          · exact OpRs.off rfl ⟨rfl, rfl, by decide⟩
          · exact OpRs.off rfl ⟨rfl, rfl, by decide⟩
          · exact OpRs.off rfl ⟨rfl, rfl, by decide⟩
          · exact OpRs.off rfl ⟨rfl, rfl, by decide⟩
          · exact OpRs.off rfl ⟨rfl, rfl, by decide⟩
          · exact OpRs.off rfl ⟨rfl, rfl, by decide⟩
          · exact OpRs.off rfl ⟨rfl, rfl, by decide⟩
          · exact OpRs.off rfl ⟨rfl, rfl, by decide⟩
          · exact OpRs.off rfl ⟨rfl, rfl, by decide⟩
          · refine OpRs.val rfl (by decide) rfl fun Lq Vq a w' hin hv hrel hout hd hx K hK => ?_
            have d6 : Lq 6 = true := hd ⟨6, .data⟩ (by simp) rfl
            have e72 := hin 6 72 _ d6 rfl rfl
            have s6 : Vq 6 = .bool true := hv 6 d6 rfl
            rw [s6] at e72
            have d15 : Lq 15 = true := hd ⟨15, .data⟩ (by simp) rfl
            have e81 := hin 15 81 _ d15 rfl rfl
            have s15 : Vq 15 = undef := hv 15 d15 rfl
            rw [s15] at e81
            clear hin hout hd hv hrel
            go_simp
            exact hK _ (Ex.refl w')
          · refine OpRs.fin rfl fun Lq Vq a w' hin hv hrel hout hd hx K hK => ?_
            have e4 : a.tmps[4]? = some (.pointer (some ⟨X + 1 + 1, 0, none⟩)) := hout 4 (by kernel_rfl)
            have d16 : Lq 16 = true := hd ⟨16, .data⟩ (by simp) rfl
            have e82 := hin 16 82 _ d16 rfl rfl
            have s16 : Vq 16 = .bool true := hv 16 d16 rfl
            rw [s16] at e82
            clear hin hout hd hv hrel
            have c4 := hx.cell hr0
            have f4 := hx.frz hr0 hrf
            have f5 : (w'.setCell ⟨X + 1 + 1, 0, none⟩ (.bool true)).frozen? ⟨X + 1 + 1, 0, none⟩ = false := by simpa using f4
            have x5 : Ex w (w'.setCell ⟨X + 1 + 1, 0, none⟩ (.bool true)) := (HEX.out.trans hx).setCell (by show w.heap.size ≤ X + 1 + 1; have := HXX.out; omega) _
            have c5 : (w'.setCell ⟨X + 1 + 1, 0, none⟩ (.bool true)).cell? ⟨X + 1 + 1, 0, none⟩ = some (.bool true) := World.cell?_setCell_same _ _ _ c4
            have h5 : (w'.setCell ⟨X + 1 + 1, 0, none⟩ (.bool true)).heap[D]? = some (.deferred (some [])) := (KeepsOthers.setCell _ _ _).same D _ ((hx.block D (Array.getElem?_eq_some_iff.1 hK0).1).trans hK0) rfl
            go_simp
            exact hK _ ⟨c5, f5, x5, h5⟩
        · rintro V w3 ⟨c9, f9, x9, hk9⟩
          simp only [putK, Act.put, List.setIfInBounds_toArray, List.set_cons_zero, List.set_cons_succ]
          gi_wp2
          refine ⟨by simp, .inl ⟨_, _, rfl, run_takeDeferred (hk9), ?_⟩⟩
          have c9 := cell_kept c9 (grownBy_putObj' w3 D (.deferred none)) (fun r e => by cases e; exact ⟨_, hk9, rfl⟩)
          have x9 : Ex w (w3.putObj D (.deferred none)) := Below.grown x9 (grownBy_putObj' w3 D (.deferred none)) x9.size (fun k e => by cases e; exact Nat.le_trans HX6.out.size hD)
          exact ⟨.bool true, by simp [results, Tryz.results3, go_sem, c9], rfl, x9⟩
    · have hok : OK = true := by rw [← hOK, h0]; rfl
      subst h0
      subst hok
      obtain ⟨n, hdn, hn1, hn64, S, hS, -, hLS⟩ := chkS_ok hKK
      have hn6 : n ≤ 6 := by have := HD.out; omega
      have hd1 : 1 ≤ d := by omega
      have HDN := hid_ hdn
      clear hdn
      obtain ⟨E, hE⟩ : ∃ E, elS n S (ptsK n S) idP = E := ⟨_, rfl⟩
      have HSF := suf_pts n S
      have HLS := hid_ hLS
      clear hLS
      have HEP := hid_ (fun f (hf : f ∈ E) => el_isP hS HSF (isP_id n) (by rw [hE]; exact hf))
      have HEG := hid_ (fun f (hf : f ∈ E) => (sift_iff hS (HEP.out f hf)).2 (by
        obtain ⟨g, h1, -, h3⟩ := el_pre hS HSF idP f (by rw [hE]; exact hf)
        have : f = g := h3
        rw [this]; exact h1))
      have HEA := hid_ (show E.Pairwise (ElLt n) from by rw [← hE]; exact el_asc hS HSF idP (isP_id n))
      have HEZ := hid_ (show E.length = sizL L from by rw [← hE, el_siz, ← HLS.out])
      have HKE := hid_ hKK
      have D1 : X + 1 + 1 ≠ OB := fun e => by rw [e] at r0; rw [r0] at o0; simp at o0
      have D2 : X + 1 + 1 ≠ OB + 1 := fun e => by rw [e] at r0; rw [r0] at n0; simp at n0
      have D3 : X + 1 + 1 ≠ OB + 1 + 1 := fun e => by rw [e] at r0; rw [r0] at l0; simp at l0
      have D4 : X ≠ OB + 1 := fun e => by rw [e] at q0; rw [q0] at n0; simp at n0; omega
      have D5 : X ≠ OB + 1 + 1 := fun e => by rw [e] at q0; rw [q0] at l0; simp at l0
      have D6 : X + 1 ≠ OB + 1 := fun e => by rw [e] at m0; rw [m0] at n0; simp at n0
      have D7 : X + 1 ≠ OB + 1 + 1 := fun e => by rw [e] at m0; rw [m0] at l0; simp at l0
      have D8 : tb ≠ X + 1 + 1 := fun e => by rw [e] at t0; rw [r0] at t0; simp at t0
      have D9 : tb ≠ OB + 1 := fun e => by rw [e] at t0; rw [n0] at t0; simp at t0; omega
      have D10 : tb ≠ OB + 1 + 1 := fun e => by rw [e] at t0; rw [l0] at t0; simp at t0
      have b1 := World.block_lt_of_cell? _ _ r0
      have b2 := World.block_lt_of_cell? _ _ l0
      have hob := Nat.le_trans HX5.out.size (Nat.le_of_eq HOB.out)
      have hxx := HXX.out
      have HIT : ItS w X OB n d (.slice la L.length lc) mo E [] W6 := ⟨HX6.out, q0, q1, m0, r0, rf, o0, n0, nf, ⟨_, _, _, l0, fun x hx => (by cases hx)⟩, lf, List.nil_prefix, hmo.1⟩
      have hmo2 := hmo.2
      have HDD := hid_ (show (X + 1 + 1 ≠ OB ∧ X + 1 + 1 ≠ OB + 1 ∧ X + 1 + 1 ≠ OB + 1 + 1) ∧ (X ≠ OB + 1 ∧ X ≠ OB + 1 + 1) ∧ (X + 1 ≠ OB + 1 ∧ X + 1 ≠ OB + 1 + 1) from ⟨⟨D1, D2, D3⟩, ⟨D4, D5⟩, ⟨D6, D7⟩⟩)
      refine rf_own (α := Yl) rfl rfl (gf := 30) (lb := #[.pointer (some ⟨tb, 0, none⟩)]) rfl trivial (enters_of Tryz.func30 (by kernel_rfl) rfl)
        (iter_any (w0 := w) HL.out HX6.out (by have := HG.out; omega) HD.out t0 t1 (Mc := fun k => k = X + 1 + 1 ∨ k = OB + 1 ∨ k = OB + 1 + 1) (fun k e => by rcases e with e | e | e <;> subst e <;> simp only at b1 b2 <;> omega) (fun e => by rcases e with e | e | e <;> omega) (E := E) (fun _ => ⟨n, S, HDN.out, hn1, hn64, hS, HLS.out, hE.symm⟩) _) (fun _ => rfl)
        (fun pre W => ItS w X OB n d (.slice la L.length lc) mo E pre W) (fun c _ W => c = .ret ∧ Ex w W ∧ W.cell? ⟨X + 1 + 1, 0, none⟩ = some (.bool true) ∧ W.frozen? ⟨X + 1 + 1, 0, none⟩ = false)
        ?ki1 ?kj1 ?ki2 (fun s A B h hx => h.exx hx) (fun c s A B h hx => ⟨h.1, h.2.1.trans hx, hx.cell h.2.2.1, hx.frz h.2.2.1 h.2.2.2⟩) HIT ?ka1 ?ki3 ?ki4 ?ki5 ?ki6
      case ki3 =>
        intro l x W K hK
        rw [encY_fold]
        simp only [List.setIfInBounds_toArray, List.set_cons_zero, List.set_cons_succ]
        gi_wp2
        exact hK
      case ki1 => exact fun s A B row hs hg hr => hs.kept HX6.out.size hg hr
      case kj1 =>
        rintro c s A B row ⟨h1, h2, h3, h4⟩ hg hr
        have hr2 := fun r e => (hr r e).2
        exact ⟨h1, Below.grown h2 hg h2.size (fun k e => Nat.le_trans HX6.out.size (hr k e).1), cell_kept h3 hg hr2, (frozen_kept h3 hg hr2).trans h4⟩
      case ki2 =>
        intro pre x s A B row hs hg hr
        exact ⟨isl_own hs.1 hg (fun r e => (hr r e).2), hs.2⟩
      case ki6 =>
        rintro D c pre W hD - ⟨rfl, hex, hc, hf⟩ hK
        gi_wp2
        refine ⟨by simp, .inl ⟨_, _, rfl, run_takeDeferred hK, ?_⟩⟩
        have hc := cell_kept hc (grownBy_putObj' W D (.deferred none)) (fun r e => by cases e; exact ⟨_, hK, rfl⟩)
        have hex : Ex w (W.putObj D (.deferred none)) := Below.grown hex (grownBy_putObj' W D (.deferred none)) hex.size (fun k e => by cases e; exact Nat.le_trans HX6.out.size hD)
        exact ⟨.bool true, by simp [results, Tryz.results3, go_sem, hc], rfl, hex⟩
      case ki5 =>
        rintro D xs W hD hS hit hK
        have hmix : Tryz.prog.follows .mixedOrders = true := by kernel_rfl
        have hxs : xs.map (·.2) = E := by
          rcases hS with ⟨-, h⟩ | ⟨h, -⟩
          · exact h
          · exact absurd HKE.out h
        obtain ⟨CN, hCN⟩ : ∃ c, xs.length = c := ⟨_, rfl⟩
        obtain ⟨SZ, hSZ⟩ : ∃ c, sizL L = c := ⟨_, rfl⟩
        have hcs : CN = SZ := by rw [← hCN, ← hSZ, ← HEZ.out, ← hxs, List.length_map]
        have ho := hit.o0
        have hn := hit.n0
        have hr0 := hit.r0
        have hrf := hit.rf
        have hq0 := hit.q0
        have hq1 := hit.q1
        rw [hCN] at hn
        have hmx := hit.bd
        rw [hCN] at hmx
        have HEX := hid_ hit.ex
        have hK0 := hK
        have HOL := hid_ (show ∀ l ∈ L, l.orb.length ≤ 64 from fun l hl => by
          rw [HLS.out] at hl
          have := lev_orb_le hl
          omega)
        have HLL := hid_ (show L.length ≤ 64 from by
          rw [HLS.out, List.length_map]
          have := List.length_filter_le (fun b => decide (1 < (orbM S b n).length)) (List.range n)
          rw [List.length_range] at this
          exact Nat.le_trans this hn64)
        have HSZR := hid_ (fun w' (h : Ex W w') => (by rw [← hSZ]; exact rSize_any w' d L _ (HL.out.ex (HEX.out.trans h)) HOL.out HLL.out : Calls Tryz.prog 12 #[.agg #[.int .i64 d, .slice la L.length lc]] w' fun r w'' => (∃ v, r = .returned v ∧ NSl w'' v SZ) ∧ Ex w' w''))
        have HOFR := hid_ (fun w' => rOf_any w' CN (by omega))
        have HSMR := hid_ (fun (w' : World) (u v : Value) (hu : NSl w' u SZ) (hv : NSl w' v CN) => (by
          have := rSame_any w' SZ CN u v hu hv (smallN_of (by omega)) (smallN_of (by omega))
          rw [hcs, decide_eq_true rfl] at this
          exact this : Calls Tryz.prog 11 #[u, v] w' fun r w'' => r = .returned (.bool true) ∧ ∃ n, w'' = w'.drewN n))
        clear hit hS hxs q0 q1 m0 t0 t1 o0 n0 nf l0 lf r0 rf hSZ hCN hcs
        gi_wp2
        refine wpIn_wide.2 ?_
        go_upto_region 17 with fail
        refine wp_region_rs (fun k => ([.bool true, .bool false, .bool false, undef, undef, .bool false, .bool false, .bool true, .bool true, .agg #[.int .i64 d, .slice la L.length lc], undef, .int .i64 (CN : Int), .int .u64 (CN : Int), undef, .bool true, .bool true, .bool true, undef] : List Value).getD k undef) [10, 13] (fun k v w' => NSl w' v (if k = 10 then SZ else CN)) (fun w' => w'.cell? ⟨X + 1 + 1, 0, none⟩ = some (.bool true) ∧ w'.frozen? ⟨X + 1 + 1, 0, none⟩ = false ∧ Ex w w' ∧ w'.heap[D]? = some (.deferred (some []))) 17 (by kernel_rfl) (by kernel_rfl) (by kernel_rfl) (by kernel_rfl) (by kernel_rfl) (by kernel_rfl) (fun _ _ _ _ h hx => h.ex hx) ?_ ?_
        · simp only [StepAll]
          refine ⟨?_, ?_, ?_, ?_, ?_, ?_, ?_, ?_, ?_, ?_, ?_, ?_, ?_, ?_, ?_, ?_, ?_, ?_, trivial⟩
          · refine OpRs.val rfl (by decide) rfl fun Lq Vq a w' hin hv hrel hout hd hx K hK => ?_
            have e6 : a.tmps[6]? = some (.pointer (some ⟨OB, 0, none⟩)) := hout 6 (by kernel_rfl)
            have c6 := hx.cell ho
            clear hin hout hd hv hrel
            go_simp
            exact hK _ (Ex.refl w')
          · refine OpRs.val rfl (by decide) rfl fun Lq Vq a w' hin hv hrel hout hd hx K hK => ?_
            have d0 : Lq 0 = true := hd ⟨0, .data⟩ (by simp) rfl
            have e66 := hin 0 66 _ d0 rfl rfl
            have s0 : Vq 0 = .bool true := hv 0 d0 rfl
            rw [s0] at e66
            clear hin hout hd hv hrel
            go_simp
            exact hK _ (Ex.refl w')
          · refine OpRs.val rfl (by decide) rfl fun Lq Vq a w' hin hv hrel hout hd hx K hK => ?_
            have d1 : Lq 1 = true := hd ⟨1, .data⟩ (by simp) rfl
            have e67 := hin 1 67 _ d1 rfl rfl
            have s1 : Vq 1 = .bool false := hv 1 d1 rfl
            rw [s1] at e67
            clear hin hout hd hv hrel
            go_simp
            exact hK _ (Ex.refl w')
          · exact OpRs.off rfl ⟨rfl, rfl, by decide⟩
          · exact OpRs.off rfl ⟨rfl, rfl, by decide⟩
          · refine OpRs.val rfl (by decide) rfl fun Lq Vq a w' hin hv hrel hout hd hx K hK => ?_
            have d2 : Lq 2 = true := hd ⟨2, .data⟩ (by simp) rfl
            have e68 := hin 2 68 _ d2 rfl rfl
            have s2 : Vq 2 = .bool false := hv 2 d2 rfl
            rw [s2] at e68
            have d4 : Lq 4 = true := hd ⟨4, .data⟩ (by simp) rfl
            have e70 := hin 4 70 _ d4 rfl rfl
            have s4 : Vq 4 = undef := hv 4 d4 rfl
            rw [s4] at e70
            clear hin hout hd hv hrel
            go_simp
            exact hK _ (Ex.refl w')
          · refine OpRs.val rfl (by decide) rfl fun Lq Vq a w' hin hv hrel hout hd hx K hK => ?_
            have d5 : Lq 5 = true := hd ⟨5, .data⟩ (by simp) rfl
            have e71 := hin 5 71 _ d5 rfl rfl
            have s5 : Vq 5 = .bool false := hv 5 d5 rfl
            rw [s5] at e71
            clear hin hout hd hv hrel
            go_simp
            exact hK _ (Ex.refl w')
          · refine OpRs.val rfl (by decide) rfl fun Lq Vq a w' hin hv hrel hout hd hx K hK => ?_
            have e6 : a.tmps[6]? = some (.pointer (some ⟨OB, 0, none⟩)) := hout 6 (by kernel_rfl)
            have c6 := hx.cell ho
            clear hin hout hd hv hrel
            go_simp
            exact hK _ (Ex.refl w')
          · refine OpRs.val rfl (by decide) rfl fun Lq Vq a w' hin hv hrel hout hd hx K hK => ?_
            have d7 : Lq 7 = true := hd ⟨7, .data⟩ (by simp) rfl
            have e73 := hin 7 73 _ d7 rfl rfl
            have s7 : Vq 7 = .bool true := hv 7 d7 rfl
            rw [s7] at e73
            clear hin hout hd hv hrel
            go_simp
            exact hK _ (Ex.refl w')
          · refine OpRs.val rfl (by decide) rfl fun Lq Vq a w' hin hv hrel hout hd hx K hK => ?_
            have e2 : a.tmps[2]? = some (.pointer (some ⟨X, 0, none⟩)) := hout 2 (by kernel_rfl)
            have q0 := hx.cell hq0
            have q1 := hx.cell hq1
            clear hin hout hd hv hrel
            go_simp
            exact hK _ (Ex.refl w')
          · refine OpRs.rel rfl (by decide) rfl fun Lq Vq a w' hin hv hrel hout hd hx K hK => ?_
            have d9 : Lq 9 = true := hd ⟨9, .data⟩ (by simp) rfl
            have e75 := hin 9 75 _ d9 rfl rfl
            have s9 : Vq 9 = .agg #[.int .i64 d, .slice la L.length lc] := hv 9 d9 rfl
            rw [s9] at e75
            clear hin hout hd hv hrel
            go_simp
            refine (HSZR.out w' hx).mono ?_
            rintro e w3 ⟨⟨v, rfl, hv⟩, hx3⟩
            exact hK _ _ hv hx3
          · refine OpRs.val rfl (by decide) rfl fun Lq Vq a w' hin hv hrel hout hd hx K hK => ?_
            have e7 : a.tmps[7]? = some (.pointer (some ⟨OB + 1, 0, none⟩)) := hout 7 (by kernel_rfl)
            have c7 := hx.cell hn
            clear hin hout hd hv hrel
            go_simp
            exact hK _ (Ex.refl w')
          · refine OpRs.val rfl (by decide) rfl fun Lq Vq a w' hin hv hrel hout hd hx K hK => ?_
            have d11 : Lq 11 = true := hd ⟨11, .data⟩ (by simp) rfl
            have e77 := hin 11 77 _ d11 rfl rfl
            have s11 : Vq 11 = .int .i64 (CN : Int) := hv 11 d11 rfl
            rw [s11] at e77
            have k9 : IntKind.u64.wrap (CN : Int) = (CN : Int) := by rw [IntKind.wrap_u64]; omega
            clear hin hout hd hv hrel
            go_simp
            exact hK _ (Ex.refl w')
          · refine OpRs.rel rfl (by decide) rfl fun Lq Vq a w' hin hv hrel hout hd hx K hK => ?_
            have d12 : Lq 12 = true := hd ⟨12, .data⟩ (by simp) rfl
            have e78 := hin 12 78 _ d12 rfl rfl
            have s12 : Vq 12 = .int .u64 (CN : Int) := hv 12 d12 rfl
            rw [s12] at e78
            clear hin hout hd hv hrel
            go_simp
            refine (HOFR.out w').mono ?_
            rintro e w3 ⟨⟨v, rfl, hv⟩, hx3⟩
            exact hK _ _ hv hx3
          · refine OpRs.val rfl (by decide) rfl fun Lq Vq a w' hin hv hrel hout hd hx K hK => ?_
            have d10 : Lq 10 = true := hd ⟨10, .data⟩ (by simp) rfl
            have e76 := hin 10 76 _ d10 rfl rfl
            have r10 := hrel 10 d10 rfl
            have d13 : Lq 13 = true := hd ⟨13, .data⟩ (by simp) rfl
            have e79 := hin 13 79 _ d13 rfl rfl
            have r13 := hrel 13 d13 rfl
            clear hin hout hd hv hrel
            go_simp
            refine (HSMR.out w' _ _ r10 r13).mono ?_
            rintro e w3 ⟨rfl, n3, rfl⟩
            exact hK _ ((Ex.refl w').drewN n3)
          · refine OpRs.val rfl (by decide) rfl fun Lq Vq a w' hin hv hrel hout hd hx K hK => ?_
            have d8 : Lq 8 = true := hd ⟨8, .data⟩ (by simp) rfl
            have e74 := hin 8 74 _ d8 rfl rfl
            have s8 : Vq 8 = .bool true := hv 8 d8 rfl
            rw [s8] at e74
            have d14 : Lq 14 = true := hd ⟨14, .data⟩ (by simp) rfl
            have e80 := hin 14 80 _ d14 rfl rfl
            have s14 : Vq 14 = .bool true := hv 14 d14 rfl
            rw [s14] at e80
            clear hin hout hd hv hrel
            go_simp
            exact hK _ (Ex.refl w')
          · refine OpRs.val rfl (by decide) rfl fun Lq Vq a w' hin hv hrel hout hd hx K hK => ?_
            have d6 : Lq 6 = true := hd ⟨6, .data⟩ (by simp) rfl
            have e72 := hin 6 72 _ d6 rfl rfl
            have s6 : Vq 6 = .bool false := hv 6 d6 rfl
            rw [s6] at e72
            have d15 : Lq 15 = true := hd ⟨15, .data⟩ (by simp) rfl
            have e81 := hin 15 81 _ d15 rfl rfl
            have s15 : Vq 15 = .bool true := hv 15 d15 rfl
            rw [s15] at e81
            clear hin hout hd hv hrel
            go_simp
            exact hK _ (Ex.refl w')
          · refine OpRs.fin rfl fun Lq Vq a w' hin hv hrel hout hd hx K hK => ?_
            have e4 : a.tmps[4]? = some (.pointer (some ⟨X + 1 + 1, 0, none⟩)) := hout 4 (by kernel_rfl)
            have d16 : Lq 16 = true := hd ⟨16, .data⟩ (by simp) rfl
            have e82 := hin 16 82 _ d16 rfl rfl
            have s16 : Vq 16 = .bool true := hv 16 d16 rfl
            rw [s16] at e82
            clear hin hout hd hv hrel
            have c4 := hx.cell hr0
            have f4 := hx.frz hr0 hrf
            have f5 : (w'.setCell ⟨X + 1 + 1, 0, none⟩ (.bool true)).frozen? ⟨X + 1 + 1, 0, none⟩ = false := by simpa using f4
            have x5 : Ex w (w'.setCell ⟨X + 1 + 1, 0, none⟩ (.bool true)) := (HEX.out.trans hx).setCell (by show w.heap.size ≤ X + 1 + 1; have := HXX.out; omega) _
            have c5 : (w'.setCell ⟨X + 1 + 1, 0, none⟩ (.bool true)).cell? ⟨X + 1 + 1, 0, none⟩ = some (.bool true) := World.cell?_setCell_same _ _ _ c4
            have h5 : (w'.setCell ⟨X + 1 + 1, 0, none⟩ (.bool true)).heap[D]? = some (.deferred (some [])) := (KeepsOthers.setCell _ _ _).same D _ ((hx.block D (Array.getElem?_eq_some_iff.1 hK0).1).trans hK0) rfl
            go_simp
            exact hK _ ⟨c5, f5, x5, h5⟩
        · rintro V w3 ⟨c9, f9, x9, hk9⟩
          simp only [putK, Act.put, List.setIfInBounds_toArray, List.set_cons_zero, List.set_cons_succ]
          gi_wp2
          refine ⟨by simp, .inl ⟨_, _, rfl, run_takeDeferred (hk9), ?_⟩⟩
          have c9 := cell_kept c9 (grownBy_putObj' w3 D (.deferred none)) (fun r e => by cases e; exact ⟨_, hk9, rfl⟩)
          have x9 : Ex w (w3.putObj D (.deferred none)) := Below.grown x9 (grownBy_putObj' w3 D (.deferred none)) x9.size (fun k e => by cases e; exact Nat.le_trans HX6.out.size hD)
          exact ⟨.bool true, by simp [results, Tryz.results3, go_sem, c9], rfl, x9⟩
      case ki4 =>
        rintro l pre ⟨xv, f⟩ W hl hit ⟨hxv, hpf⟩
        have hmix : Tryz.prog.follows .mixedOrders = true := by kernel_rfl
        clear q0 q1 m0 t0 t1 o0 n0 nf l0 lf r0 rf
        have hEx : f ∈ E := hpf.subset (List.mem_append_right _ (List.mem_singleton.2 rfl))
        have hP := HEP.out _ hEx
        have hdt : d.toNat = n := by rw [HDN.out]; rfl
        simp only [hdt] at hxv
        have HXV := hid_ hxv
        obtain ⟨xa, xc, rfl, p1, p2, p3⟩ := isl_li hxv
        unfold maxLen at p2
        obtain ⟨CN, hCN⟩ : ∃ c, pre.length = c := ⟨_, rfl⟩
        have HCN := hid_ hCN
        have HIT := hid_ hit
        have HPF := hid_ hpf
        have o0 := hit.o0
        have n0 := hit.n0
        have q0 := hit.q0
        have q1 := hit.q1
        have m0 := hit.m0
        have r0 := hit.r0
        have rf := hit.rf
        have nf := hit.nf
        have lf := hit.lf
        rw [hCN] at n0
        have hbd := hit.bd
        rw [hCN] at hbd
        obtain ⟨ya, yl, yc, l0, hlast⟩ := hit.last
        have HLT := hid_ (show pre ≠ [] → ISl W (.slice ya yl yc) (li n ((pre.getLast?.map (·.2)).getD idP)) ∧ lessS (li n ((pre.getLast?.map (·.2)).getD idP)) (li n f) = true from fun hne => by
          obtain ⟨y, hy⟩ : ∃ y, pre.getLast? = some y := ⟨_, List.getLast?_eq_some_getLast hne⟩
          rw [hy]
          refine ⟨hlast y hy, lex_less ?_⟩
          have h1 := HEA.out.sublist hpf.sublist
          rw [List.pairwise_append] at h1
          exact h1.2.2 y.2 (List.mem_map_of_mem (List.mem_of_getLast? hy)) f (List.mem_singleton.2 rfl))
        have HCK := hid_ (show ∀ w', Ex W w' → Calls Tryz.prog 8 #[.slice xa n xc] w' fun r w'' => r = .returned (.int .i64 0) ∧ ∃ q, w'' = w'.drewN q from fun w' h => by
          have := rCheck_any w' (li n f) _ (HXV.out.ex h)
          rwa [pchk_li hn1 hn64 hP] at this)
        have HHA := hid_ (show ∀ w', Ex W w' → Calls Tryz.prog 9 #[.agg #[.int .i64 d, .slice la L.length lc], .slice xa n xc] w' fun r w'' => r = .returned (.bool true) ∧ Ex w' w'' from fun w' h => by
          have := rHas_any w' n S L HLS.out hS hn1 hn64 _ (HL.out.ex (HIT.out.ex.trans h)) f hP _ (HXV.out.ex h)
          rw [HEG.out _ hEx, HLS.out, List.length_map] at this
          rw [HDN.out, HLS.out, List.length_map]
          simpa using this)
        have HLE := hid_ (show pre ≠ [] → ∀ w', Ex W w' → Calls Tryz.prog 10 #[.slice ya yl yc, .slice xa n xc] w' fun r w'' => r = .returned (.bool true) ∧ ∃ q, w'' = w'.drewN q from fun hne w' h => by
          have := Less_any w' _ (li n f) _ _ ((HLT.out hne).1.ex h) (HXV.out.ex h) (by rw [li_len, li_len]; exact Nat.le_refl _)
          rwa [(HLT.out hne).2] at this)
        clear hit hpf hxv hlast hEx p3 hdt
        have HNE := hid_ (show pre = [] ↔ CN = 0 from by rw [← hCN]; exact List.length_eq_zero_iff.symm)
        clear hCN
        have hnd : ((n : Int) != d) = false := by rw [HDN.out]; simp
        gi_wp2
        refine ⟨trivial, ?_⟩
        refine (CallsIn.inRound _ (callsIn_wide.2 (HCK.out W (Ex.refl W)))).mono ?_
        rintro e W2 ⟨rfl, k2, rfl⟩
        have hx2 : Ex W (W.drewN k2) := (Ex.refl W).drewN k2
        have HX2 := hid_ hx2
        replace q0 := hx2.cell q0
        replace q1 := hx2.cell q1
        replace m0 := hx2.cell m0
        replace o0 := hx2.cell o0
        replace nf := hx2.frz n0 nf
        replace lf := hx2.frz l0 lf
        replace n0 := hx2.cell n0
        replace l0 := hx2.cell l0
        replace rf := hx2.frz r0 rf
        replace r0 := hx2.cell r0
        clear hx2
        generalize W.drewN k2 = W2 at *
        gi_wp2
        refine ⟨trivial, ?_⟩
        refine (CallsIn.inRound _ (callsIn_wide.2 (HHA.out W2 HX2.out))).mono ?_
        rintro e W3 ⟨rfl, hx3⟩
        have HX3 := hid_ (HX2.out.trans hx3)
        replace q0 := hx3.cell q0
        replace q1 := hx3.cell q1
        replace m0 := hx3.cell m0
        replace o0 := hx3.cell o0
        replace nf := hx3.frz n0 nf
        replace lf := hx3.frz l0 lf
        replace n0 := hx3.cell n0
        replace l0 := hx3.cell l0
        replace rf := hx3.frz r0 rf
        replace r0 := hx3.cell r0
        clear hx3
        have HSL := hid_ (show ∀ w', Ex W w' → Sl w' (.slice xa n xc) n 1 (ints (li n f)) from fun w' h => by
          have := HXV.out.ex h
          unfold ISl at this
          rwa [li_len] at this)
        rcases Nat.eq_zero_or_pos CN with h0 | h0
        · subst h0
          gi_wp2
          refine ⟨trivial, ?_⟩
          obtain ⟨W4, hW4⟩ : ∃ V, V = W3 := ⟨_, rfl⟩
          rw [← hW4] at HX3 q0 q1 m0 o0 n0 l0 rf r0 nf lf ⊢
          clear hW4
          have HX4 := hid_ HX3.out
          gi_wp2_with (gi_at_builtin; refine wpListIn_append_sl _ rfl _ _ 32 rfl W4.heap.size 3 (.int .i64 0) 1 8 Tryz.underlying32 infoInt rfl (by decide) (.slice (some ⟨W4.heap.size, 0, none⟩) 0 0) 0 [] rfl (own_lit0 W4 _) (.slice xa n xc) n (ints (li n f)) rfl (HSL.out _ (HX4.out.alloc _)) (by intro u hu; unfold ints at hu; rw [List.mem_map] at hu; obtain ⟨z, -, rfl⟩ := hu; rfl) (by unfold maxLen; omega) (by omega) (by simp) ?_)
          intro v9 w9 hown hg hat
          obtain ⟨g9, c9, rfl, hc9⟩ := own_open hown (by omega)
          have hx9 : Ex W4 w9 := ((Ex.refl W4).alloc _).grown (own_lit0 W4 _) (Nat.le_refl _) hg
          have HV9 := hid_ (show ISl w9 (.slice (some ⟨g9, 0, none⟩) n c9) (li n f) from by unfold ISl; rw [li_len]; exact Sl.own hown)
          have HG9 := hid_ (Nat.le_trans HX4.out.size (hown.lt g9 rfl).1)
          have HX9 := hid_ (HX4.out.trans hx9)
          replace lf := hx9.frz l0 lf
          replace nf := hx9.frz n0 nf
          replace m0 := hx9.cell m0
          replace n0 := hx9.cell n0
          replace l0 := hx9.cell l0
          replace rf := hx9.frz r0 rf
          replace r0 := hx9.cell r0
          clear hown hg hat hx9 hc9 q0 q1 o0
          obtain ⟨⟨E1, E2, E3⟩, -, E4, E5⟩ := HDD.out
          have n1 : (w9.setCell ⟨OB + 1 + 1, 0, none⟩ (.slice (some ⟨g9, 0, none⟩) n c9)).cell? ⟨OB + 1, 0, none⟩ = some (.int .i64 0) := (World.cell?_setCell_other _ _ _ _ (by intro e; simp at e <;> omega)).trans n0
          have m1 : ((w9.setCell ⟨OB + 1 + 1, 0, none⟩ (.slice (some ⟨g9, 0, none⟩) n c9)).setCell ⟨OB + 1, 0, none⟩ (.int .i64 (1))).cell? ⟨X + 1, 0, none⟩ = some (.int .u8 mo) :=
            (World.cell?_setCell_other _ _ _ _ (by intro e; simp at e <;> omega)).trans ((World.cell?_setCell_other _ _ _ _ (by intro e; simp at e <;> omega)).trans m0)
          have n2 : ((w9.setCell ⟨OB + 1 + 1, 0, none⟩ (.slice (some ⟨g9, 0, none⟩) n c9)).setCell ⟨OB + 1, 0, none⟩ (.int .i64 (1))).cell? ⟨OB + 1, 0, none⟩ = some (.int .i64 (1)) := World.cell?_setCell_same _ _ _ n1
          have r1 : ((w9.setCell ⟨OB + 1 + 1, 0, none⟩ (.slice (some ⟨g9, 0, none⟩) n c9)).setCell ⟨OB + 1, 0, none⟩ (.int .i64 (1))).cell? ⟨X + 1 + 1, 0, none⟩ = some (.bool false) :=
            (World.cell?_setCell_other _ _ _ _ (by intro e; simp at e <;> omega)).trans ((World.cell?_setCell_other _ _ _ _ (by intro e; simp at e <;> omega)).trans r0)
          by_cases hcm : mo < 1
          · gi_wp2
            refine ⟨(((keeps_of_ex _ HX9.out).trans ((KeepsOthers.setCell _ _ _).from _)).trans ((KeepsOthers.setCell _ _ _).from _)).trans ((KeepsOthers.setCell _ _ _).from _),
              kps_set (kps_set (kps_set (Kps.ofEx HX9.out) (.inl (.inr (.inr rfl))) _) (.inl (.inr (.inl rfl))) _) (.inl (.inl rfl)) _, rfl, ?_, World.cell?_setCell_same _ _ _ r1, by simpa using rf⟩
            refine Ex.setCell (Ex.setCell (Ex.setCell (HIT.out.ex.trans HX9.out) ?_ _) ?_ _) ?_ _
            · show w.heap.size ≤ OB + 1 + 1; omega
            · show w.heap.size ≤ OB + 1; omega
            · show w.heap.size ≤ X + 1 + 1; omega
          · gi_wp2
            exact ⟨((keeps_of_ex _ HX9.out).trans ((KeepsOthers.setCell _ _ _).from _)).trans ((KeepsOthers.setCell _ _ _).from _),
              kps_set (kps_set (Kps.ofEx HX9.out) (.inl (.inr (.inr rfl))) _) (.inl (.inr (.inl rfl))) _, HIT.out.next HX9.out HV9.out HG9.out HDD.out (by have := HX5.out.size; have := HOB.out; omega) HPF.out (by have := HCN.out; omega) (by omega)⟩
        · have k1 : (0 : Int) < (CN : Int) := by omega
          gi_wp2
          refine ⟨trivial, ?_⟩
          refine (CallsIn.inRound _ (callsIn_wide.2 (HLE.out (fun e => by have := HNE.out.1 e; omega) W3 HX3.out))).mono ?_
          rintro e W4 ⟨rfl, k4, hw4⟩
          have hx4 : Ex W3 W4 := by rw [hw4]; exact (Ex.refl W3).drewN k4
          have HX4 := hid_ (HX3.out.trans hx4)
          replace q0 := hx4.cell q0
          replace q1 := hx4.cell q1
          replace m0 := hx4.cell m0
          replace o0 := hx4.cell o0
          replace nf := hx4.frz n0 nf
          replace lf := hx4.frz l0 lf
          replace n0 := hx4.cell n0
          replace l0 := hx4.cell l0
          replace rf := hx4.frz r0 rf
          replace r0 := hx4.cell r0
          clear hx4 hw4
          gi_wp2_with (gi_at_builtin; refine wpListIn_append_sl _ rfl _ _ 32 rfl W4.heap.size 3 (.int .i64 0) 1 8 Tryz.underlying32 infoInt rfl (by decide) (.slice (some ⟨W4.heap.size, 0, none⟩) 0 0) 0 [] rfl (own_lit0 W4 _) (.slice xa n xc) n (ints (li n f)) rfl (HSL.out _ (HX4.out.alloc _)) (by intro u hu; unfold ints at hu; rw [List.mem_map] at hu; obtain ⟨z, -, rfl⟩ := hu; rfl) (by unfold maxLen; omega) (by omega) (by simp) ?_)
          intro v9 w9 hown hg hat
          obtain ⟨g9, c9, rfl, hc9⟩ := own_open hown (by omega)
          have hx9 : Ex W4 w9 := ((Ex.refl W4).alloc _).grown (own_lit0 W4 _) (Nat.le_refl _) hg
          have HV9 := hid_ (show ISl w9 (.slice (some ⟨g9, 0, none⟩) n c9) (li n f) from by unfold ISl; rw [li_len]; exact Sl.own hown)
          have HG9 := hid_ (Nat.le_trans HX4.out.size (hown.lt g9 rfl).1)
          have HX9 := hid_ (HX4.out.trans hx9)
          replace lf := hx9.frz l0 lf
          replace nf := hx9.frz n0 nf
          replace m0 := hx9.cell m0
          replace n0 := hx9.cell n0
          replace l0 := hx9.cell l0
          replace rf := hx9.frz r0 rf
          replace r0 := hx9.cell r0
          clear hown hg hat hx9 hc9 q0 q1 o0
          obtain ⟨⟨E1, E2, E3⟩, -, E4, E5⟩ := HDD.out
          have n1 : (w9.setCell ⟨OB + 1 + 1, 0, none⟩ (.slice (some ⟨g9, 0, none⟩) n c9)).cell? ⟨OB + 1, 0, none⟩ = some (.int .i64 (CN : Int)) := (World.cell?_setCell_other _ _ _ _ (by intro e; simp at e <;> omega)).trans n0
          have m1 : ((w9.setCell ⟨OB + 1 + 1, 0, none⟩ (.slice (some ⟨g9, 0, none⟩) n c9)).setCell ⟨OB + 1, 0, none⟩ (.int .i64 ((CN : Int) + 1))).cell? ⟨X + 1, 0, none⟩ = some (.int .u8 mo) :=
            (World.cell?_setCell_other _ _ _ _ (by intro e; simp at e <;> omega)).trans ((World.cell?_setCell_other _ _ _ _ (by intro e; simp at e <;> omega)).trans m0)
          have n2 : ((w9.setCell ⟨OB + 1 + 1, 0, none⟩ (.slice (some ⟨g9, 0, none⟩) n c9)).setCell ⟨OB + 1, 0, none⟩ (.int .i64 ((CN : Int) + 1))).cell? ⟨OB + 1, 0, none⟩ = some (.int .i64 ((CN : Int) + 1)) := World.cell?_setCell_same _ _ _ n1
          have r1 : ((w9.setCell ⟨OB + 1 + 1, 0, none⟩ (.slice (some ⟨g9, 0, none⟩) n c9)).setCell ⟨OB + 1, 0, none⟩ (.int .i64 ((CN : Int) + 1))).cell? ⟨X + 1 + 1, 0, none⟩ = some (.bool false) :=
            (World.cell?_setCell_other _ _ _ _ (by intro e; simp at e <;> omega)).trans ((World.cell?_setCell_other _ _ _ _ (by intro e; simp at e <;> omega)).trans r0)
          by_cases hcm : mo < (CN : Int) + 1
          · gi_wp2
            refine ⟨(((keeps_of_ex _ HX9.out).trans ((KeepsOthers.setCell _ _ _).from _)).trans ((KeepsOthers.setCell _ _ _).from _)).trans ((KeepsOthers.setCell _ _ _).from _),
              kps_set (kps_set (kps_set (Kps.ofEx HX9.out) (.inl (.inr (.inr rfl))) _) (.inl (.inr (.inl rfl))) _) (.inl (.inl rfl)) _, rfl, ?_, World.cell?_setCell_same _ _ _ r1, by simpa using rf⟩
            refine Ex.setCell (Ex.setCell (Ex.setCell (HIT.out.ex.trans HX9.out) ?_ _) ?_ _) ?_ _
            · show w.heap.size ≤ OB + 1 + 1; omega
            · show w.heap.size ≤ OB + 1; omega
            · show w.heap.size ≤ X + 1 + 1; omega
          · gi_wp2
            exact ⟨((keeps_of_ex _ HX9.out).trans ((KeepsOthers.setCell _ _ _).from _)).trans ((KeepsOthers.setCell _ _ _).from _),
              kps_set (kps_set (Kps.ofEx HX9.out) (.inl (.inr (.inr rfl))) _) (.inl (.inr (.inl rfl))) _, HIT.out.next HX9.out HV9.out HG9.out HDD.out (by have := HX5.out.size; have := HOB.out; omega) HPF.out (by have := HCN.out; omega) (by omega)⟩
end
end Go.Proofs.YtgfdhclpffakfaaGreat
