/- Walk of peel.around: a search in breadth. -/
import Derived.Test.YtpphaicbdeeacaaPeelI
namespace Go.Proofs.Ytpphaicbdeeacaa
set_option linter.unusedVariables false
set_option linter.unusedSimpArgs false
open Go.RowKit

/-- The state of the search. -/
structure BSt where
  far : Nat → Int
  par : Nat → Int
  q : List Int
  best : Int
def bstep (v : Nat) (s : BSt) (x : Int) : BSt :=
  if s.far x.toNat < 0 then ⟨upd s.far x.toNat (s.far v + 1), upd s.par x.toNat v, s.q ++ [x], s.best⟩
  else if x ≠ s.par v ∧ (s.best = 0 ∨ s.far v + s.far x.toNat + 1 < s.best) then ⟨s.far, s.par, s.q, s.far v + s.far x.toNat + 1⟩ else s
def bvert (L : Nat → List Int) (s : BSt) (v : Nat) : BSt := (L v).foldl (bstep v) s
def bK (L : Nat → List Int) (s : BSt) (v k : Nat) : BSt := ((L v).take k).foldl (bstep v) s
/-- From place k of the queue on, the search ends with best = b. -/
inductive Bfs (L : Nat → List Int) : Nat → BSt → Int → Prop
  | done (k : Nat) (s : BSt) : s.q.length ≤ k → Bfs L k s s.best
  | step (k : Nat) (s : BSt) (v : Nat) (b : Int) : s.q[k]? = some (v : Int) → Bfs L (k + 1) (bvert L s v) b → Bfs L k s b
def bInit (v : Nat) : BSt := ⟨upd (fun _ => -1) v 0, upd (fun _ => 0) v (-1), [(v : Int)], 0⟩

theorem Bfs.unique {L : Nat → List Int} {k : Nat} {s : BSt} {b c : Int} (h : Bfs L k s b) (h2 : Bfs L k s c) : b = c := by
  induction h generalizing c with
  | done k s h => cases h2 with
    | done _ _ _ => rfl
    | step _ _ v _ hv _ => have := (List.getElem?_eq_some_iff.1 hv).1; omega
  | step k s v b hv _ ih => cases h2 with
    | done _ _ h => have := (List.getElem?_eq_some_iff.1 hv).1; omega
    | step _ _ v2 _ hv2 h2 =>
      rw [hv] at hv2; injection hv2 with e
      have : v = v2 := by omega
      subst this
      exact ih h2

theorem bK_zero (L : Nat → List Int) (s : BSt) (v : Nat) : bK L s v 0 = s := rfl
theorem bK_succ {L : Nat → List Int} {s : BSt} {v k : Nat} {x : Int} (h : (L v)[k]? = some x) : bK L s v (k + 1) = bstep v (bK L s v k) x := by
  unfold bK; rw [List.take_add_one, h, List.foldl_append]; rfl
theorem bK_all (L : Nat → List Int) (s : BSt) (v : Nat) : bK L s v (L v).length = bvert L s v := by
  unfold bK bvert; rw [List.take_length]

structure BOk (M : Nat) (s : BSt) : Prop where
  far : ∀ i, -1 ≤ s.far i ∧ s.far i ≤ s.q.length
  q : ∀ (k : Nat) (x : Int), s.q[k]? = some x → 0 ≤ x ∧ x < M
  cnt : s.q.length = (lft M fun i => decide (0 ≤ s.far i)).length
  best : 0 ≤ s.best ∧ s.best ≤ 2 * M + 1

theorem lft_put {f : Nat → Bool} {x : Nat} (hf : f x = false) : ∀ (N : Nat), x < N → (lft N (upd f x true)).length = (lft N f).length + 1
  | 0, h => by omega
  | N + 1, h => by
    rw [lft_snoc, lft_snoc]
    by_cases e : x = N
    · subst e
      rw [lft_congr x (fun j hj => upd_ne f true (by omega)), upd_same, hf]
      simp
    · have ih := lft_put hf N (by omega)
      rw [upd_ne f true (by omega)]
      rw [List.length_append, List.length_append]
      omega
theorem BOk.qM {M : Nat} {s : BSt} (h : BOk M s) : s.q.length ≤ M := by rw [h.cnt]; exact lft_len _ _
theorem BOk.new {M : Nat} {s : BSt} (h : BOk M s) {v X : Nat} (hX : X < M) (hf : s.far X < 0) : BOk M ⟨upd s.far X (s.far v + 1), upd s.par X v, s.q ++ [(X : Int)], s.best⟩ := by
  refine ⟨fun i => ?_, fun k x hx => ?_, ?_, h.best⟩
  · have h1 := h.far i
    have h2 := h.far v
    simp only [List.length_append, List.length_singleton]
    unfold upd; split <;> omega
  · simp only at hx
    rw [List.getElem?_append] at hx
    split at hx
    · exact h.q k x hx
    · have : x = X := by
        have := List.mem_of_getElem? hx
        simpa using this
      omega
  · simp only [List.length_append, List.length_singleton]
    rw [h.cnt, ← lft_put (x := X) (by simpa using hf) M hX]
    congr 1
    refine lft_congr M fun j _ => ?_
    unfold upd
    by_cases e : j = X
    · subst e
      have := h.far v
      simp; omega
    · simp [e]
theorem BOk.upb {M : Nat} {s : BSt} (h : BOk M s) (v X : Nat) (hX : 0 ≤ s.far X) (hb : s.far v + s.far X + 1 ≤ 2 * M + 1) (h0 : 0 ≤ s.far v + s.far X + 1) : BOk M ⟨s.far, s.par, s.q, s.far v + s.far X + 1⟩ :=
  ⟨h.far, h.q, h.cnt, h0, hb⟩
theorem bstep_new {v X : Nat} {s : BSt} (h : s.far X < 0) : bstep v s (X : Int) = ⟨upd s.far X (s.far v + 1), upd s.par X v, s.q ++ [(X : Int)], s.best⟩ := by
  unfold bstep; rw [Int.toNat_natCast, if_pos h]
theorem bstep_upb {v X : Nat} {s : BSt} (h : 0 ≤ s.far X) (h1 : (X : Int) ≠ s.par v) (h2 : s.best = 0 ∨ s.far v + s.far X + 1 < s.best) : bstep v s (X : Int) = ⟨s.far, s.par, s.q, s.far v + s.far X + 1⟩ := by
  unfold bstep; rw [Int.toNat_natCast, if_neg (by omega), if_pos ⟨h1, h2⟩]
theorem bstep_same {v X : Nat} {s : BSt} (h : 0 ≤ s.far X) (h1 : ¬ ((X : Int) ≠ s.par v ∧ (s.best = 0 ∨ s.far v + s.far X + 1 < s.best))) : bstep v s (X : Int) = s := by
  unfold bstep; rw [Int.toNat_natCast, if_neg (by omega), if_neg h1]
theorem BOk.init {M v : Nat} (h : v < M) : BOk M (bInit v) := by
  refine ⟨fun i => ?_, fun k x hx => ?_, ?_, ?_⟩
  · unfold bInit upd; simp only [List.length_singleton]; split <;> omega
  · have : x = v := by
      have := List.mem_of_getElem? hx
      simpa [bInit] using this
    omega
  · have h1 : (lft M (upd (fun _ => false) v true)).length = (lft M fun _ => false).length + 1 := lft_put rfl M h
    have h2 : (lft M fun _ => false) = [] := by simp [lft]
    rw [h2] at h1
    show (1 : Nat) = _
    rw [show (1 : Nat) = (lft M (upd (fun _ => false) v true)).length by rw [h1]; rfl]
    congr 1
    refine lft_congr M fun j _ => ?_
    unfold upd bInit upd
    by_cases e : j = v <;> simp [e]
  · simp only [bInit]; omega

structure BMem (w1 wr : World) (base g1 g2 M : Nat) (qv : Value) (s : BSt) : Prop where
  far : Own wr base 3 g1 M (iv s.far)
  par : Own wr base 3 g2 M (iv s.par)
  q : wr.ownsRow base 3 1 qv s.q.length (ints s.q)
  n1 : qv.ownBlock ≠ some g1
  n2 : qv.ownBlock ≠ some g2
  n12 : g1 ≠ g2
  ex : Ex w1 wr
  base_ : w1.heap.size ≤ base

theorem BMem.later {w1 wr w' : World} {base g1 g2 M : Nat} {qv : Value} {s : BSt} (h : BMem w1 wr base g1 g2 M qv s) (hx : Ex wr w') : BMem w1 w' base g1 g2 M qv s :=
  ⟨h.far.ex hx, h.par.ex hx, ownsRow_ex h.q hx, h.n1, h.n2, h.n12, h.ex.trans hx, h.base_⟩
theorem BMem.setFar {w1 wr : World} {base g1 g2 M : Nat} {qv : Value} {s : BSt} (h : BMem w1 wr base g1 g2 M qv s) (j : Nat) (y : Int) :
    BMem w1 (wr.setCell ⟨g1, j, none⟩ (.int .i64 y)) base g1 g2 M qv ⟨upd s.far j y, s.par, s.q, s.best⟩ :=
  ⟨by rw [← iv_upd]; exact h.far.set j _, h.par.other (by simpa using h.n12.symm) _, ownsRow_setCell_ne h.q h.n1 _, h.n1, h.n2, h.n12, h.far.exSet h.base_ h.ex j _, h.base_⟩
theorem BMem.setPar {w1 wr : World} {base g1 g2 M : Nat} {qv : Value} {s : BSt} (h : BMem w1 wr base g1 g2 M qv s) (j : Nat) (y : Int) :
    BMem w1 (wr.setCell ⟨g2, j, none⟩ (.int .i64 y)) base g1 g2 M qv ⟨s.far, upd s.par j y, s.q, s.best⟩ :=
  ⟨h.far.other (by simpa using h.n12) _, by rw [← iv_upd]; exact h.par.set j _, ownsRow_setCell_ne h.q h.n2 _, h.n1, h.n2, h.n12, h.par.exSet h.base_ h.ex j _, h.base_⟩
theorem BMem.app {w1 wr w' : World} {base g1 g2 M : Nat} {qv qv' : Value} {s : BSt} {x : Int} (h : BMem w1 wr base g1 g2 M qv s) (ha : Appd wr w' base 3 1 qv qv' s.q.length (ints s.q) [.int .i64 x]) :
    BMem w1 w' base g1 g2 M qv' ⟨s.far, s.par, s.q ++ [x], s.best⟩ := by
  have h1 := ha.arr h.far h.n1
  have h2 := ha.arr h.par h.n2
  refine ⟨h1.1, h2.1, ?_, h1.2, h2.2, h.n12, ha.ex h.ex h.base_, h.base_⟩
  have := ha.own
  simp only [List.length_append, List.length_singleton]
  simpa [ints] using this
theorem BMem.best {w1 wr : World} {base g1 g2 M : Nat} {qv : Value} {s : BSt} (h : BMem w1 wr base g1 g2 M qv s) (b : Int) : BMem w1 wr base g1 g2 M qv ⟨s.far, s.par, s.q, b⟩ :=
  ⟨h.far, h.par, h.q, h.n1, h.n2, h.n12, h.ex, h.base_⟩

set_option maxRecDepth 100000 in
set_option maxHeartbeats 4000000 in
theorem around_any (w : World) (M fr : Nat) (v : Value) (rows : List (List Int)) (hv : MSl w v rows) (hM : rows.length = M) (hM1 : M ≤ 1000) (hfr : fr < M) (hr : RowsIn M rows) :
    Calls Try.prog 46 #[v, .int .i64 fr] w fun r w' => ∃ b, r = .returned (.int .i64 b) ∧ Bfs (fun i => rows.getD i []) 0 (bInit fr) b ∧ 0 ≤ b ∧ b ≤ 2 * M + 1 ∧ Ex w w' := by
  obtain ⟨a, cap, rfl, s1, s2, s3⟩ := hv.open
  have S3 := hid_ s3
  have HR := hid_ hr
  rw [hM] at s1 S3 ⊢
  have HM := hid_ hM
  have HI := hid_ (BOk.init hfr)
  obtain ⟨L, hL⟩ : ∃ L : Nat → List Int, (fun i => rows.getD i []) = L := ⟨_, rfl⟩
  rw [hL]
  have HL := hid_ (show ∀ (i : Nat) (r : List Int), rows[i]? = some r → L i = r from fun i r h => by rw [← hL]; show rows.getD i [] = r; rw [List.getD_eq_getElem?_getD, h]; rfl)
  clear hL
  unfold maxLen at s2
  clear hv s3 hr hM
  go_enter Try.func46, Try.ntmps46
  go_wp2_with (at_make; refine wpList_make_arr _ rfl _ _ 22 rfl 3 (.int .i64 0) 8 Try.underlying22 infoInt rfl _ M rfl rfl rfl (by omega) (by unfold maxLen; omega) ?_)
  intro w2 hown2 hx2
  have hlt2 : w.heap.size < w2.heap.size := hown2.lt.2
  go_wp2_with (at_make; refine wpList_make_arr _ rfl _ _ 22 rfl 3 (.int .i64 0) 8 Try.underlying22 infoInt rfl _ M rfl rfl rfl (by omega) (by unfold maxLen; omega) ?_)
  intro w3 hown3 hx3
  have hb0 : w.heap.size ≤ w2.heap.size := hx2.size
  have hown3 := hown3.mono hb0
  have hown2 := hown2.ex hx3
  have ex3 := hx2.trans hx3
  have HWS := hid_ (Nat.le_refl w.heap.size)
  obtain ⟨g2, hg2⟩ : ∃ g2, w2.heap.size = g2 := ⟨_, rfl⟩
  rw [hg2] at hown3 hlt2
  try simp only [hg2]
  clear hg2 hx2 hx3 hb0
  obtain ⟨g1, hg1⟩ : ∃ g1, w.heap.size = g1 := ⟨_, rfl⟩
  rw [hg1] at hown2 hown3 hlt2 HWS
  try simp only [hg1]
  have HBASE := hid_ (show w.heap.size ≤ g1 by omega)
  clear hg1
  have HF := hid_ (hown2.icongr (f := fun _ => 0) (h := fun j => if j < 0 then -1 else 0) (fun j _ => by simp))
  have HP := hid_ hown3
  clear hown2 hown3
  go_wp2_with fail
  go_loopw [22] (fun i' wr => ∃ i : Nat, i ≤ M ∧ i' = .int .i64 i ∧ Hid (Own wr g1 3 g1 M (iv fun j => if j < i then -1 else 0)) ∧ Hid (Own wr g1 3 g2 M (iv fun _ => 0)) ∧ Ex w wr) (fun i' _ => M - (intOf i').toNat)
  case atStart => exact ⟨0, by omega, rfl, HF, HP, ex3⟩
  case round =>
    clear HF HP ex3
    obtain ⟨i, hi, rfl, hf, hp, hx⟩ := hrel
    by_cases hlt : i < M
    · have c1 := hf.out.cell hlt
      have c2 := hf.out.frz i
      have HF2 := hid_ (hf.out.set i (.int .i64 (-1)))
      have HP2 := hid_ (hp.out.other (a := ⟨g1, i, none⟩) (show g2 ≠ g1 by omega) (.int .i64 (-1)))
      have HX2 := hid_ (hf.out.exSet HBASE.out hx i (.int .i64 (-1)))
      clear hf hp hx
      go_wp2_with fail
      go_roundw
      case rel => exact ⟨i + 1, by omega, by go_num, hid_ (by
        have := HF2.out
        rw [iv_upd] at this
        refine this.icongr fun j hj => ?_
        unfold upd
        dsimp only
        by_cases e : j = i
        · subst e; rw [if_pos rfl, if_pos (by omega)]
        · rw [if_neg e]
          by_cases e2 : j < i
          · rw [if_pos e2, if_pos (by omega)]
          · rw [if_neg e2, if_neg (by omega)]), HP2, HX2.out⟩
      case measure => simp [intOf]; omega
    · obtain rfl : M = i := by omega
      have c1 := hf.out.cell hfr
      have c2 := hf.out.frz fr
      have HF1 := hid_ (hf.out.icongr (h := fun _ => -1) (fun j hj => by rw [if_pos hj]))
      have c3 := hp.out.cell hfr
      have HP1 := hid_ (hp.out.other (a := ⟨g1, fr, none⟩) (show g2 ≠ g1 by omega) (.int .i64 0))
      have HF2 := hid_ (HF1.out.set fr (.int .i64 0))
      have c4 := HP1.out.cell hfr
      have c5 := HP1.out.frz fr
      have HP2 := hid_ (HP1.out.set fr (.int .i64 (-1)))
      have HF3 := hid_ (HF2.out.other (a := ⟨g2, fr, none⟩) (show g1 ≠ g2 by omega) (.int .i64 (-1)))
      have HX2 := hid_ (HP1.out.exSet HBASE.out (HF1.out.exSet HBASE.out hx fr (.int .i64 0)) fr (.int .i64 (-1)))
      clear hf hp hx HF1
      go_wp2_with fail
      have HBM : Hid (BMem w ((wr.setCell ⟨g1, fr, none⟩ (.int .i64 0)).setCell ⟨g2, fr, none⟩ (.int .i64 (-1))) g1 g1 g2 M (.slice none 0 0) ⟨(bInit fr).far, (bInit fr).par, [], 0⟩) := hid_
        ⟨by have := HF3.out; rwa [iv_upd] at this, by have := HP2.out; rwa [iv_upd] at this, World.ownsRow_nil _ _ _ _, by simp [Value.ownBlock], by simp [Value.ownBlock], by omega, HX2.out, HBASE.out⟩
      have HS6 : ((wr.setCell ⟨g1, fr, none⟩ (.int .i64 0)).setCell ⟨g2, fr, none⟩ (.int .i64 (-1))).heap.size = wr.heap.size := by simp [World.setCell]
      have HG1 := HF3.out.lt.2
      have HG2 := HP2.out.lt.2
      clear c1 c2 c3 c4 c5 HP1 HF2 HP2 HF3 HX2
      generalize (wr.setCell ⟨g1, fr, none⟩ (.int .i64 0)).setCell ⟨g2, fr, none⟩ (.int .i64 (-1)) = w5 at *
      have HBM2 : Hid (BMem w (w5.alloc (.cells #[.int .i64 fr] 3)) g1 g1 g2 M (.slice (some ⟨wr.heap.size, 0, none⟩) 1 1) (bInit fr)) := by
        have h1 := HBM.out.later ((Ex.refl _).alloc (.cells #[.int .i64 fr] 3))
        have h2 := own_lit1 w5 (.int .i64 fr) 3
        rw [HS6] at h2 HG1 HG2
        exact hid_ ⟨h1.far, h1.par, ownsRow_mono h2 (by omega), by simp [Value.ownBlock]; omega, by simp [Value.ownBlock]; omega, h1.n12, h1.ex, h1.base_⟩
      clear HBM HS6 HG1 HG2
      generalize w5.alloc (.cells #[.int .i64 fr] 3) = w6 at *
      obtain ⟨qb, hqb⟩ : ∃ qb, wr.heap.size = qb := ⟨_, rfl⟩
      rw [hqb] at HBM2
      try simp only [hqb]
      clear hqb
      go_loopw [8, 9, 10] (fun qv b' k' wr => ∃ (st : BSt) (k : Nat), b' = .int .i64 st.best ∧ k' = .int .i64 k ∧ k ≤ st.q.length ∧ Hid (BMem w wr g1 g1 g2 M qv st) ∧ Hid (BOk M st) ∧ Hid (∀ b, Bfs L k st b → Bfs L 0 (bInit fr) b)) (fun _ _ k' _ => M - (intOf k').toNat)
      case atStart => exact ⟨bInit fr, 0, rfl, rfl, by omega, HBM2, HI, hid_ (fun _ h => h)⟩
      case round =>
        clear HBM2
        obtain ⟨st, k, rfl, rfl, hkq, hm, hok, hbf⟩ := hrel
        have hqM := hok.out.qM
        obtain ⟨hb1, hb2⟩ := hok.out.best
        by_cases hlt : k < st.q.length
        · obtain ⟨x, hx⟩ : ∃ x, st.q[k]? = some x := ⟨_, List.getElem?_eq_getElem hlt⟩
          obtain ⟨x1, x2⟩ := hok.out.q k x hx
          obtain ⟨V, rfl⟩ : ∃ V : Nat, x = V := ⟨x.toNat, by omega⟩
          have hVM : V < M := by omega
          obtain ⟨qg, qc, hqv, q1, q2⟩ := own_open hm.out.q (by omega)
          subst hqv
          have c1 : wr.cell? ⟨qg, k, none⟩ = some (.int .i64 V) := by
            rw [World.ownsRow.cellAt hm.out.q k (by omega), ints_get hx]
          obtain ⟨r, hrr⟩ : ∃ r, rows[V]? = some r := ⟨_, List.getElem?_eq_getElem (by rw [HM.out]; exact hVM)⟩
          obtain ⟨rb, ro, rfl, hrc⟩ := S3.out (by omega)
          obtain ⟨u, d1, hu⟩ := hrc V r hrr
          have d1' := hm.out.ex.cell d1
          obtain ⟨ua, uc, rfl, u1, u2, u3⟩ := hu.open
          have U3 := hid_ u3
          have HRR := hid_ (fun j x h => HR.out V r j x hrr h)
          have HLV := hid_ (HL.out V r hrr)
          have HBF := hid_ (fun b h => hbf.out b (Bfs.step k st V b hx h))
          unfold maxLen at u2 q2
          clear hx x1 x2 hrr hrc d1 hu u3 hbf
          obtain ⟨wo, rfl⟩ : ∃ wo : World, wo = wr := ⟨_, rfl⟩
          go_wp2_with fail
          clear c1 d1'
          go_loopw [8, 9, 52] (fun qv b' j' wr => ∃ (s2 : BSt) (j : Nat), j ≤ r.length ∧ b' = .int .i64 s2.best ∧ j' = .int .i64 j ∧ st.q.length ≤ s2.q.length ∧ Hid (BMem w wr g1 g1 g2 M qv s2) ∧ Hid (BOk M s2) ∧ Hid (s2 = bK L st V j)) (fun _ _ j' _ => r.length - (intOf j').toNat)
          case atStart => exact ⟨st, 0, by omega, rfl, rfl, by omega, hm, hok, hid_ (bK_zero _ _ _).symm⟩
          case round =>
            clear hm hok hb1 hb2
            obtain ⟨s2, j, hj, rfl, rfl, hqq, hm, hok, hsk⟩ := hrel
            have hqM2 := hok.out.qM
            obtain ⟨hb1, hb2⟩ := hok.out.best
            by_cases hjl : j < r.length
            · obtain ⟨x, hx⟩ : ∃ x, r[j]? = some x := ⟨_, List.getElem?_eq_getElem hjl⟩
              obtain ⟨x1, x2⟩ := HRR.out j x hx
              obtain ⟨X, rfl⟩ : ∃ X : Nat, x = X := ⟨x.toNat, by omega⟩
              have hXM : X < M := by omega
              obtain ⟨sb, so, rfl, hsc⟩ := U3.out (by omega)
              have c1 := hm.out.ex.cell (hsc j X hx)
              have HSK := hid_ (show bK L st V (j + 1) = bstep V s2 (X : Int) by rw [hsk.out]; exact bK_succ (by rw [HLV.out]; exact hx))
              have cX : wr.cell? ⟨g1, X, none⟩ = some (.int .i64 (s2.far X)) := hm.out.far.cell hXM
              have cV : wr.cell? ⟨g1, V, none⟩ = some (.int .i64 (s2.far V)) := hm.out.far.cell hVM
              have cp : wr.cell? ⟨g2, V, none⟩ = some (.int .i64 (s2.par V)) := hm.out.par.cell hVM
              have fX := hm.out.far.frz X
              have fp := hm.out.par.frz X
              have cpX := hm.out.par.cell hXM
              obtain ⟨fX1, fX2⟩ := hok.out.far X
              obtain ⟨fV1, fV2⟩ := hok.out.far V
              clear hx x1 x2 hsc hsk
              by_cases hneg : s2.far X < 0
              · have HNEW := hid_ (bstep_new (v := V) hneg)
                have HOK2 := hid_ (hok.out.new (v := V) hXM hneg)
                have HM2 := hid_ ((hm.out.setFar X (s2.far V + 1)).setPar X V)
                have hpm := (hm.out.setFar X (s2.far V + 1)).par
                have fp2 := hpm.frz X
                have cp2 := hpm.cell hXM
                have HS2 := hid_ (Nat.le_of_lt HM2.out.far.lt.2)
                clear hm hok hpm
                go_wp2_with (at_builtin; refine wpList_append1 _ rfl _ _ 22 rfl g1 3 (.int .i64 0) 1 8 Try.underlying22 infoInt rfl (by decide) _ s2.q.length _ rfl HM2.out.q [.int .i64 X] 3 _ rfl (by simp [World.setCell]) rfl (by simp [Value.oneCell']) (by unfold maxLen; omega) (by omega) HS2.out ?_)
                intro q8 w8 happ
                have HM3 := hid_ (HM2.out.app happ)
                have HNW := hid_ HNEW
                clear happ HNEW HM2 fX fp cX cV cp cpX fp2 cp2 c1
                go_wp2_with fail
                go_roundw
                case rel => exact ⟨_, j + 1, by omega, by rfl, by go_num, by simp; omega, HM3, HOK2, hid_ (by rw [HSK.out, HNW.out])⟩
                case measure => simp [intOf]; omega
              · have hneg' : 0 ≤ s2.far X := by omega
                have HS1 := hid_ (bstep_same (v := V) hneg')
                have HU1 := hid_ (bstep_upb (v := V) hneg')
                have HOK2 := hid_ (hok.out.upb V X hneg' (by omega) (by omega))
                have i1 : IntKind.i64.wrap (s2.far V + s2.far X) = s2.far V + s2.far X := IntWalk.i64_in _ (by omega)
                have i2 : IntKind.i64.wrap (s2.far V + s2.far X + 1) = s2.far V + s2.far X + 1 := IntWalk.i64_in _ (by omega)
                have HMB := hid_ (hm.out.best (s2.far V + s2.far X + 1))
                clear hneg fX fp cpX
                by_cases hp : (X : Int) = s2.par V
                · have HR2 := hid_ (HS1.out (fun h => h.1 hp))
                  have b1 : ((X : Int) != s2.par V) = false := by simpa using hp
                  have HMM := hid_ hm.out
                  clear hp
                  go_wp2_with fail
                  go_quiet (fail)
                  go_wp2_with fail
                  go_roundw
                  case rel => exact ⟨s2, j + 1, by omega, rfl, by go_num, hqq, hid_ (HMM.out.later ((Ex.refl _).drewN _)), hok, hid_ (by rw [HSK.out, HR2.out])⟩
                  case measure => simp [intOf]; omega
                · have b1 : ((X : Int) != s2.par V) = true := by simpa using hp
                  by_cases hb0 : s2.best = 0
                  · have HR2 := hid_ (HU1.out hp (.inl hb0))
                    have b2 : (s2.best == 0) = true := by simpa using hb0
                    clear hp hb0
                    go_wp2_with fail
                    go_quiet (fail)
                    go_wp2_with fail
                    go_quiet (fail)
                    go_wp2_with fail
                    go_roundw
                    case rel => exact ⟨(⟨s2.far, s2.par, s2.q, s2.far V + s2.far X + 1⟩ : BSt), j + 1, by omega, by rfl, by go_num, hqq, hid_ (HMB.out.later ((Ex.refl _).drewN _)), HOK2, hid_ (by rw [HSK.out, HR2.out])⟩
                    case measure => simp [intOf]; omega
                  · have b2 : (s2.best == 0) = false := by simpa using hb0
                    by_cases hl : s2.far V + s2.far X + 1 < s2.best
                    · have HR2 := hid_ (HU1.out hp (.inr hl))
                      have b3 : decide (s2.far V + s2.far X + 1 < s2.best) = true := by simpa using hl
                      clear hp hb0
                      go_wp2_with fail
                      go_quiet (fail)
                      go_wp2_with fail
                      go_quiet (fail)
                      go_wp2_with fail
                      go_roundw
                      case rel => exact ⟨(⟨s2.far, s2.par, s2.q, s2.far V + s2.far X + 1⟩ : BSt), j + 1, by omega, by rfl, by go_num, hqq, hid_ (HMB.out.later ((Ex.refl _).drewN _)), HOK2, hid_ (by rw [HSK.out, HR2.out])⟩
                      case measure => simp [intOf]; omega
                    · have HR2 := hid_ (HS1.out (fun h => h.2.elim hb0 hl))
                      have b3 : decide (s2.far V + s2.far X + 1 < s2.best) = false := by simpa using hl
                      clear hp hb0 hl
                      go_wp2_with fail
                      go_quiet (fail)
                      go_wp2_with fail
                      go_roundw
                      case rel => exact ⟨s2, j + 1, by omega, rfl, by go_num, hqq, hid_ (hm.out.later ((Ex.refl _).drewN _)), hok, hid_ (by rw [HSK.out, HR2.out])⟩
                      case measure => simp [intOf]; omega
            · obtain rfl : j = r.length := by omega
              have HE := hid_ (show s2 = bvert L st V by rw [hsk.out, ← HLV.out]; exact bK_all _ _ _)
              have HB2 := hid_ (show ∀ b, Bfs L (k + 1) s2 b → Bfs L 0 (bInit fr) b by rw [HE.out]; exact HBF.out)
              clear hsk
              go_wp2_with fail
              go_roundw
              case rel => exact ⟨s2, k + 1, rfl, by go_num, by omega, hm, hok, HB2⟩
              case measure => simp [intOf]; omega
        · have HD := hid_ (hbf.out _ (Bfs.done k st (by omega)))
          obtain ⟨qa, qc, hqv⟩ := own_shape hm.out.q
          subst hqv
          have HX := hid_ hm.out.ex
          clear hm hok hbf
          go_wp2_with fail
          go_ret
          exact ⟨_, rfl, HD.out, hb1, hb2, HX.out⟩
end Go.Proofs.Ytpphaicbdeeacaa
