/- Walk of the inner function of peel.Smallest. -/
/- Walk of peel.Smallest. -/
import Derived.Test.YtpphaicbdeeacaaPeelE
import Derived.Laws.EntriesVeiled
namespace Go.Proofs.Ytpphaicbdeeacaa
set_option linter.unusedVariables false
set_option linter.unusedSimpArgs false
open Go.RowKit

/-- The first of g i, g (i+1), .., k of them, that gives something. -/
def loopS {β : Type} (g : Nat → Option β) : Nat → Nat → Option β
  | _, 0 => none
  | i, k + 1 => match g i with | some y => some y | none => loopS g (i + 1) k
theorem loopS_some {β : Type} {g : Nat → Option β} {i k m : Nat} {y : β} (h : g i = some y) (hk : m = k + 1) : loopS g i m = some y := by
  subst hk; unfold loopS; rw [h]
theorem loopS_none {β : Type} {g : Nat → Option β} {i k m : Nat} (h : g i = none) (hk : m = k + 1) : loopS g i m = loopS g (i + 1) k := by
  subst hk
  show (match g i with | some y => some y | none => loopS g (i + 1) k) = _
  rw [h]
/-- The search for a stopping set of `size` more members from `first` on. -/
def srchS (rows : List (List Int)) (N : Nat) : Nat → Nat → (Nat → Bool) → Option (Nat → Bool)
  | 0, _, f => if aloneI f rows < 0 then some f else none
  | s + 1, first, f => loopS (fun i => srchS rows N s (i + 1) (upd f i true)) first (N - s - first)

structure SmSt (w0 w : World) (xb ib fb g N : Nat) (v : Value) (f : Nat → Bool) : Prop where
  own : Own w w0.heap.size 4 g N (bv f)
  x0 : w.cell? ⟨xb, 0, none⟩ = some (.int .i64 N)
  x1 : w.cell? ⟨xb, 1, none⟩ = some v
  i0 : w.cell? ⟨ib, 0, none⟩ = some (.slice (some ⟨g, 0, none⟩) N N)
  f0 : w.cell? ⟨fb, 0, none⟩ = some (.func (.func 57) #[] #[.pointer (some ⟨xb, 0, none⟩), .pointer (some ⟨ib, 0, none⟩), .pointer (some ⟨fb, 0, none⟩)])
  nx : xb ≠ g
  ni : ib ≠ g
  nf : fb ≠ g
  ex : Ex w0 w

theorem SmSt.later {w0 w w' : World} {xb ib fb g N : Nat} {v : Value} {f : Nat → Bool} (h : SmSt w0 w xb ib fb g N v f) (hx : Ex w w') : SmSt w0 w' xb ib fb g N v f :=
  ⟨h.own.ex hx, hx.cell h.x0, hx.cell h.x1, hx.cell h.i0, hx.cell h.f0, h.nx, h.ni, h.nf, h.ex.trans hx⟩
theorem SmSt.set {w0 w : World} {xb ib fb g N : Nat} {v : Value} {f : Nat → Bool} (h : SmSt w0 w xb ib fb g N v f) (j : Nat) (b : Bool) : SmSt w0 (w.setCell ⟨g, j, none⟩ (.bool b)) xb ib fb g N v (upd f j b) := by
  have key : ∀ (B o : Nat), B ≠ g → (w.setCell ⟨g, j, none⟩ (.bool b)).cell? ⟨B, o, none⟩ = w.cell? ⟨B, o, none⟩ := fun B o hB =>
    World.cell?_setCell_other _ _ _ _ (by intro e; injection e with e1; exact hB e1.symm)
  refine ⟨?_, ?_, ?_, ?_, ?_, h.nx, h.ni, h.nf, h.own.exSet (Nat.le_refl _) h.ex j _⟩
  · rw [← bv_upd]; exact h.own.set j (.bool b)
  · rw [key _ _ h.nx]; exact h.x0
  · rw [key _ _ h.nx]; exact h.x1
  · rw [key _ _ h.ni]; exact h.i0
  · rw [key _ _ h.nf]; exact h.f0
theorem SmSt.congr {w0 w : World} {xb ib fb g N : Nat} {v : Value} {f k : Nat → Bool} (h : SmSt w0 w xb ib fb g N v f) (e : f = k) : SmSt w0 w xb ib fb g N v k := e ▸ h

def SmPost (w0 : World) (xb ib fb g N : Nat) (v : Value) (f : Nat → Bool) (o : Option (Nat → Bool)) (r : Ending) (w' : World) : Prop :=
  match o with
  | some f' => r = .returned (.bool true) ∧ SmSt w0 w' xb ib fb g N v f'
  | none => r = .returned (.bool false) ∧ SmSt w0 w' xb ib fb g N v f

theorem upd_undo {f : Nat → Bool} {i : Nat} (h : f i = false) : upd (upd f i true) i false = f := by
  funext j
  unfold upd
  by_cases e : j = i
  · subst e; simp [h]
  · simp [e]

set_option maxRecDepth 100000 in
set_option maxHeartbeats 4000000 in
theorem Smallest1_any (w0 : World) (xb ib fb g N : Nat) (rows : List (List Int)) (v : Value) (hN : N ≤ 64) (hv : MSl w0 v rows) (hri : RowsIn N rows) :
    ∀ (s first : Nat) (f : Nat → Bool) (w : World), s ≤ 64 → first ≤ N → (∀ j, first ≤ j → f j = false) → SmSt w0 w xb ib fb g N v f →
    Calls Try.prog 57 #[.int .i64 first, .int .i64 s, .pointer (some ⟨xb, 0, none⟩), .pointer (some ⟨ib, 0, none⟩), .pointer (some ⟨fb, 0, none⟩)] w (SmPost w0 xb ib fb g N v f (srchS rows N s first f)) := by
  have HV := hid_ hv
  have HRI := hid_ hri
  obtain ⟨za, zc, rfl, z1, z2, z3⟩ := hv.open
  clear hv hri z1 z2 z3
  intro s
  induction s with
  | zero =>
    intro first f w _ _ _ hst
    have HS := hid_ hst
    have r0 := hst.x0
    have r1 := hst.x1
    have r2 := hst.i0
    have HA := hid_ (alone_any w N N f rows (.slice za rows.length zc) _ (HV.out.ex hst.ex) hst.own.sl HRI.out)
    have hb : ((0 : Int) == 0) = true := rfl
    by_cases h : aloneI f rows < 0
    · have HP := hid_ (show ∀ w', SmSt w0 w' xb ib fb g N (.slice za rows.length zc) f → SmPost w0 xb ib fb g N (.slice za rows.length zc) f (srchS rows N 0 first f) (.returned (.bool true)) w' from fun w' h' => by
        unfold srchS; rw [if_pos h]; exact ⟨rfl, h'⟩)
      clear hst
      generalize aloneI f rows = y at *
      go_enter Try.func57, Try.ntmps57
      go_wp2_with (go_at_call 49; refine HA.out.mono ?_; rintro e w5 ⟨rfl, hxa⟩)
      go_ret
      exact HP.out _ (HS.out.later hxa)
    · have HP := hid_ (show ∀ w', SmSt w0 w' xb ib fb g N (.slice za rows.length zc) f → SmPost w0 xb ib fb g N (.slice za rows.length zc) f (srchS rows N 0 first f) (.returned (.bool false)) w' from fun w' h' => by
        unfold srchS; rw [if_neg h]; exact ⟨rfl, h'⟩)
      have h2 : 0 ≤ aloneI f rows := by omega
      clear hst h
      generalize aloneI f rows = y at *
      have h3 : decide (y < 0) = false := by simpa using h2
      go_enter Try.func57, Try.ntmps57
      go_wp2_with (go_at_call 49; refine HA.out.mono ?_; rintro e w5 ⟨rfl, hxa⟩)
      go_ret
      exact HP.out _ (HS.out.later hxa)
  | succ s ih =>
    intro first f w hs hfN hff hst
    have IH := hid_ ih
    have HS := hid_ hst
    have HFF := hid_ hff
    have hb : (((s : Int) + 1) == 0) = false := by simp; omega
    rw [show (((s + 1 : Nat)) : Int) = (s : Int) + 1 from rfl]
    have HG := hid_ (show srchS rows N (s + 1) first f = loopS (fun i => srchS rows N s (i + 1) (upd f i true)) first (N - s - first) from rfl)
    obtain ⟨R, hR⟩ : ∃ R, srchS rows N (s + 1) first f = R := ⟨_, rfl⟩
    rw [hR] at HG ⊢
    clear hst ih hff hR
    go_enter Try.func57, Try.ntmps57
    go_wp2_with fail
    go_loopw [8] (fun i' wr => ∃ i : Nat, i ≤ N ∧ first ≤ i ∧ i' = .int .i64 i ∧ Hid (SmSt w0 wr xb ib fb g N (.slice za rows.length zc) f) ∧ Hid (R = loopS (fun i => srchS rows N s (i + 1) (upd f i true)) i (N - s - i))) (fun i' _ => N - (intOf i').toNat)
    case atStart => exact ⟨first, hfN, by omega, rfl, HS, HG⟩
    case round =>
      clear HS HG
      obtain ⟨i, hi, hfi, rfl, hst, hg⟩ := hrel
      have r0 := hst.out.x0
      by_cases hlt : i + (s + 1) ≤ N
      · have hiN : i < N := by omega
        have hlt' : (i : Int) + ((s : Int) + 1) ≤ (N : Int) := by omega
        have r1 := hst.out.i0
        have hf := hst.out.own.frz i
        have hcc := hst.out.own.cell hiN
        have HS1 := hid_ (hst.out.set i true)
        have HUN := hid_ (upd_undo (HFF.out i hfi))
        have HIH := hid_ (IH.out (i + 1) (upd f i true) _ (by omega) (by omega) (fun j hj => by rw [upd_ne _ _ (by omega)]; exact HFF.out j (by omega)) HS1.out)
        have q2 := HS1.out.f0
        clear hst
        cases hG : srchS rows N s (i + 1) (upd f i true) with
        | some f' =>
          rw [hG] at HIH
          have HR := hid_ (show R = some f' by rw [hg.out]; exact loopS_some (k := N - s - (i + 1)) hG (by omega))
          clear hG hg
          go_wp2_with fail
          refine HIH.out.mono ?_
          rintro e w2 ⟨rfl, hs2⟩
          have HS2 := hid_ hs2
          clear hs2 r0 r1 q2 hf hcc
          go_wp2_with fail
          go_ret
          rw [HR.out]
          exact ⟨rfl, HS2.out⟩
        | none =>
          rw [hG] at HIH
          have HR := hid_ (show R = loopS (fun i => srchS rows N s (i + 1) (upd f i true)) (i + 1) (N - s - (i + 1)) by rw [hg.out]; exact loopS_none (k := N - s - (i + 1)) hG (by omega))
          clear hG hg
          go_wp2_with fail
          refine HIH.out.mono ?_
          rintro e w2 ⟨rfl, hs2⟩
          have HS2 := hid_ hs2
          have HS3 := hid_ ((hs2.set i false).congr HUN.out)
          have p1 := hs2.i0
          have p2 := hs2.own.frz i
          have p3 := hs2.own.cell hiN
          clear hs2 r0 r1 q2 hf hcc
          go_wp2_with fail
          go_roundw
          case rel => exact ⟨i + 1, by omega, by omega, by go_num, HS3, HR⟩
          case measure => simp [intOf]; omega
      · have HR := hid_ (show R = none by rw [hg.out, show N - s - i = 0 by omega]; rfl)
        have hlt' : (N : Int) < (i : Int) + ((s : Int) + 1) := by omega
        go_wp2_with fail
        go_ret
        rw [HR.out]
        exact ⟨rfl, hst.out⟩
end Go.Proofs.Ytpphaicbdeeacaa
namespace Go.Proofs.Ytpphaicbdeeacaa
set_option linter.unusedVariables false
set_option linter.unusedSimpArgs false
open Go.RowKit

/-- The first nonempty stopping set found, by size. -/
def smR (N : Nat) (rows : List (List Int)) : Option (Nat → Bool) := loopS (fun s => srchS rows N s 0 fun _ => false) 1 N
def smallE (V : Int) (rows : List (List Int)) : Int := if pchkS V rows = 0 then (if 16 < V then 8 else match smR V.toNat rows with | some _ => 0 | none => 11) else pchkS V rows
def smallL (V : Int) (rows : List (List Int)) : List Int := if pchkS V rows = 0 then (if 16 < V then [] else match smR V.toNat rows with | some f => lft V.toNat f | none => []) else []

theorem small_1 {V : Int} {rows : List (List Int)} (h : pchkS V rows ≠ 0) : smallE V rows = pchkS V rows ∧ smallL V rows = [] := by
  unfold smallE smallL; rw [if_neg h, if_neg h]; exact ⟨rfl, rfl⟩
theorem small_2 {V : Int} {rows : List (List Int)} (h : pchkS V rows = 0) (h2 : 16 < V) : smallE V rows = 8 ∧ smallL V rows = [] := by
  unfold smallE smallL; rw [if_pos h, if_pos h, if_pos h2, if_pos h2]; exact ⟨rfl, rfl⟩
theorem small_3 {N : Nat} {rows : List (List Int)} (h : pchkS N rows = 0) (h2 : N ≤ 16) (h3 : smR N rows = none) : smallE N rows = 11 ∧ smallL N rows = [] := by
  unfold smallE smallL; rw [if_pos h, if_pos h, if_neg (by omega), if_neg (by omega), Int.toNat_natCast, h3]; exact ⟨rfl, rfl⟩
theorem small_4 {N : Nat} {rows : List (List Int)} {f : Nat → Bool} (h : pchkS N rows = 0) (h2 : N ≤ 16) (h3 : smR N rows = some f) : smallE N rows = 0 ∧ smallL N rows = lft N f := by
  unfold smallE smallL; rw [if_pos h, if_pos h, if_neg (by omega), if_neg (by omega), Int.toNat_natCast, h3]; exact ⟨rfl, rfl⟩

theorem shl_all : ∀ n : Fin 65, (n.val ≤ 16 → wrap64 ((2 : Int) ^ n.val) ≤ 65536) ∧ (16 < n.val → n.val ≤ 62 → 65536 < wrap64 ((2 : Int) ^ n.val)) ∧ (62 < n.val → wrap64 ((2 : Int) ^ n.val) ≤ 65536) := by decide +kernel

set_option maxRecDepth 100000 in
set_option maxHeartbeats 4000000 in
theorem Smallest_any (w : World) (V : Int) (rows : List (List Int)) (v : Value) (hv : MSl w v rows) :
    Calls Try.prog 26 #[.agg #[.int .i64 V, v]] w fun r w' => ∃ u, r = .returned (.tuple #[u, .int .i64 (smallE V rows)]) ∧ ISl w' u (smallL V rows) ∧ Ex w w' := by
  obtain ⟨d0, d1, e0⟩ := boxT_facts w V v
  have HC := hid_ (pCheck_any _ V rows v (hv.ex e0))
  obtain ⟨za, zc, rfl, z1, z2, z3⟩ := (hv.ex e0).open
  have HV := hid_ hv
  clear hv z1 z2 z3
  by_cases hk : pchkS V rows = 0
  · obtain ⟨N, rfl, hN1, hN2, hrl, hri, _⟩ := pchkS_ok hk
    have HK := hid_ hk
    rw [hk] at HC
    have HRI := hid_ hri
    clear hk hri
    obtain ⟨xb, hxb⟩ : ∃ xb, w.heap.size = xb := ⟨_, rfl⟩
    rw [hxb] at d0 d1
    have HXB := hid_ hxb
    obtain ⟨p1, p2, p3⟩ := shl_all ⟨N, by omega⟩
    dsimp only at p1 p2 p3
    by_cases h16 : N ≤ 16
    · have p1' := p1 h16
      clear p1 p2 p3
      go_enter Try.func26, Try.ntmps26
      go_wp2_with fail
      try simp only [hxb]
      clear hxb
      generalize w.alloc (.cells #[.int .i64 N, .slice za rows.length zc] 31) = w1 at *
      refine HC.out.mono ?_
      rintro e w2 ⟨rfl, hx2⟩
      have r0 := hx2.cell d0
      have r1 := hx2.cell d1
      have HX := hid_ (e0.trans hx2)
      clear hx2 d0 d1 e0
      obtain ⟨P, hP⟩ : ∃ P, wrap64 ((2 : Int) ^ N) = P := ⟨_, rfl⟩
      rw [hP] at p1'
      have b1 : decide (65536 < P) = false := by simpa using p1'
      have b2 : decide ((62 : Int) < (N : Int)) = false := by simp; omega
      go_wp2_with (at_make; refine wpList_make_arr _ rfl _ _ 73 rfl 4 (.bool false) 1 Try.underlying73 infoBool rfl _ N rfl rfl rfl (by omega) (by unfold maxLen; omega) ?_)
      intro w3 hown hx3
      have HP := hid_ hP
      clear hP
      go_wp2_with fail
      have hgl := hown.lt.2
      have HST : Hid (SmSt w ((w3.alloc (.cells #[.slice (some ⟨w2.heap.size, 0, none⟩) N N] 73)).alloc (.cells #[.func (.func 57) #[] #[.pointer (some ⟨xb, 0, none⟩), .pointer (some ⟨w3.heap.size, 0, none⟩), .pointer (some ⟨w3.heap.size + 1, 0, none⟩)]] 80))
          xb w3.heap.size (w3.heap.size + 1) w2.heap.size N (.slice za rows.length zc) (fun _ => false)) := by
        have hxw := World.block_lt_of_cell? _ _ r0
        dsimp only at hxw
        have ha : Ex w3 ((w3.alloc (.cells #[.slice (some ⟨w2.heap.size, 0, none⟩) N N] 73)).alloc (.cells #[.func (.func 57) #[] #[.pointer (some ⟨xb, 0, none⟩), .pointer (some ⟨w3.heap.size, 0, none⟩), .pointer (some ⟨w3.heap.size + 1, 0, none⟩)]] 80)) := ((Ex.refl _).alloc _).alloc _
        refine ⟨((hown.mono HX.out.size).congr (fun j _ => rfl)).ex ha, ha.cell (hx3.cell r0), ha.cell (hx3.cell r1), ?_, ?_, by omega, by omega, by omega, (HX.out.trans hx3).trans ha⟩
        · rw [World.cell?_alloc_lt _ _ _ (by simp)]; simp
        · have hs1 : (w3.alloc (.cells #[.slice (some ⟨w2.heap.size, 0, none⟩) N N] 73)).heap.size = w3.heap.size + 1 := by simp
          generalize w3.alloc (.cells #[.slice (some ⟨w2.heap.size, 0, none⟩) N N] 73) = w5 at *
          rw [← hs1]; simp
      generalize ((w3.alloc (.cells #[.slice (some ⟨w2.heap.size, 0, none⟩) N N] 73)).alloc (.cells #[.func (.func 57) #[] #[.pointer (some ⟨xb, 0, none⟩), .pointer (some ⟨w3.heap.size, 0, none⟩), .pointer (some ⟨w3.heap.size + 1, 0, none⟩)]] 80)) = w4 at *
      clear hown hx3 r0 r1 hgl HX
      obtain ⟨ib, hib⟩ : ∃ ib, w3.heap.size = ib := ⟨_, rfl⟩
      rw [hib] at HST
      simp only [hib]
      clear hib
      obtain ⟨fb, hfb⟩ : ∃ fb, ib + 1 = fb := ⟨_, rfl⟩
      rw [hfb] at HST
      simp only [hfb]
      clear hfb
      obtain ⟨g, hg⟩ : ∃ g, w2.heap.size = g := ⟨_, rfl⟩
      rw [hg] at HST
      simp only [hg]
      clear hg
      have HS1 := hid_ (fun s w' h1 h2 => Smallest1_any w xb ib fb g N rows _ hN2 HV.out HRI.out s 0 (fun _ => false) w' h1 (by omega) (fun _ _ => rfl) h2)
      have HLF := hid_ (fun w' f v h => left_any w' N v f hN2 h)
      have HSM := hid_ (show smR N rows = loopS (fun s => srchS rows N s 0 fun _ => false) 1 N from rfl)
      clear HC
      go_loopw [7] (fun s' wr => ∃ s : Nat, 1 ≤ s ∧ s ≤ N + 1 ∧ s' = .int .i64 s ∧ Hid (SmSt w wr xb ib fb g N (.slice za rows.length zc) (fun _ => false)) ∧ Hid (smR N rows = loopS (fun s => srchS rows N s 0 fun _ => false) s (N + 1 - s))) (fun s' _ => N + 1 - (intOf s').toNat)
      case atStart => exact ⟨1, by omega, by omega, rfl, HST, HSM⟩
      case round =>
        clear HST HSM
        obtain ⟨s, hs1, hs2, rfl, hst, hsm⟩ := hrel
        have r0 := hst.out.x0
        by_cases hlt : s ≤ N
        · have hlt' : (s : Int) ≤ (N : Int) := by omega
          have r1 := hst.out.f0
          have HCA := hid_ (HS1.out s _ (by omega) hst.out)
          clear hst
          cases hG : srchS rows N s 0 (fun _ => false) with
          | some f =>
            rw [hG] at HCA
            obtain ⟨he_, hb_⟩ := small_4 HK.out h16 (hsm.out.trans (loopS_some (k := N - s) hG (by omega)))
            have HE := hid_ he_
            have HG := hid_ hb_
            clear hG hsm he_ hb_
            go_wp2_with fail
            refine HCA.out.mono ?_
            rintro e w5 ⟨rfl, hs5⟩
            have q1 := hs5.i0
            have HO := hid_ hs5.own
            have HX5 := hid_ hs5.ex
            clear hs5 r0 r1
            go_wp2_with fail
            refine (HLF.out _ f _ HO.out.sl).mono ?_
            rintro e w6 ⟨u, rfl, hu, hx6⟩
            go_wp2_with fail
            go_ret2
            exact ⟨_, ret_vi HE.out.symm, by rw [HG.out]; exact hu, HX5.out.trans hx6⟩
          | none =>
            rw [hG] at HCA
            have HN := hid_ (hsm.out.trans (loopS_none (k := N + 1 - (s + 1)) hG (by omega)))
            clear hG hsm
            go_wp2_with fail
            refine HCA.out.mono ?_
            rintro e w5 ⟨rfl, hs5⟩
            have HS5 := hid_ hs5
            clear hs5 r0 r1
            go_wp2_with fail
            go_roundw
            case rel => exact ⟨s + 1, by omega, by omega, by go_num, HS5, HN⟩
            case measure => simp [intOf]; omega
        · obtain rfl : s = N + 1 := by omega
          obtain ⟨he_, hb_⟩ := small_3 HK.out h16 (by rw [hsm.out, Nat.sub_self]; rfl)
          have HE := hid_ he_
          have HG := hid_ hb_
          clear he_ hb_
          go_wp2_with fail
          go_ret2
          exact ⟨_, ret_vi HE.out.symm, by rw [HG.out]; exact isl_nil _, hst.out.ex⟩
    · obtain ⟨he_, hb_⟩ := small_2 HK.out (by omega)
      have HE := hid_ he_
      have HG := hid_ hb_
      clear he_ hb_ p1
      by_cases h62 : N ≤ 62
      · have p2' := p2 (by omega) h62
        clear p2 p3
        go_enter Try.func26, Try.ntmps26
        go_wp2_with fail
        try simp only [hxb]
        clear hxb
        generalize w.alloc (.cells #[.int .i64 N, .slice za rows.length zc] 31) = w1 at *
        refine HC.out.mono ?_
        rintro e w2 ⟨rfl, hx2⟩
        have r0 := hx2.cell d0
        have r1 := hx2.cell d1
        obtain ⟨P, hP⟩ : ∃ P, wrap64 ((2 : Int) ^ N) = P := ⟨_, rfl⟩
        rw [hP] at p2'
        go_wp2_with fail
        go_ret2
        exact ⟨_, ret_vi HE.out.symm, by rw [HG.out]; exact isl_nil _, e0.trans hx2⟩
      · have p3' := p3 (by omega)
        clear p2 p3
        go_enter Try.func26, Try.ntmps26
        go_wp2_with fail
        try simp only [hxb]
        clear hxb
        generalize w.alloc (.cells #[.int .i64 N, .slice za rows.length zc] 31) = w1 at *
        refine HC.out.mono ?_
        rintro e w2 ⟨rfl, hx2⟩
        have r0 := hx2.cell d0
        have r1 := hx2.cell d1
        obtain ⟨P, hP⟩ : ∃ P, wrap64 ((2 : Int) ^ N) = P := ⟨_, rfl⟩
        rw [hP] at p3'
        have h62' : (62 : Int) < N := by omega
        go_wp2_with fail
        go_ret2
        exact ⟨_, ret_vi HE.out.symm, by rw [HG.out]; exact isl_nil _, e0.trans hx2⟩
  · obtain ⟨he_, hb_⟩ := small_1 hk
    have HE := hid_ he_
    have HG := hid_ hb_
    have hz := pchkS_rng V rows
    obtain ⟨z, hzz⟩ : ∃ z, pchkS V rows = z := ⟨_, rfl⟩
    rw [hzz] at HC HE hk hz
    have hb : (z != 0) = true := by simpa using hk
    clear hb_ he_ hzz hk
    go_enter Try.func26, Try.ntmps26
    go_wp2_with fail
    generalize w.alloc (.cells #[.int .i64 V, .slice za rows.length zc] 31) = w1 at *
    refine HC.out.mono ?_
    rintro e w2 ⟨rfl, hx2⟩
    go_wp2_with fail
    go_ret2
    exact ⟨_, ret_vi HE.out.symm, by rw [HG.out]; exact isl_nil _, e0.trans hx2⟩
end Go.Proofs.Ytpphaicbdeeacaa
