/- Walk of peel.Graph. -/
import Derived.Test.YtpphaicbdeeacaaPeelK
import Derived.Test.YtpphaicbdeeacaaMatC
namespace Go.Proofs.Ytpphaicbdeeacaa
set_option linter.unusedVariables false
set_option linter.unusedSimpArgs false
open Go.RowKit

theorem infoIntsL : (Try.prog.info? 22).map (fun i => (i.zero, i.size, i.bytes)) = some (some (.slice none 0 0), 1, 24) := by kernel_rfl

theorem Ex.frz {w w' : World} (h : Ex w w') {p : Addr} {u : Value} (hc : w.cell? p = some u) (hf : w.frozen? p = false) : w'.frozen? p = false :=
  (Below.frozen h (World.block_lt_of_cell? w _ hc)).trans hf
/-- The positions of the nonzero entries among the first k. -/
def suppK (r : List Int) (k : Nat) : List Int := lft k fun i => decide (r.getD i 0 ≠ 0)
def supp (r : List Int) : List Int := suppK r r.length
theorem suppK_succ {r : List Int} {k : Nat} {x : Int} (h : r[k]? = some x) : suppK r (k + 1) = suppK r k ++ (if x ≠ 0 then [(k : Int)] else []) := by
  unfold suppK
  rw [lft_snoc, List.getD_eq_getElem?_getD, h]
  by_cases e : x = 0 <;> simp [e]
theorem suppK_len (r : List Int) (k : Nat) : (suppK r k).length ≤ k := lft_len _ _

structure GRows (w : World) (base : Nat) (cv : Value) (j : Nat) (vals : Nat → Value) (Ls : Nat → List Int) : Prop where
  cvo : w.ownsRow base 22 1 cv j (vs j vals)
  row : ∀ i, i < j → w.ownsRow base 3 1 (vals i) (Ls i).length (ints (Ls i))
  apart : ∀ i, i < j → Aprt (vals i) cv
theorem GRows.ex {w w' : World} {base : Nat} {cv : Value} {j : Nat} {vals : Nat → Value} {Ls : Nat → List Int} (h : GRows w base cv j vals Ls) (hx : Ex w w') : GRows w' base cv j vals Ls :=
  ⟨ownsRow_ex h.cvo hx, fun i hi => ownsRow_ex (h.row i hi) hx, h.apart⟩
theorem GRows.setNe {w : World} {base : Nat} {cv : Value} {j : Nat} {vals : Nat → Value} {Ls : Nat → List Int} (h : GRows w base cv j vals Ls) {a : Addr} (ha : a.block < base) (u : Value) : GRows (w.setCell a u) base cv j vals Ls := by
  have key : ∀ {e : TypeId} {size : Nat} {v : Value} {n : Nat} {xs : List Value}, w.ownsRow base e size v n xs → v.ownBlock ≠ some a.block := fun k e => by
    have := (k.lt _ e).1; omega
  exact ⟨ownsRow_setCell_ne h.cvo (key h.cvo) u, fun i hi => ownsRow_setCell_ne (h.row i hi) (key (h.row i hi)) u, h.apart⟩
theorem GRows.app {w w' : World} {base : Nat} {cv cv' l : Value} {j : Nat} {vals : Nat → Value} {Ls : Nat → List Int} {L : List Int} (h : GRows w base cv j vals Ls) (hl : w.ownsRow base 3 1 l L.length (ints L)) (hal : Aprt l cv)
    (ha : Appd w w' base 22 1 cv cv' j (vs j vals) [l]) : GRows w' base cv' (j + 1) (upd vals j l) (upd Ls j L) := by
  refine ⟨?_, fun i hi => ?_, fun i hi => ?_⟩
  · have := ha.own
    rw [vs_succ, upd_same, vs_congr (d := vals) (fun i hi => upd_ne _ _ (by omega))]
    exact this
  · by_cases e : i = j
    · subst e; rw [upd_same, upd_same]; exact (ha.row hl hal).1
    · rw [upd_ne _ _ e, upd_ne _ _ e]; exact (ha.row (h.row i (by omega)) (h.apart i (by omega))).1
  · by_cases e : i = j
    · subst e; rw [upd_same]; exact (ha.row hl hal).2
    · rw [upd_ne _ _ e]; exact (ha.row (h.row i (by omega)) (h.apart i (by omega))).2
theorem GRows.msl {w : World} {base : Nat} {cv : Value} {j : Nat} {vals : Nat → Value} {Ls : Nat → List Int} (h : GRows w base cv j vals Ls) {rs : List (List Int)} (hrs : rs.length = j) (hr : ∀ (i : Nat) (r : List Int), rs[i]? = some r → Ls i = r) : MSl w cv rs := by
  refine ⟨vs j vals, ?_, fun i r u h1 h2 => ?_⟩
  · rw [hrs]; exact Sl.own h.cvo
  · have hi : i < j := by have := (List.getElem?_eq_some_iff.1 h1).1; omega
    rw [vs_get hi] at h2; injection h2 with h2
    have h3 := hr i r h1
    subst h2 h3
    exact Sl.own (h.row i hi)

theorem Appd.frz {w w' : World} {base : Nat} {e : TypeId} {size : Nat} {v v' : Value} {n : Nat} {xs news : List Value} (h : Appd w w' base e size v v' n xs news) {a : Addr} {u : Value} (hc : w.cell? a = some u) (hf : w.frozen? a = false) (hne : some a.block ≠ v.ownBlock) : w'.frozen? a = false := by
  obtain ⟨o, hg⟩ := h.gr
  have hlt := World.block_lt_of_cell? _ _ hc
  have e1 : (w.alloc o).frozen? a = w.frozen? a := ((Ex.refl w).alloc o).frozen hlt
  rw [← hf, ← e1]
  have h2 := hg.block a.block (by simp; omega) hne
  unfold World.frozen?
  rw [h2]
/-- What Graph says. -/
def GrS (p m : Int) (ml : List Int) (cols : Int) (rows : List (List Int)) (V : Int) (gr : List (List Int)) (e : Int) : Prop :=
  ∃ ec, ChkOut p m ml cols rows ec ∧ ((ec ≠ 0 ∧ V = 0 ∧ gr = [] ∧ e = ec) ∨ (ec = 0 ∧ (cols < 1 ∨ 64 < cols) ∧ V = 0 ∧ gr = [] ∧ e = 4) ∨ (ec = 0 ∧ 1 ≤ cols ∧ cols ≤ 64 ∧ V = cols ∧ gr = rows.map supp ∧ e = 0))

theorem mchk_shape {q : Nat} {cols : Int} {rows : List (List Int)} (h : mchkS q cols rows = 0) : 0 ≤ cols ∧ cols ≤ 256 ∧ rows.length ≤ 256 ∧ ∀ r ∈ rows, (r.length : Int) = cols ∧ entS q r = 0 := by
  unfold mchkS at h
  split at h
  · cases h
  · split at h
    · rename_i h2
      split at h
      · rename_i h1 h3
        refine ⟨by omega, by omega, by omega, fun r hr => ⟨?_, ?_⟩⟩
        · have := List.all_eq_true.1 h2 r hr; simpa using this
        · have := List.all_eq_true.1 h3 r hr; simpa using this
      · cases h
    · cases h
theorem mchk_rng (q : Nat) (cols : Int) (rows : List (List Int)) : 0 ≤ mchkS q cols rows ∧ mchkS q cols rows ≤ 3 := by
  unfold mchkS
  split
  · omega
  · split
    · split <;> omega
    · omega
theorem ChkOut.rng {p m : Int} {ml : List Int} {cols : Int} {rows : List (List Int)} {e : Int} (h : ChkOut p m ml cols rows e) : 0 ≤ e ∧ e ≤ 3 := by
  rcases h with ⟨pn, mn, _, _, _, rfl⟩ | ⟨_, rfl⟩
  · exact mchk_rng _ _ _
  · omega
theorem ChkOut.ok {p m : Int} {ml : List Int} {cols : Int} {rows : List (List Int)} (h : ChkOut p m ml cols rows 0) : ∃ pn mn : Nat, p = pn ∧ m = mn ∧ FldB p m ml ∧ mchkS (pn ^ mn) cols rows = 0 := by
  rcases h with ⟨pn, mn, h1, h2, h3, h4⟩ | ⟨_, h⟩
  · exact ⟨pn, mn, h1, h2, h3, h4.symm⟩
  · cases h

set_option maxRecDepth 100000 in
set_option maxHeartbeats 4000000 in
theorem Graph_any (p m : Int) (ml : List Int) (mv : Value) (w : World) (hmv : ISl w mv ml) (cols : Int) (rows : List (List Int)) (v : Value) (hv : MSl w v rows) :
    Calls Try.prog 14 #[.agg #[.int .i64 p, .int .i64 m, mv], .agg #[.int .i64 cols, v]] w fun r w' =>
      ∃ V cv gr e, r = .returned (.tuple #[.agg #[.int .i64 V, cv], .int .i64 e]) ∧ GrS p m ml cols rows V gr e ∧ MSl w' cv gr ∧ Ex w w' := by
  have HMC := hid_ (fun w' h1 h2 => mCheck_any p m ml mv w' h1 cols rows v h2)
  have HMV := hid_ hmv
  have HV := hid_ hv
  obtain ⟨za, zc, rfl, z1, z2, z3⟩ := hv.open
  have Z3 := hid_ z3
  unfold maxLen at z2
  obtain ⟨xb, hxb⟩ : ∃ xb, w.heap.size = xb := ⟨_, rfl⟩
  have HXB := hid_ hxb
  clear hmv hv z3
  go_enter Try.func14, Try.ntmps14
  go_wp2_with fail
  try simp only [hxb]
  have hd : ((w.alloc (.cells #[.int .i64 p, .int .i64 m, mv] 24)).alloc (.cells #[.int .i64 cols, .slice za rows.length zc] 27)).heap.size = xb + 1 + 1 := by simp [hxb]
  have hd1 : (w.alloc (.cells #[.int .i64 p, .int .i64 m, mv] 24)).heap.size = xb + 1 := by simp [hxb]
  have e3 : Ex w (((w.alloc (.cells #[.int .i64 p, .int .i64 m, mv] 24)).alloc (.cells #[.int .i64 cols, .slice za rows.length zc] 27)).alloc (.cells #[.int .i64 0, .slice none 0 0] 31)) := (((Ex.refl _).alloc _).alloc _).alloc _
  generalize w.alloc (.cells #[.int .i64 p, .int .i64 m, mv] 24) = wA at *
  have a0 : (wA.alloc (.cells #[.int .i64 cols, .slice za rows.length zc] 27)).cell? ⟨xb + 1, 0, none⟩ = some (.int .i64 cols) := by rw [← hd1]; simp
  have a1 : (wA.alloc (.cells #[.int .i64 cols, .slice za rows.length zc] 27)).cell? ⟨xb + 1, 1, none⟩ = some (.slice za rows.length zc) := by rw [← hd1]; simp
  generalize wA.alloc (.cells #[.int .i64 cols, .slice za rows.length zc] 27) = wB at *
  have hxB : Ex wB (wB.alloc (.cells #[.int .i64 0, .slice none 0 0] 31)) := (Ex.refl _).alloc _
  have b0 := hxB.cell a0
  have b1 := hxB.cell a1
  have b2 : (wB.alloc (.cells #[.int .i64 0, .slice none 0 0] 31)).cell? ⟨xb + 1 + 1, 0, none⟩ = some (.int .i64 0) := by rw [← hd]; simp
  have b3 : (wB.alloc (.cells #[.int .i64 0, .slice none 0 0] 31)).cell? ⟨xb + 1 + 1, 1, none⟩ = some (.slice none 0 0) := by rw [← hd]; simp
  have b4 : (wB.alloc (.cells #[.int .i64 0, .slice none 0 0] 31)).frozen? ⟨xb + 1 + 1, 0, none⟩ = false := by rw [← hd]; simp
  have b5 : (wB.alloc (.cells #[.int .i64 0, .slice none 0 0] 31)).frozen? ⟨xb + 1 + 1, 1, none⟩ = false := by rw [← hd]; simp
  generalize wB.alloc (.cells #[.int .i64 0, .slice none 0 0] 31) = w3 at *
  clear a0 a1 hd hd1 hxB hxb
  refine (HMC.out w3 (HMV.out.ex e3) (HV.out.ex e3)).mono ?_
  rintro r w4 ⟨ec, rfl, hec, hx4⟩
  have c0 := hx4.cell b0
  have c1 := hx4.cell b1
  have c2 := hx4.cell b2
  have c3 := hx4.cell b3
  have c4 := hx4.frz b2 b4
  have c5 := hx4.frz b3 b5
  have HX := hid_ (e3.trans hx4)
  obtain ⟨ec1, ec2⟩ := hec.rng
  have HEC := hid_ hec
  clear b0 b1 b2 b3 b4 b5 hx4 e3 hec wA wB
  by_cases h0 : ec = 0
  · subst h0
    by_cases hc : cols < 1 ∨ 64 < cols
    · have HG := hid_ (show GrS p m ml cols rows 0 [] 4 from ⟨0, HEC.out, .inr (.inl ⟨rfl, hc, rfl, rfl, rfl⟩)⟩)
      have hxW : Ex w ((w4.setCell ⟨xb + 1 + 1, 0, none⟩ (.int .i64 0)).setCell ⟨xb + 1 + 1, 1, none⟩ (.slice none 0 0)) := (HX.out.setCell (p := ⟨xb + 1 + 1, 0, none⟩) (by have := HXB.out; show w.heap.size ≤ xb + 1 + 1; omega) _).setCell (p := ⟨xb + 1 + 1, 1, none⟩) (by have := HXB.out; show w.heap.size ≤ xb + 1 + 1; omega) _
      have hc' : cols < 1 ∨ (1 ≤ cols ∧ 64 < cols) := by omega
      clear hc
      rcases hc' with hc | ⟨hc1, hc2⟩
      all_goals
        go_wp2_with fail
        exact bodyPost_ret (v := .tuple #[.agg #[.int .i64 0, .slice none 0 0], .int .i64 4]) (by simp [results, Try.results14, go_sem, c2, c3]) rfl ⟨_, _, _, _, rfl, HG.out, ⟨[], Sl.nil _ 1, fun i r u h => by simp at h⟩, hxW⟩
    · obtain ⟨pn, mn, hpn, hmn, hfl, hmk⟩ := HEC.out.ok
      clear hpn hmn hfl
      obtain ⟨_, _, hrl, hrows⟩ := mchk_shape hmk
      have hc1 : 1 ≤ cols := by omega
      have hc2 : cols ≤ 64 := by omega
      have HLEN := hid_ (fun (i : Nat) (r : List Int) (h : rows[i]? = some r) => (hrows r (List.mem_of_getElem? h)).1)
      clear hmk hrows hc
      have dd1 : decide (cols < 1) = false := by simp; omega
      have dd2 : decide (64 < cols) = false := by simp; omega
      have e5 : Ex w4 (w4.alloc (.cells #[.int .i64 cols, .slice none 0 0] 31)) := (Ex.refl _).alloc _
      have q1 := e5.cell c1
      go_wp2_with fail
      have t0 : (w4.alloc (.cells #[.int .i64 cols, .slice none 0 0] 31)).cell? ⟨w4.heap.size, 0, none⟩ = some (.int .i64 cols) := by simp
      have t1 : (w4.alloc (.cells #[.int .i64 cols, .slice none 0 0] 31)).cell? ⟨w4.heap.size, 1, none⟩ = some (.slice none 0 0) := by simp
      have t2 : (w4.alloc (.cells #[.int .i64 cols, .slice none 0 0] 31)).frozen? ⟨w4.heap.size, 1, none⟩ = false := by simp
      have hsz : (w4.alloc (.cells #[.int .i64 cols, .slice none 0 0] 31)).heap.size = w4.heap.size + 1 := by simp
      generalize w4.alloc (.cells #[.int .i64 cols, .slice none 0 0] 31) = w5 at *
      obtain ⟨tb, htb⟩ : ∃ tb, w4.heap.size = tb := ⟨_, rfl⟩
      rw [htb] at t0 t1 t2 hsz
      try simp only [htb]
      have HTB := hid_ htb
      have HG0 : Hid (GRows w5 (tb + 1) (.slice none 0 0) 0 (fun _ => undef) (fun i => supp (rows.getD i []))) := hid_ ⟨World.ownsRow_nil _ _ _ _, fun i hi => by omega, fun i hi => by omega⟩
      have T1 := hid_ t1
      have T2 := hid_ t2
      have E5 := hid_ e5
      clear e5 q1 hsz htb t1 t2
      have HSP := hid_ (fun (i : Nat) (r : List Int) (h : rows[i]? = some r) => show supp (rows.getD i []) = supp r by rw [List.getD_eq_getElem?_getD, h]; rfl)
      obtain ⟨SP, hSP⟩ : ∃ SP : Nat → List Int, (fun i => supp (rows.getD i [])) = SP := ⟨_, rfl⟩
      have HSP2 := hid_ (show ∀ i (r : List Int), rows[i]? = some r → SP i = supp r from fun i r h => by rw [← hSP]; exact HSP.out i r h)
      rw [hSP] at HG0
      clear HSP hSP
      go_loopw [35] (fun j' wr => ∃ (j : Nat) (cv : Value) (vals : Nat → Value), j ≤ rows.length ∧ j' = .int .i64 j ∧ wr.cell? ⟨tb, 0, none⟩ = some (.int .i64 cols) ∧ wr.cell? ⟨tb, 1, none⟩ = some cv ∧ wr.frozen? ⟨tb, 1, none⟩ = false ∧ Hid (GRows wr (tb + 1) cv j vals SP) ∧ Ex w4 wr) (fun j' _ => rows.length - (intOf j').toNat)
      case atStart => exact ⟨0, _, _, by omega, rfl, t0, T1.out, T2.out, HG0, E5.out⟩
      case round =>
        clear HG0 T1 T2 E5 t0
        obtain ⟨j, cv, vals, hj, rfl, t0, t1, t2, hgr, hx⟩ := hrel
        by_cases hlt : j < rows.length
        · obtain ⟨r, hrr⟩ : ∃ r, rows[j]? = some r := ⟨_, List.getElem?_eq_getElem hlt⟩
          obtain ⟨bb, o, rfl, hcc⟩ := Z3.out (by omega)
          obtain ⟨u, u0, hu⟩ := hcc j r hrr
          have c6 := (HX.out.trans hx).cell u0
          obtain ⟨ua, uc, rfl, u1, u2, u3⟩ := hu.open
          have U3 := hid_ u3
          have HL2 := hid_ (HLEN.out j r hrr)
          have hrl64 : r.length ≤ 64 := by have := HLEN.out j r hrr; omega
          have HSPJ := hid_ (HSP2.out j r hrr)
          obtain ⟨ca, cc, hcv⟩ := own_shape hgr.out.cvo
          subst hcv
          unfold maxLen at u2
          clear hcc u0 hu u3 hrr
          obtain ⟨wo, hwo⟩ : ∃ wo : World, wo = wr := ⟨_, rfl⟩
          have EW : Ex wr wr := Ex.refl _
          have HT0 := hid_ t0
          have HT1 := hid_ t1
          have HT2 := hid_ t2
          clear t0 t1 t2
          go_wp2_with fail
          clear c6
          subst hwo
          go_loopw [10, 41] (fun l' k' wr => ∃ k : Nat, k ≤ r.length ∧ k' = .int .i64 k ∧ Hid (wr.ownsRow wo.heap.size 3 1 l' (suppK r k).length (ints (suppK r k))) ∧ Ex wo wr) (fun _ k' _ => r.length - (intOf k').toNat)
          case atStart => exact ⟨0, by omega, rfl, hid_ (World.ownsRow_nil _ _ _ _), EW⟩
          case round =>
            clear EW
            obtain ⟨k, hk, rfl, hown, hx2⟩ := hrel
            have hsl := suppK_len r k
            by_cases hkl : k < r.length
            · obtain ⟨x, hxx⟩ : ∃ x, r[k]? = some x := ⟨_, List.getElem?_eq_getElem hkl⟩
              obtain ⟨sb, so, rfl, hsc⟩ := U3.out (by omega)
              have c7 := ((HX.out.trans hx).trans hx2).cell (hsc k x hxx)
              have HSN := hid_ (suppK_succ hxx)
              clear hsc hxx
              by_cases h0 : x = 0
              · have HSN2 := hid_ (show suppK r (k + 1) = suppK r k by rw [HSN.out, if_neg (by simpa using h0)]; simp)
                have hb : (x != 0) = false := by simpa using h0
                clear h0
                go_wp2_with fail
                go_roundw
                case rel => exact ⟨k + 1, by omega, by go_num, hid_ (by rw [HSN2.out]; exact hown.out), hx2⟩
                case measure => simp [intOf]; omega
              · have HSN2 := hid_ (show suppK r (k + 1) = suppK r k ++ [(k : Int)] by rw [HSN.out, if_pos (by simpa using h0)])
                have hb : (x != 0) = true := by simpa using h0
                have HS := hid_ hx2.size
                have HX2 := hid_ hx2
                clear h0 hx2
                generalize suppK r k = SK at *
                go_wp2_with (at_builtin; refine wpList_append1 _ rfl _ _ 22 rfl wo.heap.size 3 (.int .i64 0) 1 8 Try.underlying22 infoInt rfl (by decide) _ SK.length _ rfl hown.out [.int .i64 k] 3 _ rfl (by simp) rfl (by simp [Value.oneCell']) (by unfold maxLen; omega) (by omega) HS.out ?_)
                intro v2 w2 happ
                have HO := hid_ happ.own
                have HE := hid_ (happ.ex HX2.out (Nat.le_refl _))
                clear happ
                go_wp2_with fail
                go_roundw
                case rel => exact ⟨k + 1, by omega, by go_num, hid_ (by rw [HSN2.out, List.length_append]; have := HO.out; simpa [ints] using this), HE.out⟩
                case measure => simp [intOf]; omega
            · obtain rfl : k = r.length := by omega
              have t0 := hx2.cell HT0.out
              have t1 := hx2.cell HT1.out
              have t2 := hx2.frz HT1.out HT2.out
              have hgr2 := hgr.out.ex hx2
              have htl := World.block_lt_of_cell? _ _ HT1.out
              dsimp only at htl
              have hown2 : wr.ownsRow (tb + 1) 3 1 u10 (supp r).length (ints (supp r)) := ownsRow_mono hown.out (by omega)
              obtain ⟨la, lc, hlv⟩ := own_shape hown2
              subst hlv
              have hal : Aprt (.slice la (supp r).length lc) (.slice ca j cc) := by
                rcases hb : Value.ownBlock (.slice la (supp r).length lc) with _ | b
                · exact .inl hb
                · right
                  rw [hb]
                  intro e
                  have h1 := (hown.out.lt b hb).1
                  have h2 := (hgr.out.cvo.lt b e.symm).2
                  omega
              have hne : some tb ≠ Value.ownBlock (.slice ca j cc) := fun e => by
                have := (hgr.out.cvo.lt tb e.symm).1; omega
              have HS := hid_ (show tb + 1 ≤ wr.heap.size from by have := hx2.size; omega)
              have HGR := hid_ hgr2
              have HOW2 := hid_ hown2
              have HAL := hid_ hal
              have HNE := hid_ hne
              have HXX := hid_ (hx.trans hx2)
              clear hgr hgr2 hown hown2 hal hne HT0 HT1 HT2 htl hx2 hx
              go_wp2_with (at_builtin; refine wpList_append1 _ rfl _ _ 25 rfl (tb + 1) 22 (.slice none 0 0) 1 24 Try.underlying25 infoIntsL rfl (by decide) _ j _ rfl HGR.out.cvo [.slice la (supp r).length lc] 22 _ rfl (by simp) rfl (by simp [Value.oneCell']) (by unfold maxLen; omega) (by omega) HS.out ?_)
              intro v2 w2 happ
              have HO := hid_ (HGR.out.app HOW2.out HAL.out happ)
              have s1 := happ.cell t1 HNE.out
              have s0 := happ.cell t0 HNE.out
              have s2 := happ.frz t1 t2 HNE.out
              have HE := hid_ (happ.ex HXX.out (by have := HTB.out; omega))
              obtain ⟨va, vc, hv2⟩ := own_shape happ.own
              subst hv2
              clear happ t0 t1 t2
              have p0 : (w2.setCell ⟨tb, 1, none⟩ (.slice va (j + 1) vc)).cell? ⟨tb, 0, none⟩ = some (.int .i64 cols) := by rw [cell_set_off (by omega)]; exact s0
              have p1 : (w2.setCell ⟨tb, 1, none⟩ (.slice va (j + 1) vc)).cell? ⟨tb, 1, none⟩ = some (.slice va (j + 1) vc) := World.cell?_setCell_same (h := s1) ..
              have p2 : (w2.setCell ⟨tb, 1, none⟩ (.slice va (j + 1) vc)).frozen? ⟨tb, 1, none⟩ = false := by rw [World.frozen?_setCell]; exact s2
              have HGR2 := hid_ (HO.out.setNe (a := ⟨tb, 1, none⟩) (by show tb < tb + 1; omega) (.slice va (j + 1) vc))
              have HE2 := hid_ (HE.out.setCell (p := ⟨tb, 1, none⟩) (by have := HTB.out; show w4.heap.size ≤ tb; omega) (.slice va (j + 1) vc))
              have HP0 := hid_ p0
              have HP1 := hid_ p1
              have HP2 := hid_ p2
              clear p0 p1 p2
              go_wp2_with fail
              go_roundw
              case rel => exact ⟨j + 1, _, _, by omega, by go_num, HP0.out, HP1.out, HP2.out, hid_ (by
                have := HGR2.out
                rwa [show upd SP j (supp r) = SP from by
                  funext i; unfold upd; split
                  · rename_i e; subst e; exact HSPJ.out.symm
                  · rfl] at this), HE2.out⟩
              case measure => simp [intOf]; omega
        · obtain rfl : j = rows.length := by omega
          obtain ⟨ca, cc, hcv⟩ := own_shape hgr.out.cvo
          subst hcv
          have k2 := hx.cell c2
          have k3 := hx.cell c3
          have k4 := hx.frz c2 c4
          have k5 := hx.frz c3 c5
          have HG := hid_ (show GrS p m ml cols rows cols (rows.map supp) 0 from ⟨0, HEC.out, .inr (.inr ⟨rfl, hc1, hc2, rfl, rfl, rfl⟩)⟩)
          have hbl : xb + 1 + 1 < tb + 1 := by
            have h1 := World.block_lt_of_cell? _ _ c2
            have h2 := HTB.out
            dsimp only at h1
            omega
          have HGR2 := hid_ ((hgr.out.setNe (a := ⟨xb + 1 + 1, 0, none⟩) hbl (.int .i64 cols)).setNe (a := ⟨xb + 1 + 1, 1, none⟩) hbl (.slice ca rows.length cc))
          have hxW : Ex w ((wr.setCell ⟨xb + 1 + 1, 0, none⟩ (.int .i64 cols)).setCell ⟨xb + 1 + 1, 1, none⟩ (.slice ca rows.length cc)) := ((HX.out.trans hx).setCell (p := ⟨xb + 1 + 1, 0, none⟩) (by have := HXB.out; show w.heap.size ≤ xb + 1 + 1; omega) _).setCell (p := ⟨xb + 1 + 1, 1, none⟩) (by have := HXB.out; show w.heap.size ≤ xb + 1 + 1; omega) _
          have HXW := hid_ hxW
          have HMS := hid_ (show MSl _ _ (rows.map supp) from HGR2.out.msl (by simp) (fun i r h => by
            rw [List.getElem?_map] at h
            obtain ⟨r0, h0, rfl⟩ := Option.map_eq_some_iff.1 h
            exact HSP2.out i r0 h0))
          clear hgr hxW HGR2 c0 c1 c2 c3 c4 c5 hbl
          go_wp2_with fail
          exact bodyPost_ret (v := .tuple #[.agg #[.int .i64 cols, .slice ca rows.length cc], .int .i64 0]) (by simp [results, Try.results14, go_sem, k2, k3]) rfl ⟨_, _, _, _, rfl, HG.out, HMS.out, HXW.out⟩
  · have hb : (ec != 0) = true := by simpa using h0
    have HG := hid_ (show GrS p m ml cols rows 0 [] ec from ⟨ec, HEC.out, .inl ⟨h0, rfl, rfl, rfl⟩⟩)
    clear h0
    go_wp2_with fail
    have hxW : Ex w ((w4.setCell ⟨xb + 1 + 1, 0, none⟩ (.int .i64 0)).setCell ⟨xb + 1 + 1, 1, none⟩ (.slice none 0 0)) := (HX.out.setCell (p := ⟨xb + 1 + 1, 0, none⟩) (by have := HXB.out; show w.heap.size ≤ xb + 1 + 1; omega) _).setCell (p := ⟨xb + 1 + 1, 1, none⟩) (by have := HXB.out; show w.heap.size ≤ xb + 1 + 1; omega) _
    exact bodyPost_ret (v := .tuple #[.agg #[.int .i64 0, .slice none 0 0], .int .i64 ec]) (by simp [results, Try.results14, go_sem, c2, c3]) rfl ⟨_, _, _, _, rfl, HG.out, ⟨[], Sl.nil _ 1, fun i r u h => by simp at h⟩, hxW⟩
end Go.Proofs.Ytpphaicbdeeacaa
