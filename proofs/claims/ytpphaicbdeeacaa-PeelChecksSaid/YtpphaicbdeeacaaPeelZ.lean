/- Walks of the references Support and Graph; walk of the law PeelGraphs. -/
import Derived.Test.YtpphaicbdeeacaaPeelU
namespace Go.Proofs.Ytpphaicbdeeacaa
set_option linter.unusedVariables false
set_option linter.unusedSimpArgs false
open Go.RowKit

theorem appd_of2 {w w' : World} {o : Obj} {base : Nat} {e : TypeId} {size : Nat} {v v' : Value} {n : Nat} {xs news : List Value} (old : w.ownsRow base e size v n xs) (hown : w'.ownsRow base e size v' (n + 1) (xs ++ news))
    (hg : (w.alloc o).grownBy w' v.ownBlock) (ha : v'.ownBlock = v.ownBlock ∨ v'.ownBlock = some (w.alloc o).heap.size) : Appd w w' base e size v v' n xs news :=
  ⟨hown, ⟨o, hg⟩, by simpa using ha, old⟩

set_option maxRecDepth 100000 in
set_option maxHeartbeats 1000000 in
theorem Support_any (w : World) (r : List Int) (v : Value) (hv : ISl w v r) (hl : r.length ≤ 64) :
    Calls Try.prog 43 #[v] w fun e w' => ∃ u, e = .returned u ∧ w'.ownsRow w.heap.size 3 1 u (supp r).length (ints (supp r)) ∧ Ex w w' := by
  obtain ⟨a, cap, rfl, s1, s2, s3⟩ := hv.open
  have S3 := hid_ s3
  unfold maxLen at s2
  clear hv s3
  go_enter Try.func43, Try.ntmps43
  go_wp2_with fail
  go_loopw [3, 4] (fun o' k' wr => ∃ k : Nat, k ≤ r.length ∧ k' = .int .i64 k ∧ Hid (wr.ownsRow w.heap.size 3 1 o' (suppK r k).length (ints (suppK r k))) ∧ Ex w wr) (fun _ k' _ => r.length - (intOf k').toNat)
  case atStart => exact ⟨0, by omega, rfl, hid_ (World.ownsRow_nil _ _ _ _), Ex.refl _⟩
  case round =>
    obtain ⟨k, hk, rfl, hown, hx⟩ := hrel
    have hsl := suppK_len r k
    by_cases hkl : k < r.length
    · obtain ⟨x, hxx⟩ : ∃ x, r[k]? = some x := ⟨_, List.getElem?_eq_getElem hkl⟩
      obtain ⟨sb, so, rfl, hsc⟩ := S3.out (by omega)
      have c7 := hx.cell (hsc k x hxx)
      have HSN := hid_ (suppK_succ hxx)
      clear hsc hxx
      by_cases h0 : x = 0
      · have HSN2 := hid_ (show suppK r (k + 1) = suppK r k by rw [HSN.out, if_neg (by simpa using h0)]; simp)
        have hb : (x != 0) = false := by simpa using h0
        clear h0
        go_wp2_with fail
        go_roundw
        case rel => exact ⟨k + 1, by omega, by go_num, hid_ (by rw [HSN2.out]; exact hown.out), hx⟩
        case measure => simp [intOf]; omega
      · have HSN2 := hid_ (show suppK r (k + 1) = suppK r k ++ [(k : Int)] by rw [HSN.out, if_pos (by simpa using h0)])
        have hb : (x != 0) = true := by simpa using h0
        have HS := hid_ hx.size
        have HX2 := hid_ hx
        clear h0 hx
        generalize suppK r k = SK at *
        go_wp2_with (at_builtin; refine wpList_append1 _ rfl _ _ 22 rfl w.heap.size 3 (.int .i64 0) 1 8 Try.underlying22 infoInt rfl (by decide) _ SK.length _ rfl hown.out [.int .i64 k] 3 _ rfl (by simp) rfl (by simp [Value.oneCell']) (by unfold maxLen; omega) (by omega) HS.out ?_)
        intro v2 w2 happ
        have HO := hid_ happ.own
        have HE := hid_ (happ.ex HX2.out (Nat.le_refl _))
        clear happ
        go_wp2_with fail
        go_roundw
        case rel => exact ⟨k + 1, by omega, by go_num, hid_ (by rw [HSN2.out, List.length_append]; have := HO.out; simpa [ints] using this), HE.out⟩
        case measure => simp [intOf]; omega
    · obtain rfl : k = r.length := by omega
      have HO := hid_ (show wr.ownsRow w.heap.size 3 1 _ (supp r).length (ints (supp r)) from hown.out)
      clear hown
      go_wp2_with fail
      go_ret
      exact ⟨_, rfl, HO.out, hx⟩

set_option maxRecDepth 100000 in
set_option maxHeartbeats 4000000 in
theorem rGraph_any (p m : Int) (ml : List Int) (mv : Value) (w : World) (hmv : ISl w mv ml) (cols : Int) (rows : List (List Int)) (v : Value) (hv : MSl w v rows) :
    Calls Try.prog 15 #[.agg #[.int .i64 p, .int .i64 m, mv], .agg #[.int .i64 cols, v]] w fun r w' =>
      ∃ V cv gr e, r = .returned (.tuple #[.agg #[.int .i64 V, cv], .int .i64 e]) ∧ GrS p m ml cols rows V gr e ∧ MSl w' cv gr ∧ Ex w w' := by
  have HMC := hid_ (fun w' h1 h2 => rChkM_any p m ml mv w' h1 cols rows v h2)
  have HMV := hid_ hmv
  have HV := hid_ hv
  obtain ⟨za, zc, rfl, z1, z2, z3⟩ := hv.open
  have Z3 := hid_ z3
  unfold maxLen at z2
  obtain ⟨xb, hxb⟩ : ∃ xb, w.heap.size = xb := ⟨_, rfl⟩
  have HXB := hid_ hxb
  clear hmv hv z3
  go_enter Try.func15, Try.ntmps15
  go_wp2_with fail
  try simp only [hxb]
  have hd : ((w.alloc (.cells #[.int .i64 p, .int .i64 m, mv] 24)).alloc (.cells #[.int .i64 cols, .slice za rows.length zc] 27)).heap.size = xb + 1 + 1 := by simp [hxb]
  have hd1 : (w.alloc (.cells #[.int .i64 p, .int .i64 m, mv] 24)).heap.size = xb + 1 := by simp [hxb]
  have e3 : Ex w (((w.alloc (.cells #[.int .i64 p, .int .i64 m, mv] 24)).alloc (.cells #[.int .i64 cols, .slice za rows.length zc] 27)).alloc (.cells #[.int .i64 0, .slice none 0 0] 31)) := (((Ex.refl _).alloc _).alloc _).alloc _
  generalize w.alloc (.cells #[.int .i64 p, .int .i64 m, mv] 24) = wA at *
  have a0 : (wA.alloc (.cells #[.int .i64 cols, .slice za rows.length zc] 27)).cell? ⟨xb + 1, 0, none⟩ = some (.int .i64 cols) := by rw [← hd1]; simp
  have a1 : (wA.alloc (.cells #[.int .i64 cols, .slice za rows.length zc] 27)).cell? ⟨xb + 1, 1, none⟩ = some (.slice za rows.length zc) := by rw [← hd1]; simp
  generalize wA.alloc (.cells #[.int .i64 cols, .slice za rows.length zc] 27) = wB at *
  have hxB : Ex wB (wB.alloc (.cells #[.int .i64 0, .slice none 0 0] 31)) := (Ex.refl _).alloc _
  have b0 := hxB.cell a0
  have b1 := hxB.cell a1
  have b2 : (wB.alloc (.cells #[.int .i64 0, .slice none 0 0] 31)).cell? ⟨xb + 1 + 1, 0, none⟩ = some (.int .i64 0) := by rw [← hd]; simp
  have b3 : (wB.alloc (.cells #[.int .i64 0, .slice none 0 0] 31)).cell? ⟨xb + 1 + 1, 1, none⟩ = some (.slice none 0 0) := by rw [← hd]; simp
  have b4 : (wB.alloc (.cells #[.int .i64 0, .slice none 0 0] 31)).frozen? ⟨xb + 1 + 1, 0, none⟩ = false := by rw [← hd]; simp
  have b5 : (wB.alloc (.cells #[.int .i64 0, .slice none 0 0] 31)).frozen? ⟨xb + 1 + 1, 1, none⟩ = false := by rw [← hd]; simp
  generalize wB.alloc (.cells #[.int .i64 0, .slice none 0 0] 31) = w3 at *
  clear a0 a1 hd hd1 hxB hxb
  refine (HMC.out w3 (HMV.out.ex e3) (HV.out.ex e3)).mono ?_
  rintro r w4 ⟨ec, rfl, hec, hx4⟩
  have c0 := hx4.cell b0
  have c1 := hx4.cell b1
  have c2 := hx4.cell b2
  have c3 := hx4.cell b3
  have c4 := hx4.frz b2 b4
  have c5 := hx4.frz b3 b5
  have HX := hid_ (e3.trans hx4)
  obtain ⟨ec1, ec2⟩ := hec.rng
  have HEC := hid_ hec
  clear b0 b1 b2 b3 b4 b5 hx4 e3 hec wA wB
  by_cases h0 : ec = 0
  · subst h0
    by_cases hc : cols < 1 ∨ 64 < cols
    · have HG := hid_ (show GrS p m ml cols rows 0 [] 4 from ⟨0, HEC.out, .inr (.inl ⟨rfl, hc, rfl, rfl, rfl⟩)⟩)
      have hxW : Ex w ((w4.setCell ⟨xb + 1 + 1, 0, none⟩ (.int .i64 0)).setCell ⟨xb + 1 + 1, 1, none⟩ (.slice none 0 0)) := (HX.out.setCell (p := ⟨xb + 1 + 1, 0, none⟩) (by have := HXB.out; show w.heap.size ≤ xb + 1 + 1; omega) _).setCell (p := ⟨xb + 1 + 1, 1, none⟩) (by have := HXB.out; show w.heap.size ≤ xb + 1 + 1; omega) _
      have hc' : cols < 1 ∨ (1 ≤ cols ∧ 64 < cols) := by omega
      clear hc
      rcases hc' with hc | ⟨hc1, hc2⟩
      all_goals
        go_wp2_with fail
        exact bodyPost_ret (v := .tuple #[.agg #[.int .i64 0, .slice none 0 0], .int .i64 4]) (by simp [results, Try.results15, go_sem, c2, c3]) rfl ⟨_, _, _, _, rfl, HG.out, ⟨[], Sl.nil _ 1, fun i r u h => by simp at h⟩, hxW⟩
    · obtain ⟨pn, mn, hpn, hmn, hfl, hmk⟩ := HEC.out.ok
      clear hpn hmn hfl
      obtain ⟨_, _, hrl, hrows⟩ := mchk_shape hmk
      have hc1 : 1 ≤ cols := by omega
      have hc2 : cols ≤ 64 := by omega
      have HLEN := hid_ (fun (i : Nat) (r : List Int) (h : rows[i]? = some r) => (hrows r (List.mem_of_getElem? h)).1)
      clear hmk hrows hc
      have dd1 : decide (cols < 1) = false := by simp; omega
      have dd2 : decide (64 < cols) = false := by simp; omega
      have e5 : Ex w4 (w4.alloc (.cells #[.int .i64 cols, .slice none 0 0] 31)) := (Ex.refl _).alloc _
      have q1 := e5.cell c1
      go_wp2_with fail
      have t0 : (w4.alloc (.cells #[.int .i64 cols, .slice none 0 0] 31)).cell? ⟨w4.heap.size, 0, none⟩ = some (.int .i64 cols) := by simp
      have t1 : (w4.alloc (.cells #[.int .i64 cols, .slice none 0 0] 31)).cell? ⟨w4.heap.size, 1, none⟩ = some (.slice none 0 0) := by simp
      have t2 : (w4.alloc (.cells #[.int .i64 cols, .slice none 0 0] 31)).frozen? ⟨w4.heap.size, 1, none⟩ = false := by simp
      have hsz : (w4.alloc (.cells #[.int .i64 cols, .slice none 0 0] 31)).heap.size = w4.heap.size + 1 := by simp
      generalize w4.alloc (.cells #[.int .i64 cols, .slice none 0 0] 31) = w5 at *
      obtain ⟨tb, htb⟩ : ∃ tb, w4.heap.size = tb := ⟨_, rfl⟩
      rw [htb] at t0 t1 t2 hsz
      try simp only [htb]
      have HTB := hid_ htb
      have HG0 : Hid (GRows w5 (tb + 1) (.slice none 0 0) 0 (fun _ => undef) (fun i => supp (rows.getD i []))) := hid_ ⟨World.ownsRow_nil _ _ _ _, fun i hi => by omega, fun i hi => by omega⟩
      have T1 := hid_ t1
      have T2 := hid_ t2
      have E5 := hid_ e5
      clear e5 q1 hsz htb t1 t2
      have HSP := hid_ (fun (i : Nat) (r : List Int) (h : rows[i]? = some r) => show supp (rows.getD i []) = supp r by rw [List.getD_eq_getElem?_getD, h]; rfl)
      obtain ⟨SP, hSP⟩ : ∃ SP : Nat → List Int, (fun i => supp (rows.getD i [])) = SP := ⟨_, rfl⟩
      have HSP2 := hid_ (show ∀ i (r : List Int), rows[i]? = some r → SP i = supp r from fun i r h => by rw [← hSP]; exact HSP.out i r h)
      rw [hSP] at HG0
      clear HSP hSP
      have k1 := E5.out.cell c1
      go_loopw [8] (fun j' wr => ∃ (j : Nat) (cv : Value) (vals : Nat → Value), j ≤ rows.length ∧ j' = .int .i64 j ∧ wr.cell? ⟨tb, 0, none⟩ = some (.int .i64 cols) ∧ wr.cell? ⟨tb, 1, none⟩ = some cv ∧ wr.frozen? ⟨tb, 1, none⟩ = false ∧ Hid (GRows wr (tb + 1) cv j vals SP) ∧ Ex w4 wr) (fun j' _ => rows.length - (intOf j').toNat)
      case atStart => exact ⟨0, _, _, by omega, rfl, t0, T1.out, T2.out, HG0, E5.out⟩
      case round =>
        clear HG0 T1 T2 E5 t0 k1
        obtain ⟨j, cv, vals, hj, rfl, t0, t1, t2, hgr, hx⟩ := hrel
        have r1 := hx.cell c1
        by_cases hlt : j < rows.length
        · obtain ⟨r, hrr⟩ : ∃ r, rows[j]? = some r := ⟨_, List.getElem?_eq_getElem hlt⟩
          obtain ⟨bb, o, rfl, hcc⟩ := Z3.out (by omega)
          obtain ⟨u, u0, hu⟩ := hcc j r hrr
          have c6 := (HX.out.trans hx).cell u0
          have hu6 := hu.ex (HX.out.trans hx)
          have hrl64 : r.length ≤ 64 := by have := HLEN.out j r hrr; omega
          have HSPJ := hid_ (HSP2.out j r hrr)
          have HSU := hid_ (fun w' (h : Ex wr w') => Support_any w' r u (hu6.ex h) hrl64)
          obtain ⟨ua, uc, rfl, u1, u2, _⟩ := hu.open
          obtain ⟨ca, cc, hcv⟩ := own_shape hgr.out.cvo
          subst hcv
          have i1 : (0 : Int) ≤ (j : Int) := by omega
          have i2 : (j : Int) < (rows.length : Int) := by omega
          have htl := World.block_lt_of_cell? _ _ t1
          dsimp only at htl
          have hne : some tb ≠ Value.ownBlock (.slice ca j cc) := fun e => by
            have := (hgr.out.cvo.lt tb e.symm).1; omega
          have HNE := hid_ hne
          have HGR := hid_ hgr.out
          have HX4 := hid_ hx
          have HT0 := hid_ t0
          have HT2 := hid_ t2
          unfold maxLen at u2
          clear hcc u0 hu hu6 hrr hne hgr t2 hx
          go_wp2_with fail
          go_region_law
            ((first
              | (refine step_append_sl (by rfl) _ _ _ (by rfl) (tb + 1) 22 (.slice none 0 0) 1 24 Try.underlying25 infoIntsL rfl (by decide) (.slice ca j cc) j (vs j vals) (by rfl) (ownsRow_ex HGR.out.cvo (((Ex.refl wr).drew.trans hx5).trans (Ex.al w5 (.cells #[.slice la (supp r).length lc] 22)))) _ 1 [.slice la (supp r).length lc] (by rfl) (Sl.own (own_lit1 w5 (.slice la (supp r).length lc) 22)) (by simp [Value.oneCell']) (by unfold maxLen; omega) (by omega) (by have := hx5.size; simp at this ⊢; omega) ?_; intro v8 w8 hown8 hg8 ha8; have HAP := appd_of2 (ownsRow_ex HGR.out.cvo ((Ex.refl wr).drew.trans hx5)) hown8 hg8 ha8; have t1y := HAP.cell t1 HNE.out; have t2y := HAP.frz t1 (((Ex.refl wr).drew.trans hx5).frz (show wr.cell? ⟨tb, 1, none⟩ = some (.slice ca j cc) from ‹wr.cell? ⟨tb, 1, none⟩ = some (.slice ca j cc)›) HT2.out) HNE.out; obtain ⟨va, vc, hv8⟩ := own_shape hown8; subst hv8)
              | (go_simp; refine (HSU.out _ (Ex.refl wr).drew).mono ?_; rintro e w5 ⟨lv, rfl, hou, hx5⟩; obtain ⟨la, lc, hlv⟩ := own_shape hou; subst hlv; have t1 := hx5.cell (show wr.drew.cell? ⟨tb, 1, none⟩ = some (.slice ca j cc) from t1); have t1x := (Ex.al w5 (.cells #[.slice la (supp r).length lc] 22)).cell t1; go_simp)))
          all_goals
            have hl2 : w5.ownsRow (tb + 1) 3 1 (.slice la (supp r).length lc) (supp r).length (ints (supp r)) := ownsRow_mono hou (by show tb + 1 ≤ wr.heap.size; omega)
            have hal : Aprt (.slice la (supp r).length lc) (.slice ca j cc) := by
              rcases hb : Value.ownBlock (.slice la (supp r).length lc) with _ | b
              · exact .inl hb
              · right
                rw [hb]
                intro e
                have h1 : wr.heap.size ≤ b := (hou.lt b hb).1
                have h2 := (HGR.out.cvo.lt b e.symm).2
                omega
            have HO := hid_ ((HGR.out.ex ((Ex.refl wr).drew.trans hx5)).app hl2 hal HAP)
            have s0 := HAP.cell (((Ex.refl wr).drew.trans hx5).cell HT0.out) HNE.out
            have HE := hid_ (HAP.ex (HX4.out.trans ((Ex.refl wr).drew.trans hx5)) (by have := HTB.out; omega))
            have HP0 := hid_ (show (w8.setCell ⟨tb, 1, none⟩ (.slice va (j + 1) vc)).cell? ⟨tb, 0, none⟩ = some (.int .i64 cols) from by rw [cell_set_off (by omega)]; exact s0)
            have HP1 := hid_ (show (w8.setCell ⟨tb, 1, none⟩ (.slice va (j + 1) vc)).cell? ⟨tb, 1, none⟩ = some (.slice va (j + 1) vc) from World.cell?_setCell_same (h := t1y) ..)
            have HP2 := hid_ (show (w8.setCell ⟨tb, 1, none⟩ (.slice va (j + 1) vc)).frozen? ⟨tb, 1, none⟩ = false from by rw [World.frozen?_setCell]; exact t2y)
            have HGR2 := hid_ (HO.out.setNe (a := ⟨tb, 1, none⟩) (by show tb < tb + 1; omega) (.slice va (j + 1) vc))
            have HE2 := hid_ (HE.out.setCell (p := ⟨tb, 1, none⟩) (by have := HTB.out; show w4.heap.size ≤ tb; omega) (.slice va (j + 1) vc))
            clear HAP hl2 hal HO s0 HE t1y t2y hou
            go_wp2_with fail
            go_roundw
            case rel => exact ⟨j + 1, _, _, by omega, by go_num, HP0.out, HP1.out, HP2.out, hid_ (by
              have := HGR2.out
              rwa [show upd SP j (supp r) = SP from by
                funext i; unfold upd; split
                · rename_i e; subst e; exact HSPJ.out.symm
                · rfl] at this), HE2.out⟩
            case measure => simp [intOf]; omega
        · obtain rfl : j = rows.length := by omega
          obtain ⟨ca, cc, hcv⟩ := own_shape hgr.out.cvo
          subst hcv
          have k2 := hx.cell c2
          have k3 := hx.cell c3
          have k4 := hx.frz c2 c4
          have k5 := hx.frz c3 c5
          have HG := hid_ (show GrS p m ml cols rows cols (rows.map supp) 0 from ⟨0, HEC.out, .inr (.inr ⟨rfl, hc1, hc2, rfl, rfl, rfl⟩)⟩)
          have hbl : xb + 1 + 1 < tb + 1 := by
            have h1 := World.block_lt_of_cell? _ _ c2
            have h2 := HTB.out
            dsimp only at h1
            omega
          have HGR2 := hid_ ((hgr.out.setNe (a := ⟨xb + 1 + 1, 0, none⟩) hbl (.int .i64 cols)).setNe (a := ⟨xb + 1 + 1, 1, none⟩) hbl (.slice ca rows.length cc))
          have hxW : Ex w ((wr.setCell ⟨xb + 1 + 1, 0, none⟩ (.int .i64 cols)).setCell ⟨xb + 1 + 1, 1, none⟩ (.slice ca rows.length cc)) := ((HX.out.trans hx).setCell (p := ⟨xb + 1 + 1, 0, none⟩) (by have := HXB.out; show w.heap.size ≤ xb + 1 + 1; omega) _).setCell (p := ⟨xb + 1 + 1, 1, none⟩) (by have := HXB.out; show w.heap.size ≤ xb + 1 + 1; omega) _
          have HXW := hid_ hxW
          have HMS := hid_ (show MSl _ _ (rows.map supp) from HGR2.out.msl (by simp) (fun i r h => by
            rw [List.getElem?_map] at h
            obtain ⟨r0, h0, rfl⟩ := Option.map_eq_some_iff.1 h
            exact HSP2.out i r0 h0))
          clear hgr hxW HGR2 c0 c1 c2 c3 c4 c5 hbl
          go_wp2_with fail
          exact bodyPost_ret (v := .tuple #[.agg #[.int .i64 cols, .slice ca rows.length cc], .int .i64 0]) (by simp [results, Try.results15, go_sem, k2, k3]) rfl ⟨_, _, _, _, rfl, HG.out, HMS.out, HXW.out⟩
  · have hb : (ec != 0) = true := by simpa using h0
    have HG := hid_ (show GrS p m ml cols rows 0 [] ec from ⟨ec, HEC.out, .inl ⟨h0, rfl, rfl, rfl⟩⟩)
    clear h0
    go_wp2_with fail
    have hxW : Ex w ((w4.setCell ⟨xb + 1 + 1, 0, none⟩ (.int .i64 0)).setCell ⟨xb + 1 + 1, 1, none⟩ (.slice none 0 0)) := (HX.out.setCell (p := ⟨xb + 1 + 1, 0, none⟩) (by have := HXB.out; show w.heap.size ≤ xb + 1 + 1; omega) _).setCell (p := ⟨xb + 1 + 1, 1, none⟩) (by have := HXB.out; show w.heap.size ≤ xb + 1 + 1; omega) _
    exact bodyPost_ret (v := .tuple #[.agg #[.int .i64 0, .slice none 0 0], .int .i64 ec]) (by simp [results, Try.results15, go_sem, c2, c3]) rfl ⟨_, _, _, _, rfl, HG.out, ⟨[], Sl.nil _ 1, fun i r u h => by simp at h⟩, hxW⟩

theorem GrS.unique {p m : Int} {ml : List Int} {cols : Int} {H : List (List Int)} {V V' : Int} {gr gr' : List (List Int)} {e e' : Int} (h : GrS p m ml cols H V gr e) (k : GrS p m ml cols H V' gr' e') : V = V' ∧ gr = gr' ∧ e = e' := by
  obtain ⟨ec, h1, h⟩ := h
  obtain ⟨ec', k1, k⟩ := k
  have := h1.unique k1
  subst this
  rcases h with ⟨a, b, c, d⟩ | ⟨a, a2, b, c, d⟩ | ⟨a, a2, a3, b, c, d⟩
  · rcases k with ⟨a', b', c', d'⟩ | ⟨a', a2', b', c', d'⟩ | ⟨a', a2', a3', b', c', d'⟩
    · exact ⟨by omega, by rw [c, c'], by omega⟩
    · exact absurd a' a
    · exact absurd a' a
  · rcases k with ⟨a', b', c', d'⟩ | ⟨a', a2', b', c', d'⟩ | ⟨a', a2', a3', b', c', d'⟩
    · exact absurd a a'
    · exact ⟨by omega, by rw [c, c'], by omega⟩
    · omega
  · rcases k with ⟨a', b', c', d'⟩ | ⟨a', a2', b', c', d'⟩ | ⟨a', a2', a3', b', c', d'⟩
    · exact absurd a a'
    · omega
    · exact ⟨by omega, by rw [c, c'], by omega⟩

set_option maxRecDepth 100000 in
set_option maxHeartbeats 8000000 in
theorem PeelGraphs_any (w : World) (p m : Int) (mv : Value) (ml : List Int) (cols : Int) (v : Value) (rows : List (List Int)) (hmv : ISl w mv ml) (hv : MSl w v rows) :
    Calls Try.prog 3 #[.agg #[.int .i64 p, .int .i64 m, mv], .agg #[.int .i64 cols, v]] w fun r w' => r = .returned (.bool true) ∧ Ex w w' := by
  obtain ⟨g0, g1, g2, e0, gsz⟩ := box_facts w p m mv
  have HMV := hid_ hmv
  have HV := hid_ hv
  obtain ⟨za, zc, rfl, _, _, _⟩ := hv.open
  obtain ⟨xb, hxb⟩ : ∃ xb, w.heap.size = xb := ⟨_, rfl⟩
  rw [hxb] at g0 g1 g2 gsz
  clear hmv hv
  go_enter Try.func3, Try.ntmps3
  go_wp2_with fail
  try simp only [hxb]
  clear hxb
  generalize w.alloc (.cells #[.int .i64 p, .int .i64 m, mv] 24) = wA at *
  have a0 : (wA.alloc (.cells #[.int .i64 cols, .slice za rows.length zc] 27)).cell? ⟨xb + 1, 0, none⟩ = some (.int .i64 cols) := by rw [← gsz]; simp
  have a1 : (wA.alloc (.cells #[.int .i64 cols, .slice za rows.length zc] 27)).cell? ⟨xb + 1, 1, none⟩ = some (.slice za rows.length zc) := by rw [← gsz]; simp
  have eA : Ex wA (wA.alloc (.cells #[.int .i64 cols, .slice za rows.length zc] 27)) := (Ex.refl _).alloc _
  generalize wA.alloc (.cells #[.int .i64 cols, .slice za rows.length zc] 27) = wC at *
  have c0 := eA.cell g0
  have c1 := eA.cell g1
  have c2 := eA.cell g2
  have c3 := a0
  have c4 := a1
  have EX := hid_ (e0.trans eA)
  clear g0 g1 g2 a0 a1 gsz e0 eA
  refine (awake_any wC).mono ?_
  rintro e w1 ⟨rfl, hx1⟩
  have c0 := hx1.cell c0
  have c1 := hx1.cell c1
  have c2 := hx1.cell c2
  have c3 := hx1.cell c3
  have c4 := hx1.cell c4
  have EX := hid_ (EX.out.trans hx1)
  clear hx1
  go_wp2_with fail
  refine (Few_any w1 cols rows _ (HV.out.ex EX.out) 300 (by omega) (by omega)).mono ?_
  rintro e w2 ⟨b, rfl, hx2⟩
  have c0 := hx2.cell c0
  have c1 := hx2.cell c1
  have c2 := hx2.cell c2
  have c3 := hx2.cell c3
  have c4 := hx2.cell c4
  have EX := hid_ (EX.out.trans hx2)
  clear hx2
  cases b with
  | false =>
    go_wp2_with (go_at_call 12; refine (awake_any _).mono ?_; rintro e w3 ⟨rfl, hx3⟩)
    go_ret
    exact ⟨rfl, EX.out.trans hx3⟩
  | true =>
    go_wp2_with fail
    refine (Graph_any p m ml mv w2 (HMV.out.ex EX.out) cols rows _ (HV.out.ex EX.out)).mono ?_
    rintro e w4 ⟨V, cv, gr, ge, rfl, hg, hcv, hx4⟩
    obtain ⟨ca, cc, rfl, _, _, _⟩ := hcv.open
    have e5 : Ex w4 (w4.alloc (.cells #[.int .i64 V, .slice ca gr.length cc] 31)) := (Ex.refl _).alloc _
    have t0 : (w4.alloc (.cells #[.int .i64 V, .slice ca gr.length cc] 31)).cell? ⟨w4.heap.size, 0, none⟩ = some (.int .i64 V) := by simp
    have t1 : (w4.alloc (.cells #[.int .i64 V, .slice ca gr.length cc] 31)).cell? ⟨w4.heap.size, 1, none⟩ = some (.slice ca gr.length cc) := by simp
    have c0 := e5.cell (hx4.cell c0)
    have c1 := e5.cell (hx4.cell c1)
    have c2 := e5.cell (hx4.cell c2)
    have c3 := e5.cell (hx4.cell c3)
    have c4 := e5.cell (hx4.cell c4)
    have EX := hid_ ((EX.out.trans hx4).trans e5)
    have HCV := hid_ (hcv.ex e5)
    have HG := hid_ hg
    clear hx4 e5 hcv hg
    go_wp2_with fail
    generalize w4.alloc (.cells #[.int .i64 V, .slice ca gr.length cc] 31) = w5 at *
    obtain ⟨tb, htb⟩ : ∃ tb, w4.heap.size = tb := ⟨_, rfl⟩
    rw [htb] at t0 t1
    try simp only [htb]
    clear htb
    refine (rGraph_any p m ml mv w5 (HMV.out.ex EX.out) cols rows _ (HV.out.ex EX.out)).mono ?_
    rintro e w6 ⟨V2, cv2, gr2, ge2, rfl, hg2, hcv2, hx6⟩
    obtain ⟨rfl, rfl, rfl⟩ := HG.out.unique hg2
    obtain ⟨da, dc, rfl, _, _, _⟩ := hcv2.open
    have e7 : Ex w6 (w6.alloc (.cells #[.int .i64 V, .slice da gr.length dc] 31)) := (Ex.refl _).alloc _
    have u0 : (w6.alloc (.cells #[.int .i64 V, .slice da gr.length dc] 31)).cell? ⟨w6.heap.size, 0, none⟩ = some (.int .i64 V) := by simp
    have u1 : (w6.alloc (.cells #[.int .i64 V, .slice da gr.length dc] 31)).cell? ⟨w6.heap.size, 1, none⟩ = some (.slice da gr.length dc) := by simp
    have t0 := e7.cell (hx6.cell t0)
    have t1 := e7.cell (hx6.cell t1)
    have EX := hid_ ((EX.out.trans hx6).trans e7)
    have HCV := hid_ (HCV.out.ex (hx6.trans e7))
    have HCV2 := hid_ (hcv2.ex e7)
    have HSM := hid_ (Same_any _ V V gr gr _ _ HCV.out HCV2.out)
    rw [show (decide (V = V) && decide (gr = gr)) = true by simp] at HSM
    clear hx6 e7 hcv2 hg2 c0 c1 c2 c3 c4
    go_wp2_with (go_at_call 16; refine HSM.out.mono ?_; rintro e w8 ⟨rfl, hx8⟩)
    go_ret
    exact ⟨rfl, EX.out.trans hx8⟩
end Go.Proofs.Ytpphaicbdeeacaa
