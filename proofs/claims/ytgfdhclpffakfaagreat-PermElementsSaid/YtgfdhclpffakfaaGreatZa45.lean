/- The iterator of perm.Elements. -/
import Derived.Laws.EntriesVeiled
import Derived.Test.YtgfdhclpffakfaaGreatZa44
namespace Go.Proofs.YtgfdhclpffakfaaGreat
set_option linter.unusedVariables false
set_option linter.unusedSimpArgs false
open Go.RowKit

theorem from_all {w0 : World} {M : Nat → Prop} {tb yb fb l n : Nat} {J Jx : List Yl → World → Prop} {E : List (Nat → Nat)} (hJ : ∀ s A B, J s A → Ex A B → J s B) (hY : HY n M l J Jx E) {S : List (Nat → Nat)} (hS : ∀ s ∈ S, IsP n s) (hn1 : 1 ≤ n) (hn : n ≤ 12) {L : List Lv} {la : Option Addr} {lc : Nat} (hL : LSl w0 (.slice la L.length lc) L) :
    ∀ (bs : List Nat) (k : Nat) (p : Nat → Nat), L.drop k = bs.map (levB n S) → k + bs.length = L.length → (∀ b ∈ bs, 1 ≤ (orbM S b n).length) → IsP n p → FrmC w0 M tb yb fb l n (.slice la L.length lc) J Jx E (elS n S bs p) k p
  | [], k, p, _, h2, _, _ => by
    obtain rfl : k = L.length := by simpa using h2
    rw [elS]
    exact from_leaf hJ hY hn1 (by omega) la L.length lc p
  | b :: bs, k, p, h1, h2, h3, hP => by
    have hk : L[k]? = some (levB n S b) := by
      have := congrArg (fun l => l[0]?) h1
      simpa using this
    have h4 : L.drop (k + 1) = bs.map (levB n S) := by
      rw [← List.drop_drop, h1]; rfl
    have h5 : k + 1 + bs.length = L.length := by simp at h2; omega
    exact from_node hJ hS hn1 hn hL hk hP (h3 b (List.mem_cons_self ..)) fun x hx => from_all hJ hY hS hn1 hn hL bs (k + 1) _ h4 h5 (fun c hc => h3 c (List.mem_cons_of_mem _ hc)) (((lst_at hS hx).gn.isP hS).comp hP)
set_option maxRecDepth 100000 in
set_option maxHeartbeats 4000000 in
theorem iter_any {w0 w : World} {d : Int} {L : List Lv} {la : Option Addr} {lc : Nat} (hL : LSl w0 (.slice la L.length lc) L) (hx0 : Ex w0 w) (hg : (gensL L).length ≤ 1000) (hd6 : d ≤ 6 ∨ 64 < d) {tb : Nat} (t0 : w.cell? ⟨tb, 0, none⟩ = some (.int .i64 d)) (t1 : w.cell? ⟨tb, 1, none⟩ = some (.slice la L.length lc)) {Mc : Nat → Prop} (hM : ∀ k, Mc k → w0.heap.size ≤ k ∧ k < w.heap.size) (ntb : ¬ Mc tb) {E : List (Nat → Nat)}
    (hE : chkS d L = 0 → ∃ (n : Nat) (S : List (Nat → Nat)), d = n ∧ 1 ≤ n ∧ n ≤ 64 ∧ (∀ s ∈ S, IsP n s) ∧ L = (ptsK n S).map (levB n S) ∧ E = elS n S (ptsK n S) idP) (m : Nat) :
    SeqR Fence.wide m Tryz.prog 30 #[.pointer (some ⟨tb, 0, none⟩)] encY (PrY d.toNat E) Mc (fun xs => (chkS d L = 0 ∧ xs.map (·.2) = E) ∨ (chkS d L ≠ 0 ∧ xs = [])) (fun _ => chkS d L = 0) w := by
  intro l J Jx W hxW hl1 hl2 hJ hJx hY hj
  refine callsIn_wide.2 ?_
  have hts : tb < w.heap.size := World.block_lt_of_cell? _ _ t0
  have hMl : ∀ k, (Mc k ∨ k = l) → w0.heap.size ≤ k ∧ k < W.heap.size := fun k e => by
    have h1 := hx0.size
    have h2 := hxW.size
    rcases e with e | e
    · have := hM k e; omega
    · omega
  have nt : ¬ (Mc tb ∨ tb = l) := fun e => by
    rcases e with e | e
    · exact ntb e
    · omega
  show Calls Tryz.prog 30 #[.func (.yield l) #[] #[], .pointer (some ⟨tb, 0, none⟩)] W _
  have HY' : HY d.toNat (fun k => Mc k ∨ k = l) l J Jx E := fun m' pre x A h1 h2 => hY m' pre x A h1 h2
  obtain ⟨Y, hYe⟩ : ∃ Y, W.heap.size = Y := ⟨_, rfl⟩
  have e1 : Ex W (W.alloc (.cells #[.func (.yield l) #[] #[]] 69)) := (Ex.refl W).alloc _
  have s1 : (W.alloc (.cells #[.func (.yield l) #[] #[]] 69)).heap.size = Y + 1 := by simp [hYe]
  have y0 : (W.alloc (.cells #[.func (.yield l) #[] #[]] 69)).cell? ⟨Y, 0, none⟩ = some (.func (.yield l) #[] #[]) := by rw [← hYe]; simp
  have c0 := (hxW.trans e1).cell t0
  have c1 := (hxW.trans e1).cell t1
  have HCK := hid_ (CheckChain_any _ d L _ (hL.ex (hx0.trans (hxW.trans e1))) hg)
  obtain ⟨K, hK⟩ : ∃ K, chkS d L = K := ⟨_, rfl⟩
  rw [hK] at HCK hE ⊢
  have hY := hid_ HY'
  have HJ := hid_ hJ
  have HJX := hid_ hJx
  have HJ0 := hid_ hj
  have HE := hid_ hE
  have HL := hid_ hL
  have HX0 := hid_ (hx0.trans (hxW.trans e1))
  have HE1 := hid_ e1
  have HML := hid_ hMl
  have HNT := hid_ nt
  have HYE := hid_ hYe
  clear hxW hl1 hl2 hJ hJx hj hx0 hM ntb hMl nt HY' hE hL t0 t1 hts hK hg e1
  go_enter Tryz.func30, Tryz.ntmps30
  go_upto_region 1 with fail
  try simp only [hYe]
  clear hYe
  generalize W.alloc (.cells #[.func (.yield l) #[] #[]] 69) = W1 at *
  go_wp2_with fail
  refine HCK.out.mono ?_
  rintro e W2 ⟨rfl, hx2⟩
  by_cases h0 : K = 0
  rotate_left
  · have k1 : (K != 0) = true := by simpa using h0
    have HN := hid_ h0
    have HX2 := hid_ (HE1.out.trans hx2)
    clear h0 hx2 c0 c1 y0 s1 HCK
    go_wp2_with fail
    refine bodyPost_ret (results_none rfl _ _ _) rfl ?_
    exact ⟨⟨_, rfl⟩, .inl ⟨[], .inr ⟨HN.out, rfl⟩, HJ.out _ _ _ HJ0.out HX2.out⟩⟩
  · have k1 : (K != 0) = false := by simp [h0]
    subst h0
    obtain ⟨n, S, rfl, hn1, hn64, hS, hLS, hEE⟩ := HE.out rfl
    have hn6 : n ≤ 6 := by omega
    have HLS := hid_ hLS
    have HEE := hid_ hEE
    have HSS := hid_ hS
    clear hLS hEE hS hd6 hn64
    have HX2 := hid_ hx2
    have C0 := hid_ c0
    have C1 := hid_ c1
    have Y0 := hid_ y0
    clear y0 c0 c1 hx2 HCK HE
    obtain ⟨fb, hfb⟩ : ∃ q, W2.heap.size = q := ⟨_, rfl⟩
    have e3 : Ex W2 (W2.alloc (.cells #[.nilFunc] 70)) := (Ex.refl W2).alloc _
    have z0 : (W2.alloc (.cells #[.nilFunc] 70)).cell? ⟨fb, 0, none⟩ = some .nilFunc := by rw [← hfb]; simp
    have zf : (W2.alloc (.cells #[.nilFunc] 70)).frozen? ⟨fb, 0, none⟩ = false := by rw [← hfb]; simp
    have HFB := hid_ hfb
    go_upto_region 3 with fail
    try simp only [hfb]
    clear hfb
    generalize W2.alloc (.cells #[.nilFunc] 70) = W3 at *
    go_upto_region 4 with fail
    obtain ⟨FV, hFV⟩ : ∃ v, (Value.func (.func 31) #[] #[.pointer (some ⟨tb, 0, none⟩), .pointer (some ⟨Y, 0, none⟩), .pointer (some ⟨fb, 0, none⟩)]) = v := ⟨_, rfl⟩
    have f0 : (W3.setCell ⟨fb, 0, none⟩ (Value.func (.func 31) #[] #[.pointer (some ⟨tb, 0, none⟩), .pointer (some ⟨Y, 0, none⟩), .pointer (some ⟨fb, 0, none⟩)])).cell? ⟨fb, 0, none⟩ = some (Value.func (.func 31) #[] #[.pointer (some ⟨tb, 0, none⟩), .pointer (some ⟨Y, 0, none⟩), .pointer (some ⟨fb, 0, none⟩)]) := World.cell?_setCell_same _ _ _ z0
    have E4 : Ex W2 (W3.setCell ⟨fb, 0, none⟩ (Value.func (.func 31) #[] #[.pointer (some ⟨tb, 0, none⟩), .pointer (some ⟨Y, 0, none⟩), .pointer (some ⟨fb, 0, none⟩)])) := e3.setCell (by show W2.heap.size ≤ fb; have := HFB.out; omega) _
    clear e3 z0 zf hFV
    generalize W3.setCell ⟨fb, 0, none⟩ (Value.func (.func 31) #[] #[.pointer (some ⟨tb, 0, none⟩), .pointer (some ⟨Y, 0, none⟩), .pointer (some ⟨fb, 0, none⟩)]) = W4 at *
    have HX4 := hid_ (HX2.out.trans E4)
    have HDD := hid_ (show W4.cell? ⟨tb, 0, none⟩ = some (.int .i64 n) from HX4.out.cell C0.out)
    have d0 := HDD.out
    have HID := hid_ (fun (V : World) (h : Ex W4 V) => identity_any V n (by omega))
    have HEL := hid_ (show ElC w0 W4 (fun k => Mc k ∨ k = l) tb Y fb l n (.slice la L.length lc) from
      ⟨HX0.out.trans HX4.out, HX4.out.cell C0.out, HX4.out.cell C1.out, HX4.out.cell Y0.out, f0, HNT.out, fun e => by have := (HML.out _ e).2; have := HYE.out; omega, fun e => by
        have h1 := (HML.out _ e).2
        have h2 := HE1.out.size
        have h3 := HX2.out.size
        have h4 := HFB.out
        omega, fun k e => ⟨(HML.out k e).1, Nat.lt_of_lt_of_le (HML.out k e).2 (Nat.le_trans HE1.out.size HX4.out.size)⟩⟩)
    have HFR := hid_ (fun (V : World) (h : Ex W4 V) (g2 : Nat) (hg2 : W4.heap.size ≤ g2) (hv : ISl V (.slice (some ⟨g2, 0, none⟩) n n) (li n idP)) =>
      from_all HJ.out hY.out HSS.out hn1 (by omega) HL.out (ptsK n S) 0 idP (by rw [List.drop_zero]; exact HLS.out) (by rw [HLS.out, List.length_map, Nat.zero_add]) (fun b hb => by
        have := (List.mem_filter.1 hb).2
        have : 1 < (orbM S b n).length := by simpa using this
        exact Nat.le_of_lt this) (isP_id n) [] _ V (HJ.out _ _ _ HJ0.out ((HE1.out.trans HX4.out).trans h)) (HEL.out.exx h) hv (fun B e hm => by
        have e2 : g2 = B := by injection e
        have h7 := (HEL.out.lo B hm).2
        omega) (by rw [HEE.out]; exact List.prefix_rfl))
    rw [show (((0 : Nat)) : Int) = 0 from rfl] at HFR
    have G0 : Ex W4 W4.drew := (Ex.refl W4).drew
    have HCE := hid_ (fun (V : World) (h : Ex W4 V) => (⟨h.cell f0, h.cell d0⟩ : _ ∧ _))
    clear E4
    go_region_held3 (fun w' => w'.cell? ⟨fb, 0, none⟩ = some (Value.func (.func 31) #[] #[.pointer (some ⟨tb, 0, none⟩), .pointer (some ⟨Y, 0, none⟩), .pointer (some ⟨fb, 0, none⟩)]) ∧ w'.cell? ⟨tb, 0, none⟩ = some (.int .i64 n))
      (first | exact ⟨X4.f0, X4.t0⟩ | with_reducible exact HCE.out _ X3 | with_reducible exact HCE.out _ G0)
      (first | (go_at_call 36; (with_reducible refine (HID.out _ G0).mono ?_); rintro e w7 ⟨g2, rfl, ho7, h7⟩; have X3 := G0.trans h7; have HV7 := hid_ ho7.li; have HG7 := hid_ (show W4.heap.size ≤ g2 from ho7.base_le); clear h7 ho7) | (go_at_call 31; (with_reducible refine (HFR.out _ X3 g2 HG7.out HV7.out).mono ?_); rintro e B ⟨bb, rfl, hKB, hT, hF⟩; have X4 := (HEL.out.exx X3).kps hKB; have HT := hid_ hT; have HF := hid_ hF; clear hT hF hKB))
    clear HCE G0 X3 X4 d0 f0 HV7 HG7
    go_end0
    cases bb with
    | true =>
      obtain ⟨ys, h1, h2⟩ := HT.out rfl
      exact ⟨⟨_, rfl⟩, .inl ⟨ys, .inl ⟨rfl, h1.trans HEE.out.symm⟩, by simpa using h2⟩⟩
    | false =>
      obtain ⟨ys, h1, h2⟩ := HF.out rfl
      exact ⟨⟨_, rfl⟩, .inr ⟨ys, rfl, by simpa using h2⟩⟩
end Go.Proofs.YtgfdhclpffakfaaGreat
