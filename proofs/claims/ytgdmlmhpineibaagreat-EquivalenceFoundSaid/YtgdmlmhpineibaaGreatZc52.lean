/- Plain: the end of EquivalenceFound. -/
/- Walk of codewrightref31.Small. -/
import Derived.Test.YtgdmlmhpineibaaGreatZc46
import Derived.Test.YtgdmlmhpineibaaGreatZc49
import Derived.Test.YtgdmlmhpineibaaGreatZc51
namespace Go.Proofs.YtgdmlmhpineibaaGreat
set_option linter.unusedVariables false
set_option linter.unusedSimpArgs false
open Go.RowKit

def smK (N q : Nat) : Nat → Nat × Nat
  | 0 => (1, 1)
  | i + 1 => ((smK N q i).1 * ((N - i) * max 1 (q - 1)), (smK N q i).2 + (smK N q i).1 * ((N - i) * max 1 (q - 1)))
def SmlP (n : Int) (q : Nat) : Prop := (n < 1 ∨ 7 < n → n < 1 ∨ 64 < n) ∧ (1 ≤ n → n ≤ 7 → ∀ i, i ≤ n.toNat → (smK n.toNat q i).2 ≤ 3000)
theorem sml_bound : ∀ N, N < 8 → ∀ q, q < 17 → (smK N q N).2 ≤ 3000 → nbT (N * (q - 1)) N ≤ 65536 := by decide +kernel
theorem mchk_of {q N : Nat} {rows : List (List Int)} (hN : N ≤ 256) (hr : rows.length ≤ 256) (h : ∀ r ∈ rows, r.length = N ∧ entS q r = 0) : mchkS q N rows = 0 := by
  unfold mchkS
  rw [if_neg (by omega), if_pos (List.all_eq_true.2 fun r hr => by simp [(h r hr).1]), if_pos (List.all_eq_true.2 fun r hr => by simp [(h r hr).2])]
theorem imgF_ent {p m : Nat} {ml pl ul : List Int} {fr N : Nat} {x : List Int} (h : MonOK p m ml pl ul fr N) : entS (p ^ m) (il N (imgF p m ml pl ul fr x N)) = 0 := entS_of fun y hy => by
  obtain ⟨i, hi, rfl⟩ := List.getElem_of_mem hy
  rw [il_len] at hi
  obtain ⟨z, h1, h2⟩ := img_ent h (x := x) i hi
  rw [List.getD_eq_getElem?_getD, List.getElem?_eq_getElem (by rw [il_len]; exact hi)] at h1
  have h1' : (il N (imgF p m ml pl ul fr x N))[i]'(by rw [il_len]; exact hi) = z := h1
  rw [h1']; omega
theorem imL_ok {p m : Nat} {ml pl ul : List Int} {fr N : Nat} {l1 : List (List Int)} (h : MonOK p m ml pl ul fr N) : ∀ r ∈ imL p m ml pl ul fr N l1 l1.length, r.length = N ∧ entS (p ^ m) r = 0 := fun r hr => by
  unfold imL at hr
  obtain ⟨x, _, rfl⟩ := List.mem_map.1 hr
  exact ⟨il_len _ _, imgF_ent h⟩
theorem newE_img {p m : Nat} {ml pl ul : List Int} {fr N : Nat} {l1 : List (List Int)} (hc : chkS p m ml = 0) (hl : l1.length ≤ 256) (h : MonOK p m ml pl ul fr N) : newE p m ml N (imL p m ml pl ul fr N l1 l1.length) = 0 := by
  have h1 : canE p m ml N (imL p m ml pl ul fr N l1 l1.length) = 0 := by
    unfold canE
    rw [if_neg (fun h => h hc)]
    have e : (p : Int).toNat ^ (m : Int).toNat = p ^ m := by simp
    rw [e]
    exact mchk_of (by have := h.n2; omega) (by rw [imL_len (Nat.le_refl _)]; exact hl) (imL_ok h)
  unfold newE
  rw [if_neg (fun h => h h1)]
  unfold lenE
  rw [if_neg (by have := h.n1; have := h.n2; omega)]
/-- The canonical rows of anything pass. -/
theorem codO_can {p m N : Nat} {ml : List Int} {R : Nat} {a a' : Nat → Nat → Int} {piv : List Nat} (hF : FldB p m ml) (hn1 : 1 ≤ N) (hn2 : N ≤ 64) (hR : R ≤ 256) (h : ElO p m ml N R a a' piv) : CodO p m ml N (rowsL N piv.length a') 0 := by
  have hc : chkS p m ml = 0 := (chk_iff _ _ _).2 hF
  have hmk : mchkS (p ^ m) N (rowsL N piv.length a') = 0 := mchk_of (by omega) (by rw [rowsL_len]; have := (elo_rows h).1; omega) (elo_rows h).2
  have hce : canE p m ml N (rowsL N piv.length a') = 0 := by
    unfold canE
    rw [if_neg (fun h => h hc)]
    have e : (p : Int).toNat ^ (m : Int).toNat = p ^ m := by simp
    rw [e]; exact hmk
  have hl : lenE N = 0 := by unfold lenE; rw [if_neg (by omega)]
  have hlen := (elo_rows h).1
  obtain ⟨c, hcN, hP, hend, hS⟩ := h
  have hPV : PV p m piv.length N (rowsF (rowsL N piv.length a')) piv c := by
    have e : ∀ i j, i < piv.length → j < N → rowsF (rowsL N piv.length a') i j = a' i j := fun i j hi hj => rowsF_rowsL hi hj
    have hjl : ∀ j q : Nat, piv[j]? = some q → j < piv.length := fun j q hq => (List.getElem?_eq_some_iff.1 hq).1
    refine ⟨Nat.le_refl _, fun i hi j hj => ?_, hP.lt, fun j q hq => ?_, fun j q i hq hi hne => ?_, fun i j h1 h2 _ => by omega, fun j q k hq hk => ?_, hP.asc⟩
    · rw [e i j hi hj]; exact hP.rng i (by omega) j hj
    · rw [e j q (hjl j q hq) (by have := hP.lt j q hq; omega)]; exact hP.one j q hq
    · rw [e i q hi (by have := hP.lt j q hq; omega)]; exact hP.zer j q i hq (by omega) hne
    · rw [e j k (hjl j q hq) (by have := hP.lt j q hq; omega)]; exact hP.lead j q k hq hk
  refine .inr (.inr ⟨hc, hl, .inr ⟨hce, p, m, N, piv, rowsF (rowsL N piv.length a'), rfl, rfl, rfl, hF, hmk, ?_, ?_⟩⟩)
  · rw [rowsL_len]; exact elO_self hPV hcN rfl
  · have h5 : rowsL N piv.length (rowsF (rowsL N piv.length a')) = rowsL N piv.length a' := by
      have := rowsL_rowsF (N := N) (rows := rowsL N piv.length a') fun r hr => by
        unfold rowsL at hr
        obtain ⟨i, _, rfl⟩ := List.mem_map.1 hr
        exact il_len _ _
      rw [rowsL_len] at this
      exact this
    rw [if_pos h5]
section
variable {p m : Nat} {ml : List Int} {n : Nat} {l1 l2 : List (List Int)} {pl sl : List Int}
theorem Takes.vld (h : Takes p m ml n l1 l2 pl sl) {K : Nat} (hK : K ≤ n) : Vld (p ^ m) n (pl.take K) (sl.take K) := by
  have hl : (pl.take K).length = K := by rw [List.length_take, h.pll]; omega
  have hl2 : (sl.take K).length = K := by rw [List.length_take, h.sll]; omega
  refine ⟨by rw [hl, hl2], fun i hi => ?_, fun i j hi hj => ?_, fun i hi => ?_⟩
  · rw [hl] at hi
    rw [take_getD hi]
    have h1 := h.nn i (by omega)
    have h2 := h.inj.lt i (by omega)
    unfold piF at h2
    omega
  · rw [hl] at hi
    rw [take_getD hi, take_getD (by omega)]
    intro e
    have := h.inj.inj j i (by omega) (by omega) (by unfold piF; rw [e])
    omega
  · rw [hl] at hi
    rw [take_getD hi]; exact h.sc i (by omega)
theorem Fnd.takes {tl sc : List Int} {nd : Nd} (hp : 2 ≤ p) (h : Fnd p m ml l1 l2 n nd tl sc) : Takes p m ml n l1 l2 nd.tl nd.sc :=
  Takes.of hp h.len (by rw [h.v.len]; exact h.len) (fun i hi => (h.v.rng i (by rw [h.len]; exact hi)).1) (h.v.injN h.len) (fun i hi => h.v.sc i (by rw [h.len]; exact hi)) h.c
end
theorem Vld.dup {q n : Nat} {tl sc : List Int} (h : Vld q n tl sc) : dupB tl = false := by
  cases hd : dupB tl with
  | false => rfl
  | true =>
    obtain ⟨i, j, h1, h2, h3⟩ := dupB_iff.1 hd
    exact absurd h3.symm (h.inj i j h2 h1)
/-- What Find hands back in EquivalenceFound. -/
structure FndO (p m : Nat) (ml : List Int) (N : Nat) (l1 l2 : List (List Int)) (pl ul tl sl : List Int) (nd : Nd) : Prop where
  ext : ExtP nd.tl nd.sc 0 tl sl
  mon : monS p m ml N nd.tl nd.sc 0 = 0
  new : newE p m ml N (imL p m ml nd.tl nd.sc 0 N l1 l1.length) = 0
  same : ∀ (piv : List Nat) (a' : Nat → Nat → Int), ElO p m ml N (imL p m ml nd.tl nd.sc 0 N l1 l1.length).length (rowsF (imL p m ml nd.tl nd.sc 0 N l1 l1.length)) a' piv → rowsL N piv.length a' = l2
  l1 : nd.tl.length = N
  l2 : nd.sc.length = N
  lex : LexLe N nd pl ul
theorem fnd_law {p m N : Nat} {ml : List Int} {l1 l2 : List (List Int)} {pl ul : List Int} {K : Nat} (hK : K ≤ N) (hF : FldB p m ml) (ho : CodO p m ml N l1 0) (hq : p ^ m ≤ 16) (hsm : SmlP N (p ^ m)) (hmon : monS p m ml N pl ul 0 = 0)
    {piv : List Nat} {a' : Nat → Nat → Int} (hel : ElO p m ml N (imL p m ml pl ul 0 N l1 l1.length).length (rowsF (imL p m ml pl ul 0 N l1 l1.length)) a' piv) (hl2 : rowsL N piv.length a' = l2) {e1 e2 : Int} (h1 : CodO p m ml N l1 e1) (h2 : e1 = 0 → CodO p m ml N l2 e2) :
    ∃ nd, fndE (stE e1 e2 (samF p m ml p m ml) N N (pl.take K) (ul.take K) (p ^ m)) (fndS ⟨p, m, ml, N, l1⟩ ⟨p, m, ml, N, l2⟩ (pl.take K) (ul.take K)) = 0 ∧ fndM (stE e1 e2 (samF p m ml p m ml) N N (pl.take K) (ul.take K) (p ^ m)) (fndS ⟨p, m, ml, N, l1⟩ ⟨p, m, ml, N, l2⟩ (pl.take K) (ul.take K)) = ⟨nd.tl, nd.sc, 0⟩ ∧ FndO p m ml N l1 l2 pl ul (pl.take K) (ul.take K) nd := by
  obtain rfl := codO_uniq h1 ho
  obtain ⟨p1, m1, N1, g1, g2, g3, hsh, hI, n1, n64, k256, q2⟩ := codO_two ho
  obtain rfl : p = p1 := by omega
  obtain rfl : m = m1 := by omega
  obtain rfl : N = N1 := by omega
  obtain ⟨p2, m2, N2, f2, j1, j2, j3, j4, hf, hc0, hM⟩ := monOK_of hmon
  obtain rfl : p = p2 := by omega
  obtain rfl : m = m2 := by omega
  obtain rfl : N = N2 := by omega
  obtain rfl : f2 = 0 := by omega
  obtain ⟨_, _, _, q3, _, q5, _⟩ := mon_ok hmon
  have hT : Takes p m ml N l1 l2 pl ul := takes_of hM (fun i hi => (rngB_at q5 (i := i) (by omega)).1) hel hl2
  have hcan : CodO p m ml N l2 0 := by
    rw [← hl2]; exact codO_can hF n1 n64 (by rw [imL_len (Nat.le_refl _)]; exact k256) hel
  obtain rfl := codO_uniq (h2 rfl) hcan
  obtain ⟨p3, m3, N3, i1, i2, i3, _, _, _, _, _, r2⟩ := codO_two hcan
  obtain rfl : p = p3 := by omega
  obtain rfl : m = m3 := by omega
  obtain rfl : N = N3 := by omega
  have hW : Two p m ml N l1 l2 := ⟨hsh.p2, hsh.m1, hI, q2, r2⟩
  have hv := hT.vld hK
  have hlt : (pl.take K).length = K := by rw [List.length_take, hT.pll]; omega
  have hlu : (ul.take K).length = K := by rw [List.length_take, hT.sll]; omega
  have hE : stE 0 0 (samF p m ml p m ml) N N (pl.take K) (ul.take K) (p ^ m) = 0 := by
    have hs : samF p m ml p m ml = true := samF_iff.2 ⟨rfl, rfl, rfl⟩
    have hi : injS (pl.take K) N = 0 := by
      unfold injS
      rw [hv.rngB, hv.dup]; rfl
    have hfa : facS (p ^ m) (ul.take K) = 0 := facS_of fun i hi => hv.sc i (by rw [hlt]; rw [hlu] at hi; exact hi)
    unfold stE
    rw [if_neg (by simp), if_neg (by simp), if_neg (by rw [hs]; simp), if_neg (by rw [hlt, hlu]; omega), if_neg (by rw [hi]; simp), hfa]
  rw [hE]
  have hB : nbT (N * (p ^ m - 1)) N ≤ 65536 := by
    have hN7 : N ≤ 7 := by
      apply Classical.byContradiction
      intro h
      rcases hsm.1 (.inr (by omega)) with h | h <;> omega
    refine sml_bound N (by omega) (p ^ m) (by omega) ?_
    have := hsm.2 (by omega) (by omega) N (by simp)
    simpa using this
  have hsr := sr_spec hW (N - K) (pl.take K) (ul.take K) (0, []) hv (by rw [hlt]; omega) (by have := nbT_mono (N * (p ^ m - 1)) (show N - K ≤ N by omega); show 0 + _ ≤ _; omega)
  have hS : fndS ⟨p, m, ml, N, l1⟩ ⟨p, m, ml, N, l2⟩ (pl.take K) (ul.take K) = srF p m ml l1 l2 N (N - K) (0, []) (pl.take K) (ul.take K) := by
    unfold fndS
    simp only [Int.toNat_natCast]
    rw [hlt]
  rw [hS]
  obtain ⟨r18, hlex⟩ := hsr.fnd pl ul hT (by rw [hlt]) (by rw [hlt])
  rcases hsr.res with h0 | ⟨-, hfd⟩
  · rw [h0] at r18; cases r18
  obtain ⟨nd, hnd⟩ : ∃ nd, lastN (srF p m ml l1 l2 N (N - K) (0, []) (pl.take K) (ul.take K)).1.2 = nd := ⟨_, rfl⟩
  rw [hnd] at hlex hfd
  have hTn := hfd.takes hsh.p2
  have hMn : MonOK p m ml nd.tl nd.sc 0 N := ⟨hsh.p2, hsh.m1, hI, n1, n64, hTn.pll, hTn.sll, hTn.inj, hTn.sc, by have := hsh.m1; omega⟩
  refine ⟨nd, ?_, ?_, ⟨⟨rfl, ?_, ?_, ?_, fun i hi => ?_⟩, mon_mk hc0 hMn hTn.nn, newE_img hc0 k256 hMn, fun piv2 a2 hel2 => ?_, hTn.pll, hTn.sll, hlex⟩⟩
  · unfold fndE
    rw [if_neg (by simp), if_pos r18]
  · unfold fndM
    rw [if_neg (by simp), if_pos r18, hnd]
  · rw [hlt, hTn.pll]; exact hK
  · rw [hlt, hTn.sll]; exact hK
  · rw [hlt, hlu]
  · have e1 : nd.tl.getD i 0 = (nd.tl.take (pl.take K).length).getD i 0 := (take_getD hi).symm
    have e2 : nd.sc.getD i 0 = (nd.sc.take (pl.take K).length).getD i 0 := (take_getD hi).symm
    rw [hfd.t] at e1
    rw [hfd.s] at e2
    exact ⟨e1, e2⟩
  · rw [← hl2]
    refine (elO_uniq hsh.p2 hsh.m1 (fun x => ?_) hel2 hel).1
    rw [sol_imL hsh.p2 hsh.m1 x, sol_imL hsh.p2 hsh.m1 x]
    exact (hTn.sol x).symm.trans (hT.sol x)
/-- What Apply hands back for a code and a map. -/
theorem app_ok {p m N fr : Nat} {ml pl ul : List Int} {rows : List (List Int)} {b0 : Nat} {r : Ending} {w' : World} (h : AppR p m ml N rows pl ul fr b0 r w') (ho : CodO p m ml N rows 0) (hmon : monS p m ml N pl ul fr = 0) :
    ∃ (piv : List Nat) (a' : Nat → Nat → Int) (rv v' : Value), r = .returned (.tuple #[.agg #[.int .i64 p, .int .i64 m, v', .int .i64 N, rv], .int .i64 0]) ∧ ElO p m ml N (imL p m ml pl ul fr N rows rows.length).length (rowsF (imL p m ml pl ul fr N rows rows.length)) a' piv ∧ ISl w' v' ml ∧ MSl w' rv (rowsL N piv.length a') := by
  obtain ⟨e1, ho1, h⟩ := h
  obtain rfl := codO_uniq ho1 ho
  have him : imA p m ml pl ul fr N rows = imL p m ml pl ul fr N rows rows.length := by unfold imA; simp
  obtain ⟨p2, m2, N2, f2, j1, j2, j3, j4, hf, hc0, hM⟩ := monOK_of hmon
  obtain rfl : p = p2 := by omega
  obtain rfl : m = m2 := by omega
  obtain rfl : N = N2 := by omega
  obtain rfl : fr = f2 := by omega
  rcases h with ⟨h, _⟩ | ⟨_, h, _⟩ | ⟨_, _, h⟩
  · exact absurd rfl h
  · exact absurd hmon h
  · rw [him] at h
    rcases h with ⟨h, _⟩ | ⟨_, pn, mn, N', piv, a', rv, v', e1, e2, e3, _, _, hr, hel, hv, hrv, _⟩
    · exact absurd (newE_img hc0 (codO_rows ho).1 hM) h
    · obtain rfl : p = pn := by omega
      obtain rfl : m = mn := by omega
      obtain rfl : N = N' := by omega
      exact ⟨piv, a', rv, v', hr, hel, hv, hrv⟩
end Go.Proofs.YtgdmlmhpineibaaGreat
namespace Go.Proofs.YtgdmlmhpineibaaGreat
set_option linter.unusedVariables false
set_option linter.unusedSimpArgs false
open Go.RowKit

theorem ordS_rng (p m : Int) : 0 ≤ ordS p m ∧ ordS p m ≤ 256 := by
  unfold ordS
  split
  · rename_i h
    have : 0 ≤ p ^ m.toNat := Int.pow_nonneg (by omega)
    exact ⟨this, h.2.2.2⟩
  · omega
theorem smK_le {N q i k : Nat} (h : i ≤ k) : (smK N q i).2 ≤ (smK N q k).2 := by
  induction k with
  | zero => obtain rfl : i = 0 := by omega
            exact Nat.le_refl _
  | succ k ih =>
    by_cases e : i = k + 1
    · rw [e]; exact Nat.le_refl _
    · refine Nat.le_trans (ih (by omega)) ?_
      show _ ≤ (smK N q k).2 + _
      omega
theorem smK_fst {N q : Nat} : ∀ i, (smK N q i).1 ≤ (smK N q i).2
  | 0 => Nat.le_refl _
  | i + 1 => by
    show (smK N q i).1 * ((N - i) * max 1 (q - 1)) ≤ (smK N q i).2 + (smK N q i).1 * ((N - i) * max 1 (q - 1))
    omega
set_option maxRecDepth 100000 in
set_option maxHeartbeats 4000000 in
theorem rSmall_any (w : World) (c : CdV) (m1 v1 : Value) (hc : c.at w m1 v1) :
    Calls Tryz.prog 28 #[c.arg m1 v1] w fun r w' => BolR (SmlP c.n (ordS c.p c.m).toNat) r ∧ Ex w w' := by
  obtain ⟨c0, c1, c2, c3, c4⟩ := boxC5 w c m1 v1
  have HX := hid_ (e_al w (c.obj m1 v1))
  have HOR := hid_ (fun w' => rOrder_any c.p c.m m1 w')
  obtain ⟨x1, y1, rfl, -, z1, -⟩ := hc.g.open
  obtain ⟨x3, y3, rfl, -, z3, -⟩ := hc.m.open
  obtain ⟨p, m, ml, n, rows⟩ := c
  obtain ⟨B, hB⟩ : ∃ B, w.heap.size = B := ⟨_, rfl⟩
  rw [hB] at c0 c1 c2 c3 c4
  dsimp only [CdV.arg, CdV.obj] at *
  obtain ⟨hq1, hq2⟩ := ordS_rng p m
  obtain ⟨Q, hQ⟩ : ∃ Q : Nat, ordS p m = Q := ⟨(ordS p m).toNat, by omega⟩
  rw [hQ] at HOR ⊢
  have hQ2 : Q ≤ 256 := by omega
  rw [Int.toNat_natCast]
  obtain ⟨P, hP⟩ : ∃ P, SmlP n Q = P := ⟨_, rfl⟩
  have HP := hid_ (show P ↔ (n < 1 ∨ 7 < n → n < 1 ∨ 64 < n) ∧ (1 ≤ n → n ≤ 7 → ∀ i, i ≤ n.toNat → (smK n.toNat Q i).2 ≤ 3000) from by rw [← hP]; exact Iff.rfl)
  rw [hP]
  clear hc hP z1 z3 hQ hq1 hq2
  go_enter Tryz.func28, Tryz.ntmps28
  go_upto_region 1 with fail
  try simp only [hB]
  clear hB
  generalize w.alloc (.cells #[.int .i64 p, .int .i64 m, .slice x3 ml.length y3, .int .i64 n, .slice x1 rows.length y1] 47) = w1 at *
  have HALL := hid_ (fun w' (h : Ex w1 w') => (⟨h.cell c0, h.cell c1, h.cell c2, h.cell c3, h.cell c4⟩ : _ ∧ _ ∧ _ ∧ _ ∧ _))
  by_cases h1 : n < 1
  · have k1 : decide (n < 1) = true := decide_eq_true h1
    have HN := hid_ (show P from HP.out.2 ⟨fun _ => .inl h1, fun h => absurd h (by omega)⟩)
    clear h1
    go_wp2_with fail
    go_ret
    exact ⟨bolR_yes HN.out, HX.out⟩
  have k1 : decide (n < 1) = false := decide_eq_false h1
  by_cases h2 : 7 < n
  · have k2 : decide (7 < n) = true := decide_eq_true h2
    by_cases h3 : 64 < n
    · have k3 : decide (64 < n) = true := decide_eq_true h3
      have HN := hid_ (show P from HP.out.2 ⟨fun _ => .inr h3, fun _ h => absurd h (by omega)⟩)
      clear h1 h2 h3
      go_wp2_with fail
      go_ret
      exact ⟨bolR_yes HN.out, HX.out⟩
    · have k3 : decide (64 < n) = false := decide_eq_false h3
      have HN := hid_ (show ¬ P from fun h => by rcases (HP.out.1 h).1 (.inr h2) with h | h <;> omega)
      clear h1 h2 h3
      go_wp2_with fail
      go_ret
      exact ⟨bolR_no HN.out, HX.out⟩
  have k2 : decide (7 < n) = false := decide_eq_false h2
  obtain ⟨N, rfl⟩ : ∃ N : Nat, n = N := ⟨n.toNat, by omega⟩
  have HN17 := hid_ (show 1 ≤ N ∧ N ≤ 7 from ⟨by omega, by omega⟩)
  rw [Int.toNat_natCast] at HP
  clear h1 h2
  go_wp2_with fail
  clear c0 c1 c2 c3 c4
  go_loopw [3, 4, 5] (fun a' b' i' wr => ∃ (i : Nat), i ≤ N ∧ a' = .int .i64 (smK N Q i).1 ∧ b' = .int .i64 (smK N Q i).2 ∧ i' = .int .i64 i ∧ Hid ((smK N Q i).2 ≤ 3000) ∧ Hid (Ex w1 wr)) (fun a' b' i' _ => N - (intOf i').toNat)
  case atStart => exact ⟨0, by omega, rfl, rfl, rfl, hid_ (by simp [smK]), hid_ (Ex.refl w1)⟩
  case round =>
    obtain ⟨i, hi, rfl, rfl, rfl, hle, hex⟩ := hrel
    obtain ⟨c0, c1, c2, c3, c4⟩ := HALL.out wr hex.out
    by_cases hlt : i < N
    · have i1 : (0 : Int) ≤ (i : Int) := by omega
      have i2 : (i : Int) < (N : Int) := by omega
      obtain ⟨A, hA⟩ : ∃ A, (smK N Q i).1 = A := ⟨_, rfl⟩
      obtain ⟨S, hS⟩ : ∃ S, (smK N Q i).2 = S := ⟨_, rfl⟩
      have HA := hid_ hA
      have HS := hid_ hS
      have hfs := smK_fst (N := N) (q := Q) i
      have hS3 := hle.out
      rw [hA, hS] at hfs
      rw [hS] at hS3
      rw [hA, hS]
      obtain ⟨T, hT⟩ : ∃ T : Nat, max 1 (Q - 1) = T := ⟨_, rfl⟩
      have hT1 : 1 ≤ T ∧ T ≤ 255 := by omega
      obtain ⟨D, hD⟩ : ∃ D : Nat, N - i = D := ⟨_, rfl⟩
      have hDi : (N : Int) - (i : Int) = (D : Int) := by omega
      have hD7 : D ≤ 7 := by have := HN17.out; omega
      have hDT : D * T ≤ 1785 := Nat.mul_le_mul hD7 hT1.2
      have hAA : A * (D * T) ≤ 3000 * 1785 := Nat.mul_le_mul (by omega) hDT
      have hmx : (if (1 : Int) < (Q : Int) - 1 then (Q : Int) - 1 else 1) = (T : Int) := by split <;> omega
      have HSU := hid_ (show (smK N Q (i + 1)).1 = A * (D * T) ∧ (smK N Q (i + 1)).2 = S + A * (D * T) from by
        rw [← hA, ← hS, ← hD, ← hT]; exact ⟨rfl, rfl⟩)
      obtain ⟨M, hM⟩ : ∃ M : Nat, A * (D * T) = M := ⟨_, rfl⟩
      have hMi : (A : Int) * ((D : Int) * (T : Int)) = (M : Int) := by rw [← hM]; push_cast; rfl
      rw [hM] at HSU hAA
      have HOR2 := hid_ (fun w' (h : Ex wr w') => HOR.out w')
      have HAL := hid_ (fun w' (h : Ex wr w') => HALL.out w' (hex.out.trans h))
      clear hA hS hT hD hfs
      have W1 := hid_ (show IntKind.i64.wrap (D : Int) = (D : Int) from IntWalk.i64_in _ (by omega))
      have W2 := hid_ (show IntKind.i64.wrap ((Q : Int) - 1) = (Q : Int) - 1 from IntWalk.i64_in _ (by omega))
      have hDTn : (D : Int) * (T : Int) = ((D * T : Nat) : Int) := by push_cast; rfl
      have W3 := hid_ (show IntKind.i64.wrap ((D : Int) * (T : Int)) = (D : Int) * (T : Int) from IntWalk.i64_in _ (by rw [hDTn]; omega))
      have W4 := hid_ (show IntKind.i64.wrap ((A : Int) * ((D : Int) * (T : Int))) = (M : Int) from by rw [hMi]; exact IntWalk.i64_in _ (by omega))
      have HB := hid_ (show S ≤ 3000 ∧ M ≤ 3000 * 1785 from ⟨hS3, hAA⟩)
      clear hMi hDTn hM hAA hDT
      go_upto_region 7 with fail
      go_cut [3] from 28 to 39 (fun a wx => a = .int .i64 (M : Int) ∧ Hid (Ex wr wx))
      case first =>
        have y1 := W1.out
        have y2 := W2.out
        have y3 := W3.out
        have y4 := W4.out
        go_region_law ((go_simp; refine (HOR2.out _ (by repeat (first | exact Ex.refl _ | apply Ex.drew))).mono ?_; rintro e w5 ⟨rfl, hx5⟩; have HX5 := hid_ (Ex.trans (show Ex wr _ by repeat (first | exact Ex.refl _ | apply Ex.drew)) hx5); have z0 := (HAL.out w5 HX5.out).1; have z3 := (HAL.out w5 HX5.out).2.2.2.1; go_simp))
        all_goals go_wp2_with fail
        all_goals go_meet
        all_goals exact ⟨by rfl, hid_ (by repeat (first | exact HX5.out | apply Ex.drew))⟩
      case rest =>
        obtain ⟨rfl, hxc⟩ := hcut
        obtain ⟨hS3, hAA⟩ := HB.out
        have hi7 : i ≤ 7 := by have := HN17.out; omega
        clear c0 c1 c2 c3 c4
        by_cases h5 : 3000 < S + M
        · have k5 : decide ((3000 : Int) < (S : Int) + (M : Int)) = true := decide_eq_true (by omega)
          have j5 : (3000 : Int) < (S : Int) + (M : Int) := by omega
          have HN := hid_ (show ¬ P from fun h => by
            have := (HP.out.1 h).2 (by have := HN17.out; omega) (by have := HN17.out; omega) (i + 1) (by omega)
            rw [HSU.out.2] at this; omega)
          clear h5
          go_wp2_with fail
          go_ret
          exact ⟨bolR_no HN.out, HX.out.trans (hex.out.trans hxc.out)⟩
        · have k5 : decide ((3000 : Int) < (S : Int) + (M : Int)) = false := decide_eq_false (by omega)
          have j5 : ¬ (3000 : Int) < (S : Int) + (M : Int) := by omega
          have HL := hid_ (show (smK N Q (i + 1)).2 ≤ 3000 from by rw [HSU.out.2]; omega)
          clear h5
          go_wp2_with fail
          go_roundw
          case rel => exact ⟨i + 1, by omega, by rw [HSU.out.1], by rw [HSU.out.2]; go_num, by go_num, HL, hid_ (hex.out.trans hxc.out)⟩
          case measure => simp [intOf]; omega
    · obtain rfl : i = N := by omega
      have HN := hid_ (show P from HP.out.2 ⟨fun h => by have := HN17.out; omega, fun _ _ k hk => Nat.le_trans (smK_le hk) hle.out⟩)
      go_wp2_with fail
      go_ret
      exact ⟨bolR_yes HN.out, HX.out.trans hex.out⟩
end Go.Proofs.YtgdmlmhpineibaaGreat
