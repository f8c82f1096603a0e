/- Walk of peel.Girth. -/
import Derived.Test.YtpphaicbdeeacaaPeelJ
namespace Go.Proofs.Ytpphaicbdeeacaa
set_option linter.unusedVariables false
set_option linter.unusedSimpArgs false
open Go.RowKit

/-- The neighbours of all vertices, as a list of lists. -/
def nbM (N : Nat) (rows : List (List Int)) : List (List Int) := (List.range (N + rows.length)).map (nbAll N rows)
def nbL (N : Nat) (rows : List (List Int)) (i : Nat) : List Int := (nbM N rows).getD i []
theorem nbM_get {N : Nat} {rows : List (List Int)} {i : Nat} (h : i < N + rows.length) : (nbM N rows)[i]? = some (nbAll N rows i) := by simp [nbM, h]
theorem nbL_eq {N : Nat} {rows : List (List Int)} {i : Nat} (h : i < N + rows.length) : nbL N rows i = nbAll N rows i := by
  unfold nbL; rw [List.getD_eq_getElem?_getD, nbM_get h]; rfl

theorem Rows_.msl {w : World} {base g n : Nat} {c : Nat → Value} {L : Nat → List Int} (h : Rows_ w base g n c L) : MSl w (.slice (some ⟨g, 0, none⟩) n n) ((List.range n).map L) := by
  refine ⟨vs n c, ?_, fun i r u hr hu => ?_⟩
  · have := h.arr.sl
    simpa using this
  · have hi : i < n := by
      have := (List.getElem?_eq_some_iff.1 hr).1
      simpa using this
    have h1 : r = L i := by simp [hi] at hr; exact hr.symm
    have h2 : u = c i := by rw [vs_get hi] at hu; injection hu with hu; exact hu.symm
    subst h1 h2
    exact Sl.own (h.row i hi)

theorem addE_in {N j M : Nat} {L : Nat → List Int} {X : Nat} (hX : X < N) (hj : N + j < M) (h : ∀ i x, x ∈ L i → 0 ≤ x ∧ x < M) (i : Nat) (x : Int) (hx : x ∈ addE N j L X i) : 0 ≤ x ∧ x < M := by
  unfold addE at hx
  unfold upd at hx
  split at hx
  · rename_i e
    rw [List.mem_append] at hx
    rcases hx with hx | hx
    · split at hx
      · rw [List.mem_append] at hx
        rcases hx with hx | hx
        · exact h _ _ hx
        · simp at hx; omega
      · exact h _ _ hx
    · simp at hx; omega
  · split at hx
    · rw [List.mem_append] at hx
      rcases hx with hx | hx
      · exact h _ _ hx
      · simp at hx; omega
    · exact h _ _ hx
theorem nbRow_in {N j M : Nat} (hj : N + j < M) : ∀ (r : List Int) (L : Nat → List Int), (∀ x ∈ r, 0 ≤ x ∧ x < N) → (∀ i x, x ∈ L i → 0 ≤ x ∧ x < M) → ∀ i x, x ∈ nbRow N j L r i → 0 ≤ x ∧ x < M
  | [], L, _, h, i, x, hx => h i x hx
  | y :: r, L, hr, h, i, x, hx => by
    unfold nbRow at hx
    rw [List.foldl_cons] at hx
    have hy := hr y (List.mem_cons_self ..)
    exact nbRow_in hj r _ (fun z hz => hr z (List.mem_cons_of_mem _ hz)) (addE_in (by omega) hj h) i x hx
theorem nbK_in {N M : Nat} {rows : List (List Int)} (hM : N + rows.length = M) (hr : RowsIn N rows) : ∀ (j : Nat), j ≤ rows.length → ∀ i x, x ∈ nbK N rows j i → 0 ≤ x ∧ x < M
  | 0, _, i, x, hx => by simp [nbK] at hx
  | j + 1, hj, i, x, hx => by
    have hrr : rows[j]? = some (rows[j]'(by omega)) := List.getElem?_eq_getElem (by omega)
    rw [nbK_succ hrr] at hx
    refine nbRow_in (M := M) (by omega) _ _ (fun y hy => ?_) (nbK_in hM hr j (by omega)) i x hx
    obtain ⟨k, hk, e⟩ := List.getElem_of_mem hy
    exact hr j _ k y hrr (by rw [List.getElem?_eq_getElem hk, e])
theorem nbM_rowsIn {N : Nat} {rows : List (List Int)} (hr : RowsIn N rows) : RowsIn (N + rows.length) (nbM N rows) := by
  intro i r k x h1 h2
  have hi : i < N + rows.length := by
    have := (List.getElem?_eq_some_iff.1 h1).1
    simpa [nbM] using this
  rw [nbM_get hi] at h1
  injection h1 with h1
  subst h1
  have := nbK_in (M := N + rows.length) rfl hr rows.length (Nat.le_refl _) i x (by rw [nbK_all]; exact List.mem_of_getElem? h2)
  omega

theorem risAt_lt {n : Int} {l : List Int} {i : Nat} (h : risAt n l i = true) : 0 ≤ l.getD i 0 ∧ l.getD i 0 < n ∧ (0 < i → l.getD (i - 1) 0 < l.getD i 0) := by
  unfold risAt at h; exact of_decide_eq_true h
theorem risB_ge {n : Int} {l : List Int} (h : risB n l = true) : ∀ i, i < l.length → (i : Int) ≤ l.getD i 0
  | 0, hi => by have := risAt_lt (risB_at h hi); omega
  | i + 1, hi => by
    have h1 := risAt_lt (risB_at h hi)
    have h2 := risB_ge h i (by omega)
    have h3 := h1.2.2 (by omega)
    rw [Nat.add_sub_cancel] at h3
    omega
theorem risB_len {N : Nat} {l : List Int} (h : risB N l = true) : l.length ≤ N := by
  rcases Nat.eq_zero_or_pos l.length with h0 | h0
  · omega
  · have h1 := risB_ge h (l.length - 1) (by omega)
    have h2 := risAt_lt (risB_at h (i := l.length - 1) (by omega))
    omega

def gmin (g n : Int) : Int := if 0 < n ∧ (g = 0 ∨ n < g) then n else g
/-- The least length found from the first k variables. -/
inductive GirK (L : Nat → List Int) : Nat → Int → Prop
  | zero : GirK L 0 0
  | succ (k : Nat) (g n : Int) : GirK L k g → Bfs L 0 (bInit k) n → GirK L (k + 1) (gmin g n)
theorem GirK.unique {L : Nat → List Int} : ∀ {k : Nat} {a b : Int}, GirK L k a → GirK L k b → a = b
  | 0, _, _, .zero, .zero => rfl
  | k + 1, _, _, .succ _ g n h1 h2, .succ _ g' n' h3 h4 => by rw [GirK.unique h1 h3, Bfs.unique h2 h4]
def GirOut (V : Int) (rows : List (List Int)) (n : Int) : Prop := (pchkS V rows ≠ 0 → n = 0) ∧ (pchkS V rows = 0 → GirK (nbL V.toNat rows) V.toNat n)

set_option maxRecDepth 100000 in
set_option maxHeartbeats 4000000 in
theorem Girth_any (w : World) (V : Int) (rows : List (List Int)) (v : Value) (hv : MSl w v rows) :
    Calls Try.prog 18 #[.agg #[.int .i64 V, v]] w fun r w' => ∃ n, r = .returned (.tuple #[.int .i64 n, .int .i64 (pchkS V rows)]) ∧ GirOut V rows n ∧ Ex w w' := by
  obtain ⟨d0, d1, e0⟩ := boxT_facts w V v
  have HC := hid_ (pCheck_any _ V rows v (hv.ex e0))
  obtain ⟨za, zc, rfl, z1, z2, z3⟩ := (hv.ex e0).open
  have HV := hid_ hv
  clear hv z1 z2 z3
  by_cases hk : pchkS V rows = 0
  · obtain ⟨N, rfl, hN1, hN2, hrl, hri, hris⟩ := pchkS_ok hk
    have HK := hid_ (show ∀ n, GirK (nbL N rows) N n → GirOut N rows n from fun n h => ⟨fun h' => absurd hk h', fun _ => by simpa using h⟩)
    rw [hk] at HC ⊢
    have HNB := hid_ (fun w' h => neighbors_any w' N rows (.slice za rows.length zc) hN2 hN1 hrl h hri (fun i r hr => Nat.le_trans (risB_len (hris r (List.mem_of_getElem? hr))) hN2))
    have HAR := hid_ (fun w' fr v (h1 : MSl w' v (nbM N rows)) (h2 : fr < N) => around_any w' (N + rows.length) fr v (nbM N rows) h1 (by simp [nbM]) (by omega) (by omega) (nbM_rowsIn hri))
    clear hk hri hris
    obtain ⟨xb, hxb⟩ : ∃ xb, w.heap.size = xb := ⟨_, rfl⟩
    rw [hxb] at d0 d1
    go_enter Try.func18, Try.ntmps18
    go_wp2_with fail
    try simp only [hxb]
    clear hxb
    generalize w.alloc (.cells #[.int .i64 N, .slice za rows.length zc] 31) = w1 at *
    refine HC.out.mono ?_
    rintro e w2 ⟨rfl, hx2⟩
    have r0 := hx2.cell d0
    have r1 := hx2.cell d1
    have HX := hid_ (e0.trans hx2)
    clear hx2 d0 d1 e0
    go_wp2_with fail
    refine (HNB.out _ (HV.out.ex HX.out)).mono ?_
    rintro e w3 ⟨g, c, rfl, hrows, hx3⟩
    have HMS := hid_ (show MSl w3 (.slice (some ⟨g, 0, none⟩) (N + rows.length) (N + rows.length)) (nbM N rows) from hrows.msl)
    have s0 := hx3.cell r0
    have s1 := hx3.cell r1
    have HX3 := hid_ (HX.out.trans hx3)
    obtain ⟨M, hM⟩ : ∃ M, N + rows.length = M := ⟨_, rfl⟩
    have hMN : N ≤ M := by omega
    have hM3 : M ≤ 320 := by omega
    rw [hM] at HMS HAR
    simp only [hM]
    clear hrows hx3 r0 r1 HX hM
    have EX3 : Ex w3 w3 := Ex.refl _
    go_wp2_with fail
    go_loopw [6, 18] (fun b' k' wr => ∃ (k : Nat) (b : Int), k ≤ N ∧ k' = .int .i64 k ∧ b' = .int .i64 b ∧ 0 ≤ b ∧ b ≤ 1000 ∧ Hid (GirK (nbL N rows) k b) ∧ Ex w3 wr) (fun _ k' _ => N - (intOf k').toNat)
    case atStart => exact ⟨0, 0, by omega, rfl, rfl, by omega, by omega, hid_ .zero, EX3⟩
    case round =>
      clear EX3
      obtain ⟨k, b, hkN, rfl, rfl, hb1, hb2, hgk, hx⟩ := hrel
      by_cases hlt : k < N
      · have HCA := hid_ (HAR.out wr k _ (HMS.out.ex hx) hlt)
        go_wp2_with fail
        refine HCA.out.mono ?_
        rintro e w4 ⟨n, rfl, hn, hn1, hn2, hx4⟩
        have HG := hid_ (GirK.succ k b n hgk.out hn)
        have HX4 := hid_ (hx.trans hx4)
        clear hn hx4 hgk hx HCA
        unfold gmin at HG
        by_cases h0 : 0 < n
        · by_cases h1 : b = 0
          · rw [if_pos ⟨h0, .inl h1⟩] at HG
            have t1 : (b == 0) = true := by simpa using h1
            clear h1
            go_wp2_with fail
            go_roundw
            case rel => exact ⟨k + 1, n, by omega, by go_num, rfl, by omega, by omega, HG, HX4.out⟩
            case measure => simp [intOf]; omega
          · have t1 : (b == 0) = false := by simpa using h1
            by_cases h2 : n < b
            · rw [if_pos ⟨h0, .inr h2⟩] at HG
              clear h1
              go_wp2_with fail
              go_roundw
              case rel => exact ⟨k + 1, n, by omega, by go_num, rfl, by omega, by omega, HG, HX4.out⟩
              case measure => simp [intOf]; omega
            · rw [if_neg (fun h => h.2.elim h1 h2)] at HG
              have h2' : b ≤ n := by omega
              clear h1 h2
              go_wp2_with fail
              go_roundw
              case rel => exact ⟨k + 1, b, by omega, by go_num, rfl, by omega, by omega, HG, HX4.out⟩
              case measure => simp [intOf]; omega
        · rw [if_neg (fun h => h0 h.1)] at HG
          have h0' : n ≤ 0 := by omega
          clear h0
          go_wp2_with fail
          go_roundw
          case rel => exact ⟨k + 1, b, by omega, by go_num, rfl, by omega, by omega, HG, HX4.out⟩
          case measure => simp [intOf]; omega
      · obtain rfl : N = k := by omega
        have HG := hid_ (HK.out b hgk.out)
        clear hgk
        go_wp2_with fail
        go_ret2
        exact ⟨_, rfl, HG.out, HX3.out.trans hx⟩
  · have HG := hid_ (show GirOut V rows 0 from ⟨fun _ => rfl, fun h => absurd h hk⟩)
    have hz := pchkS_rng V rows
    obtain ⟨z, hzz⟩ : ∃ z, pchkS V rows = z := ⟨_, rfl⟩
    rw [hzz] at HC hk hz ⊢
    have hb : (z != 0) = true := by simpa using hk
    clear hzz hk
    go_enter Try.func18, Try.ntmps18
    go_wp2_with fail
    generalize w.alloc (.cells #[.int .i64 V, .slice za rows.length zc] 31) = w1 at *
    refine HC.out.mono ?_
    rintro e w2 ⟨rfl, hx2⟩
    go_wp2_with fail
    go_ret2
    exact ⟨_, rfl, HG.out, e0.trans hx2⟩
end Go.Proofs.Ytpphaicbdeeacaa
