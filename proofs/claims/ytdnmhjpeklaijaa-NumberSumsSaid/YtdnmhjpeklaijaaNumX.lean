/- An append keeps the cells of the old row; number.Divisors. -/
import Derived.Test.YtdnmhjpeklaijaaNumW
import Derived.Test.YtdnmhjpeklaijaaNumY
import Derived.Test.YtdnmhjpeklaijaaShelfS
import Derived.Maps.AppendAt
import Derived.Sort.OwnSortedInts
namespace Go.Proofs.Ytdnmhjpeklaijaa
set_option linter.unusedVariables false
set_option linter.unusedSimpArgs false
open Go.RowKit

section
variable {P : Program} (w : World)
theorem run_append_keep (base : Nat) (t ty e : TypeId) (i : TypeInfo) (z : Value) (size bytes : Nat) (ht : P.underlying t = some (.slice e)) (hi : P.info? e = some i) (hz : i.zero = some z)
    (hsize : i.size = size) (hby : i.bytes = bytes) (hzs : z.cells.size = size) (hsz : 0 < size)
    (v : Value) (n : Nat) (xs : List Value) (hown : w.ownsRow base e size v n xs)
    (a : Addr) (m c : Nat) (news : List Value) (hl : news.length = m * size) (hnews : ∀ j u, news[j]? = some u → w.cell? (a.add j) = some u) (h1 : ∀ u ∈ news, u.oneCell' = true)
    (h63 : n + m ≤ maxLen) (hbytes : (n + m) * bytes ≤ 140737488355328) (hbase : base ≤ w.heap.size) :
    ∃ v' w', (Builtin.append_ #[t, t] ty #[v, .slice (some a) m c]).run P w = .ok v' w' ∧ w'.ownsRow base e size v' (n + m) (xs ++ news) ∧ w.grownBy w' v.ownBlock ∧
      (v'.ownBlock = v.ownBlock ∨ v'.ownBlock = some w.heap.size) ∧ ∀ g, v.ownBlock = some g → ∀ j u, xs[j]? = some u → w'.cell? ⟨g, j, none⟩ = some u := by
  obtain ⟨v', w', hr, h2, h3, h4, h5⟩ := run_append_own_at (P := P) w base t ty e i z size bytes ht hi hz hsize hby hzs hsz v n xs hown a m c news hl hnews h1 h63 hbytes hbase
  refine ⟨v', w', hr, h2, h3, h5, ?_⟩
  intro g hg j u hu
  have hadd : ∀ k : Nat, (⟨g, 0, none⟩ : Addr).add k = ⟨g, k, none⟩ := fun k => by unfold Addr.add; split <;> simp_all
  have hold : w.cell? ⟨g, j, none⟩ = some u := by
    have := hown.cells hg j u hu
    rwa [hadd] at this
  have hlt := (hown.lt g hg).2
  rcases h5 with h5 | h5
  · have hjl : j < xs.length := (List.getElem?_eq_some_iff.1 hu).1
    have := h2.cells (h5.trans hg) j u (by rw [List.getElem?_append_left hjl]; exact hu)
    rwa [hadd] at this
  · rcases hown.2 with ⟨rfl, _⟩ | ⟨g', cap, cur, rfl, hbg, hgg, hnc, hcm, hcs, htake⟩
    · simp [Value.ownBlock] at hg
    · have hgg' : g' = g := by simpa [Value.ownBlock] using hg
      subst hgg'
      subst hsize
      by_cases hroom : n + m ≤ cap
      · have hfit : n * i.size + news.length ≤ cur.size := by rw [hl, hcs, ← Nat.add_mul]; exact Nat.mul_le_mul_right _ hroom
        have hr2 := run_append_room (P := P) w t ty e i ht hi g' n cap cur hgg a m c news hl hnews h1 hroom hfit
        rw [hr] at hr2
        injection hr2 with e1 e2
        subst e1
        simp only [Value.ownBlock, Option.some.injEq] at h5
        omega
      · subst hby
        have hr2 := run_append_grow (P := P) w t ty e i z ht hi hz ⟨g', 0, none⟩ n cap xs hown.1 (hown.cells rfl) a m c news hl hnews (by omega) (by unfold maxLen at h63; omega) (growslice_fits (by omega) hbytes)
        rw [hr] at hr2
        injection hr2 with e1 e2
        subst e2
        rw [World.cell?_alloc_lt _ _ _ (by simpa using hlt)]
        exact hold

theorem wpList_append_keep {ops : Array Oper} {rest : List Oper} {o : Oper} {a : Act} {Q : Exit → Act → World → Prop} (hgd : o.guard = none) (s x : Operand) (t : TypeId)
    (ho : o.op = .call { callee := .builtin .append, args := #[s, x], argTypes := #[t, t] })
    (base : Nat) (e : TypeId) (i : TypeInfo) (z : Value) (size bytes : Nat) (ht : P.underlying t = some (.slice e)) (hi : P.info? e = some i) (hz : i.zero = some z)
    (hsize : i.size = size) (hby : i.bytes = bytes) (hzs : z.cells.size = size) (hsz : 0 < size)
    (v : Value) (n : Nat) (xs : List Value) (hs : a.eval s = v) (hown : w.ownsRow base e size v n xs)
    (ad : Addr) (m c : Nat) (news : List Value) (hx : a.eval x = .slice (some ad) m c) (hl : news.length = m * size) (hnews : ∀ j u, news[j]? = some u → w.cell? (ad.add j) = some u) (h1 : ∀ u ∈ news, u.oneCell' = true)
    (h63 : n + m ≤ maxLen) (hbytes : (n + m) * bytes ≤ 140737488355328) (hbase : base ≤ w.heap.size)
    (h : ∀ v' w', w'.ownsRow base e size v' (n + m) (xs ++ news) → w.grownBy w' v.ownBlock → (v'.ownBlock = v.ownBlock ∨ v'.ownBlock = some w.heap.size) → (∀ g, v.ownBlock = some g → ∀ j u, xs[j]? = some u → w'.cell? ⟨g, j, none⟩ = some u) → wpList P ops Q rest (a.put o.dst v') w') :
    wpList P ops Q (o :: rest) a w := by
  refine wpList_plain hgd fun K hK => ?_
  obtain ⟨v', w', hr, h2, h3, h5, h6⟩ := run_append_keep (P := P) w base t o.type e i z size bytes ht hi hz hsize hby hzs hsz v n xs hown ad m c news hl hnews h1 h63 hbytes hbase
  unfold Oper.wp execOp
  simp only [ho, resolve, invoke, builtin, Sem.run_bind, Sem.run_pure, Result.andThen_ok, List.map_toArray, List.map_cons, List.map_nil, hs, hx, hr]
  exact hK _ _ (h v' w' h2 h3 h5 h6)
end

theorem ownsRow_open {w : World} {base : Nat} {e : TypeId} {size : Nat} {v : Value} {n : Nat} {xs : List Value} (h : w.ownsRow base e size v n xs) (hn : 1 ≤ n) :
    ∃ g cap, v = .slice (some ⟨g, 0, none⟩) n cap ∧ n ≤ cap ∧ cap ≤ maxLen := by
  rcases h.2 with ⟨_, h0⟩ | ⟨g, cap, cur, rfl, _, _, h1, h2, _⟩
  · omega
  · exact ⟨g, cap, rfl, h1, h2⟩

theorem nis_at {L : List Nat} {j d : Nat} (h : L[j]? = some d) : (nis L)[j]? = some (.int .i64 (d : Int)) := by unfold nis; rw [List.getElem?_map, h]; rfl

theorem Divisors_no (n : Int) (w : World) (h : ¬ (1 ≤ n ∧ n ≤ 2147483647)) :
    Calls Try.prog 43 #[.int .i64 n] w fun r w' => r = .returned (.tuple #[.slice none 0 0, .int .i64 6]) ∧ Ex w w' := by
  have c := fun w => Factor_no n w h
  clear h
  go_enter Try.func43, Try.ntmps43
  go_wp2_with (first | (go_at_call 17; refine (c _).mono ?_; rintro e w1 ⟨rfl, hx⟩))
  go_ret2
  exact ⟨rfl, hx⟩

/-- What the sort leaves. -/
theorem sorted_divs {n : Nat} {D : List Nat} (h : AllDivs n D) : ∃ L : List Nat, IsDivs n L ∧ L.length = D.length ∧ nis L = (((D.map fun d : Nat => (d : Int)).mergeSort fun x y => decide (x ≤ y)).map (Value.int .i64)) := by
  obtain ⟨M, hM⟩ : ∃ M, (D.map fun d : Nat => (d : Int)).mergeSort (fun x y => decide (x ≤ y)) = M := ⟨_, rfl⟩
  have hperm : M.Perm (D.map fun d : Nat => (d : Int)) := hM ▸ List.mergeSort_perm _ _
  have hsort : M.Pairwise (fun x y => decide (x ≤ y) = true) := hM ▸ List.pairwise_mergeSort (fun a b c h1 h2 => by simp at *; omega) (fun a b => by simp; omega) _
  have hnn : ∀ m ∈ M, 0 ≤ m := fun m hm => by
    obtain ⟨d, _, rfl⟩ := List.mem_map.1 (hperm.mem_iff.1 hm)
    omega
  refine ⟨M.map Int.toNat, h.sorted ?_ ?_, ?_, ?_⟩
  · have := hperm.map Int.toNat
    rw [List.map_map] at this
    have e : D.map (Int.toNat ∘ fun d : Nat => (d : Int)) = D := by
      rw [List.map_congr_left (g := id) (fun d _ => by simp)]; simp
    rwa [e] at this
  · rw [List.pairwise_map]
    exact hsort.imp fun h => by simp at h; omega
  · rw [List.length_map, hperm.length_eq, List.length_map]
  · rw [hM]
    unfold nis
    rw [List.map_map]
    refine List.map_congr_left fun m hm => ?_
    simp only [Function.comp]
    rw [Int.toNat_of_nonneg (hnn m hm)]

set_option maxRecDepth 100000 in
set_option maxHeartbeats 2000000 in
theorem Divisors_yes (n : Nat) (w : World) (h0 : 1 ≤ n) (h1 : n ≤ 2147483647) :
    Calls Try.prog 43 #[.int .i64 n] w fun r w' => ∃ v L, r = .returned (.tuple #[v, .int .i64 0]) ∧ IsDivs n L ∧ Sl w' v L.length 1 (nis L) ∧ Ex w w' := by
  obtain ⟨ii, hii, hz0, hz1, hz2⟩ := info_parts infoI
  go_enter Try.func43, Try.ntmps43
  go_wp2_with (first | (go_at_call 17; refine (Factor_yes _ _ h0 h1).mono ?_; rintro e w1 ⟨v, rfl, hsl, hx⟩; obtain ⟨sa, cap, rfl, s1, s2, s3⟩ := PSl.open hsl))
  have HF := hid_ (fun k x (h : (facs n)[k]? = some x) => dvs_part h0 h)
  have HG := hid_ (facs_ge n)
  have HE := hid_ (facs_exp h0 h1)
  have HALL := hid_ (dvs_all h0)
  have hlen := facs_len h0 h1
  generalize facs n = l at *
  unfold maxLen at s2
  have S3 := hid_ s3; clear s3 hsl
  have hx0 : Ex w w1 := hx
  clear hx
  obtain ⟨B0, hB0⟩ : ∃ B, w1.heap.size = B := ⟨_, rfl⟩
  have hown0 : (w1.alloc (.cells #[.int .i64 1] 3)).ownsRow B0 3 1 (.slice (some ⟨B0, 0, none⟩) 1 1) 1 (nis [1]) :=
    ⟨rfl, .inr ⟨B0, 1, #[.int .i64 1], rfl, Nat.le_refl _, by rw [← hB0]; exact heap_alloc_new _ _, Nat.le_refl _, by unfold maxLen; omega, rfl, rfl⟩⟩
  have HW := hid_ hB0
  simp only [hB0]
  have hxa : Ex w1 (w1.alloc (.cells #[.int .i64 1] 3)) := (Ex.refl _).alloc _
  generalize w1.alloc (.cells #[.int .i64 1] 3) = w2 at hown0 hxa ⊢
  clear hB0
  go_loopw [6, 24] (fun o' k' wr => ∃ k : Nat, k' = .int .i64 k ∧ k ≤ l.length ∧ wr.ownsRow B0 3 1 o' (dvs (l.take k)).length (nis (dvs (l.take k))) ∧ Ex w1 wr) (fun _ k' _ => l.length - (intOf k').toNat)
  case atStart => exact ⟨0, rfl, by omega, hown0, hxa⟩
  case round =>
    clear hown0 hxa
    obtain ⟨k, rfl, hk, hown, hx⟩ := hrel
    by_cases hlt : k < l.length
    · obtain ⟨x, hxk⟩ : ∃ x, l[k]? = some x := ⟨_, List.getElem?_eq_getElem hlt⟩
      obtain ⟨b, o, rfl, hc⟩ := S3.out (by omega)
      obtain ⟨c1, c2⟩ := hc k x hxk
      replace c1 := hx.cell c1
      replace c2 := hx.cell c2
      have hmem := List.mem_of_getElem? hxk
      obtain ⟨g1, g2, g3⟩ := HG.out x hmem
      have g4 := HE.out x hmem
      obtain ⟨p1, p2, p3, p4⟩ := HF.out k x hxk
      have P2 := hid_ p2
      have P3 := hid_ p3
      have HST := hid_ (show dvs (l.take (k + 1)) = dvE (dvs (l.take k)) x.1 x.2 by rw [take_snoc_ hxk]; exact dvGo_append _ _ _)
      clear hc hmem hxk p2 p3
      obtain ⟨oa, ocap, ho1, ho2, ho3⟩ := ownsRow_open hown p4
      subst ho1
      unfold maxLen at ho3
      obtain ⟨xb, hxb⟩ : ∃ xb, wr.heap.size = xb := ⟨_, rfl⟩
      have hnb : Value.ownBlock (.slice (some ⟨oa, 0, none⟩) (dvs (l.take k)).length ocap) ≠ some xb := by
        intro h; have := (hown.lt _ h).2; omega
      have HNB := hid_ hnb
      clear hnb
      have d0 : (wr.alloc (.cells #[.int .i64 x.1, .int .i64 x.2] 29)).cell? ⟨xb, 0, none⟩ = some (.int .i64 x.1) := by rw [← hxb]; simp
      have d1 : (wr.alloc (.cells #[.int .i64 x.1, .int .i64 x.2] 29)).cell? ⟨xb, 1, none⟩ = some (.int .i64 x.2) := by rw [← hxb]; simp
      have d2 : xb < (wr.alloc (.cells #[.int .i64 x.1, .int .i64 x.2] 29)).heap.size := by rw [← hxb]; simp
      have hown2 := hown.alloc (.cells #[.int .i64 x.1, .int .i64 x.2] 29)
      have hx2 := hx.alloc (.cells #[.int .i64 x.1, .int .i64 x.2] 29)
      generalize dvs (l.take k) = D at *
      go_wp2_with fail
      try simp only [hxb]
      generalize wr.alloc (.cells #[.int .i64 x.1, .int .i64 x.2] 29) = w3 at d0 d1 d2 hown2 hx2 ⊢
      clear hown hx c1 c2 hxb
      go_loopw [6, 10, 32] (fun o' p' e' wy => ∃ e : Nat, p' = .int .i64 ((x.1 ^ e : Nat) : Int) ∧ e' = .int .i64 e ∧ e ≤ x.2 ∧ wy.ownsRow B0 3 1 o' (dvE D x.1 e).length (nis (dvE D x.1 e)) ∧ wy.cell? ⟨xb, 0, none⟩ = some (.int .i64 x.1) ∧ Hid (o'.ownBlock ≠ some xb) ∧ xb < wy.heap.size ∧ Ex w1 wy) (fun _ _ e' _ => x.2 - (intOf e').toNat)
      case atStart => exact ⟨0, by simp, rfl, by omega, hown2, d0, HNB, d2, hx2⟩
      case round =>
        clear hown2 d0 d1 HNB d2 hx2
        obtain ⟨e, rfl, rfl, he, hown, d0, HNB, d2, hx⟩ := hrel
        by_cases hlt2 : e < x.2
        · obtain ⟨q1, q2⟩ := P3.out (e + 1) (by omega)
          have hL := dvE_len D x.1 e
          have hq0 : x.1 ^ (e + 1) = x.1 ^ e * x.1 := Nat.pow_succ ..
          obtain ⟨oa, ocap, ho1, ho2, ho3⟩ := ownsRow_open hown (by rw [hL]; exact Nat.mul_pos p4 (by omega))
          subst ho1
          unfold maxLen at ho3
          have hDl : D.length ≤ (dvE D x.1 e).length := by rw [hL]; exact Nat.le_mul_of_pos_right _ (by omega)
          have hDc : D.length ≤ ocap := by omega
          have hLn : (dvE D x.1 e).length + D.length ≤ n := by rw [hL]; rw [Nat.mul_succ] at q1; exact q1
          have HSTE := hid_ (show dvE D x.1 (e + 1) = dvE D x.1 e ++ D.map (· * x.1 ^ (e + 1)) from rfl)
          have HPRE := hid_ (dvE_pre D x.1 e)
          have HQ0 := hid_ hq0
          clear hL
          generalize dvE D x.1 e = E at *
          have hpp : (((x.1 ^ e : Nat) : Int)) * (x.1 : Int) = ((x.1 ^ (e + 1) : Nat) : Int) := by rw [hq0]; simp
          obtain ⟨q, hq⟩ : ∃ q, x.1 ^ (e + 1) = q := ⟨_, rfl⟩
          have HQ := hid_ hq
          rw [hq] at hpp q2 HSTE HQ0
          clear hq
          generalize x.1 ^ e = r at *
          clear hq0
          go_wp2_with fail
          have hsnap : ∀ (i d : Nat), D[i]? = some d → wr.cell? ⟨oa, i, none⟩ = some (.int .i64 (d : Int)) := by
            intro i d hd
            obtain ⟨R, hR⟩ := HPRE.out
            have h1 : E[i]? = some d := by rw [hR, List.getElem?_append_left (List.getElem?_eq_some_iff.1 hd).1]; exact hd
            have h2 := hown.cells rfl i _ (nis_at h1)
            have hadd : (⟨oa, 0, none⟩ : Addr).add i = ⟨oa, i, none⟩ := by unfold Addr.add; split <;> simp_all
            rwa [hadd] at h2
          have HSN := hid_ hsnap
          clear hsnap
          go_loopw [6, 42] (fun o' j' wz => ∃ j : Nat, j' = .int .i64 j ∧ j ≤ D.length ∧ wz.ownsRow B0 3 1 o' (E ++ (D.take j).map (· * q)).length (nis (E ++ (D.take j).map (· * q))) ∧ Hid (∀ (i d : Nat), D[i]? = some d → wz.cell? ⟨oa, i, none⟩ = some (.int .i64 (d : Int))) ∧ wz.cell? ⟨xb, 0, none⟩ = some (.int .i64 x.1) ∧ Hid (o'.ownBlock ≠ some xb) ∧ xb < wz.heap.size ∧ Ex w1 wz) (fun _ j' _ => D.length - (intOf j').toNat)
          case atStart => exact ⟨0, rfl, by omega, by simpa using hown, HSN, d0, HNB, d2, hx⟩
          case round =>
            clear hown HSN d0 HNB d2 hx
            obtain ⟨j, rfl, hj, hown, HSN, d0, HNB, d2, hx⟩ := hrel
            by_cases hlt3 : j < D.length
            · obtain ⟨d, hd⟩ : ∃ d, D[j]? = some d := ⟨_, List.getElem?_eq_getElem hlt3⟩
              have c1 := HSN.out j d hd
              obtain ⟨_, dq⟩ := P2.out d (List.mem_of_getElem? hd) (e + 1) (by omega)
              rw [HQ.out] at dq
              have hdq : (d : Int) * (q : Int) = ((d * q : Nat) : Int) := by simp
              have m1 : 0 ≤ (d : Int) * (q : Int) := by omega
              have m2 : (d : Int) * (q : Int) ≤ 2147483647 := by omega
              have HDQ := hid_ hdq
              have HST3 := hid_ (show E ++ (D.take (j + 1)).map (· * q) = (E ++ (D.take j).map (· * q)) ++ [d * q] by rw [take_snoc_ hd]; simp)
              have hXl : (E ++ (D.take j).map (· * q)).length ≤ n := by rw [List.length_append, List.length_map, List.length_take]; omega
              have HXP := hid_ (show ∀ (i d : Nat), D[i]? = some d → (E ++ (D.take j).map (· * q))[i]? = some d by
                intro i d hd
                obtain ⟨R, hR⟩ := HPRE.out
                have hi := (List.getElem?_eq_some_iff.1 hd).1
                rw [hR, List.append_assoc, List.getElem?_append_left hi]; exact hd)
              clear hdq hd
              generalize E ++ (D.take j).map (· * q) = X at *
              go_wp2_with (at_builtin; refine wpList_append_keep _ rfl _ _ 36 rfl B0 3 ii (.int .i64 0) 1 8 Try.underlying36 hii hz0 hz1 hz2 rfl (by decide) _ _ _ rfl (hown.alloc _) ⟨wr.heap.size, 0, none⟩ 1 1 [.int .i64 ((d : Int) * (q : Int))] rfl rfl ?c1 ?c2 ?c3 ?c4 ?c5 ?_)
              case c3 => unfold maxLen; omega
              case c4 => omega
              case c2 => simp [Value.oneCell']
              case c1 => exact cell_one_new _ _ _
              case c5 => have h8 := hx.size; rw [HW.out] at h8; exact Nat.le_trans h8 (by simp)
              intro v' w4 hown4 hg4 hat4 hk4
              have hx5 : Ex w1 w4 := Ex.grown (hx.alloc _) (hown.alloc _) (by rw [HW.out]; exact Nat.le_refl _) hg4
              have hown5 : w4.ownsRow B0 3 1 v' (X ++ [d * q]).length (nis (X ++ [d * q])) := by
                have e2 : nis (X ++ [d * q]) = nis X ++ [.int .i64 ((d : Int) * (q : Int))] := by simp [nis]
                rw [e2, List.length_append]; exact hown4
              have hcar : ∀ {ad : Addr} {u : Value}, wr.cell? ad = some u → some ad.block ≠ Value.ownBlock u6 → w4.cell? ad = some u := fun {ad u} h hne =>
                hg4.cell (by rw [World.cell?_alloc_lt _ _ _ (World.block_lt_of_cell? _ _ h)]; exact h) hne
              have hsn5 := hid_ (show ∀ (i d : Nat), D[i]? = some d → w4.cell? ⟨oa, i, none⟩ = some (.int .i64 (d : Int)) by
                intro i d hd
                by_cases ho : u6.ownBlock = some oa
                · exact hk4 oa ho i _ (nis_at (HXP.out i d hd))
                · exact hcar (HSN.out i d hd) (fun e => ho e.symm))
              have d05 := hcar d0 (fun e => HNB.out e.symm)
              have hnb5 := hid_ (show v'.ownBlock ≠ some xb by
                rcases hat4 with h | h
                · rw [h]; exact HNB.out
                · rw [h]; intro e; injection e with e; omega)
              have d25 : xb < w4.heap.size := Nat.lt_of_lt_of_le d2 (Nat.le_trans (by simp) hg4.size)
              clear hown4 hg4 hat4 hk4 hcar hown HSN d0 HNB d2 hx c1
              go_wp2_with fail
              go_roundw
              case rel => exact ⟨j + 1, by go_num, by omega, by rw [HST3.out]; exact hown5, hsn5, d05, hnb5, d25, hx5⟩
              case measure => simp [intOf]; omega
            · obtain rfl : j = D.length := by omega
              rw [List.take_length, ← HSTE.out] at hown
              go_wp2_with fail
              go_roundw
              case rel => exact ⟨e + 1, by rw [HQ.out], by go_num, by omega, hown, d0, HNB, d2, hx⟩
              case measure => simp [intOf]; omega
        · obtain rfl : e = x.2 := by omega
          rw [← HST.out] at hown
          go_wp2_with fail
          go_roundw
          case rel => exact ⟨k + 1, by go_num, by omega, hown, hx⟩
          case measure => simp [intOf]; omega
    · obtain rfl : k = l.length := by omega
      rw [List.take_length] at hown
      have hD := HALL.out
      have hD1 : 1 ≤ (dvs l).length := List.length_pos_of_mem ((hD.2 1).2 (Nat.one_dvd _))
      obtain ⟨L, hL1, hL2, hL3⟩ := sorted_divs hD
      have hLn : L.length ≤ n := isDivs_len h0 hL1
      have HL1 := hid_ hL1
      have HL3 := hid_ hL3
      clear hD HALL hL1 hL3
      generalize dvs l = D at *
      rcases hown.2 with ⟨_, h9⟩ | ⟨g, ocap, cur, hv, k1, k2, k3, k4, k5, k6⟩
      · omega
      · subst hv
        have hz : (D.map fun d : Nat => (d : Int)).length = D.length := List.length_map _
        have hS := Try.slices_Sort_int g 0 ocap (D.map fun d : Nat => (d : Int)) wr (holds_of_blockI k2 (by rw [hz]; rw [Nat.mul_one] at k6; rw [k6]; unfold nis; rw [List.map_map]; rfl)) (Array.getElem?_eq_some_iff.1 k2).1 (by rw [hz]; omega)
        have hR := fun (n' : Nat) (os : Array Obj) => ownsRow_sortedI (n := n') (os := os) (ss := D.map fun d : Nat => (d : Int)) (ts := (D.map fun d : Nat => (d : Int)).mergeSort fun x y => decide (x ≤ y)) (List.length_mergeSort _) k1 k2 (by rw [hz]; exact k3) k4 k5
        rw [hz] at hS hR
        rw [← HL3.out] at hR
        have HR := hid_ hR
        have hX := fun (n' : Nat) (os : Array Obj) => Ex.grown hx hown (by rw [HW.out]; exact Nat.le_refl _) (grownBy_sortedI (w := wr) (g := g) (n := n') (os := os) ((D.map fun d : Nat => (d : Int)).mergeSort fun x y => decide (x ≤ y)).toArray)
        have HX := hid_ hX
        have HS := hid_ hS
        clear hR hX hS k2 k5 k6 hz
        go_wp2_with fail
        refine HS.out.mono ?_
        rintro e w6 ⟨rfl, n', os, rfl⟩
        have r1 := HR.out n' os
        have r2 := HX.out n' os
        clear HR HX HS
        generalize Go.Sort.grow _ _ = w7 at *
        go_wp2_with fail
        go_ret2
        rw [← hL2] at r1 ⊢
        exact ⟨_, L, rfl, HL1.out, Sl.own r1, hx0.trans r2⟩
end Go.Proofs.Ytdnmhjpeklaijaa
