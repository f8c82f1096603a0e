/- Chains in memory: levels of three cells; the call's own growing levels. -/
import Derived.Test.YtgfdhclpffakfaaPmL
namespace Go.Proofs.Ytgfdhclpffakfaa
set_option linter.unusedVariables false
set_option linter.unusedSimpArgs false
open Go.RowKit

theorem infoLevel : (Try.prog.info? 74).map (fun i => (i.zero, i.size, i.bytes)) = some (some (.agg #[.int .i64 0, .slice none 0 0, .slice none 0 0]), 3, 56) := by kernel_rfl

/-- The cells of levels. -/
def lvC : List Lv → List (Value × Value) → List Value
  | l :: L, o :: os => .int .i64 l.pt :: o.1 :: o.2 :: lvC L os
  | _, _ => []
theorem lvC_len : ∀ (L : List Lv) (os : List (Value × Value)), os.length = L.length → (lvC L os).length = L.length * 3
  | [], [], _ => rfl
  | l :: L, o :: os, h => by
    have := lvC_len L os (by simpa using h)
    simp only [lvC, List.length_cons]
    omega
  | [], o :: os, h => by simp at h
  | l :: L, [], h => by simp at h
theorem lvC_get : ∀ (L : List Lv) (os : List (Value × Value)) (i : Nat) (l : Lv) (o : Value × Value), L[i]? = some l → os[i]? = some o → (lvC L os)[3 * i]? = some (.int .i64 l.pt) ∧ (lvC L os)[3 * i + 1]? = some o.1 ∧ (lvC L os)[3 * i + 2]? = some o.2
  | l' :: L, o' :: os, 0, l, o, h, k => by
    simp at h k
    subst h k
    exact ⟨rfl, rfl, rfl⟩
  | l' :: L, o' :: os, i + 1, l, o, h, k => by
    have := lvC_get L os i l o (by simpa using h) (by simpa using k)
    rw [show 3 * (i + 1) = 3 * i + 3 by omega, show 3 * i + 3 + 1 = 3 * i + 1 + 3 by omega, show 3 * i + 3 + 2 = 3 * i + 2 + 3 by omega]
    simpa [lvC] using this
  | [], os, i, l, o, h, k => by simp at h
  | l' :: L, [], i, l, o, h, k => by simp at k
theorem lvC_app : ∀ (L : List Lv) (os : List (Value × Value)) (l : Lv) (o : Value × Value), os.length = L.length → lvC (L ++ [l]) (os ++ [o]) = lvC L os ++ [.int .i64 l.pt, o.1, o.2]
  | [], [], l, o, _ => rfl
  | l' :: L, o' :: os, l, o, h => by
    have := lvC_app L os l o (by simpa using h)
    simp only [List.cons_append, lvC, this]
  | [], o' :: os, l, o, h => by simp at h
  | l' :: L, [], l, o, h => by simp at h
/-- A slice of levels that reads as a list. -/
def LSl (w : World) (v : Value) (L : List Lv) : Prop := ∃ os : List (Value × Value), os.length = L.length ∧ Sl w v L.length 3 (lvC L os) ∧ ∀ (i : Nat) (l : Lv) (o : Value × Value), L[i]? = some l → os[i]? = some o → ISl w o.1 l.orb ∧ MSl w o.2 l.reps
theorem LSl.ex {w w' : World} {v : Value} {L : List Lv} (h : LSl w v L) (hx : Ex w w') : LSl w' v L := by
  obtain ⟨os, h1, h2, h3⟩ := h
  exact ⟨os, h1, h2.ex hx, fun i l o a b => ⟨(h3 i l o a b).1.ex hx, (h3 i l o a b).2.ex hx⟩⟩
theorem LSl.nil (w : World) : LSl w (.slice none 0 0) [] := ⟨[], rfl, Sl.nil w 3, fun i l o h => by simp at h⟩
theorem LSl.open {w : World} {v : Value} {L : List Lv} (h : LSl w v L) : ∃ a cap, v = .slice a L.length cap ∧ L.length ≤ cap ∧ cap ≤ maxLen ∧
    (0 < L.length → ∃ b o, a = some ⟨b, o, none⟩ ∧ ∀ (i : Nat) (l : Lv), L[i]? = some l → ∃ u r, w.cell? ⟨b, o + 3 * i, none⟩ = some (.int .i64 l.pt) ∧ w.cell? ⟨b, o + (3 * i + 1), none⟩ = some u ∧ w.cell? ⟨b, o + (3 * i + 2), none⟩ = some r ∧ ISl w u l.orb ∧ MSl w r l.reps) := by
  obtain ⟨os, h1, ⟨h2, a, cap, h3, h4, h5, h6⟩, h7⟩ := h
  refine ⟨a, cap, h3, h4, h5, fun hn => ?_⟩
  obtain ⟨b, o, h8, h9⟩ := h6 hn
  refine ⟨b, o, h8, fun i l hl => ?_⟩
  have hi := (List.getElem?_eq_some_iff.1 hl).1
  have ho : os[i]? = some (os[i]'(by omega)) := List.getElem?_eq_getElem _
  obtain ⟨g1, g2, g3⟩ := lvC_get L os i l _ hl ho
  obtain ⟨k1, k2⟩ := h7 i l _ hl ho
  exact ⟨_, _, h9 _ _ g1, h9 _ _ g2, h9 _ _ g3, k1, k2⟩

theorem Mx.cons {mb mb' : List Nat} {w w' : World} (h : Mx mb mb' w w') (q : Nat) : Mx (q :: mb) (q :: mb') w w' :=
  ⟨h.os, h.tape, h.output, h.size, fun i hi hn => h.block i hi (fun hm => hn (List.mem_cons_of_mem _ hm)), fun B hB => by
    rcases List.mem_cons.1 hB with e | e
    · exact .inl (by rw [e]; exact List.mem_cons_self ..)
    · rcases h.mb B e with k | k
      · exact .inl (List.mem_cons_of_mem _ k)
      · exact .inr k⟩
/-- A slice of ints off some blocks. -/
structure SI (w : World) (mb : List Nat) (v : Value) (l : List Int) : Prop where
  sl : ISl w v l
  off : 0 < l.length → ∀ B, v.ownBlock = some B → B ∉ mb ∧ B < w.heap.size
theorem Sl.mx {mb mb' : List Nat} {w w' : World} (hx : Mx mb mb' w w') {v : Value} {n size : Nat} {xs : List Value} (h : Sl w v n size xs) (ho : 0 < n → ∀ B, v.ownBlock = some B → B ∉ mb) : Sl w' v n size xs := by
  obtain ⟨h1, a, cap, rfl, h3, h4, h5⟩ := h
  refine ⟨h1, a, cap, rfl, h3, h4, fun hn => ?_⟩
  obtain ⟨b, o, rfl, h6⟩ := h5 hn
  exact ⟨b, o, rfl, fun j u hu => hx.cell (h6 j u hu) (ho hn b rfl)⟩
theorem SI.mx {mb mb' : List Nat} {w w' : World} {v : Value} {l : List Int} (h : SI w mb v l) (hx : Mx mb mb' w w') : SI w' mb' v l :=
  ⟨Sl.mx hx h.sl fun hn B e => (h.off hn B e).1, fun hn B e => by
    obtain ⟨h1, h2⟩ := h.off hn B e
    exact ⟨fun hb => by
      rcases hx.mb B hb with h3 | h3
      · exact h1 h3
      · omega, Nat.lt_of_lt_of_le h2 hx.size⟩⟩
/-- A slice of slices off some blocks. -/
structure SM (w : World) (mb : List Nat) (v : Value) (rows : List (List Int)) (vals : List Value) : Prop where
  sl : Sl w v rows.length 1 vals
  off : 0 < rows.length → ∀ B, v.ownBlock = some B → B ∉ mb ∧ B < w.heap.size
  row : ∀ (i : Nat) (r : List Int) (u : Value), rows[i]? = some r → vals[i]? = some u → SI w mb u r
theorem SM.mx {mb mb' : List Nat} {w w' : World} {v : Value} {rows : List (List Int)} {vals : List Value} (h : SM w mb v rows vals) (hx : Mx mb mb' w w') : SM w' mb' v rows vals :=
  ⟨Sl.mx hx h.sl fun hn B e => (h.off hn B e).1, fun hn B e => by
    obtain ⟨h1, h2⟩ := h.off hn B e
    exact ⟨fun hb => by
      rcases hx.mb B hb with h3 | h3
      · exact h1 h3
      · omega, Nat.lt_of_lt_of_le h2 hx.size⟩, fun i r u a b => (h.row i r u a b).mx hx⟩
theorem SM.msl {w : World} {mb : List Nat} {v : Value} {rows : List (List Int)} {vals : List Value} (h : SM w mb v rows vals) : MSl w v rows := ⟨vals, h.sl, fun i r u a b => (h.row i r u a b).sl⟩
/-- The call's own levels. -/
structure ChM (w : World) (base q : Nat) (mb : List Nat) (lv : Value) (L : List Lv) (os : List (Value × Value)) : Prop where
  own : w.ownsRow base 74 3 lv L.length (lvC L os)
  len : os.length = L.length
  lev : ∀ (i : Nat) (l : Lv) (o : Value × Value), L[i]? = some l → os[i]? = some o → SI w (q :: mb) o.1 l.orb ∧ ∃ vals, SM w (q :: mb) o.2 l.reps vals
  blk : ∀ B, lv.ownBlock = some B → B ∈ mb
theorem ChM.lsl {w : World} {base q : Nat} {mb : List Nat} {lv : Value} {L : List Lv} {os : List (Value × Value)} (h : ChM w base q mb lv L os) : LSl w lv L :=
  ⟨os, h.len, Sl.own h.own, fun i l o a b => ⟨(h.lev i l o a b).1.sl, by obtain ⟨vals, h2⟩ := (h.lev i l o a b).2; exact h2.msl⟩⟩
theorem ChM.ex {w w' : World} {base q : Nat} {mb : List Nat} {lv : Value} {L : List Lv} {os : List (Value × Value)} (h : ChM w base q mb lv L os) (hx : Ex w w') : ChM w' base q mb lv L os :=
  ⟨ownsRow_ex h.own hx, h.len, fun i l o a b => ⟨(h.lev i l o a b).1.mx (Mx.ofEx hx (q :: mb)), by obtain ⟨vals, h2⟩ := (h.lev i l o a b).2; exact ⟨vals, h2.mx (Mx.ofEx hx (q :: mb))⟩⟩, h.blk⟩
theorem ChM.nil (w : World) (base q : Nat) (mb : List Nat) : ChM w base q mb (.slice none 0 0) [] [] :=
  ⟨World.ownsRow_nil _ _ _ _, rfl, fun i l o h => by simp at h, fun B h => by cases h⟩
/-- A change elsewhere among the mutable blocks. -/
theorem ChM.mx {w w' : World} {base q : Nat} {mb mb' : List Nat} {lv : Value} {L : List Lv} {os : List (Value × Value)} (h : ChM w base q mb lv L os) (hx : Mx mb mb' w w') (ho : w'.ownsRow base 74 3 lv L.length (lvC L os)) (hb : ∀ B, lv.ownBlock = some B → B ∈ mb') : ChM w' base q mb' lv L os :=
  ⟨ho, h.len, fun i l o a b => ⟨(h.lev i l o a b).1.mx (hx.cons q), by obtain ⟨vals, h2⟩ := (h.lev i l o a b).2; exact ⟨vals, h2.mx (hx.cons q)⟩⟩, hb⟩
end Go.Proofs.Ytgfdhclpffakfaa
