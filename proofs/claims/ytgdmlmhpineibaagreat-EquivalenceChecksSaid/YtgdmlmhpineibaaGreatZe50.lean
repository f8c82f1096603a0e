/- Walk of codewrightref31.follow, the body (printed by gen_fol.py). -/
import Derived.Test.YtgdmlmhpineibaaGreatZe40
import Derived.Test.YtgdmlmhpineibaaGreatZe49
namespace Go.Proofs.YtgdmlmhpineibaaGreat
set_option linter.unusedVariables false
set_option linter.unusedSimpArgs false
set_option maxRecDepth 100000
set_option maxHeartbeats 8000000
open Go.RowKit
def PSl (w : World) (v : Value) (xs : List (List Int × List Int)) : Prop := ∃ cs : List (Value × Value),cs.length = xs.length ∧ Sl w v xs.length 2 (cs.flatMap fun c => [c.1,c.2]) ∧ ∀ (i : Nat) (x : List Int × List Int) (c : Value × Value),xs[i]? = some x → cs[i]? = some c → ISl w c.1 x.1 ∧ ISl w c.2 x.2
def FolR (o : Option (List Rf)) (res : Ending) (w : World) : Prop := match o with
 | none => ∃ v,res = .returned (.tuple #[v,.bool false])
 | some r => ∃ v,res = .returned (.tuple #[v,.bool true]) ∧ RSl w v r
theorem fm2_get : ∀ (cs : List (Value × Value)) (i : Nat) (c : Value × Value),cs[i]? = some c → (cs.flatMap fun c => [c.1,c.2])[i * 2]? = some c.1 ∧ (cs.flatMap fun c => [c.1,c.2])[i * 2 + 1]? = some c.2
 | [],i,c,h => by cases h
 | d :: cs,0,c,h => by
  have : d = c := Option.some.inj h;subst this;exact ⟨rfl,rfl⟩
 | d :: cs,i + 1,c,h => by
  obtain ⟨h1,h2⟩ := fm2_get cs i c h;rw [List.flatMap_cons,show (i + 1) * 2 = i * 2 + 1 + 1 from by omega];exact ⟨h1,h2⟩
theorem PSl.open {w : World} {v : Value} {xs : List (List Int × List Int)} (h : PSl w v xs) : ∃ a cap,v = .slice a xs.length cap ∧ xs.length ≤ cap ∧ cap ≤ maxLen ∧
  (0 < xs.length → ∃ b o,a = some ⟨b,o,none⟩ ∧ ∀ (i : Nat) (x : List Int × List Int),xs[i]? = some x → ∃ u1 u2,w.cell? ⟨b,o + i * 2,none⟩ = some u1 ∧ w.cell? ⟨b,o + i * 2 + 1,none⟩ = some u2 ∧ ISl w u1 x.1 ∧ ISl w u2 x.2) := by
 obtain ⟨cs,h1,⟨h2,a,cap,h3,h4,h5,h6⟩,h7⟩ := h;refine ⟨a,cap,h3,h4,h5,fun hn => ?_⟩;obtain ⟨b,o,h8,h9⟩ := h6 hn;refine ⟨b,o,h8,fun i x hx => ?_⟩;have hi := (List.getElem?_eq_some_iff.1 hx).1;obtain ⟨c,hc⟩ : ∃ c,cs[i]? = some c := ⟨_,List.getElem?_eq_getElem (by omega)⟩;obtain ⟨g1,g2⟩ := fm2_get cs i c hc;obtain ⟨i1,i2⟩ := h7 i x c hx hc;exact ⟨c.1,c.2,h9 _ _ g1,h9 _ _ g2,i1,i2⟩
theorem FolR.all {o : Option (List Rf)} {res : Ending} {w : World} (h : FolR o res w) : ∃ v,res = .returned (.tuple #[v,.bool o.isSome]) ∧ ∀ r,o = some r → RSl w v r := by
 cases o with
 | none =>
  obtain ⟨v,h1⟩ := h;exact ⟨v,h1,fun r h => by cases h⟩
 | some r =>
  obtain ⟨v,h1,h2⟩ := h;exact ⟨v,h1,fun r' h => by injection h with h;rw [← h];exact h2⟩
theorem foldl_drop (f : List Rf → List Int × List Int → Option (List Rf)) (XS : List (List Int × List Int)) (i : Nat) (s0 : Option (List Rf)) (h : (XS.take i).foldl (fun s x => s.bind fun r => f r x) s0 = none) : XS.foldl (fun s x => s.bind fun r => f r x) s0 = none := by
 rw [← List.take_append_drop i XS,List.foldl_append,h];exact foldl_none f _
theorem RSl.cons {w : World} {v : Value} {e : Rf} {rest : List Rf} (h : RSl w v (e :: rest)) : ∃ b o cap mv,v = .slice (some ⟨b,o,none⟩) (rest.length + 1) cap ∧ cap ≤ maxLen ∧ rest.length + 1 ≤ cap ∧ w.cell? ⟨b,o,none⟩ = some (.int .i64 e.tp) ∧ w.cell? ⟨b,o + 1,none⟩ = some (.int .i64 e.sc) ∧ w.cell? ⟨b,o + 2,none⟩ = some (.int .i64 e.side) ∧ w.cell? ⟨b,o + 3,none⟩ = some mv ∧ ISl w mv e.msg ∧
  RSl w (.slice (some ⟨b,o + 4,none⟩) rest.length (cap - 1)) rest := by
 obtain ⟨mvs,h1,⟨h2,a,cap,h3,h4,h5,h6⟩,h7⟩ := h
 cases mvs with
 | nil => simp at h1
 | cons mv mvs =>
  obtain ⟨b,o,rfl,h9⟩ := h6 (by simp);have c0 := h9 0 (.int .i64 e.tp) rfl;have c1 := h9 1 (.int .i64 e.sc) rfl;have c2 := h9 2 (.int .i64 e.side) rfl;have c3 := h9 3 mv rfl;refine ⟨b,o,cap,mv,h3,h5,by simpa using h4,c0,c1,c2,c3,h7 0 e mv rfl rfl,mvs,by simpa using h1,⟨?_,some ⟨b,o + 4,none⟩,cap - 1,rfl,?_,?_,fun _ => ⟨b,o + 4,rfl,fun i u hu => ?_⟩⟩,fun i e' mv' ha hb => h7 (i + 1) e' mv' ha hb⟩
  ·rw [rfC_len _ _ (by simpa using h1)]
  ·simp at h4;omega
  ·omega
  ·have := h9 (i + 4) u (by show (Rf.cells e mv ++ rfC rest mvs)[i + 4]? = some u;rw [List.getElem?_append_right (by simp [Rf.cells])];simpa [Rf.cells] using hu);rw [show o + 4 + i = o + (i + 4) from by omega];exact this
theorem rFollow_body {p m n : Nat} {ml : List Int} {l1 l2 : List (List Int)} (w : World) (hf : FSh p m ml) (hF : IsF p m (lw ml)) (hn : n ≤ 64) (h1 : ∀ r ∈ l1,r.length = n ∧ entS (p ^ m) r = 0) (h2 : ∀ r ∈ l2,r.length = n ∧ entS (p ^ m) r = 0) (k1 : l1.length ≤ 256) (k2 : l2.length ≤ 256)
  (m1 m2 v1 v2 : Value) (hm1 : ISl w m1 ml) (hv1 : MSl w v1 l1) (hm2 : ISl w m2 ml) (hv2 : MSl w v2 l2) (tl sl : List Int) (tv sv : Value) (ht : ISl w tv tl) (hs : ISl w sv sl) (hsl : sl.length = tl.length) (K : Nat) (hK : tl.length = K) (htn : K ≤ n) (hrg : rngB tl n = true)
  (first : Bool) (hne : first = false → tl ≠ []) (es : List Rf) (ev : Value) (hes : RSl w ev es) (G : List Rf → List Int × List Int → Option (List Rf))
  (hEX : ∀ w',Ex w w' → Calls Tryz.prog 108 #[.agg #[.int .i64 p,.int .i64 m,m1],.int .i64 n,.agg #[tv,sv]] w' fun r w'' => ∃ xv,r = .returned xv ∧ PSl w'' xv (exL (p ^ m) tl sl n) ∧ Ex w' w'')
  (hG : K < n → ∀ x ∈ exL (p ^ m) tl sl n,∀ (w' : World) (r : List Rf) (rv x1 x2 : Value),Ex w w' → RSl w' rv r → ISl w' x1 x.1 → ISl w' x2 x.2 → Calls Tryz.prog 73 #[.agg #[.int .i64 p,.int .i64 m,m1,.int .i64 n,v1],.agg #[.int .i64 p,.int .i64 m,m2,.int .i64 n,v2],.agg #[x1,x2],.bool false,rv] w' fun res w'' => FolR (G r x) res w'' ∧ Ex w' w'') :
  Calls Tryz.prog 73 #[.agg #[.int .i64 p,.int .i64 m,m1,.int .i64 n,v1],.agg #[.int .i64 p,.int .i64 m,m2,.int .i64 n,v2],.agg #[tv,sv],.bool first,ev] w fun r w' => FolR (flRB p m ml l1 l2 n first es tl sl fun rest => (exL (p ^ m) tl sl n).foldl (fun s x => s.bind fun r => G r x) (some rest)) r w' ∧ Ex w w' := by
 obtain ⟨c0,c1,c2,c3,c4,ea⟩ := boxC_facts w p m m1 n v1;obtain ⟨d0,d1,d2,d3,d4,eb⟩ := boxC_facts (w.alloc (.cells #[.int .i64 p,.int .i64 m,m1,.int .i64 n,v1] 47)) p m m2 n v2;have asz : (w.alloc (.cells #[.int .i64 p,.int .i64 m,m1,.int .i64 n,v1] 47)).heap.size = w.heap.size + 1 := by simp
 have bsz : ((w.alloc (.cells #[.int .i64 p,.int .i64 m,m1,.int .i64 n,v1] 47)).alloc (.cells #[.int .i64 p,.int .i64 m,m2,.int .i64 n,v2] 47)).heap.size = w.heap.size + 1 + 1 := by simp
 obtain ⟨b0,b1,ec,-⟩ := boxP_facts ((w.alloc (.cells #[.int .i64 p,.int .i64 m,m1,.int .i64 n,v1] 47)).alloc (.cells #[.int .i64 p,.int .i64 m,m2,.int .i64 n,v2] 47)) tv sv;rw [asz] at d0 d1 d2 d3 d4;rw [bsz] at b0 b1;replace c0 := (eb.trans ec).cell c0;replace c1 := (eb.trans ec).cell c1;replace c2 := (eb.trans ec).cell c2;replace c3 := (eb.trans ec).cell c3;replace c4 := (eb.trans ec).cell c4;replace d0 := ec.cell d0;replace d1 := ec.cell d1;replace d2 := ec.cell d2;replace d3 := ec.cell d3;replace d4 := ec.cell d4;have HX := hid_ (ea.trans (eb.trans ec));have HSH := hid_ (fun (w' : World) (h : Ex w w') (side : Int) (hsd : side = 0 ∨ side = 1) (msg : List Int) (gv : Value) (hg : ISl w' gv msg) => rShows_any w' hf hF hn h1 h2 k1 k2 m1 m2 v1 v2 (hm1.ex h) (hv1.ex h) (hm2.ex h) (hv2.ex h) tl sl tv sv (ht.ex h) (hs.ex h) hsl K hK htn hrg side hsd msg gv hg);have HEX := hid_ hEX;have HG := hid_ hG;have HNE := hid_ hne;have HT := hid_ ht;have HS := hid_ hs;have HSL := hid_ hsl;have HKK := hid_ hK;have HKN := hid_ htn;have HES := hid_ hes;obtain ⟨x1,y1,rfl,-,z1,-⟩ := hv1.open;obtain ⟨x2,y2,rfl,-,z2,-⟩ := hv2.open;obtain ⟨x3,y3,rfl,-,z3,-⟩ := hm1.open;obtain ⟨x4,y4,rfl,-,z4,-⟩ := hm2.open;obtain ⟨ta,tc,rfl,-,t2,t3⟩ := ht.open;obtain ⟨sa,sc,rfl,-,s2,s3⟩ := hs.open;unfold maxLen at t2 s2 z1 z2 z3 z4;obtain ⟨B,hB⟩ : ∃ B,w.heap.size = B := ⟨_,rfl⟩;rw [hB] at c0 c1 c2 c3 c4 d0 d1 d2 d3 d4 b0 b1;rw [hK] at c0 c1 c2 c3 c4 d0 d1 d2 d3 d4 b0 b1 HX HSH HEX HT ⊢;obtain ⟨R,hR⟩ : ∃ R,(flRB p m ml l1 l2 n first es tl sl fun rest => (exL (p ^ m) tl sl n).foldl (fun s x => s.bind fun r => G r x) (some rest)) = R := ⟨_,rfl⟩;rw [hR];have HR := hid_ hR;clear hf hF h1 h2 hm1 hv1 hm2 hv2 ht hs hsl hK htn hrg ea eb ec asz bsz hR hEX hG hne k1 k2
 cases es with
 | nil =>
  obtain ⟨xa,xc,rfl,-⟩ := rsl_open hes;have hr := HR.out;subst hr;clear HR hes t3 s3 HSH HEX HG HNE;go_enter Tryz.func73,Tryz.ntmps73
  go_upto_region 1 with fail
  try simp only [hB]
  clear hB;generalize ((w.alloc (.cells #[.int .i64 p,.int .i64 m,.slice x3 ml.length y3,.int .i64 n,.slice x1 l1.length y1] 47)).alloc (.cells #[.int .i64 p,.int .i64 m,.slice x4 ml.length y4,.int .i64 n,.slice x2 l2.length y2] 47)).alloc (.cells #[.slice ta K tc,.slice sa sl.length sc] 49) = w1 at *;go_wp2_with fail
  go_ret2;exact ⟨⟨_,rfl⟩,HX.out⟩
 | cons e rest =>
  obtain ⟨eb,eo,cap,mv,rfl,hc1,hc2,q0,q1,q2,q3,hmv,hrest⟩ := hes.cons;have HRS := hid_ hrest;have HRS1 := hid_ (show cap = 1 → RSl w (.slice (some ⟨eb,eo,none⟩) 0 0) rest from fun h => by
   have h0 : rest = [] := List.length_eq_zero_iff.1 (by omega);subst h0;exact ⟨[],rfl,⟨rfl,_,0,rfl,Nat.le_refl _,by unfold maxLen;omega,fun h => absurd h (by decide)⟩,fun i e mv h => by simp at h⟩)
  have HMV := hid_ hmv;obtain ⟨ma,mc,rfl,-,g2,-⟩ := hmv.open;unfold maxLen at hc1 g2;have hr := HR.out;rw [flRB_cons] at hr;have HR := hid_ hr;replace q0 := HX.out.cell q0;replace q1 := HX.out.cell q1;replace q2 := HX.out.cell q2;replace q3 := HX.out.cell q3;obtain ⟨N,hN⟩ : ∃ N,rest.length + 1 = N := ⟨_,rfl⟩;have HN := hid_ (show rest.length = N - 1 from by omega);rw [hN] at hc2 ⊢;rw [HN.out] at HRS;have hl1 : ((N : Int) == 0) = false := by simp;omega
  have hl2 : (0 : Int) < (N : Int) := by omega
  have hl3 : (1 : Int) ≤ (N : Int) := by omega
  have hl4 : (N == 0) = false := by simp;omega
  have hl5 : 1 ≤ N := by omega
  clear hN;clear hr hes hrest hmv HES;go_enter Tryz.func73,Tryz.ntmps73
  go_upto_region 1 with fail
  try simp only [hB]
  clear hB;generalize ((w.alloc (.cells #[.int .i64 p,.int .i64 m,.slice x3 ml.length y3,.int .i64 n,.slice x1 l1.length y1] 47)).alloc (.cells #[.int .i64 p,.int .i64 m,.slice x4 ml.length y4,.int .i64 n,.slice x2 l2.length y2] 47)).alloc (.cells #[.slice ta K tc,.slice sa sl.length sc] 49) = w1 at *;go_upto_region 4 with fail
  obtain ⟨XB,hXB⟩ : ∃ B,w1.heap.size = B := ⟨_,rfl⟩;have e2 := e_al w1 (.cells #[.int .i64 e.tp,.int .i64 e.sc,.int .i64 e.side,.slice ma e.msg.length mc] 78);have j0 : (w1.alloc (.cells #[.int .i64 e.tp,.int .i64 e.sc,.int .i64 e.side,.slice ma e.msg.length mc] 78)).cell? ⟨XB,0,none⟩ = some (.int .i64 e.tp) := by rw [← hXB];simp
  have j1 : (w1.alloc (.cells #[.int .i64 e.tp,.int .i64 e.sc,.int .i64 e.side,.slice ma e.msg.length mc] 78)).cell? ⟨XB,1,none⟩ = some (.int .i64 e.sc) := by rw [← hXB];simp
  have j2 : (w1.alloc (.cells #[.int .i64 e.tp,.int .i64 e.sc,.int .i64 e.side,.slice ma e.msg.length mc] 78)).cell? ⟨XB,2,none⟩ = some (.int .i64 e.side) := by rw [← hXB];simp
  have j3 : (w1.alloc (.cells #[.int .i64 e.tp,.int .i64 e.sc,.int .i64 e.side,.slice ma e.msg.length mc] 78)).cell? ⟨XB,3,none⟩ = some (.slice ma e.msg.length mc) := by rw [← hXB];simp
  have HX2 := hid_ (HX.out.trans e2);replace c0 := e2.cell c0;replace c1 := e2.cell c1;replace c2 := e2.cell c2;replace c3 := e2.cell c3;replace c4 := e2.cell c4;replace d0 := e2.cell d0;replace d1 := e2.cell d1;replace d2 := e2.cell d2;replace d3 := e2.cell d3;replace d4 := e2.cell d4;replace b0 := e2.cell b0;replace b1 := e2.cell b1;clear q0 q1 q2 q3 HX
  try simp only [hXB]
  clear hXB e2;generalize w1.alloc (.cells #[.int .i64 e.tp,.int .i64 e.sc,.int .i64 e.side,.slice ma e.msg.length mc] 78) = w2 at *;have HAL := hid_ (fun w' (h : Ex w2 w') => (⟨h.cell c0,h.cell c1,h.cell c2,h.cell c3,h.cell c4,h.cell d0,h.cell d1,h.cell d2,h.cell d3,h.cell d4,h.cell b0,h.cell b1⟩ : w'.cell? ⟨B,0,none⟩ = some (.int .i64 (p : Int)) ∧ w'.cell? ⟨B,1,none⟩ = some (.int .i64 (m : Int)) ∧ w'.cell? ⟨B,2,none⟩ = some (.slice x3 ml.length y3) ∧ w'.cell? ⟨B,3,none⟩ = some (.int .i64 (n : Int)) ∧ w'.cell? ⟨B,4,none⟩ = some (.slice x1 l1.length y1) ∧ w'.cell? ⟨B + 1,0,none⟩ = some (.int .i64 (p : Int)) ∧ w'.cell? ⟨B + 1,1,none⟩ = some (.int .i64 (m : Int)) ∧ w'.cell? ⟨B + 1,2,none⟩ = some (.slice x4 ml.length y4) ∧ w'.cell? ⟨B + 1,3,none⟩ = some (.int .i64 (n : Int)) ∧ w'.cell? ⟨B + 1,4,none⟩ = some (.slice x2 l2.length y2) ∧ w'.cell? ⟨B + 1 + 1,0,none⟩ = some (.slice ta K tc) ∧ w'.cell? ⟨B + 1 + 1,1,none⟩ = some (.slice sa sl.length sc)));have HYL := hid_ (fun w' (h : Ex w2 w') => (⟨h.cell j0,h.cell j1,h.cell j2,h.cell j3⟩ : w'.cell? ⟨XB,0,none⟩ = some (.int .i64 e.tp) ∧ w'.cell? ⟨XB,1,none⟩ = some (.int .i64 e.sc) ∧ w'.cell? ⟨XB,2,none⟩ = some (.int .i64 e.side) ∧ w'.cell? ⟨XB,3,none⟩ = some (.slice ma e.msg.length mc)));clear c0 c1 c2 c3 c4 d0 d1 d2 d3 d4 j0 j1 j2 j3 w1;obtain ⟨T,hT⟩ : ∃ T,lastB first tl = T := ⟨_,rfl⟩;obtain ⟨U,hU⟩ : ∃ T,lastB first sl = T := ⟨_,rfl⟩;have hy := HR.out;rw [hT,hU] at hy;have HR := hid_ hy;clear hy;go_upto_if 26 with fail
  go_cut [13,14] from 25 to 42 (fun s8 s9 wx => s8 = .int .i64 T ∧ s9 = .int .i64 U ∧ Hid (Ex w2 wx))
  case first =>
   cases first with
   | true =>
    have HTU := hid_ (show T = 0 ∧ U = 0 from by rw [← hT,← hU];exact ⟨rfl,rfl⟩);clear hT hU;go_wp2_with fail
    go_meet
    exact ⟨by rw [HTU.out.1],by rw [HTU.out.2],hid_ (Ex.refl _)⟩
   | false =>
    have htne := HNE.out rfl;have hlen : 0 < K := by have := List.length_pos_iff.2 htne;have := HKK.out;omega
    obtain ⟨z,hz1⟩ : ∃ z,K = z + 1 := ⟨K - 1,by omega⟩;have hz2 : sl.length = z + 1 := by rw [HSL.out,HKK.out,hz1]
    have HTU := hid_ (show tl.getD z 0 = T ∧ sl.getD z 0 = U from by
     rw [← hT,← hU];unfold lastB;rw [if_neg (by decide),if_neg (by decide),HKK.out,hz1,hz2];exact ⟨rfl,rfl⟩)
    obtain ⟨tb,to_,rfl,htc⟩ := t3 (by have := HKK.out;omega);obtain ⟨sb,so,rfl,hsc⟩ := s3 (by omega);have cX := HX2.out.cell (htc z T (by rw [← HTU.out.1];exact get_getD (by have := HKK.out;omega)));have cY := HX2.out.cell (hsc z U (by rw [← HTU.out.2];exact get_getD (by omega)));have hz64 : z ≤ 63 := by have := HKN.out;omega
    have HI6 := hid_ (show wrap64 ((K : Int) - 1) = (z : Int) from by rw [show (K : Int) - 1 = (z : Int) from by omega];exact w64 (by omega) (by omega));have HI7 := hid_ (show IntKind.i64.wrap ((K : Int) - 1) = (z : Int) from by rw [show (K : Int) - 1 = (z : Int) from by omega];exact IntWalk.i64_in _ (by omega));have k1 : (0 : Int) ≤ (z : Int) := by omega
    have k2 : (z : Int) < (K : Int) := by omega
    have k4 : (z : Int) < (sl.length : Int) := by omega
    obtain ⟨-,-,-,-,-,-,-,-,-,-,b0,b1⟩ := HAL.out _ (Ex.refl _);have i6 := HI6.out;have i7 := HI7.out;clear hT hU htne htc hsc hlen hz1 hz2 t3 s3;go_wp2_with fail
    go_meet
    exact ⟨rfl,rfl,hid_ (Ex.refl _)⟩
  case rest =>
   obtain ⟨rfl,rfl,hx⟩ := hcut;have HXC := hid_ hx.out;clear hx hT hU t3 s3 HNE;generalize wc = wE at *;obtain ⟨Q,hQ⟩ : ∃ Q,decide (e.tp ≠ T ∨ e.sc ≠ U ∨ e.side < -1 ∨ 1 < e.side) = Q := ⟨_,rfl⟩;have HQ := hid_ hQ;clear hQ;go_upto_region 8 with fail
   go_cut [62] from 43 to 62 (fun s51 wx => s51 = .bool Q ∧ Hid (Ex wE wx))
   case first =>
    obtain ⟨j0,j1,j2,-⟩ := HYL.out _ HXC.out;by_cases a1 : e.tp = T
    ·have n1 : (e.tp != T) = false := by simpa using a1
     by_cases a2 : e.sc = U
     ·have n2 : (e.sc != U) = false := by simpa using a2
      by_cases a3 : e.side < -1
      ·have n3 : decide (e.side < -1) = true := decide_eq_true a3;have HQV := hid_ (show Q = true from by rw [← HQ.out];exact decide_eq_true (.inr (.inr (.inl a3))));clear HR HSH HEX HG HT HS
       try clear a1
       try clear a2
       go_wp2_with fail
       go_meet
       exact ⟨by rw [HQV.out],hid_ (by first | exact Ex.refl _ | exact (Ex.refl _).drew | exact (Ex.refl _).drewN _)⟩
      ·have n3 : decide (e.side < -1) = false := decide_eq_false a3;by_cases a4 : 1 < e.side
       ·have n4 : decide (e.side > 1) = true := decide_eq_true a4;have n4' : decide (1 < e.side) = true := decide_eq_true a4;have HQV := hid_ (show Q = true from by rw [← HQ.out];exact decide_eq_true (.inr (.inr (.inr a4))));clear HR HSH HEX HG HT HS
        try clear a1
        try clear a2
        go_wp2_with fail
        go_meet
        exact ⟨by rw [HQV.out],hid_ (by first | exact Ex.refl _ | exact (Ex.refl _).drew | exact (Ex.refl _).drewN _)⟩
       ·have n4 : decide (e.side > 1) = false := decide_eq_false a4;have n4' : decide (1 < e.side) = false := decide_eq_false a4;have HQV := hid_ (show Q = false from by rw [← HQ.out];exact decide_eq_false (by rintro (h | h | h | h) <;> first | exact h a1 | exact h a2 | exact a3 h | exact a4 h));clear HR HSH HEX HG HT HS
        try clear a1
        try clear a2
        go_wp2_with fail
        go_meet
        exact ⟨by rw [HQV.out],hid_ (by first | exact Ex.refl _ | exact (Ex.refl _).drew | exact (Ex.refl _).drewN _)⟩
     ·have n2 : (e.sc != U) = true := by simpa using a2
      have HQV := hid_ (show Q = true from by rw [← HQ.out];exact decide_eq_true (.inr (.inl a2)));clear HR HSH HEX HG HT HS
      try clear a1
      try clear a2
      go_wp2_with fail
      go_meet
      exact ⟨by rw [HQV.out],hid_ (by first | exact Ex.refl _ | exact (Ex.refl _).drew | exact (Ex.refl _).drewN _)⟩
    ·have n1 : (e.tp != T) = true := by simpa using a1
     have HQV := hid_ (show Q = true from by rw [← HQ.out];exact decide_eq_true (.inl a1));clear HR HSH HEX HG HT HS
     try clear a1
     try clear a2
     go_wp2_with fail
     go_meet
     exact ⟨by rw [HQV.out],hid_ (by first | exact Ex.refl _ | exact (Ex.refl _).drew | exact (Ex.refl _).drewN _)⟩
   case rest =>
    obtain ⟨rfl,hx⟩ := hcut;have HXD := hid_ (HXC.out.trans hx.out);clear hx HXC wE;generalize wc = wE at *;have hy := HR.out
    cases Q with
    | true =>
     rw [if_pos (of_decide_eq_true HQ.out)] at hy;subst hy;go_wp2_with fail
     go_ret2;exact ⟨⟨_,rfl⟩,HX2.out.trans HXD.out⟩
    | false =>
     have hq := of_decide_eq_false HQ.out;rw [if_neg hq] at hy;have HR := hid_ hy;clear hy HQ;have HALL := hid_ (fun w' (h : Ex wE w') => (⟨HAL.out _ (HXD.out.trans h),(HYL.out _ (HXD.out.trans h)).2.2⟩ : (w'.cell? ⟨B,0,none⟩ = some (.int .i64 (p : Int)) ∧ w'.cell? ⟨B,1,none⟩ = some (.int .i64 (m : Int)) ∧ w'.cell? ⟨B,2,none⟩ = some (.slice x3 ml.length y3) ∧ w'.cell? ⟨B,3,none⟩ = some (.int .i64 (n : Int)) ∧ w'.cell? ⟨B,4,none⟩ = some (.slice x1 l1.length y1) ∧ w'.cell? ⟨B + 1,0,none⟩ = some (.int .i64 (p : Int)) ∧ w'.cell? ⟨B + 1,1,none⟩ = some (.int .i64 (m : Int)) ∧ w'.cell? ⟨B + 1,2,none⟩ = some (.slice x4 ml.length y4) ∧ w'.cell? ⟨B + 1,3,none⟩ = some (.int .i64 (n : Int)) ∧ w'.cell? ⟨B + 1,4,none⟩ = some (.slice x2 l2.length y2) ∧ w'.cell? ⟨B + 1 + 1,0,none⟩ = some (.slice ta K tc) ∧ w'.cell? ⟨B + 1 + 1,1,none⟩ = some (.slice sa sl.length sc)) ∧ w'.cell? ⟨XB,2,none⟩ = some (.int .i64 e.side) ∧ w'.cell? ⟨XB,3,none⟩ = some (.slice ma e.msg.length mc)));have HXE := hid_ (HX2.out.trans HXD.out);clear HAL HYL HX2 HXD b0 b1 w2;by_cases hs : e.side = -1
     ·have a1 : (e.side != -1) = false := by simp [hs]
      have hy := HR.out;rw [if_neg (fun h => h hs)] at hy;obtain ⟨Lm,hLm⟩ : ∃ L,e.msg.length = L := ⟨_,rfl⟩;rw [hLm] at hy HALL;have HR := hid_ hy;obtain ⟨⟨c0,c1,c2,c3,c4,d0,d1,d2,d3,d4,b0,b1⟩,j2,j3⟩ := HALL.out _ (Ex.refl _);simp only [hLm];clear hy hs hq HSH HMV hLm;by_cases g1 : 0 < Lm
      ·have r1 : decide ((Lm : Int) > 0) = true := by simp;omega
       have r2 : decide ((0 : Int) < (Lm : Int)) = true := by simp;omega
       have r3 : decide (0 < Lm) = true := by simp;omega
       have hy := HR.out;rw [if_pos (.inl g1)] at hy;subst hy;clear HR HEX HG HT HS;go_wp2_with fail
       go_ret2;exact ⟨⟨_,rfl⟩,by first | exact HXE.out | exact HXE.out.trans (Ex.refl _).drew | exact HXE.out.trans ((Ex.refl _).drewN _)⟩
      ·have r1 : decide ((Lm : Int) > 0) = false := by simp;omega
       have r2 : decide ((0 : Int) < (Lm : Int)) = false := by simp;omega
       have r3 : decide (0 < Lm) = false := by simp;omega
       by_cases g2 : K = n
       ·have r4 : ((K : Int) == (n : Int)) = true := by simp;omega
        have r5 : (K == n) = true := by simp;omega
        have hy := HR.out;rw [if_pos (.inr (HKK.out.trans g2))] at hy;subst hy;clear HR HEX HG HT HS g1 g2;go_wp2_with fail
        go_ret2;exact ⟨⟨_,rfl⟩,by first | exact HXE.out | exact HXE.out.trans (Ex.refl _).drew | exact HXE.out.trans ((Ex.refl _).drewN _)⟩
       ·have r4 : ((K : Int) == (n : Int)) = false := by simp;omega
        have r5 : (K == n) = false := by simp;omega
        have hy := HR.out;rw [if_neg (by rintro (h | h);exact g1 h;exact g2 (HKK.out.symm.trans h))] at hy;have HR := hid_ hy;have hKn : K < n := by have := HKN.out;omega
        have HGG := hid_ (HG.out hKn);have HEXC := hid_ (HEX.out wE HXE.out);obtain ⟨XS,hXS⟩ : ∃ XS,exL (p ^ m) tl sl n = XS := ⟨_,rfl⟩;have hy := HR.out;rw [hXS] at HEXC HGG hy;have HR := hid_ hy;clear hy g1 g2 HG HEX hKn hXS HT HS;go_upto_region 14 with fail
        by_cases hcp : cap = 1
        case' pos => have HRQ := hid_ (HRS1.out hcp);subst hcp
        case' neg => have HRQ := hid_ HRS.out;have hcq : ¬ (cap : Int) = 1 := by omega
        all_goals
         go_wp2_with (go_at_call 108;refine HEXC.out.mono ?_;rintro e7 w7 ⟨xv,rfl,hps,hx7⟩;have HPS := hid_ hps;have HX7 := hid_ hx7;obtain ⟨xa,xc,rfl,px1,px2,-⟩ := hps.open;unfold maxLen at px2;clear hps hx7)
         go_loopw [15,16,18] (fun s15 s16 s18 wr => ∃ (i : Nat) (s : Option (List Rf)),i ≤ XS.length ∧ s18 = .int .i64 i ∧ s16 = .bool s.isSome ∧ Hid ((XS.take i).foldl (fun s x => s.bind fun r => G r x) (some rest) = s) ∧ Hid (∀ r,s = some r → RSl wr s15 r) ∧ Hid (Ex w7 wr)) (fun _ _ s18 _ => XS.length - (intOf s18).toNat)
         case atStart => exact ⟨0,some rest,by omega,rfl,rfl,hid_ rfl,hid_ (fun r h => by injection h with h;subst h;exact HRQ.out.ex (HXE.out.trans HX7.out)),hid_ (Ex.refl _)⟩
         case round =>
          obtain ⟨i,s,hi,rfl,rfl,hfs,hrr,hxr⟩ := hrel;have HFS := hid_ hfs.out;have HRR := hid_ hrr.out;have HXR := hid_ hxr.out;clear hfs hrr hxr;by_cases hlt : i < XS.length
          ·have n1 : decide ((i : Int) < (XS.length : Int)) = true := by simp;omega
           have n2 : decide (i < XS.length) = true := by simp;omega
           cases s with
           | none =>
            have hy := HR.out;rw [foldl_drop G XS i _ HFS.out] at hy;subst hy;clear hlt;go_wp2_with fail
            go_ret2;exact ⟨⟨_,rfl⟩,HXE.out.trans (HX7.out.trans HXR.out)⟩
           | some r =>
            obtain ⟨_,_,hpa,-,-,p3⟩ := HPS.out.open;injection hpa with hp1 hp2 hp3;subst hp1;obtain ⟨pb,po,rfl,hpc⟩ := p3 (by omega);obtain ⟨x,hx⟩ : ∃ x,XS[i]? = some x := ⟨_,List.getElem?_eq_getElem hlt⟩;obtain ⟨v1,v2,hu1,hu2,i1,i2⟩ := hpc i x hx;have HGC := hid_ (fun (w' : World) (h : Ex wr w') => HGG.out x (List.mem_of_getElem? hx) w' r _ v1 v2 (HXE.out.trans (HX7.out.trans (HXR.out.trans h))) ((HRR.out r rfl).ex h) (i1.ex (HXR.out.trans h)) (i2.ex (HXR.out.trans h)));have HFT := hid_ (show (XS.take (i + 1)).foldl (fun s x => s.bind fun r => G r x) (some rest) = G r x from by
             rw [List.take_add_one,hx,List.foldl_append,HFS.out];rfl)
            have HALW := hid_ (fun w' (h : Ex wr w') => (⟨(HALL.out _ (HX7.out.trans (HXR.out.trans h))).1,(HXR.out.trans h).cell hu1,(HXR.out.trans h).cell hu2⟩ : (w'.cell? ⟨B,0,none⟩ = some (.int .i64 (p : Int)) ∧ w'.cell? ⟨B,1,none⟩ = some (.int .i64 (m : Int)) ∧ w'.cell? ⟨B,2,none⟩ = some (.slice x3 ml.length y3) ∧ w'.cell? ⟨B,3,none⟩ = some (.int .i64 (n : Int)) ∧ w'.cell? ⟨B,4,none⟩ = some (.slice x1 l1.length y1) ∧ w'.cell? ⟨B + 1,0,none⟩ = some (.int .i64 (p : Int)) ∧ w'.cell? ⟨B + 1,1,none⟩ = some (.int .i64 (m : Int)) ∧ w'.cell? ⟨B + 1,2,none⟩ = some (.slice x4 ml.length y4) ∧ w'.cell? ⟨B + 1,3,none⟩ = some (.int .i64 (n : Int)) ∧ w'.cell? ⟨B + 1,4,none⟩ = some (.slice x2 l2.length y2) ∧ w'.cell? ⟨B + 1 + 1,0,none⟩ = some (.slice ta K tc) ∧ w'.cell? ⟨B + 1 + 1,1,none⟩ = some (.slice sa sl.length sc)) ∧ w'.cell? ⟨pb,po + i * 2,none⟩ = some v1 ∧ w'.cell? ⟨pb,po + i * 2 + 1,none⟩ = some v2));have k1 : (0 : Int) ≤ (i : Int) := by omega
            have k2 : (i : Int) < (XS.length : Int) := by omega
            clear hp2 hp3 p3 hpc hx hu1 hu2 i1 i2 HFS;go_upto_region 20 with fail
            have G0 : Ex wr wr.drew := (Ex.refl wr).drew;clear c0 c1 c2 c3 c4 d0 d1 d2 d3 d4 b0 b1 j2 j3
            go_region_held3 (fun w' => (w'.cell? ⟨B,0,none⟩ = some (.int .i64 (p : Int)) ∧ w'.cell? ⟨B,1,none⟩ = some (.int .i64 (m : Int)) ∧ w'.cell? ⟨B,2,none⟩ = some (.slice x3 ml.length y3) ∧ w'.cell? ⟨B,3,none⟩ = some (.int .i64 (n : Int)) ∧ w'.cell? ⟨B,4,none⟩ = some (.slice x1 l1.length y1) ∧ w'.cell? ⟨B + 1,0,none⟩ = some (.int .i64 (p : Int)) ∧ w'.cell? ⟨B + 1,1,none⟩ = some (.int .i64 (m : Int)) ∧ w'.cell? ⟨B + 1,2,none⟩ = some (.slice x4 ml.length y4) ∧ w'.cell? ⟨B + 1,3,none⟩ = some (.int .i64 (n : Int)) ∧ w'.cell? ⟨B + 1,4,none⟩ = some (.slice x2 l2.length y2) ∧ w'.cell? ⟨B + 1 + 1,0,none⟩ = some (.slice ta K tc) ∧ w'.cell? ⟨B + 1 + 1,1,none⟩ = some (.slice sa sl.length sc)) ∧ w'.cell? ⟨pb,po + i * 2,none⟩ = some v1 ∧ w'.cell? ⟨pb,po + i * 2 + 1,none⟩ = some v2)
             (first | with_reducible exact HALW.out _ X9 | with_reducible exact HALW.out _ G0)
             (first | (go_at_call 73;(with_reducible refine (HGC.out _ G0).mono ?_);rintro e9 w9 ⟨hfo,hx9⟩;obtain ⟨v9,rfl,hv9⟩ := hfo.all;have X9 := G0.trans hx9;have HX9 := hid_ X9;have HV9 := hid_ hv9;clear hx9 hfo hv9))
            go_wp2_with fail
            go_roundw
            case rel => exact ⟨i + 1,G r x,by omega,by go_num,rfl,HFT,HV9,hid_ (HXR.out.trans HX9.out)⟩
            case measure => simp [intOf];omega
          ·have n1 : decide ((i : Int) < (XS.length : Int)) = false := by simp;omega
           have n2 : decide (i < XS.length) = false := by simp;omega
           have hy := HR.out;have hfs := HFS.out;rw [List.take_of_length_le (by omega)] at hfs;rw [hfs] at hy;subst hy;clear hlt hfs;go_wp2_with fail
           go_ret2
           cases s with
           | none => exact ⟨⟨_,rfl⟩,HXE.out.trans (HX7.out.trans HXR.out)⟩
           | some r => exact ⟨⟨_,rfl,HRR.out r rfl⟩,HXE.out.trans (HX7.out.trans HXR.out)⟩
     ·have a1 : (e.side != -1) = true := by simpa using hs
      have hsd : e.side = 0 ∨ e.side = 1 := by
       have b1 : ¬ e.side < -1 := fun h => hq (.inr (.inr (.inl h)));have b2 : ¬ 1 < e.side := fun h => hq (.inr (.inr (.inr h)));omega
      have hy := HR.out;rw [if_pos hs] at hy;have HSC := hid_ (fun (w' : World) (h : Ex wE w') => HSH.out w' (HXE.out.trans h) e.side hsd e.msg _ (HMV.out.ex (HXE.out.trans h)));obtain ⟨W,hW⟩ : ∃ W,shwB p m ml l1 l2 tl sl e.side e.msg = W := ⟨_,rfl⟩;rw [hW] at HSC hy;have HR := hid_ hy;clear hy hW hsd hs hq HSH HEX HG HT HS HMV;obtain ⟨⟨c0,c1,c2,c3,c4,d0,d1,d2,d3,d4,b0,b1⟩,j2,j3⟩ := HALL.out _ (Ex.refl _);go_upto_region 11 with fail
      by_cases hcp : cap = 1
      case' pos => have HRQ := hid_ (HRS1.out hcp);subst hcp
      case' neg => have HRQ := hid_ HRS.out;have hcq : ¬ (cap : Int) = 1 := by omega
      all_goals
       have G0 : Ex wE wE.drew := (Ex.refl wE).drew;clear c0 c1 c2 c3 c4 d0 d1 d2 d3 d4 b0 b1 j2 j3
       go_region_held3 (fun w' => (w'.cell? ⟨B,0,none⟩ = some (.int .i64 (p : Int)) ∧ w'.cell? ⟨B,1,none⟩ = some (.int .i64 (m : Int)) ∧ w'.cell? ⟨B,2,none⟩ = some (.slice x3 ml.length y3) ∧ w'.cell? ⟨B,3,none⟩ = some (.int .i64 (n : Int)) ∧ w'.cell? ⟨B,4,none⟩ = some (.slice x1 l1.length y1) ∧ w'.cell? ⟨B + 1,0,none⟩ = some (.int .i64 (p : Int)) ∧ w'.cell? ⟨B + 1,1,none⟩ = some (.int .i64 (m : Int)) ∧ w'.cell? ⟨B + 1,2,none⟩ = some (.slice x4 ml.length y4) ∧ w'.cell? ⟨B + 1,3,none⟩ = some (.int .i64 (n : Int)) ∧ w'.cell? ⟨B + 1,4,none⟩ = some (.slice x2 l2.length y2) ∧ w'.cell? ⟨B + 1 + 1,0,none⟩ = some (.slice ta K tc) ∧ w'.cell? ⟨B + 1 + 1,1,none⟩ = some (.slice sa sl.length sc)) ∧ w'.cell? ⟨XB,2,none⟩ = some (.int .i64 e.side) ∧ w'.cell? ⟨XB,3,none⟩ = some (.slice ma e.msg.length mc))
        (first | with_reducible exact HALL.out _ X9 | with_reducible exact HALL.out _ G0)
        (first | (go_at_call 117;(with_reducible refine (HSC.out _ G0).mono ?_);rintro e9 w9 ⟨rfl,hx9⟩;have X9 := G0.trans hx9;have HX9 := hid_ X9;clear hx9))
       go_wp2_with fail
       go_ret2;have hy := HR.out
       cases W with
       | true =>
        rw [if_pos rfl] at hy;subst hy;exact ⟨⟨_,rfl,HRQ.out.ex (HXE.out.trans HX9.out)⟩,HXE.out.trans HX9.out⟩
       | false =>
        rw [if_neg (by decide)] at hy;subst hy;exact ⟨⟨_,rfl⟩,HXE.out.trans HX9.out⟩
end Go.Proofs.YtgdmlmhpineibaaGreat
