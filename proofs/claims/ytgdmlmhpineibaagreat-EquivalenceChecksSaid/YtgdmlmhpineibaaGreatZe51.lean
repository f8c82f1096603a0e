/- Walk of codewrightref31.follow, out of its body, given Extensions. -/
import Derived.Lib.SmallJoins
import Derived.Deep.Matrix
import Derived.Deep.Slices
import Derived.OpenShut
import Derived.ProofKit
import Derived.ChangeOld
import Derived.Test.YtgdmlmhpineibaaGreatZe34
import Derived.Test.YtgdmlmhpineibaaGreatZe36
import Derived.Test.YtgdmlmhpineibaaGreatZe38
import Derived.Test.YtgdmlmhpineibaaGreatZe39
import Derived.Test.YtgdmlmhpineibaaGreatZe48
import Derived.Test.YtgdmlmhpineibaaGreatZe50
namespace Go.Proofs.YtgdmlmhpineibaaGreat
set_option linter.unusedVariables false
set_option linter.unusedSimpArgs false
set_option maxRecDepth 100000
set_option maxHeartbeats 4000000
section
open Go.RowKit
def ExtS (p m n : Nat) (m1 : Value) (w : World) : Prop := ∀ (tl sl : List Int) (tv sv : Value) (w' : World),Ex w w' → ISl w' tv tl → ISl w' sv sl → sl.length = tl.length → tl.length ≤ n → rngB tl n = true →
 Calls Tryz.prog 108 #[.agg #[.int .i64 p,.int .i64 m,m1],.int .i64 n,.agg #[tv,sv]] w' fun r w'' => ∃ xv,r = .returned xv ∧ PSl w'' xv (exL (p ^ m) tl sl n) ∧ Ex w' w''
theorem exL_rng {q n : Nat} {tl sl : List Int} (h : rngB tl n = true) : ∀ x ∈ exL q tl sl n,rngB x.1 n = true := fun x hx => by
 unfold exL exJ at hx;rw [List.mem_flatMap] at hx;obtain ⟨j,hj,hx⟩ := hx;have hjn := List.mem_range.1 hj;split at hx
 ·cases hx
 ·rw [List.mem_map] at hx;obtain ⟨c,-,rfl⟩ := hx;unfold rngB at h ⊢;rw [List.all_append,h];simp;omega
theorem rFollow_any {p m n : Nat} {ml : List Int} {l1 l2 : List (List Int)} (w0 : World) (hf : FSh p m ml) (hF : IsF p m (lw ml)) (hn : n ≤ 64) (h1 : ∀ r ∈ l1,r.length = n ∧ entS (p ^ m) r = 0) (h2 : ∀ r ∈ l2,r.length = n ∧ entS (p ^ m) r = 0) (k1 : l1.length ≤ 256) (k2 : l2.length ≤ 256)
  (m1 m2 v1 v2 : Value) (hm1 : ISl w0 m1 ml) (hv1 : MSl w0 v1 l1) (hm2 : ISl w0 m2 ml) (hv2 : MSl w0 v2 l2) (hE : ExtS p m n m1 w0) :
  ∀ (d : Nat) (w : World) (tl sl : List Int) (tv sv : Value) (first : Bool) (es : List Rf) (ev : Value),Ex w0 w → tl.length + d = n → sl.length = tl.length → rngB tl n = true → (first = false → tl ≠ []) → ISl w tv tl → ISl w sv sl → RSl w ev es →
  Calls Tryz.prog 73 #[.agg #[.int .i64 p,.int .i64 m,m1,.int .i64 n,v1],.agg #[.int .i64 p,.int .i64 m,m2,.int .i64 n,v2],.agg #[tv,sv],.bool first,ev] w fun r w' => FolR (flR p m ml l1 l2 n d first es tl sl) r w' ∧ Ex w w' := by
 intro d
 induction d with
 | zero =>
  intro w tl sl tv sv first es ev hx hd hsl hrg hne ht hs hes;have h := rFollow_body w hf hF hn h1 h2 k1 k2 m1 m2 v1 v2 (hm1.ex hx) (hv1.ex hx) (hm2.ex hx) (hv2.ex hx) tl sl tv sv ht hs hsl tl.length rfl (by omega) hrg first hne es ev hes (fun _ _ => none) (fun w' h => hE tl sl tv sv w' (hx.trans h) (ht.ex h) (hs.ex h) hsl (by omega) hrg) (fun h => absurd h (by omega));refine h.mono ?_;rintro r w' ⟨a,b⟩;refine ⟨?_,b⟩;have e : flRB p m ml l1 l2 n first es tl sl (fun rest => (exL (p ^ m) tl sl n).foldl (fun s x => s.bind fun r => (fun _ _ => none : List Rf → List Int × List Int → Option (List Rf)) r x) (some rest)) = flR p m ml l1 l2 n 0 first es tl sl := by
   show _ = flRB p m ml l1 l2 n first es tl sl fun _ => none
   cases es with
   | nil => rfl
   | cons e rest =>
    rw [flRB_cons,flRB_cons];by_cases c1 : e.tp ≠ lastB first tl ∨ e.sc ≠ lastB first sl ∨ e.side < -1 ∨ 1 < e.side
    ·rw [if_pos c1,if_pos c1]
    ·rw [if_neg c1,if_neg c1];by_cases c2 : e.side ≠ -1
     ·rw [if_pos c2,if_pos c2]
     ·rw [if_neg c2,if_neg c2,if_pos (.inr (by omega)),if_pos (.inr (by omega))]
  rw [← e];exact a
 | succ d ih =>
  intro w tl sl tv sv first es ev hx hd hsl hrg hne ht hs hes;exact rFollow_body w hf hF hn h1 h2 k1 k2 m1 m2 v1 v2 (hm1.ex hx) (hv1.ex hx) (hm2.ex hx) (hv2.ex hx) tl sl tv sv ht hs hsl tl.length rfl (by omega) hrg first hne es ev hes (fun r x => flR p m ml l1 l2 n d false r x.1 x.2) (fun w' h => hE tl sl tv sv w' (hx.trans h) (ht.ex h) (hs.ex h) hsl (by omega) hrg)
   (fun hlt x hxm w' r rv x1 x2 h hr i1 i2 => ih w' x.1 x.2 x1 x2 false r rv (hx.trans h) (by have := (exL_len x hxm).1;omega) (by have := exL_len x hxm;omega) (exL_rng hrg x hxm) (fun _ h0 => by have := (exL_len x hxm).1;rw [h0] at this;simp at this) i1 i2 hr)
end
section
open Go.RowKit
def parS (q : Nat) (tl sl : List Int) (n : Int) : Int := if tl.length ≠ sl.length ∨ n < tl.length then 3 else if injS tl n ≠ 0 then injS tl n else facS q sl
theorem rPartial_any {p m : Nat} {ml : List Int} {mv : Value} (w : World) (hf : FSh p m ml) (hmv : ISl w mv ml) (N : Nat) (hN : N ≤ 64) (tl sl : List Int) (tv sv : Value) (ht : ISl w tv tl) (hs : ISl w sv sl) :
  Calls Tryz.prog 106 #[.agg #[.int .i64 p,.int .i64 m,mv],.int .i64 N,.agg #[tv,sv]] w fun r w' => r = .returned (.int .i64 (parS (p ^ m) tl sl N)) ∧ Ex w w' := by
 obtain ⟨a0,a1,a2,ea,asz⟩ := box_facts w p m mv;obtain ⟨b0,b1,eb,-⟩ := boxP_facts (w.alloc (.cells #[.int .i64 p,.int .i64 m,mv] 24)) tv sv;rw [asz] at b0 b1;replace a0 := eb.cell a0;replace a1 := eb.cell a1;replace a2 := eb.cell a2;have HX := hid_ (ea.trans eb);have HT := hid_ ht;have HDI := hid_ (fun (w' : World) (h : Ex w w') => rDist_any w' tl tv (ht.ex h) N);have HTW := hid_ (fun (w' : World) (h : Ex w w') => rTwice_any w' tl tv (ht.ex h));have HFA := hid_ (fun (w' : World) (h : Ex w w') => rFac_any (mv := mv) w' hf sl sv (hs.ex h));obtain ⟨ma,mc,rfl,-,-,-⟩ := hmv.open;obtain ⟨ta,tc,rfl,t1,t2,-⟩ := ht.open;obtain ⟨sa,sc,rfl,s1,s2,-⟩ := hs.open;unfold maxLen at t2 s2;obtain ⟨B,hB⟩ : ∃ B,w.heap.size = B := ⟨_,rfl⟩;rw [hB] at a0 a1 a2 b0 b1;obtain ⟨M,hM⟩ : ∃ M,parS (p ^ m) tl sl N = M := ⟨_,rfl⟩;have HM := hid_ (show M = if tl.length ≠ sl.length ∨ (N : Int) < tl.length then 3 else if injS tl N ≠ 0 then injS tl N else facS (p ^ m) sl from hM.symm);rw [hM];obtain ⟨F,hF⟩ : ∃ F,facS (p ^ m) sl = F := ⟨_,rfl⟩;rw [hF] at HM HFA;clear hmv ht hs hf ea eb asz hM hF;go_enter Tryz.func106,Tryz.ntmps106
 go_upto_region 1 with fail
 try simp only [hB]
 clear hB;generalize (w.alloc (.cells #[.int .i64 p,.int .i64 m,.slice ma ml.length mc] 24)).alloc (.cells #[.slice ta tl.length tc,.slice sa sl.length sc] 49) = w1 at *;have HALL := hid_ (fun w' (h : Ex w1 w') => (⟨h.cell a0,h.cell a1,h.cell a2,h.cell b0,h.cell b1⟩ : _ ∧ _ ∧ _ ∧ _ ∧ _));by_cases h1 : tl.length = sl.length
 rotate_left
 ·have k1 : ((tl.length : Int) != (sl.length : Int)) = true := by simp;omega
  have HE := hid_ (show M = 3 from by rw [HM.out,if_pos (.inl h1)]);clear h1;go_wp2_with fail
  go_ret;exact ⟨ret_int HE.out.symm,HX.out⟩
 have k1 : ((tl.length : Int) != (sl.length : Int)) = false := by simp;omega
 by_cases h2 : N < tl.length
 ·have k2 : decide ((N : Int) < (tl.length : Int)) = true := by simp;omega
  have j2 : (N : Int) < (tl.length : Int) := by omega
  have HE := hid_ (show M = 3 from by rw [HM.out,if_pos (.inr (by omega))]);clear h1 h2;go_wp2_with fail
  go_ret;exact ⟨ret_int HE.out.symm,HX.out⟩
 have k2 : decide ((N : Int) < (tl.length : Int)) = false := by simp;omega
 have j2 : ¬ (N : Int) < (tl.length : Int) := by omega
 have HM1 := hid_ (show M = if injS tl N ≠ 0 then injS tl N else F from by rw [HM.out,if_neg (by omega)]);clear h1 h2;go_wp2_with fail
 refine (HDI.out w1 HX.out).mono ?_;rintro e w2 ⟨rfl,rfl⟩;by_cases hr : rngB tl N = true
 rotate_left
 ·have hr : rngB tl N = false := by simpa using hr
  have HE := hid_ (show M = 6 from by rw [HM1.out];unfold injS;rw [hr];simp);rw [show disS tl N = 6 from by unfold disS;rw [hr];rfl];clear hr;go_wp2_with fail
  go_ret;exact ⟨ret_int HE.out.symm,HX.out⟩
 rw [show disS tl N = 0 from by unfold disS;rw [if_pos hr]];have HR := hid_ hr;clear hr;go_wp2_with fail
 refine (HTW.out w1 HX.out).mono ?_;rintro e w3 ⟨rfl,hx3⟩;have HX3 := hid_ hx3;clear hx3 a0 a1 a2 b0 b1;obtain ⟨a0,a1,a2,b0,b1⟩ := HALL.out w3 HX3.out
 cases hd : dupB tl with
 | true =>
  have HE := hid_ (show M = 18 from by rw [HM1.out];unfold injS;rw [HR.out,hd];simp);clear hd;go_wp2_with fail
  go_ret;exact ⟨ret_int HE.out.symm,HX.out.trans HX3.out⟩
 | false =>
  have HE := hid_ (show M = F from by rw [HM1.out];unfold injS;rw [HR.out,hd];simp);clear hd;go_wp2_with fail
  refine (HFA.out w3 (HX.out.trans HX3.out)).mono ?_;rintro e w4 ⟨rfl,hx4⟩;have HX4 := hid_ (HX3.out.trans hx4);clear hx4 a0 a1 a2 b0 b1;go_wp2_with fail
  go_ret;exact ⟨ret_int HE.out.symm,HX.out.trans HX4.out⟩
def ThrO (c d : CdV) (tl sl : List Int) (e : Int) : Prop := ∃ e1 e2 : Int,CodO c.p c.m c.ml c.n c.rows e1 ∧ (e1 = 0 → CodO d.p d.m d.ml d.n d.rows e2) ∧ e = stE e1 e2 (samF c.p c.m c.ml d.p d.m d.ml) c.n d.n tl sl (c.p.toNat ^ c.m.toNat)
theorem rThree_any (w : World) (c d : CdV) (m1 m2 v1 v2 : Value) (hc : c.at w m1 v1) (hd : d.at w m2 v2) (tl sl : List Int) (tv sv : Value) (ht : ISl w tv tl) (hs : ISl w sv sl) :
  Calls Tryz.prog 67 #[c.arg m1 v1,d.arg m2 v2,.agg #[tv,sv]] w fun r w' => (∃ e : Int,r = .returned (.int .i64 e) ∧ ThrO c d tl sl e) ∧ Ex w w' := by
 obtain ⟨c0,c1,c2,c3,c4⟩ := boxC5 w c m1 v1;obtain ⟨d0,d1,d2,d3,d4⟩ := boxC5 (w.alloc (c.obj m1 v1)) d m2 v2;obtain ⟨b0,b1,e3,-⟩ := boxP_facts ((w.alloc (c.obj m1 v1)).alloc (d.obj m2 v2)) tv sv;have hz1 : (w.alloc (c.obj m1 v1)).heap.size = w.heap.size + 1 := by simp
 have hz2 : ((w.alloc (c.obj m1 v1)).alloc (d.obj m2 v2)).heap.size = w.heap.size + 1 + 1 := by simp
 have e1 := e_al w (c.obj m1 v1);have e2 := e_al (w.alloc (c.obj m1 v1)) (d.obj m2 v2);rw [hz1] at d0 d1 d2 d3 d4;rw [hz2] at b0 b1;replace c0 := (e2.trans e3).cell c0;replace c1 := (e2.trans e3).cell c1;replace c2 := (e2.trans e3).cell c2;replace c3 := (e2.trans e3).cell c3;replace c4 := (e2.trans e3).cell c4;replace d0 := e3.cell d0;replace d1 := e3.cell d1;replace d2 := e3.cell d2;replace d3 := e3.cell d3;replace d4 := e3.cell d4;have HX := hid_ (e1.trans (e2.trans e3));have HFT := hid_ (fun (w' : World) (h : Ex w w') => rFit_any w' c.p c.m c.ml m1 (hc.ex h).m c.n c.rows v1 (hc.ex h).g d.p d.m d.ml m2 (hd.ex h).m d.n d.rows v2 (hd.ex h).g);have HC := hid_ hc;have HT := hid_ ht;have HS := hid_ hs;obtain ⟨ta,tc,rfl,-,t2,-⟩ := ht.open;obtain ⟨sa,sc,rfl,-,s2,-⟩ := hs.open;obtain ⟨x1,y1,rfl,-,z1,-⟩ := hc.g.open;obtain ⟨x2,y2,rfl,-,z2,-⟩ := hd.g.open;obtain ⟨x3,y3,rfl,-,z3,-⟩ := hc.m.open;obtain ⟨x4,y4,rfl,-,z4,-⟩ := hd.m.open;unfold maxLen at t2 s2 z1 z2 z3 z4;have HTO := hid_ (fun e (h : ThrO c d tl sl e) => h);have HTF := hid_ (show ∀ e,ThrO c d tl sl e ↔ ∃ e1 e2 : Int,CodO c.p c.m c.ml c.n c.rows e1 ∧ (e1 = 0 → CodO d.p d.m d.ml d.n d.rows e2) ∧ e = stE e1 e2 (samF c.p c.m c.ml d.p d.m d.ml) c.n d.n tl sl (c.p.toNat ^ c.m.toNat) from fun e => Iff.rfl);obtain ⟨p,m,ml,n,rows⟩ := c;obtain ⟨p',m',ml',n',rows'⟩ := d;obtain ⟨B,hB⟩ : ∃ B,w.heap.size = B := ⟨_,rfl⟩;rw [hB] at c0 c1 c2 c3 c4 d0 d1 d2 d3 d4 b0 b1;obtain ⟨TO,hTO⟩ : ∃ T,ThrO ⟨p,m,ml,n,rows⟩ ⟨p',m',ml',n',rows'⟩ tl sl = T := ⟨_,rfl⟩;rw [hTO] at HTF ⊢;dsimp only [CdV.arg,CdV.obj] at *;clear hc hd ht hs e1 e2 e3 hz1 hz2 hTO HTO;go_enter Tryz.func67,Tryz.ntmps67
 go_upto_region 1 with fail
 try simp only [hB]
 clear hB;generalize ((w.alloc (.cells #[.int .i64 p,.int .i64 m,.slice x3 ml.length y3,.int .i64 n,.slice x1 rows.length y1] 47)).alloc (.cells #[.int .i64 p',.int .i64 m',.slice x4 ml'.length y4,.int .i64 n',.slice x2 rows'.length y2] 47)).alloc (.cells #[.slice ta tl.length tc,.slice sa sl.length sc] 49) = w1 at *;have HALL := hid_ (fun w' (h : Ex w1 w') => (⟨h.cell c0,h.cell c1,h.cell c2,h.cell c3,h.cell b0,h.cell b1⟩ : _ ∧ _ ∧ _ ∧ _ ∧ _ ∧ _));go_wp2_with fail
 refine (HFT.out w1 HX.out).mono ?_;rintro e w2 ⟨⟨E,rfl,hfo⟩,hx2⟩;have HX2 := hid_ hx2;clear hx2 c0 c1 c2 c3 c4 d0 d1 d2 d3 d4 b0 b1;obtain ⟨c0,c1,c2,c3,b0,b1⟩ := HALL.out w2 HX2.out;by_cases h0 : E = 0
 rotate_left
 ·have k1 : (E != 0) = true := by simpa using h0
  have HT0 := hid_ (show TO E from (HTF.out E).2 (by
   rcases hfo with ⟨h1,h2⟩ | ⟨h1,h2,h3⟩ | ⟨h1,h2,h3⟩
   ·exact ⟨E,0,h1,fun h => absurd h h2,by unfold stE;rw [if_pos h2]⟩
   ·exact ⟨0,E,h1,fun _ => h2,by unfold stE;rw [if_neg (by simp),if_pos h3]⟩
   ·refine ⟨0,0,h1,fun _ => h2,?_⟩;have hn : ¬ (samF p m ml p' m' ml' = true ∧ n = n') := fun h => h0 (by rw [h3,if_pos h]);rw [h3,if_neg hn];unfold stE;rw [if_neg (by simp),if_neg (by simp),if_pos]
    cases hs : samF p m ml p' m' ml' with
    | false => exact .inl rfl
    | true => exact .inr fun e => hn ⟨hs,e⟩))
  clear h0 hfo;go_wp2_with fail
  go_ret;exact ⟨⟨_,rfl,HT0.out⟩,HX.out.trans HX2.out⟩
 ·subst h0;have k1 : ((0 : Int) != 0) = false := by simp
  rcases hfo with ⟨h1,h2⟩ | ⟨h1,h2,h3⟩ | ⟨h1,h2,h3⟩
  ·exact absurd rfl h2
  ·exact absurd rfl h3
  ·have hsn : samF p m ml p' m' ml' = true ∧ n = n' := by
    apply Classical.byContradiction;intro h;rw [if_neg h] at h3;cases h3
   have HSN := hid_ hsn;have H1 := hid_ h1;have H2 := hid_ h2;clear hsn h2 h3;obtain ⟨pn,mn,N,rfl,rfl,rfl,hsh,_,_,n64,_,_⟩ := codO_two h1;have HPA := hid_ (rPartial_any w2 hsh ((HC.out.ex (HX.out.trans HX2.out)).m) N n64 tl sl _ _ (HT.out.ex (HX.out.trans HX2.out)) (HS.out.ex (HX.out.trans HX2.out)));have HT0 := hid_ (show TO (parS (pn ^ mn) tl sl N) from (HTF.out _).2 ⟨0,0,H1.out,fun _ => H2.out,by
    have hs : ¬ (samF (pn : Int) mn ml p' m' ml' = false ∨ (N : Int) ≠ n') := by
     rintro (h | h)
     ·rw [HSN.out.1] at h;cases h
     ·exact h HSN.out.2
    unfold stE;rw [if_neg (by simp),if_neg (by simp),if_neg hs];unfold parS;simp only [Int.toNat_natCast]⟩)
   obtain ⟨Q,hQ⟩ : ∃ Q,parS (pn ^ mn) tl sl N = Q := ⟨_,rfl⟩;rw [hQ] at HPA HT0;clear h1 hsh n64 hQ
   try dsimp only at HPA
   go_wp2_with fail
   refine HPA.out.mono ?_;rintro e w3 ⟨rfl,hx3⟩;have HX3 := hid_ (HX2.out.trans hx3);clear hx3;go_wp2_with fail
   go_ret;exact ⟨⟨_,rfl,HT0.out⟩,HX.out.trans HX3.out⟩
end
section
open Go.RowKit Go.ChangeShapes Go.WideShapes Go.ChangeAt
section
variable {H : Type} {enc : TypeId × Value → H} {W : World} {held : Bool}
theorem spot_none {x : Addr} {w : World} {u : Value} (h : w.cell? x = some u) (hu : (∃ k n,u = .int k n) ∨ ∃ a l c,u = .slice a l c) : x = ⟨x.block,x.off,none⟩ := by
 have hs : x.spot = none := by
  rcases hs : x.spot with _ | s
  ·rfl
  ·exfalso;simp only [World.cell?,hs] at h;split at h
   ·rcases hu with ⟨k,n,rfl⟩ | ⟨a,l,c,rfl⟩ <;> simp at h
   ·simp at h
 cases x;simp_all
theorem add_off (b o j : Nat) : (⟨b,o,none⟩ : Addr).add j = ⟨b,o + j,none⟩ := by unfold Addr.add;split <;> simp_all
theorem isl_cells {w : World} {a : Option Addr} {len cap : Nat} {zs : List Int} (h1 : len ≤ cap) (h2 : cap ≤ maxLen) (h3 : zs.length = cap) (h4 : a = none → cap = 0) (h5 : ∀ x,a = some x → ∀ i,i < cap → w.cell? (x.add i) = some (.int .i64 (zs.getD i 0))) :
  ISl w (.slice a len cap) (zs.take len) := by
 have hl : (zs.take len).length = len := by rw [List.length_take];omega
 unfold ISl;rw [hl];refine ⟨by rw [ints_length];omega,a,cap,rfl,h1,h2,fun hn => ?_⟩;rcases a with _ | x
 ·have := h4 rfl;omega
 ·have h0 := h5 x rfl 0 (by omega);have hx := spot_none h0 (.inl ⟨_,_,rfl⟩);have hx0 : (x.add 0) = x := by simp [Addr.add]
  rw [hx0] at hx;refine ⟨x.block,x.off,congrArg some hx,fun j u hu => ?_⟩;simp only [ints,List.getElem?_map,List.getElem?_take] at hu;split at hu
  ·have h6 := h5 x rfl j (by omega);rw [hx,add_off] at h6;rw [h6];obtain ⟨y,hy,rfl⟩ := Option.map_eq_some_iff.1 hu;rw [List.getD_eq_getElem?_getD,hy];rfl
  ·cases hu
theorem isl_trod {fuel : Nat} {v : Value} {y : DataW H × List MemPlace} (h : DataW.trod enc Tryz.prog W 0 (fun _ => true) held fuel 22 [v] = some y) : ∃ l,ISl W v l := by
 rcases open_ints Tryz.underlying22 Tryz.underlying3 (by kernel_rfl) h with ⟨hcs,_⟩ | ⟨x,l,c,zs,hcs,_,hl,hm,hz,_,hcell,hwz⟩
 ·simp at hcs;subst hcs;exact ⟨[],Sl.nil W 1⟩
 ·simp at hcs;subst hcs;simp only [if_true] at hz;exact ⟨_,isl_cells hl hm hz (fun h => by cases h) (fun x' hx i hi => by injection hx with hx;subst hx;exact hcell i (by omega))⟩
theorem msl_trod {fuel : Nat} {v : Value} {y : DataW H × List MemPlace} (h : DataW.trod enc Tryz.prog W 0 (fun _ => true) held fuel 45 [v] = some y) : ∃ rows,MSl W v rows := by
 rcases Go.Deep.open_int_rows Tryz.underlying45 Tryz.underlying22 Tryz.underlying3 (by kernel_rfl) (by kernel_rfl) h with ⟨hcs,_⟩ | ⟨x,len,cap,A,L,C,Z,hcs,_,hl,hm,_,hr⟩
 ·simp at hcs;subst hcs;exact ⟨[],[],Sl.nil W 1,fun i r u hr => by simp at hr⟩
 ·simp at hcs;subst hcs;refine ⟨(List.range len).map fun r => (Z r).take (L r),(List.range len).map fun r => .slice (A r) (L r) (C r),?_,fun i r u h1 h2 => ?_⟩
  ·refine ⟨by simp,some x,cap,by simp,by simpa using hl,hm,fun hn => ?_⟩;simp at hn;have h0 := (hr 0 (by omega)).1;have hx := spot_none h0 (.inr ⟨_,_,_,rfl⟩);have hx0 : (x.add 0) = x := by simp [Addr.add]
   rw [hx0] at hx;refine ⟨x.block,x.off,congrArg some hx,fun j u hu => ?_⟩;simp only [List.getElem?_map] at hu;obtain ⟨k,hk,rfl⟩ := Option.map_eq_some_iff.1 hu;have hj : j < len := by have := (List.getElem?_eq_some_iff.1 hk).1;simpa using this
   have e : k = j := by simp [hj] at hk;exact hk.symm
   subst e;have := (hr k (by omega)).1;rw [hx,add_off] at this;exact this
  ·have hi : i < len := by have := (List.getElem?_eq_some_iff.1 h1).1;simpa using this
   simp [hi] at h1 h2;subst h1 h2;obtain ⟨_,a1,a2,a3,_,a4,a5⟩ := hr i (by omega);exact isl_cells a1 a2 a3 a4 (fun x' hx j hj => (a5 x' hx).2 j hj)
theorem c_int : Tryz.prog.cellsOf 3 = 1 := by kernel_rfl
theorem c_ints : Tryz.prog.cellsOf 22 = 1 := by kernel_rfl
theorem c_rows : Tryz.prog.cellsOf 45 = 1 := by kernel_rfl
theorem c_fld : Tryz.prog.cellsOf 24 = 3 := by kernel_rfl
theorem c_mon : Tryz.prog.cellsOf 26 = 3 := by kernel_rfl
theorem fld_cells {fuel : Nat} {c0 c1 c2 : Value} {y : DataW H × List MemPlace} (h : DataW.trod enc Tryz.prog W 0 (fun _ => true) held fuel 24 [c0,c1,c2] = some y) :
  ∃ (P M : Int) (ml : List Int),c0 = .int .i64 P ∧ c1 = .int .i64 M ∧ ISl W c2 ml := by
 obtain ⟨xs,k,_,_,_,hxl,hf⟩ := DataW.trod_struct Tryz.underlying24 h;have g0 := hf 0 _ rfl;have g1 := hf 1 _ rfl;have g2 := hf 2 _ rfl
 match xs,hxl with
 | [y0,y1,y2],_ =>
  simp [c_int,c_ints] at g0 g1 g2;obtain ⟨P,e0,_,_⟩ := DataW.trod_int Tryz.underlying3 g0;obtain ⟨M,e1,_,_⟩ := DataW.trod_int Tryz.underlying3 g1;obtain ⟨l,hl⟩ := isl_trod g2;simp at e0 e1;exact ⟨P,M,l,e0,e1,hl⟩
theorem mon_cells {fuel : Nat} {c0 c1 c2 : Value} {y : DataW H × List MemPlace} (h : DataW.trod enc Tryz.prog W 0 (fun _ => true) held fuel 26 [c0,c1,c2] = some y) :
  ∃ (pl sl : List Int) (fr : Int),ISl W c0 pl ∧ ISl W c1 sl ∧ c2 = .int .i64 fr := by
 obtain ⟨xs,k,_,_,_,hxl,hf⟩ := DataW.trod_struct Tryz.underlying26 h;have g0 := hf 0 _ rfl;have g1 := hf 1 _ rfl;have g2 := hf 2 _ rfl
 match xs,hxl with
 | [y0,y1,y2],_ =>
  simp [c_int,c_ints] at g0 g1 g2;obtain ⟨P,e0,_,_⟩ := DataW.trod_int Tryz.underlying3 g2;obtain ⟨l,hl⟩ := isl_trod g0;obtain ⟨l',hl'⟩ := isl_trod g1;simp at e0;exact ⟨l,l',P,hl,hl',e0⟩
theorem okWide_agg {r : Reach} {b0 : Nat} {t : TypeId} {fs : Array Field} {v : Value} (ht : Tryz.prog.underlying t = some (.struct fs)) (h : Value.okWide Tryz.prog W r b0 t v) : ∃ cs,v = .agg cs ∧ cs.size = Tryz.prog.cellsOf t := by
 simp only [Value.okWide,ht] at h;obtain ⟨cs,h1,h2,_⟩ := h;exact ⟨cs,h1,h2⟩
theorem array6 {α : Type} {cs : Array α} (h : cs.size = 6) : ∃ c0 c1 c2 c3 c4 c5,cs = #[c0,c1,c2,c3,c4,c5] := by
 obtain ⟨l⟩ := cs
 match l,h with
 | [c0,c1,c2,c3,c4,c5],_ => exact ⟨c0,c1,c2,c3,c4,c5,rfl⟩
theorem array5 {α : Type} {cs : Array α} (h : cs.size = 5) : ∃ c0 c1 c2 c3 c4,cs = #[c0,c1,c2,c3,c4] := by
 obtain ⟨l⟩ := cs
 match l,h with
 | [c0,c1,c2,c3,c4],_ => exact ⟨c0,c1,c2,c3,c4,rfl⟩
end
end
end Go.Proofs.YtgdmlmhpineibaaGreat
