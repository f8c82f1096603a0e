/- Plain: sums over a permutation; linear combinations; the image of a word under a monomial map. -/
import Derived.Test.YtgdmlmhpineibaaGreatZe15
import Derived.Test.YtgdmlmhpineibaaGreatZe18
import Derived.Test.YtgdmlmhpineibaaGreatZe19
namespace Go.Proofs.YtgdmlmhpineibaaGreat
set_option linter.unusedVariables false
set_option linter.unusedSimpArgs false
set_option maxRecDepth 100000
set_option maxHeartbeats 8000000
section
open Go.RowKit
section
variable {p m : Nat} {ml : List Int} {N R : Nat}
def ks (p m : Nat) (g : Nat → Nat) : Nat → Nat
 | 0 => 0
 | n + 1 => kadd p m (ks p m g n) (g n)
def plc (π : Nat → Nat) (v : Nat → Int) : Nat → Nat → Int
 | 0 => fun _ => 0
 | k + 1 => upd (plc π v k) (π k) (v k)
end
end
section
open Go.RowKit
theorem rowsF_il {N i : Nat} {rows : List (List Int)} {r : List Int} (hr : rows[i]? = some r) (hl : r.length = N) : il N (rowsF rows i) = r := by
 apply List.ext_getElem?;intro j;by_cases h : j < N
 ·rw [il_get h];unfold rowsF;rw [List.getD_eq_getElem?_getD (l := rows),hr,List.getD_eq_getElem?_getD];show some (r[j]?.getD 0) = r[j]?
  rw [List.getElem?_eq_getElem (by omega)];rfl
 ·rw [List.getElem?_eq_none (by rw [il_len];omega),List.getElem?_eq_none (by omega)]
theorem elo_rows {p m : Nat} {ml : List Int} {N R : Nat} {a a' : Nat → Nat → Int} {piv : List Nat} (h : ElO p m ml N R a a' piv) : piv.length ≤ R ∧ ∀ t ∈ rowsL N piv.length a',t.length = N ∧ entS (p ^ m) t = 0 := by
 obtain ⟨c,hc,hP,_,hS⟩ := h;refine ⟨hP.le,fun t ht => ?_⟩;unfold rowsL at ht;obtain ⟨i,hi,rfl⟩ := List.mem_map.1 ht;have hi := List.mem_range.1 hi;refine ⟨il_len _ _,entS_of fun x hx => ?_⟩;obtain ⟨j,hj,rfl⟩ := il_mem hx;exact hP.rng i (by have := hP.le;omega) j hj
end
section
open Go.RowKit
def canE (p m : Int) (ml : List Int) (cols : Int) (rows : List (List Int)) : Int := if chkS p m ml ≠ 0 then 1 else mchkS (p.toNat ^ m.toNat) cols rows
def CanR (p m : Int) (ml : List Int) (cols : Int) (rows : List (List Int)) (b0 : Nat) (r : Ending) (w' : World) : Prop :=
 (canE p m ml cols rows = 0 ∧ ∃ (pn mn N : Nat) (piv : List Nat) (a' : Nat → Nat → Int) (rv pv : Value),p = pn ∧ m = mn ∧ cols = N ∧ FldB p m ml ∧ mchkS (pn ^ mn) N rows = 0 ∧ r = .returned (.tuple #[.agg #[.int .i64 N,rv],pv,.int .i64 0]) ∧ ElO pn mn ml N rows.length (rowsF rows) a' piv ∧ MSl w' rv (rowsL N piv.length a') ∧ ISl w' pv (pI piv) ∧ ∃ g blk cap base,b0 ≤ base ∧ rv = .slice (some ⟨g,0,none⟩) piv.length piv.length ∧ EM w' base g rows.length N blk cap a' []) ∨
 (canE p m ml cols rows ≠ 0 ∧ r = .returned (.tuple #[.agg #[.int .i64 0,.slice none 0 0],.slice none 0 0,.int .i64 (canE p m ml cols rows)]))
theorem Canonical_any (w : World) (p m : Int) (ml : List Int) (mv : Value) (hmv : ISl w mv ml) (cols : Int) (rows : List (List Int)) (v : Value) (hv : MSl w v rows) (h0 : canE p m ml cols rows = 0 → 1 ≤ cols) :
  Calls Tryz.prog 121 #[.agg #[.int .i64 p,.int .i64 m,mv],.agg #[.int .i64 cols,v]] w fun r w' => CanR p m ml cols rows w.heap.size r w' ∧ Ex w w' := by
 have HO := hid_ (fun w' B h1 h2 h3 h4 => open1_any p m ml mv w' h1 cols rows v h2 B h3 h4);obtain ⟨g0,g1,g2,e0,gsz⟩ := box_facts w p m mv;have HMV := hid_ hmv;have HV := hid_ hv;have H0 := hid_ h0;obtain ⟨za,zc,rfl,z1,z2,z3⟩ := hv.open;clear z1 z3;unfold maxLen at z2;obtain ⟨xb,hxb⟩ : ∃ xb,w.heap.size = xb := ⟨_,rfl⟩;rw [hxb] at g0 g1 g2 gsz;clear hmv hv h0;go_enter Tryz.func121,Tryz.ntmps121
 go_wp2_with fail
 generalize w.alloc (.cells #[.int .i64 p,.int .i64 m,mv] 24) = wA at *;obtain ⟨a0,a1,ea⟩ := boxM_facts wA cols (.slice za rows.length zc);have asz : (wA.alloc (.cells #[.int .i64 cols,.slice za rows.length zc] 113)).heap.size = xb + 1 + 1 := by simp [gsz]
 rw [gsz] at a0 a1;generalize wA.alloc (.cells #[.int .i64 cols,.slice za rows.length zc] 113) = wB at *;obtain ⟨q0,q1,eb⟩ := boxM_facts wB 0 (.slice none 0 0);have qf : (wB.alloc (.cells #[.int .i64 0,.slice none 0 0] 113)).frozen? ⟨xb + 1 + 1,1,none⟩ = false := by rw [← asz];simp
 have qf0 : (wB.alloc (.cells #[.int .i64 0,.slice none 0 0] 113)).frozen? ⟨xb + 1 + 1,0,none⟩ = false := by rw [← asz];simp
 have bsz : (wB.alloc (.cells #[.int .i64 0,.slice none 0 0] 113)).heap.size = xb + 1 + 1 + 1 := by simp [asz]
 rw [asz] at q0 q1;generalize wB.alloc (.cells #[.int .i64 0,.slice none 0 0] 113) = wC at *;obtain ⟨l0,l1,ec⟩ := boxM_facts wC cols (.slice za rows.length zc);rw [bsz] at l0 l1;generalize wC.alloc (.cells #[.int .i64 cols,.slice za rows.length zc] 113) = wD at *;have eD : Ex w wD := ((e0.trans ea).trans eb).trans ec;have A0 := hid_ ((eb.trans ec).cell a0);have A1 := hid_ ((eb.trans ec).cell a1);have Q0 := hid_ (ec.cell q0);have Q1 := hid_ (ec.cell q1);have QF := hid_ (ec.frz q1 qf);have QF0 := hid_ (ec.frz q0 qf0);have HXD := hid_ eD;refine (HO.out wD (xb + 1 + 1 + 1) (HMV.out.ex eD) (HV.out.ex eD) l0 l1).mono ?_;clear g0 g1 g2 e0 gsz ea asz a0 a1 eb bsz q0 q1 qf qf0 l0 l1 ec eD HO;rintro e w2 ⟨ho,hx2⟩;have HX2 := hid_ (HXD.out.trans hx2);have QF := hid_ (hx2.frz Q1.out QF.out);have QF0 := hid_ (hx2.frz Q0.out QF0.out);have c0 := hx2.cell A0.out;have c1 := hx2.cell A1.out;have Q0 := hid_ (hx2.cell Q0.out);have Q1 := hid_ (hx2.cell Q1.out);have A0 := hid_ c0;clear hx2 A1;have HEE := hid_ (fun (i : Value) (j : Value) => ((HX2.out).setCell (p := ⟨xb + 1 + 1,0,none⟩) (by show w.heap.size ≤ xb + 1 + 1;omega) i).setCell (p := ⟨xb + 1 + 1,1,none⟩) (by show w.heap.size ≤ xb + 1 + 1;omega) j);rcases ho with ⟨pn,mn,x0,b,rfl,rfl,hg,hx01,hx02,⟨hmk,rfl⟩ | ⟨hno,rfl⟩⟩ | ⟨hno,rfl⟩
 ·have hch : chkS pn mn ml = 0 := (chk_iff _ _ _).2 ⟨pn,mn,rfl,rfl,hg.sh,hg.pr,hg.isF hx01 hx02⟩;have hce : canE pn mn ml cols rows = 0 := by
   unfold canE;rw [if_neg (by simp [hch]),Int.toNat_natCast,Int.toNat_natCast];exact hmk
  have hc1 := H0.out hce;obtain ⟨s1,s2,s3,s4⟩ := mchk_shape hmk;obtain ⟨N,rfl⟩ : ∃ N : Nat,cols = N := ⟨cols.toNat,by omega⟩;have HCE := hid_ hce;have HFB := hid_ ((chk_iff _ _ _).1 hch);have HMK := hid_ hmk;have HCN := hid_ (canon_any2 w2 hg hx01 hx02 N rows.length rows _ (HV.out.ex HX2.out) rfl s3 (by omega) (by omega) fun i r h => by
   have := s4 r (List.mem_of_getElem? h);exact ⟨by omega,this.2⟩)
  have HS3 := hid_ s3;clear hg hch hce hc1 s1 s2 s3 s4 hmk hx01 hx02;go_wp2_with (go_at_call 125;refine HCN.out.mono ?_;rintro e w8 ⟨piv2,pv2,rv2,a2,rfl,hel2,hrv2,hpv2,hx8,g8,blk8,cap8,rfl,hem8,hpb8⟩;have a0n := hx8.cell A0.out;have q0 := hx8.cell Q0.out;have qf0 := hx8.frz Q0.out QF0.out;have q1 := hx8.cell Q1.out;have qf1 := hx8.frz Q1.out QF.out;have HEL2 := hid_ hel2;have HEM8 := hid_ hem8;have HX8 := hid_ hx8;have HPV8 := hid_ hpv2;have HPB := hid_ hpb8;obtain ⟨pa,pc,rfl,-,-,-⟩ := hpv2.open;clear hel2 hem8 hx8 hpb8 hrv2 hpv2)
  have hbl : xb + 1 + 1 < w2.heap.size := World.block_lt_of_cell? _ _ Q0.out;have hp2 := (elo_rows HEL2.out).1;have HMS := hid_ (((HEM8.out.low (A := ⟨xb + 1 + 1,0,none⟩) hbl (.int .i64 N)).low (A := ⟨xb + 1 + 1,1,none⟩) hbl (.slice (some ⟨g8,0,none⟩) piv2.length piv2.length)).msl hp2 HS3.out);have HEM9 := hid_ ((HEM8.out.low (A := ⟨xb + 1 + 1,0,none⟩) hbl (.int .i64 N)).low (A := ⟨xb + 1 + 1,1,none⟩) hbl (.slice (some ⟨g8,0,none⟩) piv2.length piv2.length));have HPN := hid_ (fun B h => show B ≠ xb + 1 + 1 from by have := HPB.out B h;omega);have HEX := hid_ ((((HX2.out).trans HX8.out).setCell (p := ⟨xb + 1 + 1,0,none⟩) (by show w.heap.size ≤ xb + 1 + 1;omega) (.int .i64 N)).setCell (p := ⟨xb + 1 + 1,1,none⟩) (by show w.heap.size ≤ xb + 1 + 1;omega) (.slice (some ⟨g8,0,none⟩) piv2.length piv2.length));exact bodyPost_ret (v := .tuple #[.agg #[.int .i64 N,.slice (some ⟨g8,0,none⟩) piv2.length piv2.length],.slice pa (pI piv2).length pc,.int .i64 0]) (by simp [results,Tryz.results121,go_sem,q0,q1]) rfl ⟨.inl ⟨HCE.out,pn,mn,N,piv2,a2,_,_,rfl,rfl,rfl,HFB.out,HMK.out,rfl,HEL2.out,HMS.out,Sl.other (Sl.other HPV8.out (fun B h => HPN.out B h) _) (fun B h => HPN.out B h) _,g8,blk8,cap8,_,HX2.out.size,rfl,HEM9.out⟩,HEX.out⟩
 ·have hch : chkS pn mn ml = 0 := (chk_iff _ _ _).2 ⟨pn,mn,rfl,rfl,hg.sh,hg.pr,hg.isF hx01 hx02⟩;have hce : canE pn mn ml cols rows = mchkS (pn ^ mn) cols rows := by
   unfold canE;rw [if_neg (by simp [hch]),Int.toNat_natCast,Int.toNat_natCast]
  have HCE := hid_ hce;clear hg hch hce hx01 hx02 HMV HV H0;obtain ⟨E,hE⟩ : ∃ E,mchkS (pn ^ mn) cols rows = E := ⟨_,rfl⟩;rw [hE] at HCE hno ⊢;have hb : (E != 0) = true := by simpa using hno
  have HNO := hid_ hno;have q0 := Q0.out;have q1 := Q1.out;have qf0 := QF0.out;have qf1 := QF.out;clear hE hno;go_wp2_with fail
  exact bodyPost_ret (v := .tuple #[.agg #[.int .i64 0,.slice none 0 0],.slice none 0 0,.int .i64 E]) (by simp [results,Tryz.results121,go_sem,q0,q1]) rfl ⟨.inr ⟨by rw [HCE.out];exact HNO.out,by rw [HCE.out]⟩,HEE.out _ _⟩
 ·have hce : canE p m ml cols rows = 1 := by
   unfold canE;rw [if_pos (fun h => hno ((chk_iff _ _ _).1 h))]
  have HCE := hid_ hce;clear hno hce HMV HV H0;have q0 := Q0.out;have q1 := Q1.out;have qf0 := QF0.out;have qf1 := QF.out;go_wp2_with fail
  exact bodyPost_ret (v := .tuple #[.agg #[.int .i64 0,.slice none 0 0],.slice none 0 0,.int .i64 1]) (by simp [results,Tryz.results121,go_sem,q0,q1]) rfl ⟨.inr ⟨by rw [HCE.out];decide,by rw [HCE.out]⟩,HEE.out _ _⟩
end
section
open Go.RowKit
theorem CloneE_any (w : World) (l : List Int) (v : Value) (hl : ISl w v l) (hn2 : l.length ≤ 1000) :
  Calls Tryz.prog 66 #[v] w fun r w' => ∃ v',r = .returned v' ∧ ISl w' v' l ∧ (∀ B,v'.ownBlock = some B → w.heap.size ≤ B) ∧ Ex w w' := by
 have HL := hid_ hl;obtain ⟨a,cap,rfl,s1,s2,s3⟩ := hl.open;have hmi : ∀ u ∈ ints l,u.oneCell' = true := by
  intro u hu;obtain ⟨z,_,rfl⟩ := List.mem_map.1 hu;rfl
 have HON := hid_ hmi;clear hl hmi
 cases a with
 | none =>
  have h0 : l = [] := by
   cases l with
   | nil => rfl
   | cons x t => obtain ⟨_,_,h,_⟩ := s3 (by simp);cases h
  subst h0;have hnil := fun w' => run_eql_slice_nil (P := Tryz.prog) w' 22 3 none 0 cap Tryz.underlying22;simp only [Option.isNone] at hnil;clear s1 s2 s3;go_enter Tryz.func66,Tryz.ntmps66
  go_wp2_with fail
  go_ret;exact ⟨_,rfl,isl_nil _,by simp [Value.ownBlock],Ex.refl _⟩
 | some ad =>
  have hnil := fun w' => run_eql_slice_nil (P := Tryz.prog) w' 22 3 (some ad) l.length cap Tryz.underlying22;simp only [Option.isNone] at hnil;clear s3;go_enter Tryz.func66,Tryz.ntmps66
  go_wp2_with (at_builtin;refine wpList_append_sl _ rfl _ _ 22 rfl w.heap.size 3 (.int .i64 0) 1 8 Tryz.underlying22 infoInt rfl (by decide) _ 0 [] rfl (own_lit0 w 3) (.slice (some ad) l.length cap) l.length (ints l) rfl (HL.out.ex ((Ex.refl w).alloc _)) HON.out (by unfold maxLen;omega) (by omega) (by simp) ?_)
  intro v1 w1 hown1 hg1 ha1;have hx1 : Ex w w1 := Ex.grown ((Ex.refl w).alloc _) (own_lit0 w 3) (Nat.le_refl _) hg1;have HI := hid_ (show ISl w1 v1 l from Sl.own hown1);have HB := hid_ (fun B (e : v1.ownBlock = some B) => (hown1.lt B e).1);have HX := hid_ hx1;clear hown1 hg1 ha1 hx1 hnil;go_wp2_with fail
  go_ret;exact ⟨_,rfl,HI.out,HB.out,HX.out⟩
def lenE (n : Int) : Int := if n < 1 ∨ 64 < n then 4 else 0
theorem length_any (w : World) (n : Int) : Calls Tryz.prog 119 #[.int .i64 n] w fun r w' => r = .returned (.int .i64 (lenE n)) ∧ w' = w := by
 unfold lenE;go_enter Tryz.func119,Tryz.ntmps119
 by_cases h1 : n < 1
 ·have b1 : decide (n < 1) = true := by simpa using h1
  rw [if_pos (.inl h1)];go_wp2_with fail
  go_ret;exact ⟨rfl,rfl⟩
 ·have b1 : decide (n < 1) = false := by simpa using h1
  by_cases h2 : 64 < n
  ·have b2 : decide (64 < n) = true := by simpa using h2
   rw [if_pos (.inr h2)];go_wp2_with fail
   go_ret;exact ⟨rfl,rfl⟩
  ·have b2 : decide (64 < n) = false := by simpa using h2
   rw [if_neg (by omega)];go_wp2_with fail
   go_ret;exact ⟨rfl,rfl⟩
theorem boxC_facts (w : World) (p m : Int) (mv : Value) (n : Int) (gv : Value) : (w.alloc (.cells #[.int .i64 p,.int .i64 m,mv,.int .i64 n,gv] 47)).cell? ⟨w.heap.size,0,none⟩ = some (.int .i64 p) ∧ (w.alloc (.cells #[.int .i64 p,.int .i64 m,mv,.int .i64 n,gv] 47)).cell? ⟨w.heap.size,1,none⟩ = some (.int .i64 m) ∧ (w.alloc (.cells #[.int .i64 p,.int .i64 m,mv,.int .i64 n,gv] 47)).cell? ⟨w.heap.size,2,none⟩ = some mv ∧ (w.alloc (.cells #[.int .i64 p,.int .i64 m,mv,.int .i64 n,gv] 47)).cell? ⟨w.heap.size,3,none⟩ = some (.int .i64 n) ∧ (w.alloc (.cells #[.int .i64 p,.int .i64 m,mv,.int .i64 n,gv] 47)).cell? ⟨w.heap.size,4,none⟩ = some gv ∧ Ex w (w.alloc (.cells #[.int .i64 p,.int .i64 m,mv,.int .i64 n,gv] 47)) :=
 ⟨by simp,by simp,by simp,by simp,by simp,(Ex.refl _).alloc _⟩
theorem gen_any (w : World) (p m : Int) (mv : Value) (n : Int) (rows : List (List Int)) (gv : Value) (hg : MSl w gv rows) :
  Calls Tryz.prog 80 #[.agg #[.int .i64 p,.int .i64 m,mv,.int .i64 n,gv]] w fun r w' => r = .returned (.agg #[.int .i64 n,gv]) ∧ Ex w w' := by
 obtain ⟨a0,a1,a2,a3,a4,ea⟩ := boxC_facts w p m mv n gv;obtain ⟨za,zc,rfl,z1,z2,z3⟩ := hg.open;clear z3;unfold maxLen at z2;go_enter Tryz.func80,Tryz.ntmps80
 go_wp2_with fail
 exact bodyPost_ret (v := .agg #[.int .i64 n,.slice za rows.length zc]) (by simp [results,Tryz.results80,go_sem]) rfl ⟨rfl,ea.trans ((Ex.refl _).alloc _)⟩
theorem own_any (w : World) (p m : Int) (ml : List Int) (mv : Value) (hmv : ISl w mv ml) (hn : ml.length ≤ 1000) :
  Calls Tryz.prog 127 #[.agg #[.int .i64 p,.int .i64 m,mv]] w fun r w' => ∃ v',r = .returned (.agg #[.int .i64 p,.int .i64 m,v']) ∧ ISl w' v' ml ∧ (∀ B,v'.ownBlock = some B → w.heap.size ≤ B) ∧ Ex w w' := by
 obtain ⟨a0,a1,a2,e0,asz⟩ := box_facts w p m mv;obtain ⟨q0,q1,q2,eb,bsz⟩ := box_facts (w.alloc (.cells #[.int .i64 p,.int .i64 m,mv] 24)) 0 0 (.slice none 0 0);have af : (w.alloc (.cells #[.int .i64 p,.int .i64 m,mv] 24)).frozen? ⟨w.heap.size,2,none⟩ = false := by simp
 have qf : ((w.alloc (.cells #[.int .i64 p,.int .i64 m,mv] 24)).alloc (.cells #[.int .i64 0,.int .i64 0,.slice none 0 0] 24)).frozen? ⟨(w.alloc (.cells #[.int .i64 p,.int .i64 m,mv] 24)).heap.size,0,none⟩ = false ∧ ((w.alloc (.cells #[.int .i64 p,.int .i64 m,mv] 24)).alloc (.cells #[.int .i64 0,.int .i64 0,.slice none 0 0] 24)).frozen? ⟨(w.alloc (.cells #[.int .i64 p,.int .i64 m,mv] 24)).heap.size,1,none⟩ = false ∧ ((w.alloc (.cells #[.int .i64 p,.int .i64 m,mv] 24)).alloc (.cells #[.int .i64 0,.int .i64 0,.slice none 0 0] 24)).frozen? ⟨(w.alloc (.cells #[.int .i64 p,.int .i64 m,mv] 24)).heap.size,2,none⟩ = false := ⟨by simp,by simp,by simp⟩;replace af := eb.frz a2 af;replace a0 := eb.cell a0;replace a1 := eb.cell a1;replace a2 := eb.cell a2;rw [asz] at q0 q1 q2 qf bsz;have HE := hid_ (e0.trans eb);have HMV := hid_ (hmv.ex HE.out);obtain ⟨ma,mc,rfl,m1',m2,m3⟩ := hmv.open;unfold maxLen at m2;clear hmv m3 e0 eb asz;go_enter Tryz.func127,Tryz.ntmps127
 go_wp2_with fail
 obtain ⟨xb,hxb⟩ : ∃ xb,w.heap.size = xb := ⟨_,rfl⟩;rw [hxb] at a0 a1 a2 q0 q1 q2 qf bsz af
 try simp only [hxb]
 generalize (w.alloc (.cells #[.int .i64 p,.int .i64 m,.slice ma ml.length mc] 24)).alloc (.cells #[.int .i64 0,.int .i64 0,.slice none 0 0] 24) = w1 at *;have HXB := hid_ hxb;obtain ⟨qf0,qf1,qf2⟩ := qf;clear hxb;refine (CloneE_any w1 ml _ HMV.out hn).mono ?_;rintro e w2 ⟨v',rfl,hv',hb',hx⟩;have HV := hid_ hv';have HB := hid_ (fun B e => show xb + 1 + 1 ≤ B from by have := hb' B e;omega);have HX := hid_ hx;obtain ⟨va,vc,rfl,-,-,-⟩ := hv'.open;have a0' := hx.cell a0;have a1' := hx.cell a1;have af' := hx.frz a2 af;have a2' := hx.cell a2;have q0' := hx.cell q0;have q1' := hx.cell q1;have q2' := hx.cell q2;have qf0' := hx.frz q0 qf0;have qf1' := hx.frz q1 qf1;have qf2' := hx.frz q2 qf2;clear a0 a1 a2 af q0 q1 q2 qf0 qf1 qf2 hv' hb' hx;go_wp2_with fail
 have hne : ∀ B,(Value.slice va ml.length vc).ownBlock = some B → B ≠ xb ∧ B ≠ xb + 1 := fun B e => by have := HB.out B e;omega
 have hw : w.heap.size = xb := HXB.out;exact bodyPost_ret (v := .agg #[.int .i64 p,.int .i64 m,.slice va ml.length vc]) (by simp [results,Tryz.results127,go_sem,q0',q1',q2']) rfl ⟨_,rfl,Sl.other (Sl.other (Sl.other (Sl.other HV.out (fun B h => (hne B h).1) _) (fun B h => (hne B h).2) _) (fun B h => (hne B h).2) _) (fun B h => (hne B h).2) _,fun B e => by have := HB.out B e;omega,
  ((((HE.out.trans HX.out).setCell (p := ⟨xb,2,none⟩) (by show w.heap.size ≤ xb;omega) _).setCell (p := ⟨xb + 1,0,none⟩) (by show w.heap.size ≤ xb + 1;omega) _).setCell (p := ⟨xb + 1,1,none⟩) (by show w.heap.size ≤ xb + 1;omega) _).setCell (p := ⟨xb + 1,2,none⟩) (by show w.heap.size ≤ xb + 1;omega) _⟩
end
section
open Go.RowKit
def cmb (p m : Nat) (ml : List Int) (a : Nat → Nat → Int) (x : Nat → Int) : Nat → Nat → Int
 | 0 => fun _ => 0
 | i + 1 => if x i = 0 then cmb p m ml a x i else addF p m ml (cmb p m ml a x i) (kin (p ^ m) (x i)) (a i)
theorem rComb_any {p m : Nat} {ml : List Int} {mv : Value} (w : World) (hf : FSh p m ml) (hmv : ISl w mv ml) (N k : Nat) (hN : N ≤ 256) (hk : k ≤ 256) (a : Nat → Nat → Int) (xs : List Int) (hxl : xs.length = k) (xv : Value) (hxs : ISl w xv xs) (rv : Value) (hr : MSl w rv (rowsL N k a)) :
  Calls Tryz.prog 155 #[.agg #[.int .i64 p,.int .i64 m,mv],xv,rv,.int .i64 N] w fun r w' => ∃ ov,r = .returned ov ∧ ISl w' ov (il N (cmb p m ml a (fun i => xs.getD i 0) k)) ∧ Ex w w' := by
 obtain ⟨a0,a1,a2,ea,asz⟩ := box_facts w p m mv;have p2 := hf.p2;obtain ⟨ra,rc,hre,r1,r2,r3⟩ := hr.open;rw [rowsL_len] at hre r1 r3;subst hre;obtain ⟨va,vc,hve,v1,v2,v3⟩ := hxs.open;rw [hxl] at hve v1 v3;subst hve;have HR3 := hid_ r3;have HF := hid_ hf;have HMV := hid_ hmv;have HV3 := hid_ v3;have HXL := hid_ hxl;have HE0 := hid_ ea;obtain ⟨ma,mc,rfl,-,-,-⟩ := hmv.open;unfold maxLen at v2 r2;obtain ⟨B,hB⟩ : ∃ B,w.heap.size = B := ⟨_,rfl⟩;rw [hB] at a0 a1 a2 asz;clear hf hmv hxs hr r3 v3 ea hxl;go_enter Tryz.func155,Tryz.ntmps155
 go_wp2_with (at_make;refine wpList_make_arr _ rfl _ _ 22 rfl 3 (.int .i64 0) 8 Tryz.underlying22 infoInt rfl _ N rfl rfl rfl (by omega) (by unfold maxLen;omega) ?_)
 intro w3 hown hx3
 try simp only [hB] at hown hx3 ⊢
 have HBW := hid_ hB;clear hB;generalize w.alloc (.cells #[.int .i64 p,.int .i64 m,.slice ma ml.length mc] 24) = w1 at *
 try simp only [asz] at hown ⊢
 have A0 := hid_ a0;have A1 := hid_ a1;have A2 := hid_ a2;have HO5 := hid_ (show ISl w3 (.slice (some ⟨B + 1,0,none⟩) N N) (il N (cmb p m ml a (fun i => xs.getD i 0) 0)) from (hown.icongr (h := fun _ => 0) (fun j _ => rfl)).isl);have HX5 := hid_ hx3;clear hown hx3 a0 a1 a2 asz;go_wp2_with fail
 go_loopw [9,10] (fun ov i' wr => ∃ (i : Nat),i ≤ k ∧ i' = .int .i64 i ∧ Hid (ISl wr ov (il N (cmb p m ml a (fun i => xs.getD i 0) i))) ∧ Hid (Ex w1 wr)) (fun _ i' _ => k - (intOf i').toNat)
 case atStart => exact ⟨0,by omega,rfl,HO5,HX5⟩
 case round =>
  obtain ⟨i,hi,rfl,hO,hX⟩ := hrel;obtain ⟨oa,oc,hov,o1,o2,-⟩ := hO.out.open;rw [il_len] at hov;subst hov;by_cases hik : i < k
  ·obtain ⟨zb,zo,hra0,hzj⟩ := HV3.out (by omega);subst hra0;have cv := hzj i (xs.getD i 0) (lget_D (by rw [HXL.out];exact hik));obtain ⟨rb,ro,hra,hrj⟩ := HR3.out (by omega);subst hra;obtain ⟨uv,huc,hui⟩ := hrj i _ (rowsL_get hik);obtain ⟨ua,uc,hue,-,-,-⟩ := hui.open;rw [il_len] at hue;subst hue;have x1 := hX.out;have x0 := HE0.out.trans x1;have CV := hid_ (x0.cell cv);have CR := hid_ (x0.cell huc);have C0 := hid_ (x1.cell A0.out);have C1 := hid_ (x1.cell A1.out);have C2 := hid_ (x1.cell A2.out);have i1 : (0 : Int) ≤ (i : Int) := by omega
   have i2 : (i : Int) < (k : Int) := by omega
   have b1 : decide (i < k) = true := by simpa using hik
   obtain ⟨y,hy⟩ : ∃ y,xs.getD i 0 = y := ⟨_,rfl⟩;have HRS := hid_ (show cmb p m ml a (fun i => xs.getD i 0) (i + 1) = if y = 0 then cmb p m ml a (fun i => xs.getD i 0) i else addF p m ml (cmb p m ml a (fun i => xs.getD i 0) i) (kin (p ^ m) y) (a i) from by rw [← hy];rfl);rw [hy] at CV;obtain ⟨q,hq⟩ : ∃ q,cmb p m ml a (fun i => xs.getD i 0) i = q := ⟨_,rfl⟩;rw [hq] at HRS hO;by_cases hy0 : y = 0
   ·subst hy0;have HO6 := hid_ (show ISl wr (.slice oa N oc) (il N (cmb p m ml a (fun i => xs.getD i 0) (i + 1))) from by rw [HRS.out,if_pos rfl];exact hO.out);have c1 := CV.out;have HXR := hid_ hX.out;have kb : ((0 : Int) != 0) = false := by decide
    clear hX hO HX5 HO5 HRS CV hy hq x0 x1 cv huc hui hzj hrj o1 o2;go_wp2_with fail
    go_roundw
    case rel => first | exact ⟨i + 1,by omega,by go_num,HO6,HXR⟩ | ((repeat apply Exists.intro);exact ⟨⟨i + 1,by omega,by go_num,HO6,HXR⟩,rfl⟩)
    case measure => simp [intOf];omega
   ·have kb : (y != 0) = true := by simpa using hy0
    rw [if_neg hy0] at HRS;have HAT := hid_ (fun (w' : World) (h : Ex wr w') => show Calls Tryz.prog 174 #[.agg #[.int .i64 p,.int .i64 m,.slice ma ml.length mc],.slice oa N oc,.int .i64 y,.slice ua N uc] w' fun r w'' => ∃ g7,r = .returned (.slice (some ⟨g7,0,none⟩) N N) ∧ ISl w'' (.slice (some ⟨g7,0,none⟩) N N) (il N (addF p m ml q (kin (p ^ m) y) (a i))) ∧ Ex w' w'' from by
     have := rAddTo_any p m ml (.slice ma ml.length mc) w' HF.out (HMV.out.ex (x0.trans h)) (il N q) (il N (a i)) _ _ (hO.out.ex h) (hui.ex (x0.trans h)) y (by rw [il_len,il_len];omega) (by rw [il_len];omega);refine this.mono fun r w'' ⟨g7,h1,h2,h3⟩ => ?_;rw [il_len] at h1 h2;refine ⟨g7,h1,(h2.icongr fun j hj => ?_).isl,h3⟩;rw [atF_addF (by omega) hj])
    have c1 := CV.out;have HXR := hid_ hX.out;clear hX hO HX5 HO5 hy hq hy0 x0 x1 cv huc hui hzj hrj o1 o2;go_upto_region 6 with fail
    clear c1;have G0 : Ex wr wr.drew := (Ex.refl wr).drew
    go_region_held3 (fun w' => w'.cell? ⟨zb,zo + i,none⟩ = some (.int .i64 y) ∧ w'.cell? ⟨rb,ro + i,none⟩ = some (.slice ua N uc) ∧ w'.cell? ⟨B,0,none⟩ = some (.int .i64 p) ∧ w'.cell? ⟨B,1,none⟩ = some (.int .i64 m) ∧ w'.cell? ⟨B,2,none⟩ = some (.slice ma ml.length mc))
     (first | with_reducible exact ⟨G0.cell CV.out,G0.cell CR.out,G0.cell C0.out,G0.cell C1.out,G0.cell C2.out⟩ | with_reducible exact ⟨G1.cell CV.out,G1.cell CR.out,G1.cell C0.out,G1.cell C1.out,G1.cell C2.out⟩)
     ((go_at_call 174;(with_reducible refine (HAT.out _ G0).mono ?_);rintro e wx2 ⟨g5,rfl,hown5,hy2⟩;have G1 := G0.trans hy2;have HO5 := hid_ hown5;clear hown5 HAT))
    all_goals have HO6 := hid_ (show ISl wx2 (.slice (some ⟨g5,0,none⟩) N N) (il N (cmb p m ml a (fun i => xs.getD i 0) (i + 1))) from by rw [HRS.out];exact HO5.out)
    all_goals have HXS := hid_ (HXR.out.trans G1)
    all_goals clear HO5 G0 G1 hy2 CV CR C0 C1 C2 HRS HXR
    all_goals go_wp2_with fail
    all_goals go_roundw
    all_goals first
          | exact ⟨i + 1,by omega,by go_num,HO6,HXS⟩
          | ((repeat apply Exists.intro);exact ⟨⟨i + 1,by omega,by go_num,HO6,HXS⟩,rfl⟩)
          | (simp [intOf];omega)
  ·obtain rfl : i = k := by omega
   have b1 : decide (i < i) = false := by simp
   have HXX := hid_ (HE0.out.trans hX.out);clear HX5 HO5;go_wp2_with fail
   go_ret;exact ⟨_,rfl,hO.out,HXX.out⟩
end
section
section
variable {p m : Nat} {ml : List Int} {N k : Nat} {a : Nat → Nat → Int} {piv : List Nat} {c : Nat} {f : Nat → Int}
theorem rst_dt (hp : 2 ≤ p) (pl : Nat → Nat) {x : Nat → Int} (hx : Sol p m ml N k a x) : ∀ i,i ≤ k → dt p m ml N (rst p m ml a pl f i) x = dt p m ml N f x
 | 0,_ => rfl
 | i + 1,hi => by
  show dt p m ml N (addF p m ml (rst p m ml a pl f i) _ (a i)) x = _
  rw [dt_add hp,hx i (by omega),kmul_zero_r (by omega),kadd_zero (by omega) (dt_lt hp _ _)];exact rst_dt hp pl hx i (by omega)
theorem rst_rng (hp : 2 ≤ p) (pl : Nat → Nat) (hf : ∀ j,j < N → 0 ≤ f j ∧ f j < (p ^ m : Nat)) : ∀ i,∀ j,j < N → 0 ≤ rst p m ml a pl f i j ∧ rst p m ml a pl f i j < (p ^ m : Nat)
 | 0 => hf
 | i + 1 => fun j hj => by
  show 0 ≤ addF p m ml (rst p m ml a pl f i) _ (a i) j ∧ addF p m ml (rst p m ml a pl f i) _ (a i) j < _
  unfold addF;split
  ·exact rst_rng hp pl hf i j hj
  ·have h := kadd_lt (m := m) (show 1 ≤ p by omega) (kin (p ^ m) (rst p m ml a pl f i j)) (kmul p m (lw ml) (kneg p m (kin (p ^ m) (f (pl i)))) (kin (p ^ m) (a i j)));omega
theorem PV.fz (h : PV p m k N a piv c) (hc : c ≤ N) {i : Nat} (hi : i < piv.length) : fzN (il N (a i)) = piv.getD i 0 ∧ piv.getD i 0 < N := by
 have hg : piv[i]? = some (piv.getD i 0) := by rw [List.getD_eq_getElem?_getD,List.getElem?_eq_getElem hi];rfl
 have h1 := h.lt i _ hg;have e : ∀ j,j < N → (il N (a i)).getD j 0 = a i j := fun j hj => by
  rw [List.getD_eq_getElem?_getD,il_get hj];rfl
 refine ⟨fzN_of _ _ (fun j hj => by rw [e j (by omega)];exact h.lead i _ j hg hj) (by rw [il_len];omega) (.inr ?_),by omega⟩;rw [e _ (by omega),h.one i _ hg];decide
theorem rst_piv (hp : 2 ≤ p) (hm : 1 ≤ m) (h : PV p m k N a piv c) (hk : piv.length = k) (hf : ∀ j,j < N → 0 ≤ f j ∧ f j < (p ^ m : Nat)) : ∀ i,i ≤ k → ∀ j,j < k → rst p m ml a (fun i => piv.getD i 0) f i (piv.getD j 0) = if j < i then 0 else f (piv.getD j 0)
 | 0,_,j,_ => by simp [rst]
 | i + 1,hi,j,hj => by
  have hg : ∀ j,j < k → piv[j]? = some (piv.getD j 0) := fun j hj => by rw [List.getD_eq_getElem?_getD,List.getElem?_eq_getElem (by omega)];rfl
  have ih := rst_piv hp hm h hk hf i (by omega) j hj;have hq0 : 0 < p ^ m := Nat.pow_pos (by omega);show addF p m ml (rst p m ml a _ f i) _ (a i) (piv.getD j 0) = _
  unfold addF;by_cases e : j = i
  ·subst e;rw [h.one j _ (hg j hj),if_neg (by decide),if_pos (by omega),ih,if_neg (by omega),kin_one hp hm,kmul_one hp hm (kneg_lt (by omega) _),kadd_kneg (by omega)];rfl
  ·rw [h.zer j _ i (hg j hj) (by omega) (fun e2 => e e2.symm),if_pos rfl,ih];by_cases e2 : j < i
   ·rw [if_pos e2,if_pos (by omega)]
   ·rw [if_neg e2,if_neg (by omega)]
theorem rst_cl (hp : 2 ≤ p) (hm : 1 ≤ m) (h : PV p m k N a piv c) (hc : c ≤ N) (hk : piv.length = k) (hf : ∀ j,j < N → 0 ≤ f j ∧ f j < (p ^ m : Nat)) : zerB (il N (rst p m ml a (fun i => piv.getD i 0) f k)) = true ↔ Cl p m ml N k a f := by
 have e : ∀ g : Nat → Int,∀ j,j < N → (il N g).getD j 0 = g j := fun g j hj => by
  rw [List.getD_eq_getElem?_getD,il_get hj];rfl
 rw [zerB_iff,il_len];constructor
 ·intro hz x hx;rw [← rst_dt hp (fun i => piv.getD i 0) hx k (Nat.le_refl _)];exact dt_zero hp fun j hj => (e _ j hj).symm.trans (hz j hj)
 ·intro hcl j hj;rw [e _ j hj];have hE : Ech N a (fun i => piv.getD i 0) k := hk ▸ RR.ech (R := k) ⟨c,hc,h,.inl hk⟩;have h2 : Cl p m ml N k a (rst p m ml a (fun i => piv.getD i 0) f k) := fun x hx => by
   rw [rst_dt hp _ hx k (Nat.le_refl _)];exact hcl x hx
  have h3 := hE.zero (ml := ml) hp hm (r := rst p m ml a (fun i => piv.getD i 0) f k) (fun i hi => by
   rw [rst_piv hp hm h hk hf k (Nat.le_refl _) i hi,if_pos hi]) h2 hj
  have h4 := rst_rng (ml := ml) (a := a) hp (fun i => piv.getD i 0) hf k j hj;have h5 := kin_code h4.1 h4.2;omega
end
end
end Go.Proofs.YtgdmlmhpineibaaGreat
