/- Walk of equivalence.Word. -/
import Derived.Test.YtgdmlmhpineibaaGreatZe08
import Derived.Test.YtgdmlmhpineibaaGreatZe16
import Derived.Test.YtgdmlmhpineibaaGreatZe18
import Derived.Test.YtgdmlmhpineibaaGreatZe22
import Derived.Test.YtgdmlmhpineibaaGreatZe23
namespace Go.Proofs.YtgdmlmhpineibaaGreat
set_option linter.unusedVariables false
set_option linter.unusedSimpArgs false
set_option maxRecDepth 100000
set_option maxHeartbeats 4000000
section
open Go.RowKit
def wrdE (p m : Int) (ml pl sl : List Int) (fr : Int) (x : List Int) : Int :=
 if monS p m ml pl.length pl sl fr ≠ 0 then monS p m ml pl.length pl sl fr else if x.length ≠ pl.length then 4 else if (x.any fun y => !isB (p.toNat ^ m.toNat) y) = true then 2 else 0
def wrdL (p m : Int) (ml pl sl : List Int) (fr : Int) (x : List Int) : List Int :=
 if wrdE p m ml pl sl fr x ≠ 0 then [] else il x.length (imgF p.toNat m.toNat ml pl sl fr.toNat x x.length)
def WrdR (l : List Int) (e : Int) (r : Ending) (w' : World) : Prop := ∃ v,r = .returned (.tuple #[v,.int .i64 e]) ∧ ISl w' v l
theorem mon_ok {p m : Int} {ml : List Int} {n : Int} {pl sl : List Int} {fr : Int} (h : monS p m ml n pl sl fr = 0) :
  chkS p m ml = 0 ∧ 1 ≤ n ∧ n ≤ 64 ∧ (pl.length : Int) = n ∧ (sl.length : Int) = n ∧ rngB pl n = true ∧ 0 ≤ fr ∧ fr < m ∧ dupB pl = false ∧ facS (p.toNat ^ m.toNat) sl = 0 := by
 unfold monS at h;split at h
 ·cases h
 rename_i h1;split at h
 ·cases h
 rename_i h2;split at h
 ·cases h
 rename_i h3;split at h
 ·cases h
 rename_i h4;split at h
 ·cases h
 rename_i h5;refine ⟨by simpa using h1,by omega,by omega,by omega,by omega,?_,by omega,by omega,by simpa using h5,h⟩
 cases hr : rngB pl n with
 | true => rfl
 | false => exact absurd (.inl hr) h4
section
variable {b p m x0 : Nat} {ml : List Int}
theorem wrd1_any (w : World) (B : Nat) (hg : GFat w b p m ml x0) (x : Int) (c0 : w.cell? ⟨B,0,none⟩ = some (.pointer (some ⟨b,0,none⟩))) :
  Calls Tryz.prog 48 #[.int .i64 x,.pointer (some ⟨B,0,none⟩)] w fun r w' => r = .returned (.bool (!isB (p ^ m) x)) ∧ Ex w w' := by
 have HI := hid_ (Is_any w hg x);obtain ⟨z,hz⟩ : ∃ z,isB (p ^ m) x = z := ⟨_,rfl⟩;rw [hz] at HI ⊢;clear hg hz;go_enter Tryz.func48,Tryz.ntmps48
 go_wp2_with (go_at_call 49;refine HI.out.mono ?_;rintro e w1 ⟨rfl,n1,rfl⟩)
 go_ret;exact ⟨rfl,(Ex.refl w).drewN _⟩
end
theorem Word_any (w : World) (p m : Int) (ml : List Int) (mv : Value) (hmv : ISl w mv ml) (pl sl : List Int) (pv sv : Value) (hp : ISl w pv pl) (hs : ISl w sv sl) (fr : Int) (x : List Int) (xv : Value) (hx : ISl w xv x) :
  Calls Tryz.prog 15 #[.agg #[.int .i64 p,.int .i64 m,mv],.agg #[pv,sv,.int .i64 fr],xv] w fun r w' => WrdR (wrdL p m ml pl sl fr x) (wrdE p m ml pl sl fr x) r w' ∧ Ex w w' := by
 obtain ⟨a0,a1,a2,ea⟩ := boxF_facts w p m mv;obtain ⟨b0,b1,b2,eb⟩ := boxMo_facts (w.alloc (.cells #[.int .i64 p,.int .i64 m,mv] 24)) pv sv fr;have a0 := eb.cell a0;have a1 := eb.cell a1;have a2 := eb.cell a2;have hsz : (w.alloc (.cells #[.int .i64 p,.int .i64 m,mv] 24)).heap.size = w.heap.size + 1 := by simp
 rw [hsz] at b0 b1 b2;have HE := hid_ (ea.trans eb);have HOP := hid_ (eOpen_any _ p m ml mv (hmv.ex HE.out) pl.length pl sl pv sv (hp.ex HE.out) (hs.ex HE.out) fr);have HP := hid_ (hp.ex HE.out);have HS := hid_ (hs.ex HE.out);have HXL := hid_ (hx.ex HE.out);obtain ⟨ma,mc,rfl,_,_,_⟩ := hmv.open;obtain ⟨pa,pc,rfl,_,p2,_⟩ := hp.open;obtain ⟨sa,sc,rfl,_,s2,_⟩ := hs.open;obtain ⟨xa,xc,rfl,_,x2,_⟩ := hx.open;unfold maxLen at p2 s2 x2;obtain ⟨E,hE⟩ : ∃ E,monS p m ml pl.length pl sl fr = E := ⟨_,rfl⟩;obtain ⟨W,hW⟩ : ∃ W,wrdE p m ml pl sl fr x = W := ⟨_,rfl⟩;obtain ⟨L,hL⟩ : ∃ L,wrdL p m ml pl sl fr x = L := ⟨_,rfl⟩;have hWD := hW;unfold wrdE at hWD;rw [hE] at hWD HOP;have hLD := hL;unfold wrdL at hLD;rw [hW] at hLD;rw [hW,hL];have HME := hid_ hE;clear hmv hp hs hx hE hsz ea eb hW hL;go_enter Tryz.func15,Tryz.ntmps15
 go_wp2_with fail
 obtain ⟨q,hq⟩ : ∃ q,w.heap.size = q := ⟨_,rfl⟩;rw [hq] at a0 a1 a2 b0 b1 b2
 try simp only [hq]
 clear hq;generalize (w.alloc (.cells #[.int .i64 p,.int .i64 m,.slice ma ml.length mc] 24)).alloc (.cells #[.slice pa pl.length pc,.slice sa sl.length sc,.int .i64 fr] 26) = w1 at *;have B0 := hid_ b0;have B1 := hid_ b1;have B2 := hid_ b2;clear a0 a1 a2 b0 b1 b2;refine HOP.out.mono ?_;rintro e w2 ⟨ho,hx2⟩;have HX2 := hid_ hx2;rcases ho with ⟨rfl,b,pn,mn,x0,rfl,rfl,rfl,hg,x1,x2'⟩ | ⟨h0,ptr,rfl⟩
 ·rw [if_neg (by decide),Int.toNat_natCast,Int.toNat_natCast] at hWD;rw [Int.toNat_natCast,Int.toNat_natCast] at hLD;obtain ⟨_,n1,n2,n3,n4,n5,n6,n7,_,_⟩ := mon_ok HME.out;obtain ⟨fn,rfl⟩ : ∃ fn : Nat,fr = fn := ⟨fr.toNat,by omega⟩;rw [Int.toNat_natCast] at hLD;have ec : Ex w2 (w2.alloc (.cells #[.pointer (some ⟨b,0,none⟩)] 79)) := (Ex.refl _).alloc _;have c0 : (w2.alloc (.cells #[.pointer (some ⟨b,0,none⟩)] 79)).cell? ⟨w2.heap.size,0,none⟩ = some (.pointer (some ⟨b,0,none⟩)) := by simp
  have b0 := (hx2.trans ec).cell B0.out;have b1 := (hx2.trans ec).cell B1.out;have b2 := (hx2.trans ec).cell B2.out;have HX3 := hid_ (HE.out.trans (hx2.trans ec));have HG := hid_ (hg.ex ec);have HP3 := hid_ (HP.out.ex (hx2.trans ec));have HS3 := hid_ (HS.out.ex (hx2.trans ec));have HX3' := hid_ (HXL.out.ex (hx2.trans ec));clear hg hx2 ec x1 x2';by_cases hl : x.length = pl.length
  ·have e1 : ((x.length : Int) != (pl.length : Int)) = false := by simp;omega
   rw [if_neg (by simpa using hl)] at hWD;obtain ⟨w3,hw3⟩ : ∃ w3,w2.alloc (.cells #[.pointer (some ⟨b,0,none⟩)] 79) = w3 := ⟨_,rfl⟩;obtain ⟨B,hB⟩ : ∃ B,w2.heap.size = B := ⟨_,rfl⟩;rw [hw3] at c0 b0 b1 b2 HX3 HG HP3 HS3 HX3';rw [hB] at c0;have hc := ContainsFunc_wrd w3 (.pointer (some ⟨B,0,none⟩)) _ x.length (ints x) HX3'.out (fun j => !isB (pn ^ mn) (x.getD j 0)) fun w1 i u hx hu => by
    obtain ⟨y,_,rfl,hx2⟩ := ints_at hu;rw [hx2];exact wrd1_any w1 B (HG.out.ex hx) y (hx.cell c0)
   rw [any_getD x fun y => !isB (pn ^ mn) y] at hc;have HC := hid_ hc;have C0 := hid_ c0;have CB0 := hid_ b0;have CB1 := hid_ b1;have CB2 := hid_ b2;have HW3 := hid_ hw3;have HBB := hid_ hB;obtain ⟨y,hy⟩ : ∃ y,(x.any fun y => !isB (pn ^ mn) y) = y := ⟨_,rfl⟩;rw [hy] at HC hWD;have HLN := hid_ hl;clear hc hy hl c0 b1 b2 hw3 hB
   cases y with
   | true =>
    rw [if_pos rfl] at hWD;subst hWD;rw [if_pos (by decide)] at hLD;subst hLD;rw [← HW3.out] at b0;go_wp2_with fail
    rw [HBB.out,HW3.out];refine HC.out.mono ?_;rintro e w5 ⟨rfl,hx5⟩;go_wp2_with fail
    go_ret2;exact ⟨⟨_,rfl,isl_nil _⟩,HX3.out.trans hx5⟩
   | false =>
    rw [if_neg (by decide)] at hWD;subst hWD;rw [if_neg (by decide)] at hLD;subst hLD;rw [← HW3.out] at b0;go_wp2_with fail
    rw [HBB.out,HW3.out];refine HC.out.mono ?_;rintro e w5 ⟨rfl,hx5⟩;have c0 := hx5.cell C0.out;have b0 := hx5.cell CB0.out;have b1 := hx5.cell CB1.out;have b2 := hx5.cell CB2.out;have him := image_any w5 (HG.out.ex hx5) x.length (by have := HLN.out;omega) pl sl x _ _ _ (HP3.out.ex hx5) (HS3.out.ex hx5) (HX3'.out.ex hx5) fn (by omega) (by have := HLN.out;omega) (by have := HLN.out;omega) rfl (by rw [HLN.out];exact n5);have HIM := hid_ him;have HX5 := hid_ (HX3.out.trans hx5);clear him hx5;go_wp2_with fail
    refine HIM.out.mono ?_;rintro e w6 ⟨g,rfl,ho6,hx6⟩;go_wp2_with fail
    go_ret2;exact ⟨⟨_,rfl,ho6.isl⟩,HX5.out.trans hx6⟩
  ·have e1 : ((x.length : Int) != (pl.length : Int)) = true := by simp;omega
   rw [if_pos hl] at hWD;subst hWD;rw [if_pos (by decide)] at hLD;subst hLD;clear hl;go_wp2_with fail
   go_ret2;exact ⟨⟨_,rfl,isl_nil _⟩,HX3.out⟩
 ·rw [if_pos h0] at hWD;subst hWD;rw [if_pos h0] at hLD;subst hLD;have hb : (E != 0) = true := by simpa using h0
  have b0 := hx2.cell B0.out;clear h0;go_wp2_with fail
  go_ret2;exact ⟨⟨_,rfl,isl_nil _⟩,(HE.out.trans hx2).alloc _⟩
end
section
open Go.RowKit
structure BxC (w : World) (b : Nat) : Prop where
 c0 : w.cell? ⟨b,0,none⟩ = some (.int .i64 0)
 c1 : w.cell? ⟨b,1,none⟩ = some (.int .i64 0)
 c2 : w.cell? ⟨b,2,none⟩ = some (.slice none 0 0)
 c3 : w.cell? ⟨b,3,none⟩ = some (.int .i64 0)
 c4 : w.cell? ⟨b,4,none⟩ = some (.slice none 0 0)
 f0 : w.frozen? ⟨b,0,none⟩ = false
 f1 : w.frozen? ⟨b,1,none⟩ = false
 f2 : w.frozen? ⟨b,2,none⟩ = false
 f3 : w.frozen? ⟨b,3,none⟩ = false
 f4 : w.frozen? ⟨b,4,none⟩ = false
theorem BxC.new (w : World) : BxC (w.alloc (.cells #[.int .i64 0,.int .i64 0,.slice none 0 0,.int .i64 0,.slice none 0 0] 47)) w.heap.size := ⟨by simp,by simp,by simp,by simp,by simp,by simp,by simp,by simp,by simp,by simp⟩
theorem BxC.ex {w w' : World} {b : Nat} (h : BxC w b) (hx : Ex w w') : BxC w' b := ⟨hx.cell h.c0,hx.cell h.c1,hx.cell h.c2,hx.cell h.c3,hx.cell h.c4,hx.frz h.c0 h.f0,hx.frz h.c1 h.f1,hx.frz h.c2 h.f2,hx.frz h.c3 h.f3,hx.frz h.c4 h.f4⟩
@[reducible] def set5 (w : World) (q : Nat) (a b c d e : Value) : World := ((((w.setCell ⟨q,0,none⟩ a).setCell ⟨q,1,none⟩ b).setCell ⟨q,2,none⟩ c).setCell ⟨q,3,none⟩ d).setCell ⟨q,4,none⟩ e
theorem set5_ex {w0 w : World} {q : Nat} (hx : Ex w0 w) (hq : w0.heap.size ≤ q) (a b c d e : Value) : Ex w0 (set5 w q a b c d e) :=
 ((((hx.setCell (p := ⟨q,0,none⟩) hq _).setCell (p := ⟨q,1,none⟩) hq _).setCell (p := ⟨q,2,none⟩) hq _).setCell (p := ⟨q,3,none⟩) hq _).setCell (p := ⟨q,4,none⟩) hq _
theorem set5_isl {w : World} {q : Nat} {v : Value} {l : List Int} (h : ISl w v l) (hq : ∀ B,v.ownBlock = some B → B ≠ q) (a b c d e : Value) : ISl (set5 w q a b c d e) v l :=
 Sl.other (Sl.other (Sl.other (Sl.other (Sl.other h (fun B e => hq B e) _) (fun B e => hq B e) _) (fun B e => hq B e) _) (fun B e => hq B e) _) (fun B e => hq B e) _
def OfR (p m : Int) (ml : List Int) (cols : Int) (v : Value) (e : Int) (r : Ending) (w' : World) (base : Nat) : Prop :=
 (e ≠ 0 ∧ r = .returned (.tuple #[.agg #[.int .i64 0,.int .i64 0,.slice none 0 0,.int .i64 0,.slice none 0 0],.int .i64 e])) ∨
 (e = 0 ∧ ∃ v',r = .returned (.tuple #[.agg #[.int .i64 p,.int .i64 m,v',.int .i64 cols,v],.int .i64 0]) ∧ ISl w' v' ml ∧ ∀ B,v'.ownBlock = some B → base ≤ B)
theorem codeOf_any (w : World) (p m : Int) (ml : List Int) (mv : Value) (hmv : ISl w mv ml) (hn : ml.length ≤ 1000) (cols : Int) (rows : List (List Int)) (v : Value) (hv : MSl w v rows) (e : Int) :
  Calls Tryz.prog 81 #[.agg #[.int .i64 p,.int .i64 m,mv],.agg #[.int .i64 cols,v],.int .i64 e] w fun r w' => OfR p m ml cols v e r w' w.heap.size ∧ Ex w w' := by
 obtain ⟨g0,g1,g2,e0,gsz⟩ := box_facts w p m mv;have HOW := hid_ (fun (w' : World) (h : Ex w w') => own_any w' p m ml mv (hmv.ex h) hn);obtain ⟨za,zc,rfl,-,z2,-⟩ := hv.open;unfold maxLen at z2;obtain ⟨ma,mc,rfl,-,m2,-⟩ := hmv.open;unfold maxLen at m2;obtain ⟨xb,hxb⟩ : ∃ xb,w.heap.size = xb := ⟨_,rfl⟩;rw [hxb] at g0 g1 g2 gsz;clear hmv hv hn;go_enter Tryz.func81,Tryz.ntmps81
 by_cases h1 : e = 0
 ·subst h1;go_wp2_with fail
  generalize w.alloc (.cells #[.int .i64 p,.int .i64 m,.slice ma ml.length mc] 24) = wA at *;obtain ⟨a0,a1,ea⟩ := boxM2_facts wA cols (.slice za rows.length zc);have asz : (wA.alloc (.cells #[.int .i64 cols,.slice za rows.length zc] 113)).heap.size = xb + 1 + 1 := by simp [gsz]
  rw [gsz] at a0 a1;generalize wA.alloc (.cells #[.int .i64 cols,.slice za rows.length zc] 113) = wB at *;have bq := BxC.new wB;rw [asz] at bq;have eb : Ex wB _ := (Ex.refl wB).alloc (.cells #[.int .i64 0,.int .i64 0,.slice none 0 0,.int .i64 0,.slice none 0 0] 47);have A0 := hid_ a0;have A1 := hid_ a1;have G0 := hid_ (ea.cell g0);have G1 := hid_ (ea.cell g1);have G2 := hid_ (ea.cell g2);have EB := hid_ eb;have HQB := hid_ (show wB.heap.size ≤ xb + 1 + 1 from Nat.le_of_eq asz);have BQ := hid_ bq;have HE := hid_ ((e0.trans ea).trans eb);have csz : (wB.alloc (.cells #[.int .i64 0,.int .i64 0,.slice none 0 0,.int .i64 0,.slice none 0 0] 47)).heap.size = xb + 1 + 1 + 1 := by simp [asz]
  generalize wB.alloc (.cells #[.int .i64 0,.int .i64 0,.slice none 0 0,.int .i64 0,.slice none 0 0] 47) = wC at *;clear g0 g1 g2 a0 a1 bq e0 ea eb asz gsz;have HXB := hid_ hxb;have CSZ := hid_ csz;clear hxb csz;have X0 : Ex wC wC.drew := (Ex.refl wC).drew;have HALL := hid_ (fun (w' : World) (h' : Ex wB w') => (⟨h'.cell G0.out,h'.cell G1.out,h'.cell G2.out,h'.cell A0.out,h'.cell A1.out⟩ : w'.cell? ⟨xb,0,none⟩ = some (.int .i64 p) ∧ w'.cell? ⟨xb,1,none⟩ = some (.int .i64 m) ∧ w'.cell? ⟨xb,2,none⟩ = some (.slice ma ml.length mc) ∧ w'.cell? ⟨xb + 1,0,none⟩ = some (.int .i64 cols) ∧ w'.cell? ⟨xb + 1,1,none⟩ = some (.slice za rows.length zc)));have HAL5 := hid_ (fun (w' : World) (h' : Ex wB w') (a b c d e : Value) => HALL.out _ (set5_ex h' HQB.out a b c d e));have Y0 := hid_ (EB.out.trans X0)
  go_region_held3 (fun w' => w'.cell? ⟨xb,0,none⟩ = some (.int .i64 p) ∧ w'.cell? ⟨xb,1,none⟩ = some (.int .i64 m) ∧ w'.cell? ⟨xb,2,none⟩ = some (.slice ma ml.length mc) ∧ w'.cell? ⟨xb + 1,0,none⟩ = some (.int .i64 cols) ∧ w'.cell? ⟨xb + 1,1,none⟩ = some (.slice za rows.length zc))
   (first | with_reducible exact HALL.out _ Y5.out | with_reducible exact HAL5.out _ Y5.out _ _ _ _ _ | with_reducible exact HALL.out _ Y0.out)
   (first | (go_at_call 127;(with_reducible refine (HOW.out _ (HE.out.trans X0)).mono ?_);rintro e w5 ⟨v',rfl,hv',hb',h5⟩;have X5 := X0.trans h5;have Y5 := hid_ (EB.out.trans X5);obtain ⟨q0,q1,q2,q3,q4,qf0,qf1,qf2,qf3,qf4⟩ := BQ.out.ex X5;have HV5 := hid_ hv';have HB5 := hid_ hb';obtain ⟨va,vc,rfl,-,-,-⟩ := hv'.open;clear h5 hv' hb'))
  all_goals
   go_wp2_with fail
   have hsz : wC.drew.heap.size = xb + 1 + 1 + 1 := CSZ.out;have hwx := HXB.out;exact bodyPost_ret (v := .tuple #[.agg #[.int .i64 p,.int .i64 m,.slice va ml.length vc,.int .i64 cols,.slice za rows.length zc],.int .i64 0]) (by simp [results,Tryz.results81,go_sem,q0,q1,q2,q3,q4]) rfl ⟨.inr ⟨rfl,_,rfl,set5_isl HV5.out (fun B h => by have := HB5.out B h;omega) _ _ _ _ _,fun B h => by have := HB5.out B h;omega⟩,set5_ex (HE.out.trans X5) (by omega) _ _ _ _ _⟩
 ·have hb : (e != 0) = true := by simpa using h1
  have HH := hid_ h1;have ex1 := boxM2_facts (w.alloc (.cells #[.int .i64 p,.int .i64 m,.slice ma ml.length mc] 24)) cols (.slice za rows.length zc);have bsz : ((w.alloc (.cells #[.int .i64 p,.int .i64 m,.slice ma ml.length mc] 24)).alloc (.cells #[.int .i64 cols,.slice za rows.length zc] 113)).heap.size = xb + 1 + 1 := by simp [gsz]
  have bq := BxC.new ((w.alloc (.cells #[.int .i64 p,.int .i64 m,.slice ma ml.length mc] 24)).alloc (.cells #[.int .i64 cols,.slice za rows.length zc] 113));have HE := hid_ ((e0.trans ex1.2.2).alloc (.cells #[.int .i64 0,.int .i64 0,.slice none 0 0,.int .i64 0,.slice none 0 0] 47));rw [bsz] at bq;obtain ⟨q0,q1,q2,q3,q4,qf0,qf1,qf2,qf3,qf4⟩ := bq;clear h1 ex1 g0 g1 g2 e0;go_wp2_with fail
  exact bodyPost_ret (v := .tuple #[.agg #[.int .i64 0,.int .i64 0,.slice none 0 0,.int .i64 0,.slice none 0 0],.int .i64 e]) (by simp [results,Tryz.results81,go_sem,q0,q1,q2,q3,q4,hxb]) rfl ⟨.inl ⟨HH.out,rfl⟩,by first | exact HE.out | exact set5_ex HE.out (by omega) _ _ _ _ _⟩
end
section
open Go.RowKit
def newE (p m : Int) (ml : List Int) (cols : Int) (rows : List (List Int)) : Int := if canE p m ml cols rows ≠ 0 then canE p m ml cols rows else lenE cols
def CNewR (p m : Int) (ml : List Int) (cols : Int) (rows : List (List Int)) (b0 : Nat) (r : Ending) (w' : World) : Prop :=
 (newE p m ml cols rows ≠ 0 ∧ r = .returned (.tuple #[.agg #[.int .i64 0,.int .i64 0,.slice none 0 0,.int .i64 0,.slice none 0 0],.int .i64 (newE p m ml cols rows)])) ∨
 (newE p m ml cols rows = 0 ∧ ∃ (pn mn N : Nat) (piv : List Nat) (a' : Nat → Nat → Int) (rv v' : Value),p = pn ∧ m = mn ∧ cols = N ∧ FldB p m ml ∧ mchkS (pn ^ mn) N rows = 0 ∧ r = .returned (.tuple #[.agg #[.int .i64 p,.int .i64 m,v',.int .i64 N,rv],.int .i64 0]) ∧ ElO pn mn ml N rows.length (rowsF rows) a' piv ∧ ISl w' v' ml ∧ MSl w' rv (rowsL N piv.length a') ∧ (∀ B,v'.ownBlock = some B → b0 ≤ B) ∧ ∃ g blk cap base,b0 ≤ base ∧ rv = .slice (some ⟨g,0,none⟩) piv.length piv.length ∧ EM w' base g rows.length N blk cap a' [] ∧ piv.length ≤ rows.length ∧ rows.length ≤ 256)
theorem codeNew_any (w : World) (p m : Int) (ml : List Int) (mv : Value) (hmv : ISl w mv ml) (hn : ml.length ≤ 1000) (cols : Int) (rows : List (List Int)) (v : Value) (hv : MSl w v rows) (h0 : canE p m ml cols rows = 0 → 1 ≤ cols) :
  Calls Tryz.prog 75 #[.agg #[.int .i64 p,.int .i64 m,mv],.agg #[.int .i64 cols,v]] w fun r w' => CNewR p m ml cols rows w.heap.size r w' ∧ Ex w w' := by
 obtain ⟨g0,g1,g2,e0,gsz⟩ := box_facts w p m mv;have HCN := hid_ (fun (w' : World) (h : Ex w w') => Canonical_any w' p m ml mv (hmv.ex h) cols rows v (hv.ex h) h0);have HMV := hid_ hmv;obtain ⟨za,zc,rfl,-,z2,-⟩ := hv.open;unfold maxLen at z2;obtain ⟨ma,mc,rfl,-,m2,-⟩ := hmv.open;unfold maxLen at m2;obtain ⟨xb,hxb⟩ : ∃ xb,w.heap.size = xb := ⟨_,rfl⟩;rw [hxb] at g0 g1 g2 gsz;clear hmv hv h0;go_enter Tryz.func75,Tryz.ntmps75
 go_wp2_with fail
 generalize w.alloc (.cells #[.int .i64 p,.int .i64 m,.slice ma ml.length mc] 24) = wA at *;obtain ⟨a0,a1,ea⟩ := boxM2_facts wA cols (.slice za rows.length zc);have asz : (wA.alloc (.cells #[.int .i64 cols,.slice za rows.length zc] 113)).heap.size = xb + 1 + 1 := by simp [gsz]
 rw [gsz] at a0 a1;generalize wA.alloc (.cells #[.int .i64 cols,.slice za rows.length zc] 113) = wB at *;have bq := BxC.new wB;rw [asz] at bq;have eb : Ex wB _ := (Ex.refl wB).alloc (.cells #[.int .i64 0,.int .i64 0,.slice none 0 0,.int .i64 0,.slice none 0 0] 47);have A0 := hid_ (eb.cell a0);have G0 := hid_ ((ea.trans eb).cell g0);have G1 := hid_ ((ea.trans eb).cell g1);have G2 := hid_ ((ea.trans eb).cell g2);have BQ := hid_ bq;have HE := hid_ ((e0.trans ea).trans eb);have csz : (wB.alloc (.cells #[.int .i64 0,.int .i64 0,.slice none 0 0,.int .i64 0,.slice none 0 0] 47)).heap.size = xb + 1 + 1 + 1 := by simp [asz]
 generalize wB.alloc (.cells #[.int .i64 0,.int .i64 0,.slice none 0 0,.int .i64 0,.slice none 0 0] 47) = wC at *;have CSZ := hid_ csz;have HXB := hid_ hxb;refine (HCN.out wC HE.out).mono ?_;clear g0 g1 g2 a0 a1 bq e0 ea eb asz gsz csz hxb;rintro e w2 ⟨hc,hx2⟩;have HX2 := hid_ (HE.out.trans hx2);have HC2 := hid_ hx2;have BQ2 := hid_ (BQ.out.ex hx2);have A0 := hid_ (hx2.cell A0.out);have G0 := hid_ (hx2.cell G0.out);have G1 := hid_ (hx2.cell G1.out);have G2 := hid_ (hx2.cell G2.out);clear hx2 BQ HE HCN;rcases hc with ⟨hce,pn,mn,N,piv,a',rv,pv,rfl,rfl,rfl,hfb,hmk,rfl,hel,hrv,hpv,g,blk,cap,base,hbase,rfl,hem⟩ | ⟨hce,rfl⟩
 ·have hne : newE pn mn ml N rows = lenE N := by unfold newE;rw [if_neg (by simp [hce])]
  have HN := hid_ hne;have HLN := hid_ (fun (w' : World) => length_any w' (N : Int));obtain ⟨L,hL⟩ : ∃ L,lenE N = L := ⟨_,rfl⟩;rw [hL] at HN HLN;have hp2 := (elo_rows hel).1;have hr2 := (mchk_shape hmk).2.2.1;have HEM := hid_ hem;have HP2 := hid_ (show piv.length ≤ rows.length ∧ rows.length ≤ 256 from ⟨hp2,hr2⟩);have HBL := hid_ (show xb + 1 + 1 < base from by have := CSZ.out;omega);have HOK := hid_ (show FldB pn mn ml ∧ mchkS (pn ^ mn) N rows = 0 ∧ ElO pn mn ml N rows.length (rowsF rows) a' piv from ⟨hfb,hmk,hel⟩);obtain ⟨pa,pc,rfl,-,-,-⟩ := hpv.open;have HX3 := hid_ ((Ex.refl w2).alloc (.cells #[.int .i64 N,.slice (some ⟨g,0,none⟩) piv.length piv.length] 113));have HOF := hid_ (codeOf_any _ pn mn ml _ (HMV.out.ex (HX2.out.trans HX3.out)) hn N (rowsL N piv.length a') _ (hrv.ex HX3.out) L);have g0 := HX3.out.cell G0.out;have g1 := HX3.out.cell G1.out;have g2 := HX3.out.cell G2.out;have a0 := HX3.out.cell A0.out;have BQ3 := hid_ (BQ2.out.ex HX3.out);clear hne hL hce hfb hmk hel hrv hpv hbase hem hp2 hr2;go_wp2_with fail
  refine (HLN.out _).mono ?_;rintro e w3 ⟨rfl,hw3⟩;subst hw3;go_wp2_with fail
  refine HOF.out.mono ?_;rintro e w4 ⟨ho,hx4⟩;have X4 := hid_ ((HX2.out.trans HX3.out).trans hx4);have EM4 := hid_ (HEM.out.ex (HX3.out.trans hx4));have hw := HXB.out;obtain ⟨q0,q1,q2,q3,q4,qf0,qf1,qf2,qf3,qf4⟩ := BQ3.out.ex hx4;clear hx4 g0 g1 g2 a0;rcases ho with ⟨hz,rfl⟩ | ⟨hz,v',rfl,hv',hb'⟩
  ·have HNZ := hid_ hz;clear hz;go_wp2_with fail
   exact bodyPost_ret (v := .tuple #[.agg #[.int .i64 0,.int .i64 0,.slice none 0 0,.int .i64 0,.slice none 0 0],.int .i64 L]) (by simp [results,Tryz.results75,go_sem,q0,q1,q2,q3,q4]) rfl ⟨.inl ⟨by rw [HN.out];exact HNZ.out,by rw [HN.out]⟩,set5_ex X4.out (by omega) _ _ _ _ _⟩
  ·subst hz;have HV := hid_ hv';have HB := hid_ (show ∀ B,v'.ownBlock = some B → B ≠ xb + 1 + 1 from fun B h => by
    have h1 := hb' B h;have h2 := HC2.out.size;have h3 := CSZ.out;simp at h1;omega)
   have HBV := hid_ (show ∀ B,v'.ownBlock = some B → w.heap.size ≤ B from fun B h => by
    have h1 := hb' B h;have h2 := HC2.out.size;have h3 := CSZ.out;simp at h1;omega)
   obtain ⟨va,vc,rfl,-,-,-⟩ := hv'.open;clear hv' hb';have HEL := hid_ ((((((EM4.out.low (A := ⟨xb + 1 + 1,0,none⟩) HBL.out (.int .i64 pn)).low (A := ⟨xb + 1 + 1,1,none⟩) HBL.out (.int .i64 mn)).low (A := ⟨xb + 1 + 1,2,none⟩) HBL.out (.slice va ml.length vc)).low (A := ⟨xb + 1 + 1,3,none⟩) HBL.out (.int .i64 N)).low (A := ⟨xb + 1 + 1,4,none⟩) HBL.out (.slice (some ⟨g,0,none⟩) piv.length piv.length)));have HMS := hid_ (HEL.out.msl HP2.out.1 HP2.out.2);go_wp2_with fail
   exact bodyPost_ret (v := .tuple #[.agg #[.int .i64 pn,.int .i64 mn,.slice va ml.length vc,.int .i64 N,.slice (some ⟨g,0,none⟩) piv.length piv.length],.int .i64 0]) (by simp [results,Tryz.results75,go_sem,q0,q1,q2,q3,q4]) rfl ⟨.inr ⟨HN.out,pn,mn,N,piv,a',_,_,rfl,rfl,rfl,HOK.out.1,HOK.out.2.1,rfl,HOK.out.2.2,set5_isl HV.out HB.out _ _ _ _ _,HMS.out,HBV.out,g,blk,cap,base,by have := HBL.out;omega,rfl,HEL.out,HP2.out.1,HP2.out.2⟩,set5_ex X4.out (by omega) _ _ _ _ _⟩
 ·have hne : newE p m ml cols rows = canE p m ml cols rows := by unfold newE;rw [if_pos hce]
  have HN := hid_ hne;obtain ⟨E,hE⟩ : ∃ E,canE p m ml cols rows = E := ⟨_,rfl⟩;rw [hE] at HN hce ⊢;have hb : (E == 0) = false := by simpa using hce
  have HNZ := hid_ hce;have HX3 := hid_ ((Ex.refl w2).alloc (.cells #[.int .i64 0,.slice none 0 0] 113));have HOF := hid_ (codeOf_any _ p m ml _ (HMV.out.ex (HX2.out.trans HX3.out)) hn 0 [] (.slice none 0 0) ⟨[],Sl.nil _ 1,fun i r u h => by simp at h⟩ E);have g0 := HX3.out.cell G0.out;have g1 := HX3.out.cell G1.out;have g2 := HX3.out.cell G2.out;have BQ3 := hid_ (BQ2.out.ex HX3.out);clear hne hE hce;go_wp2_with fail
  refine HOF.out.mono ?_;rintro e w4 ⟨ho,hx4⟩;rcases ho with ⟨_,rfl⟩ | ⟨h,_⟩
  ·obtain ⟨q0,q1,q2,q3,q4,qf0,qf1,qf2,qf3,qf4⟩ := BQ3.out.ex hx4;have X4 := hid_ ((HX2.out.trans HX3.out).trans hx4);have hw := HXB.out;clear hx4 g0 g1 g2;go_wp2_with fail
   exact bodyPost_ret (v := .tuple #[.agg #[.int .i64 0,.int .i64 0,.slice none 0 0,.int .i64 0,.slice none 0 0],.int .i64 E]) (by simp [results,Tryz.results75,go_sem,q0,q1,q2,q3,q4]) rfl ⟨.inl ⟨by rw [HN.out];exact HNZ.out,by rw [HN.out]⟩,set5_ex X4.out (by omega) _ _ _ _ _⟩
  ·exact absurd h HNZ.out
end
section
open Go.RowKit
structure EMR (w : World) (base g R N cap : Nat) (vals : Nat → Value) (a : Nat → Nat → Int) : Prop where
 o : OwnC w base 22 g R cap vals
 row : ∀ i,i < R → w.ownsRow base 3 1 (vals i) N (ints (il N (a i)))
 ap : ∀ i,i < R → (vals i).ownBlock ≠ some g
section
variable {w w' : World} {base g R N cap : Nat} {vals : Nat → Value} {a : Nat → Nat → Int}
theorem EMR.ex (h : EMR w base g R N cap vals a) (hx : Ex w w') : EMR w' base g R N cap vals a :=
 ⟨h.o.ex hx,fun i hi => ownsRow_ex (h.row i hi) hx,h.ap⟩
theorem EMR.set (h : EMR w base g R N cap vals a) {i : Nat} {u : Value} {f : Nat → Int} (hu : w.ownsRow base 3 1 u N (ints (il N f))) (hg : u.ownBlock ≠ some g) : EMR (w.setCell ⟨g,i,none⟩ u) base g R N cap (upd vals i u) (upd a i f) where
 o := h.o.set i u
 row := fun j hj => by
  by_cases e : j = i
  ·subst e;rw [upd_same,upd_same];exact ownsRow_setCell_ne hu hg u
  ·rw [upd_ne _ _ e,upd_ne _ _ e];exact ownsRow_setCell_ne (h.row j hj) (h.ap j hj) u
 ap := fun j hj => by
  by_cases e : j = i
  ·subst e;rw [upd_same];exact hg
  ·rw [upd_ne _ _ e];exact h.ap j hj
theorem swpA_eq (a : Nat → Nat → Int) (s k : Nat) : upd (upd a s (a k)) k (a s) = swpA a s k := by
 funext i;unfold upd swpA;by_cases e1 : i = k
 ·subst e1;rw [if_pos rfl];by_cases e2 : i = s
  ·subst e2;rw [if_pos rfl]
  ·rw [if_neg e2,if_pos rfl]
 ·rw [if_neg e1,if_neg e1]
theorem EMR.swp (h : EMR w base g R N cap vals a) {s k : Nat} (hs : s < R) (hk : k < R) : EMR ((w.setCell ⟨g,s,none⟩ (vals k)).setCell ⟨g,k,none⟩ (vals s)) base g R N cap (upd (upd vals s (vals k)) k (vals s)) (swpA a s k) := by
 have h1 := h.set (i := s) (h.row k hk) (h.ap k hk);have h2 := h1.set (i := k) (u := vals s) (f := a s) (ownsRow_setCell_ne (h.row s hs) (h.ap s hs) _) (h.ap s hs);rw [swpA_eq] at h2;exact h2
theorem EMR.exSet {w0 : World} (h : EMR w base g R N cap vals a) (hb : w0.heap.size ≤ base) (hx : Ex w0 w) (i : Nat) (u : Value) : Ex w0 (w.setCell ⟨g,i,none⟩ u) := h.o.exSet hb hx i u
theorem EMR.at (h : EMR w base g R N cap vals a) (hN : 1 ≤ N) {i c : Nat} (hi : i < R) (hc : c < N) : ∃ gi ci,vals i = .slice (some ⟨gi,0,none⟩) N ci ∧ w.cell? ⟨gi,c,none⟩ = some (.int .i64 (a i c)) ∧ N ≤ ci ∧ ci ≤ maxLen := by
 have hr := h.row i hi;obtain ⟨gi,ci,e,h1,h2⟩ := own_open hr hN;refine ⟨gi,ci,e,?_,h1,h2⟩;rw [e,ints_il] at hr;have := OwnC.cell (show OwnC w base 3 gi N ci (iv (a i)) from hr) hc;exact this
theorem EMR.isl (h : EMR w base g R N cap vals a) {i : Nat} (hi : i < R) : ISl w (vals i) (il N (a i)) := by
 have := Sl.own (h.row i hi);unfold ISl;rw [il_len];exact this
def MSlF (b0 : Nat) (w : World) (v : Value) (rows : List (List Int)) : Prop := ∀ w' : World,(∀ B,b0 ≤ B → B < w.heap.size → w'.heap[B]? = w.heap[B]?) → MSl w' v rows
theorem MSlF.msl {b0 : Nat} {w : World} {v : Value} {rows : List (List Int)} (h : MSlF b0 w v rows) : MSl w v rows := h w fun _ _ _ => rfl
theorem MSlF.mono {b0 b1 : Nat} {w : World} {v : Value} {rows : List (List Int)} (h : MSlF b0 w v rows) (hb : b1 ≤ b0) : MSlF b1 w v rows := fun w' hw' => h w' fun B h1 h2 => hw' B (by omega) h2
theorem MSlF.nil {b0 : Nat} {w : World} {a : Option Addr} {c : Nat} (hc : c ≤ maxLen) : MSlF b0 w (.slice a 0 c) [] := fun w' _ => ⟨[],⟨rfl,a,c,rfl,Nat.zero_le _,hc,fun h => absurd h (by simp)⟩,fun i r u h1 _ => by simp at h1⟩
theorem cell_heap {w w' : World} {B o : Nat} {v : Value} (h : w'.heap[B]? = w.heap[B]?) (hc : w.cell? ⟨B,o,none⟩ = some v) : w'.cell? ⟨B,o,none⟩ = some v := by
 simp only [World.cell?] at hc ⊢;rw [h];exact hc
theorem EMR.mslF (h : EMR w base g R N cap vals a) {b0 : Nat} (hb : b0 ≤ base) {k : Nat} (hk : k ≤ R) : MSlF b0 w (.slice (some ⟨g,0,none⟩) k cap) (rowsL N k a) := fun w' hw' => by
 obtain ⟨c1,c2⟩ := h.o.caps;refine ⟨vs k vals,?_,fun i r u h1 h2 => ?_⟩
 ·rw [rowsL_len];refine ⟨by rw [vs_length,Nat.mul_one],some ⟨g,0,none⟩,cap,rfl,by omega,c2,fun hn => ⟨g,0,rfl,fun j u hu => ?_⟩⟩;have hj : j < k := by have := (List.getElem?_eq_some_iff.1 hu).1;rw [vs_length] at this;exact this
  rw [vs_get hj] at hu;injection hu with hu;subst hu;rw [Nat.zero_add];have hc := h.o.cell (j := j) (by omega);exact cell_heap (hw' g (by have := h.o.lt.1;omega) (World.block_lt_of_cell? _ _ hc)) hc
 ·have hi : i < k := by have := (List.getElem?_eq_some_iff.1 h1).1;rw [rowsL_len] at this;exact this
  rw [rowsL_get hi] at h1;rw [vs_get hi] at h2;injection h1 with h1;injection h2 with h2;subst h1 h2;have hr := h.row i (by omega);obtain ⟨g1,c,cc,g2,g3,g4,g5⟩ := h.isl (i := i) (by omega);refine ⟨g1,c,cc,g2,g3,g4,fun hn => ?_⟩;obtain ⟨b,o,rfl,g7⟩ := g5 hn;refine ⟨b,o,rfl,fun j u hu => ?_⟩;have hc := g7 j u hu;exact cell_heap (hw' b (by have := (hr.lt b (by rw [g2];rfl)).1;omega) (World.block_lt_of_cell? _ _ hc)) hc
theorem EMR.of {cv : Value} {vl : List Value} (h : MRows w base cv (rowsL N R a) vl) (hR : 1 ≤ R) : ∃ g cap,cv = .slice (some ⟨g,0,none⟩) R cap ∧ EMR w base g R N cap (fun i => vl.getD i undef) a := by
 have hl : vl.length = R := by rw [h.len,rowsL_len]
 have hvs : vl = vs R (fun i => vl.getD i undef) := by
  refine List.ext_getElem? fun j => ?_;by_cases hj : j < R
  ·rw [vs_get hj,List.getD_eq_getElem?_getD,List.getElem?_eq_getElem (by omega)];rfl
  ·rw [List.getElem?_eq_none (by omega),List.getElem?_eq_none (by rw [vs_length];omega)]
 have hc := h.cvo;rw [rowsL_len,hvs] at hc;obtain ⟨g,cap,e,ho⟩ := ownC_of hc hR;have hv : ∀ i,i < R → vl[i]? = some (vl.getD i undef) := fun i hi => by
  rw [List.getD_eq_getElem?_getD,List.getElem?_eq_getElem (by omega)];rfl
 refine ⟨g,cap,e,ho,fun i hi => ?_,fun i hi e2 => ?_⟩
 ·have := h.row i _ _ (rowsL_get hi) (hv i hi);rw [il_len] at this;exact this
 ·have := h.apart _ (List.mem_of_getElem? (hv i hi));rcases this with h1 | h1
  ·rw [h1] at e2;cases e2
  ·rw [e,e2] at h1;exact h1 rfl
structure ERS (w1 wr : World) (base g R N cap : Nat) (vals : Nat → Value) (a : Nat → Nat → Int) (piv : List Nat) (pv : Value) : Prop where
 em : EMR wr base g R N cap vals a
 po : wr.ownsRow base 3 1 pv piv.length (ints (pI piv))
 pg : pv.ownBlock ≠ some g
 pa : ∀ i,i < R → Aprt (vals i) pv
 hb : w1.heap.size ≤ base
 ex : Ex w1 wr
variable {w1 wr : World} {piv : List Nat} {pv pv' u : Value} {f : Nat → Int}
theorem ERS.later (h : ERS w1 wr base g R N cap vals a piv pv) (hx : Ex wr w') : ERS w1 w' base g R N cap vals a piv pv :=
 ⟨h.em.ex hx,ownsRow_ex h.po hx,h.pg,h.pa,h.hb,h.ex.trans hx⟩
theorem ERS.fresh (h : ERS w1 wr base g R N cap vals a piv pv) {b' n : Nat} {e : TypeId} {xs : List Value} (hu : w'.ownsRow wr.heap.size e 1 u n xs) : u.ownBlock ≠ some g ∧ Aprt u pv := by
 have hg := h.em.o.lt.2;refine ⟨fun e2 => ?_,?_⟩
 ·have := (hu.lt g e2).1;omega
 ·cases e2 : u.ownBlock with
  | none => exact .inl e2
  | some B =>
   right;rw [e2];intro e3;have h1 := (h.po.lt B e3.symm).2;have h2 := (hu.lt B e2).1;omega
theorem ERS.set (h : ERS w1 wr base g R N cap vals a piv pv) {i : Nat} (hu : wr.ownsRow base 3 1 u N (ints (il N f))) (hg : u.ownBlock ≠ some g) (ha : Aprt u pv) : ERS w1 (wr.setCell ⟨g,i,none⟩ u) base g R N cap (upd vals i u) (upd a i f) piv pv where
 em := h.em.set hu hg
 po := ownsRow_setCell_ne h.po h.pg u
 pg := h.pg
 pa := fun j hj => by
  by_cases e : j = i
  ·subst e;rw [upd_same];exact ha
  ·rw [upd_ne _ _ e];exact h.pa j hj
 hb := h.hb
 ex := h.em.exSet h.hb h.ex i u
theorem ERS.swp (h : ERS w1 wr base g R N cap vals a piv pv) {s k : Nat} (hs : s < R) (hk : k < R) : ERS w1 ((wr.setCell ⟨g,s,none⟩ (vals k)).setCell ⟨g,k,none⟩ (vals s)) base g R N cap (upd (upd vals s (vals k)) k (vals s)) (swpA a s k) piv pv where
 em := h.em.swp hs hk
 po := ownsRow_setCell_ne (ownsRow_setCell_ne h.po h.pg _) h.pg _
 pg := h.pg
 pa := fun j hj => by
  by_cases e : j = k
  ·subst e;rw [upd_same];exact h.pa s hs
  ·rw [upd_ne _ _ e];by_cases e : j = s
   ·subst e;rw [upd_same];exact h.pa k hk
   ·rw [upd_ne _ _ e];exact h.pa j hj
 hb := h.hb
 ex := (h.em.set (i := s) (h.em.row k hk) (h.em.ap k hk)).exSet h.hb (h.em.exSet h.hb h.ex s _) k _
theorem ERS.app (h : ERS w1 wr base g R N cap vals a piv pv) {c : Nat} (ha : Appd wr w' base 3 1 pv pv' piv.length (ints (pI piv)) [.int .i64 (c : Int)]) : ERS w1 w' base g R N cap vals a (piv ++ [c]) pv' := by
 have ho : Aprt (.slice (some ⟨g,0,none⟩) R cap) pv := .inr fun e => h.pg e.symm;have h1 := ha.row h.em.o ho;have h2 := fun i hi => ha.row (h.em.row i hi) (h.pa i hi);refine ⟨⟨h1.1,fun i hi => (h2 i hi).1,h.em.ap⟩,?_,?_,fun i hi => (h2 i hi).2,h.hb,ha.ex h.ex h.hb⟩
 ·have := ha.own;rw [List.length_append];unfold pI at *;rw [List.map_append];unfold ints at *;rw [List.map_append];exact this
 ·rcases h1.2 with h3 | h3
  ·cases h3
  ·exact fun e => h3 e.symm
end
end
end Go.Proofs.YtgdmlmhpineibaaGreat
