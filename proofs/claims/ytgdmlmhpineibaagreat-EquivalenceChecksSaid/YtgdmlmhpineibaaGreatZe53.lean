/- Walk of codewrightref31.CheckRefutation. -/
import Derived.Test.YtgdmlmhpineibaaGreatZe34
import Derived.Test.YtgdmlmhpineibaaGreatZe39
import Derived.Test.YtgdmlmhpineibaaGreatZe42
import Derived.Test.YtgdmlmhpineibaaGreatZe44
import Derived.Test.YtgdmlmhpineibaaGreatZe48
import Derived.Test.YtgdmlmhpineibaaGreatZe51
import Derived.Test.YtgdmlmhpineibaaGreatZe52
namespace Go.Proofs.YtgdmlmhpineibaaGreat
set_option linter.unusedVariables false
set_option linter.unusedSimpArgs false
set_option maxRecDepth 100000
set_option maxHeartbeats 8000000
section
open Go.RowKit
structure PairOK (c d : CdV) (tl sl : List Int) (p m n : Nat) : Prop where
 cp : c.p = p
 cm : c.m = m
 cn : c.n = n
 dp : d.p = p
 dm : d.m = m
 dn : d.n = n
 dl : d.ml = c.ml
 fs : FSh p m c.ml
 isf : IsF p m (lw c.ml)
 n1 : 1 ≤ n
 n64 : n ≤ 64
 r1 : ∀ r ∈ c.rows,r.length = n ∧ entS (p ^ m) r = 0
 r2 : ∀ r ∈ d.rows,r.length = n ∧ entS (p ^ m) r = 0
 k1 : c.rows.length ≤ 256
 k2 : d.rows.length ≤ 256
 len : tl.length = sl.length
 le : tl.length ≤ n
 rng : rngB tl n = true
 dup : dupB tl = false
 fac : facS (p ^ m) sl = 0
theorem pair_ok {c d : CdV} {tl sl : List Int} {e1 e2 : Int} (h1 : CodO c.p c.m c.ml c.n c.rows e1) (h2 : e1 = 0 → CodO d.p d.m d.ml d.n d.rows e2) (h : stE e1 e2 (samF c.p c.m c.ml d.p d.m d.ml) c.n d.n tl sl (c.p.toNat ^ c.m.toNat) = 0) : ∃ p m n,PairOK c d tl sl p m n := by
 obtain ⟨a1,a2,a3,a4,a5,a6,a7,a8,a9⟩ := stE_ok h;subst a1;have h2 := h2 rfl;subst a2;obtain ⟨p,m,n,e1,e2,e3,b1,b2,b3,b4,b5,b6⟩ := codO_two h1;obtain ⟨p',m',n',e1',e2',e3',c1,c2,c3,c4,c5,c6⟩ := codO_two h2;obtain ⟨s1,s2,s3⟩ := samF_iff.1 a3;have q1 : p' = p := by omega
 have q2 : m' = m := by omega
 have q3 : n' = n := by omega
 subst q1 q2 q3;refine ⟨p',m',n',⟨e1,e2,e3,by omega,by omega,by omega,s3.symm,b1,b2,b3,b4,b6,c6,b5,c5,a5,by omega,by rw [e3] at a7;exact a7,a8,?_⟩⟩;rw [e1,e2] at a9;simpa using a9
def flQ (c d : CdV) (es : List Rf) (tl sl : List Int) : Option (List Rf) := flR c.p.toNat c.m.toNat c.ml c.rows d.rows c.n.toNat (c.n.toNat - tl.length) true es tl sl
def rckE (E : Int) (R : Option (List Rf)) : Int := if E ≠ 0 then E else match R with
 | some [] => 0
 | _ => 13
theorem rCheckRef_any (w : World) (c d : CdV) (m1 m2 v1 v2 : Value) (hc : c.at w m1 v1) (hd : d.at w m2 v2) (tl sl : List Int) (tv sv : Value) (ht : ISl w tv tl) (hs : ISl w sv sl) (es : List Rf) (ev : Value) (hr : RSl w ev es) :
  Calls Tryz.prog 36 #[c.arg m1 v1,d.arg m2 v2,.agg #[tv,sv],.agg #[ev]] w fun r w' => (∃ E : Int,ThrO c d tl sl E ∧ r = .returned (.int .i64 (rckE E (flQ c d es tl sl)))) ∧ Ex w w' := by
 obtain ⟨c0,c1,c2,c3,c4⟩ := boxC5 w c m1 v1;obtain ⟨d0,d1,d2,d3,d4⟩ := boxC5 (w.alloc (c.obj m1 v1)) d m2 v2;obtain ⟨b0,b1,e3,hz3⟩ := boxP_facts ((w.alloc (c.obj m1 v1)).alloc (d.obj m2 v2)) tv sv;have hbm := boxRf (((w.alloc (c.obj m1 v1)).alloc (d.obj m2 v2)).alloc (.cells #[tv,sv] 49)) ev;have hz1 : (w.alloc (c.obj m1 v1)).heap.size = w.heap.size + 1 := by simp
 have hz2 : ((w.alloc (c.obj m1 v1)).alloc (d.obj m2 v2)).heap.size = w.heap.size + 1 + 1 := by simp
 have e1 := e_al w (c.obj m1 v1);have e2 := e_al (w.alloc (c.obj m1 v1)) (d.obj m2 v2);have e4 := e_al (((w.alloc (c.obj m1 v1)).alloc (d.obj m2 v2)).alloc (.cells #[tv,sv] 49)) (.cells #[ev] 54);rw [hz3,hz2] at hbm;rw [hz1] at d0 d1 d2 d3 d4;rw [hz2] at b0 b1;have hxw := e1.trans (e2.trans (e3.trans e4));replace c0 := (e2.trans (e3.trans e4)).cell c0;replace c1 := (e2.trans (e3.trans e4)).cell c1;replace c2 := (e2.trans (e3.trans e4)).cell c2;replace c3 := (e2.trans (e3.trans e4)).cell c3;replace c4 := (e2.trans (e3.trans e4)).cell c4;replace d0 := (e3.trans e4).cell d0;replace d1 := (e3.trans e4).cell d1;replace d2 := (e3.trans e4).cell d2;replace d3 := (e3.trans e4).cell d3;replace d4 := (e3.trans e4).cell d4;replace b0 := e4.cell b0;replace b1 := e4.cell b1;have HX := hid_ hxw;have HTH := hid_ (fun (w' : World) (h : Ex w w') => rThree_any w' c d m1 m2 v1 v2 (hc.ex h) (hd.ex h) tl sl tv sv (ht.ex h) (hs.ex h));have HFO := hid_ (fun (w' : World) (h : Ex w w') (E : Int) (hE : ThrO c d tl sl E) (h0 : E = 0) => (by
  subst h0;obtain ⟨e1,e2,g1,g2,g3⟩ := hE;obtain ⟨p,m,n,H⟩ := pair_ok g1 g2 g3.symm;have hm2 : ISl w' m2 c.ml := by have := (hd.ex h).m;rw [H.dl] at this;exact this
  have := rFollow_any (l1 := c.rows) (l2 := d.rows) w' H.fs H.isf H.n64 H.r1 H.r2 H.k1 H.k2 m1 m2 v1 v2 (hc.ex h).m (hc.ex h).g hm2 (hd.ex h).g (fun tl' sl' tv' sv' w'' hx ht' hs' hl hle hrg => rExt_any w'' H.fs H.n64 m1 ((hc.ex h).m.ex hx) tl' sl' tv' sv' ht' hs' hl hle) (n - tl.length) w' tl sl tv sv true es ev (Ex.refl _) (by have := H.le;omega) H.len.symm H.rng (fun h => by cases h) (ht.ex h) (hs.ex h) (hr.ex h);have e : flR p m c.ml c.rows d.rows n (n - tl.length) true es tl sl = flQ c d es tl sl := by
   unfold flQ;rw [H.cp,H.cm,H.cn];rfl
  rw [e] at this;unfold CdV.arg;rw [H.cp,H.cm,H.cn,H.dp,H.dm,H.dn];exact this : Calls Tryz.prog 73 #[c.arg m1 v1,d.arg m2 v2,.agg #[tv,sv],.bool true,ev] w' fun r w'' => FolR (flQ c d es tl sl) r w'' ∧ Ex w' w''))
 obtain ⟨ta,tc,rfl,-,t2,-⟩ := ht.open;obtain ⟨sa,sc,rfl,-,s2,-⟩ := hs.open;obtain ⟨x1,y1,rfl,-,z1,-⟩ := hc.g.open;obtain ⟨x2,y2,rfl,-,z2,-⟩ := hd.g.open;obtain ⟨x3,y3,rfl,-,z3,-⟩ := hc.m.open;obtain ⟨x4,y4,rfl,-,z4,-⟩ := hd.m.open;obtain ⟨ra,rc,rfl,hrc,-,-⟩ := rsl_open hr;unfold maxLen at t2 s2 z1 z2 z3 z4 hrc;obtain ⟨p,m,ml,n,rows⟩ := c;obtain ⟨p',m',ml',n',rows'⟩ := d;obtain ⟨B,hB⟩ : ∃ B,w.heap.size = B := ⟨_,rfl⟩;rw [hB] at c0 c1 c2 c3 c4 d0 d1 d2 d3 d4 b0 b1 hbm;have HTO := hid_ (fun e (h : ThrO ⟨p,m,ml,n,rows⟩ ⟨p',m',ml',n',rows'⟩ tl sl e) => h);obtain ⟨TO,hTO⟩ : ∃ T,ThrO ⟨p,m,ml,n,rows⟩ ⟨p',m',ml',n',rows'⟩ tl sl = T := ⟨_,rfl⟩;obtain ⟨R,hR⟩ : ∃ T,flQ ⟨p,m,ml,n,rows⟩ ⟨p',m',ml',n',rows'⟩ es tl sl = T := ⟨_,rfl⟩;rw [hTO] at HTH HFO ⊢;rw [hR] at HFO ⊢;dsimp only [CdV.arg,CdV.obj] at *;clear hc hd ht hs hr e1 e2 e3 e4 hz1 hz2 hz3 hxw hTO hR HTO;go_enter Tryz.func36,Tryz.ntmps36
 go_upto_region 1 with fail
 try simp only [hB]
 clear hB;generalize (((w.alloc (.cells #[.int .i64 p,.int .i64 m,.slice x3 ml.length y3,.int .i64 n,.slice x1 rows.length y1] 47)).alloc (.cells #[.int .i64 p',.int .i64 m',.slice x4 ml'.length y4,.int .i64 n',.slice x2 rows'.length y2] 47)).alloc (.cells #[.slice ta tl.length tc,.slice sa sl.length sc] 49)).alloc (.cells #[.slice ra es.length rc] 54) = w1 at *;have HALL := hid_ (fun w' (h : Ex w1 w') => (⟨h.cell c0,h.cell c1,h.cell c2,h.cell c3,h.cell c4,h.cell d0,h.cell d1,h.cell d2,h.cell d3,h.cell d4,h.cell b0,h.cell b1,h.cell hbm⟩ : _ ∧ _ ∧ _ ∧ _ ∧ _ ∧ _ ∧ _ ∧ _ ∧ _ ∧ _ ∧ _ ∧ _ ∧ _));go_wp2_with fail
 refine (HTH.out w1 HX.out).mono ?_;rintro e w2 ⟨⟨E,rfl,hth⟩,hx2⟩;have HX2 := hid_ hx2;have HE := hid_ hth;clear hx2 hth c0 c1 c2 c3 c4 d0 d1 d2 d3 d4 b0 b1 hbm;by_cases h0 : E = 0
 rotate_left
 ·have k1 : (E != 0) = true := by simpa using h0
  have H0 := hid_ h0;clear h0;go_wp2_with fail
  go_ret;exact ⟨⟨E,HE.out,ret_int (by unfold rckE;rw [if_pos H0.out])⟩,HX.out.trans HX2.out⟩
 ·have k1 : (E != 0) = false := by simp [h0]
  have HFC := hid_ (HFO.out w2 (HX.out.trans HX2.out) E HE.out h0);have H0 := hid_ h0;clear h0;obtain ⟨c0,c1,c2,c3,c4,d0,d1,d2,d3,d4,b0,b1,hbm⟩ := HALL.out w2 HX2.out;go_wp2_with fail
  refine HFC.out.mono ?_;rintro e w3 ⟨hfo,hx3⟩;obtain ⟨v3,rfl,hv3⟩ := hfo.all;have HX3 := hid_ (HX2.out.trans hx3);have HV3 := hid_ hv3;clear hfo hx3 hv3 c0 c1 c2 c3 c4 d0 d1 d2 d3 d4 b0 b1 hbm
  cases R with
  | none =>
   go_wp2_with fail
   go_ret;exact ⟨⟨E,HE.out,ret_int (by unfold rckE;rw [if_neg (fun h => h H0.out)])⟩,HX.out.trans HX3.out⟩
  | some rest =>
   obtain ⟨a3,c3,rfl,z5,-,-⟩ := rsl_open (HV3.out rest rfl)
   cases rest with
   | nil =>
    go_wp2_with fail
    go_ret;exact ⟨⟨E,HE.out,ret_int (by unfold rckE;rw [if_neg (fun h => h H0.out)])⟩,HX.out.trans HX3.out⟩
   | cons x rest =>
    obtain ⟨L,hL⟩ : ∃ L,(x :: rest).length = L := ⟨_,rfl⟩;have k2 : (0 : Int) < (L : Int) := by rw [← hL,List.length_cons];omega
    rw [hL];clear hL;go_wp2_with fail
    go_ret;exact ⟨⟨E,HE.out,ret_int (by unfold rckE;rw [if_neg (fun h => h H0.out)])⟩,HX.out.trans HX3.out⟩
end
section
open Go.RowKit
theorem ThrO.eq {c d : CdV} {tl sl : List Int} {e e1 e2 : Int} (h : ThrO c d tl sl e) (h1 : CodO c.p c.m c.ml c.n c.rows e1) (h2 : e1 = 0 → CodO d.p d.m d.ml d.n d.rows e2) : e = stE e1 e2 (samF c.p c.m c.ml d.p d.m d.ml) c.n d.n tl sl (c.p.toNat ^ c.m.toNat) := by
 obtain ⟨a1,a2,g1,g2,g3⟩ := h;obtain rfl := codO_uniq g1 h1;rw [g3];by_cases h0 : a1 = 0
 ·rw [codO_uniq (g2 h0) (h2 h0)]
 ·unfold stE;rw [if_pos h0,if_pos h0]
theorem ckE_eq {c d : CdV} {tl sl : List Int} {es : List Rf} {e e1 e2 : Int} (h : ThrO c d tl sl e) (h1 : CodO c.p c.m c.ml c.n c.rows e1) (h2 : e1 = 0 → CodO d.p d.m d.ml d.n d.rows e2) :
  ckE (stE e1 e2 (samF c.p c.m c.ml d.p d.m d.ml) c.n d.n tl sl (c.p.toNat ^ c.m.toNat)) (flS c d es tl sl) es = rckE e (flQ c d es tl sl) := by
 rw [← h.eq h1 h2];unfold ckE rckE;by_cases h0 : e = 0
 ·have h00 : ¬ e ≠ 0 := fun h => h h0;rw [if_neg h00,if_neg h00];have h3 := h.eq h1 h2;obtain ⟨p,m,n,H⟩ := pair_ok h1 h2 (h3.symm.trans h0);have hs := flF_flR (p := p) (m := m) (ml := c.ml) (l1 := c.rows) (l2 := d.rows) (n := n) (es := es) (n - tl.length) 0 tl sl H.le (Nat.zero_le _);rw [List.drop_zero,show decide ((0 : Nat) = 0) = true from rfl] at hs;have e3 : flS c d es tl sl = flF p m c.ml c.rows d.rows n es (n - tl.length) 0 tl sl := by
   unfold flS;rw [H.cp,H.cm,H.cn];rfl
  have e4 : flQ c d es tl sl = flR p m c.ml c.rows d.rows n (n - tl.length) true es tl sl := by
   unfold flQ;rw [H.cp,H.cm,H.cn];rfl
  rw [e3,e4];rcases hs with ⟨k',-,hk,g1,g2⟩ | ⟨g1,g2⟩
  ·rw [g1,g2];by_cases hl : k' = es.length
   ·have hn : ¬ (((k',(0 : Int)).2 = 0) ∧ (k',(0 : Int)).1 < es.length) := by rw [hl];simp
    rw [if_neg hn,hl,List.drop_length]
   ·have hn : (((k',(0 : Int)).2 = 0) ∧ (k',(0 : Int)).1 < es.length) := ⟨rfl,by show k' < _;omega⟩;rw [if_pos hn]
    cases hd : es.drop k' with
    | nil => have := List.drop_eq_nil_iff.1 hd;omega
    | cons x r => rfl
  ·have hn : ¬ ((flF p m c.ml c.rows d.rows n es (n - tl.length) 0 tl sl).2 = 0 ∧ (flF p m c.ml c.rows d.rows n es (n - tl.length) 0 tl sl).1 < es.length) := fun h => by rw [g1] at h;exact absurd h.1 (by decide)
   rw [g2,if_neg hn,g1]
 ·rw [if_pos h0,if_pos h0]
theorem EquivalenceChecks_any (w : World) (c d : CdV) (m1 m2 v1 v2 : Value) (hc : c.at w m1 v1) (hd : d.at w m2 v2) (tv sv ev pv uv : Value) (tl sl : List Int) (es : List Rf) (pl ul : List Int) (fr : Int) (ht : ISl w tv tl) (hs : ISl w sv sl) (he : RSl w ev es) (hp : ISl w pv pl) (hu : ISl w uv ul) :
  Calls Tryz.prog 7 #[c.arg m1 v1,d.arg m2 v2,.agg #[tv,sv,ev,pv,uv,.int .i64 fr]] w fun r w' => r = .returned (.bool true) ∧ Ex w w' := by
 obtain ⟨c0,c1,c2,c3,c4⟩ := boxC5 w c m1 v1;obtain ⟨d0,d1,d2,d3,d4⟩ := boxC5 (w.alloc (c.obj m1 v1)) d m2 v2;have hbx := boxAt_new ((w.alloc (c.obj m1 v1)).alloc (d.obj m2 v2)) [tv,sv,ev,pv,uv,.int .i64 fr] _ 61 rfl;have hz1 : (w.alloc (c.obj m1 v1)).heap.size = w.heap.size + 1 := by simp
 have hz2 : ((w.alloc (c.obj m1 v1)).alloc (d.obj m2 v2)).heap.size = w.heap.size + 1 + 1 := by simp
 have e1 := e_al w (c.obj m1 v1);have e2 := e_al (w.alloc (c.obj m1 v1)) (d.obj m2 v2);have e3 := e_al ((w.alloc (c.obj m1 v1)).alloc (d.obj m2 v2)) (.cells #[tv,sv,ev,pv,uv,.int .i64 fr] 61);rw [hz2] at hbx;rw [hz1] at d0 d1 d2 d3 d4;have b0 := hbx 0 _ rfl;have b1 := hbx 1 _ rfl;have b2 := hbx 2 _ rfl;have b3 := hbx 3 _ rfl;have b4 := hbx 4 _ rfl;have b5 := hbx 5 _ rfl;replace c0 := (e2.trans e3).cell c0;replace c1 := (e2.trans e3).cell c1;replace c2 := (e2.trans e3).cell c2;replace c3 := (e2.trans e3).cell c3;replace c4 := (e2.trans e3).cell c4;replace d0 := e3.cell d0;replace d1 := e3.cell d1;replace d2 := e3.cell d2;replace d3 := e3.cell d3;replace d4 := e3.cell d4;have HX := hid_ (e1.trans (e2.trans e3));have HAW := hid_ (fun w' => awake_any w');have HF1 := hid_ (fun (w' : World) (h : Ex w w') => few31_any w' c m1 v1 (hc.ex h));have HF2 := hid_ (fun (w' : World) (h : Ex w w') => few31_any w' d m2 v2 (hd.ex h));have HRF := hid_ (fun (w' : World) (h : Ex w w') => rFewRf_any w' es ev (he.ex h));have HCR := hid_ (fun (w' : World) (h : Ex w w') => CheckRefutation_any w' c d m1 m2 v1 v2 (hc.ex h) (hd.ex h) tl sl tv sv (ht.ex h) (hs.ex h) es ev (he.ex h));have HRC := hid_ (fun (w' : World) (h : Ex w w') => rCheckRef_any w' c d m1 m2 v1 v2 (hc.ex h) (hd.ex h) tl sl tv sv (ht.ex h) (hs.ex h) es ev (he.ex h));have HLW := hid_ (fun e e1 e2 (h : ThrO c d tl sl e) h1 h2 => ckE_eq (es := es) (e1 := e1) (e2 := e2) h h1 h2);obtain ⟨ta,tc,rfl,-,t2,-⟩ := ht.open;obtain ⟨sa,sc,rfl,-,s2,-⟩ := hs.open;obtain ⟨ra,rc,rfl,r2,-,-⟩ := rsl_open he;obtain ⟨pa,pc,rfl,-,p2,-⟩ := hp.open;obtain ⟨ua,uc,rfl,-,u2,-⟩ := hu.open;obtain ⟨x1,y1,rfl,-,z1,-⟩ := hc.g.open;obtain ⟨x2,y2,rfl,-,z2,-⟩ := hd.g.open;obtain ⟨x3,y3,rfl,-,z3,-⟩ := hc.m.open;obtain ⟨x4,y4,rfl,-,z4,-⟩ := hd.m.open;unfold maxLen at t2 s2 r2 p2 u2 z1 z2 z3 z4;obtain ⟨p,m,ml,n,rows⟩ := c;obtain ⟨p',m',ml',n',rows'⟩ := d;obtain ⟨B,hB⟩ : ∃ B,w.heap.size = B := ⟨_,rfl⟩;rw [hB] at c0 c1 c2 c3 c4 d0 d1 d2 d3 d4 b0 b1 b2 b3 b4 b5;dsimp only [CdV.arg,CdV.obj] at *;clear hc hd ht hs he hp hu e1 e2 e3 hz1 hz2 hbx;go_enter Tryz.func7,Tryz.ntmps7
 go_upto_region 1 with fail
 try simp only [hB]
 clear hB;generalize ((w.alloc (.cells #[.int .i64 p,.int .i64 m,.slice x3 ml.length y3,.int .i64 n,.slice x1 rows.length y1] 47)).alloc (.cells #[.int .i64 p',.int .i64 m',.slice x4 ml'.length y4,.int .i64 n',.slice x2 rows'.length y2] 47)).alloc (.cells #[.slice ta tl.length tc,.slice sa sl.length sc,.slice ra es.length rc,.slice pa pl.length pc,.slice ua ul.length uc,.int .i64 fr] 61) = w1 at *;have HALL := hid_ (fun w' (h : Ex w1 w') => (⟨h.cell c0,h.cell c1,h.cell c2,h.cell c3,h.cell c4,h.cell d0,h.cell d1,h.cell d2,h.cell d3,h.cell d4,h.cell b0,h.cell b1,h.cell b2,h.cell b3,h.cell b4,h.cell b5⟩ : _ ∧ _ ∧ _ ∧ _ ∧ _ ∧ _ ∧ _ ∧ _ ∧ _ ∧ _ ∧ _ ∧ _ ∧ _ ∧ _ ∧ _ ∧ _));have bad : ∀ w',Ex w1 w' → Calls Tryz.prog 12 #[] w' fun r w'' => r = .returned (.bool true) ∧ Ex w1 w'' := fun w' h => (HAW.out w').mono fun r w'' ⟨h1,h2⟩ => ⟨h1,h.trans h2⟩;have BAD := hid_ bad;have HX1 := hid_ (Ex.refl w1);clear bad;go_wp2_with fail
 refine (HAW.out w1).mono ?_;rintro e w2 ⟨rfl,hx2⟩;have HX2 := hid_ (HX1.out.trans hx2);clear hx2 c0 c1 c2 c3 c4 d0 d1 d2 d3 d4 b0 b1 b2 b3 b4 b5;obtain ⟨c0,c1,c2,c3,c4,d0,d1,d2,d3,d4,b0,b1,b2,b3,b4,b5⟩ := HALL.out w2 HX2.out;go_wp2_with fail
 refine (HF1.out w2 (HX.out.trans HX2.out)).mono ?_;rintro e w3 ⟨⟨f1,rfl,-⟩,hx3⟩;have HX3 := hid_ (HX2.out.trans hx3);clear hx3 c0 c1 c2 c3 c4 d0 d1 d2 d3 d4 b0 b1 b2 b3 b4 b5;obtain ⟨c0,c1,c2,c3,c4,d0,d1,d2,d3,d4,b0,b1,b2,b3,b4,b5⟩ := HALL.out w3 HX3.out
 cases f1 with
 | false =>
  go_wp2_with fail
  refine (BAD.out _ HX3.out).mono ?_;rintro e w99 ⟨rfl,hx99⟩;have HX99 := hid_ hx99;clear hx99;go_wp2_with fail
  go_ret;exact ⟨rfl,HX.out.trans HX99.out⟩
 | true =>
  go_wp2_with fail
  refine (HF2.out w3 (HX.out.trans HX3.out)).mono ?_;rintro e w4 ⟨⟨f2,rfl,-⟩,hx4⟩;have HX4 := hid_ (HX3.out.trans hx4);clear hx4 c0 c1 c2 c3 c4 d0 d1 d2 d3 d4 b0 b1 b2 b3 b4 b5;obtain ⟨c0,c1,c2,c3,c4,d0,d1,d2,d3,d4,b0,b1,b2,b3,b4,b5⟩ := HALL.out w4 HX4.out
  cases f2 with
  | false =>
   go_wp2_with fail
   refine (BAD.out _ HX4.out).mono ?_;rintro e w99 ⟨rfl,hx99⟩;have HX99 := hid_ hx99;clear hx99;go_wp2_with fail
   go_ret;exact ⟨rfl,HX.out.trans HX99.out⟩
  | true =>
   by_cases z1 : 100 < tl.length
   ·have q_tl : decide ((100 : Int) < (tl.length : Int)) = true := by simp;omega
    have j_tl : (100 : Int) < (tl.length : Int) := by omega
    clear z1;go_wp2_with fail
    refine (BAD.out _ HX4.out).mono ?_;rintro e w99 ⟨rfl,hx99⟩;have HX99 := hid_ hx99;clear hx99;go_wp2_with fail
    go_ret;exact ⟨rfl,HX.out.trans HX99.out⟩
   ·have q_tl : decide ((100 : Int) < (tl.length : Int)) = false := by simp;omega
    have j_tl : ¬ (100 : Int) < (tl.length : Int) := by omega
    have HZ5 := hid_ z1;clear z1;by_cases z1 : 100 < sl.length
    ·have q_sl : decide ((100 : Int) < (sl.length : Int)) = true := by simp;omega
     have j_sl : (100 : Int) < (sl.length : Int) := by omega
     clear z1;go_wp2_with fail
     refine (BAD.out _ HX4.out).mono ?_;rintro e w99 ⟨rfl,hx99⟩;have HX99 := hid_ hx99;clear hx99;go_wp2_with fail
     go_ret;exact ⟨rfl,HX.out.trans HX99.out⟩
    ·have q_sl : decide ((100 : Int) < (sl.length : Int)) = false := by simp;omega
     have j_sl : ¬ (100 : Int) < (sl.length : Int) := by omega
     have HZ6 := hid_ z1;clear z1;go_wp2_with fail
     refine (HRF.out w4 (HX.out.trans HX4.out)).mono ?_;rintro e w7 ⟨⟨f3,rfl,-⟩,hx7⟩;have HX7 := hid_ (HX4.out.trans hx7);clear hx7 c0 c1 c2 c3 c4 d0 d1 d2 d3 d4 b0 b1 b2 b3 b4 b5;obtain ⟨c0,c1,c2,c3,c4,d0,d1,d2,d3,d4,b0,b1,b2,b3,b4,b5⟩ := HALL.out w7 HX7.out
     cases f3 with
     | false =>
      go_wp2_with fail
      refine (BAD.out _ HX7.out).mono ?_;rintro e w99 ⟨rfl,hx99⟩;have HX99 := hid_ hx99;clear hx99;go_wp2_with fail
      go_ret;exact ⟨rfl,HX.out.trans HX99.out⟩
     | true =>
      obtain ⟨SF,hSF⟩ : ∃ S,flS ⟨p,m,ml,n,rows⟩ ⟨p',m',ml',n',rows'⟩ es tl sl = S := ⟨_,rfl⟩;obtain ⟨RF,hRF⟩ : ∃ S,flQ ⟨p,m,ml,n,rows⟩ ⟨p',m',ml',n',rows'⟩ es tl sl = S := ⟨_,rfl⟩;obtain ⟨TO,hTO⟩ : ∃ S,ThrO ⟨p,m,ml,n,rows⟩ ⟨p',m',ml',n',rows'⟩ tl sl = S := ⟨_,rfl⟩;rw [hSF] at HCR HLW;rw [hRF] at HRC HLW;rw [hTO] at HRC HLW;clear hSF hRF hTO;have KX := hid_ (HX.out.trans HX7.out);have HAL := hid_ (fun w' (h : Ex w7 w') => HALL.out w' (HX7.out.trans h));have G0 : Ex w7 w7.drew := (Ex.refl w7).drew;clear c0 c1 c2 c3 c4 d0 d1 d2 d3 d4 b0 b1 b2 b3 b4 b5;go_upto_region 3 with fail
      go_region_held3 (fun w' => w'.cell? ⟨B,0,none⟩ = some (.int .i64 p) ∧ w'.cell? ⟨B,1,none⟩ = some (.int .i64 m) ∧ w'.cell? ⟨B,2,none⟩ = some (.slice x3 ml.length y3) ∧ w'.cell? ⟨B,3,none⟩ = some (.int .i64 n) ∧ w'.cell? ⟨B,4,none⟩ = some (.slice x1 rows.length y1) ∧ w'.cell? ⟨B + 1,0,none⟩ = some (.int .i64 p') ∧ w'.cell? ⟨B + 1,1,none⟩ = some (.int .i64 m') ∧ w'.cell? ⟨B + 1,2,none⟩ = some (.slice x4 ml'.length y4) ∧ w'.cell? ⟨B + 1,3,none⟩ = some (.int .i64 n') ∧ w'.cell? ⟨B + 1,4,none⟩ = some (.slice x2 rows'.length y2) ∧ w'.cell? ⟨B + 1 + 1,0,none⟩ = some (.slice ta tl.length tc) ∧ w'.cell? ⟨B + 1 + 1,1,none⟩ = some (.slice sa sl.length sc) ∧ w'.cell? ⟨B + 1 + 1,2,none⟩ = some (.slice ra es.length rc) ∧ w'.cell? ⟨B + 1 + 1,3,none⟩ = some (.slice pa pl.length pc) ∧ w'.cell? ⟨B + 1 + 1,4,none⟩ = some (.slice ua ul.length uc) ∧ w'.cell? ⟨B + 1 + 1,5,none⟩ = some (.int .i64 fr))
       (first | with_reducible exact HAL.out _ G2 | with_reducible exact HAL.out _ G1 | with_reducible exact HAL.out _ G0)
       (first
                | (go_at_call 34;(first | (with_reducible refine (HCR.out _ (KX.out.trans G2)).mono ?_) | (with_reducible refine (HCR.out _ (KX.out.trans G0)).mono ?_));rintro e w8 ⟨⟨e1,e2,ho1,ho2,rfl⟩,hx8⟩;have HO1 := hid_ ho1;have HO2 := hid_ ho2;(first | (have G1 := G2.trans hx8) | (have G1 := G0.trans hx8));have HX8 := hid_ G1;clear hx8 ho1 ho2)
                | (go_at_call 36;(first | (with_reducible refine (HRC.out _ (KX.out.trans G1)).mono ?_) | (with_reducible refine (HRC.out _ (KX.out.trans G0)).mono ?_));rintro e w9 ⟨⟨E,hth,rfl⟩,hx9⟩;have HTH := hid_ hth;(first | (have G2 := G1.trans hx9) | (have G2 := G0.trans hx9));have HX9 := hid_ G2;clear hx9 hth))
      all_goals
       have HEQ := HLW.out E e1 e2 HTH.out HO1.out HO2.out
       first | rw [HEQ] | skip
       clear HEQ;obtain ⟨Z,hZ⟩ : ∃ Z,rckE E RF = Z := ⟨_,rfl⟩
       first | rw [hZ] | skip
       clear hZ;go_wp2_with fail
       go_ret
       trace_state
       first | exact ⟨by simp,KX.out.trans HX9.out⟩ | exact ⟨by simp,KX.out.trans HX8.out⟩
end
section
open Go.RowKit Go.ChangeShapes Go.WideShapes Go.ChangeAt
theorem rfC_get : ∀ (es : List Rf) (mvs : List Value),mvs.length = es.length → ∀ i,i < es.length → ∀ j,j < 4 → (rfC es mvs)[i * 4 + j]? = (((es.getD i dRf).cells (mvs.getD i undef)))[j]? := fun es => by
 induction es with
 | nil => intro mvs _ i hi;simp at hi
 | cons e es ih =>
  intro mvs hm i hi j hj
  cases mvs with
  | nil => simp at hm
  | cons u mvs =>
   show (e.cells u ++ rfC es mvs)[i * 4 + j]? = _
   cases i with
   | zero => rw [List.getElem?_append_left (by simp [Rf.cells];omega)];simp
   | succ i =>
    rw [List.getElem?_append_right (by simp [Rf.cells];omega)];have := ih mvs (by simpa using hm) i (by simpa using hi) j hj;rw [show (i + 1) * 4 + j - (e.cells u).length = i * 4 + j from by simp [Rf.cells];omega,this];simp
section
variable {H : Type} {enc : TypeId × Value → H} {W : World} {held : Bool}
theorem rsl_trod {fuel : Nat} {v : Value} {y : DataW H × List MemPlace} (h : DataW.trod enc Tryz.prog W 0 (fun _ => true) held fuel 52 [v] = some y) : ∃ es,RSl W v es := by
 rcases Go.Deep.open_slice Tryz.underlying52 h with ⟨hcs,_⟩ | ⟨x,len,cap,m,n,D,Pl,hcs,_,hl,hm,hmm,_,hr⟩
 ·simp at hcs;subst hcs;exact ⟨[],RSl.nil W⟩
 ·simp at hcs;subst hcs;simp only [if_true] at hmm;subst hmm;rw [show Tryz.prog.cellsOf 78 = 4 by kernel_rfl] at hr;have key : ∀ i,i < len → ∃ q : Rf × Value,W.cell? (x.add (i * 4)) = some (.int .i64 q.1.tp) ∧ W.cell? (x.add (i * 4 + 1)) = some (.int .i64 q.1.sc) ∧ W.cell? (x.add (i * 4 + 2)) = some (.int .i64 q.1.side) ∧ W.cell? (x.add (i * 4 + 3)) = some q.2 ∧ ISl W q.2 q.1.msg := fun i hi => by
   obtain ⟨cs',h1,h2⟩ := hr i (by omega);obtain ⟨_,hlen,hcell⟩ := World.cells?_some h1;obtain ⟨xs,k,_,_,_,hxl,hf⟩ := DataW.trod_struct Tryz.underlying78 h2
   match xs,hxl,cs',hlen with
   | [y0,y1,y2,y3],_,[v0,v1,v2,v3],_ =>
    have g0 := hf 0 _ rfl;have g1 := hf 1 _ rfl;have g2 := hf 2 _ rfl;have g3 := hf 3 _ rfl;simp [show Tryz.prog.cellsOf 3 = 1 by kernel_rfl,show Tryz.prog.cellsOf 22 = 1 by kernel_rfl] at g0 g1 g2 g3;have e0 := hcell 0 (by omega);have e1 := hcell 1 (by omega);have e2 := hcell 2 (by omega);have e3 := hcell 3 (by omega);rw [Go.Deep.add_add] at e0 e1 e2 e3;obtain ⟨p0,ep0,_,_⟩ := DataW.trod_int Tryz.underlying3 g0;obtain ⟨p1,ep1,_,_⟩ := DataW.trod_int Tryz.underlying3 g1;obtain ⟨p2,ep2,_,_⟩ := DataW.trod_int Tryz.underlying3 g2;simp at ep0 ep1 ep2;subst ep0 ep1 ep2;obtain ⟨l,hl⟩ := isl_trod g3;exact ⟨(⟨p0,p1,p2,l⟩,v3),by simpa using e0,by simpa using e1,by simpa using e2,by simpa using e3,hl⟩
  haveI : Inhabited (Rf × Value) := ⟨(dRf,.bool false)⟩
  obtain ⟨q,hq⟩ := Go.Deep.choose_lt key;have hL : ((List.range len).map fun i => (q i).1).length = len := by simp
  have hO : ((List.range len).map fun i => (q i).2).length = len := by simp
  have hgL : ∀ i,i < len → ((List.range len).map fun i => (q i).1).getD i dRf = (q i).1 := fun i hi => by
   rw [List.getD_eq_getElem?_getD];simp [hi]
  have hgO : ∀ i,i < len → ((List.range len).map fun i => (q i).2).getD i undef = (q i).2 := fun i hi => by
   rw [List.getD_eq_getElem?_getD];simp [hi]
  have hlen : (rfC ((List.range len).map fun i => (q i).1) ((List.range len).map fun i => (q i).2)).length = len * 4 := by
   rw [rfC_len _ _ (by rw [hL,hO]),hL]
  refine ⟨(List.range len).map fun i => (q i).1,(List.range len).map fun i => (q i).2,by rw [hL,hO],⟨by rw [hlen,hL],some x,m,by rw [hL],by rw [hL];exact hl,hm,fun hn => ?_⟩,fun i e mv h1 h2 => ?_⟩
  ·rw [hL] at hn;have h0 := (hq 0 hn).1;have hx := spot_none h0 (.inl ⟨_,_,rfl⟩);have hx0 : (x.add (0 * 4)) = x := by simp [Addr.add]
   rw [hx0] at hx;refine ⟨x.block,x.off,congrArg some hx,fun j u hu => ?_⟩;have hj : j < len * 4 := by
    have := (List.getElem?_eq_some_iff.1 hu).1;rw [hlen] at this;exact this
   obtain ⟨i,r,hr3,rfl⟩ : ∃ i r,r < 4 ∧ j = i * 4 + r := ⟨j / 4,j % 4,Nat.mod_lt _ (by omega),by omega⟩;have hi : i < len := by omega
   obtain ⟨k0,k1,k2,k3,_⟩ := hq i hi;rw [hx,add_off] at k0 k1 k2 k3;rw [rfC_get _ _ (by rw [hL,hO]) i (by rw [hL];exact hi) r hr3,hgL i hi,hgO i hi] at hu
   match r,hr3 with
   | 0,_ => simp [Rf.cells] at hu;rw [Nat.add_zero,← hu];exact k0
   | 1,_ => simp [Rf.cells] at hu;rw [← hu];exact k1
   | 2,_ => simp [Rf.cells] at hu;rw [← hu];exact k2
   | 3,_ => simp [Rf.cells] at hu;rw [← hu];exact k3
  ·have hi : i < len := by have := (List.getElem?_eq_some_iff.1 h1).1;simpa using this
   simp [hi] at h1 h2;subst h1 h2;exact (hq i hi).2.2.2.2
theorem c_code : Tryz.prog.cellsOf 47 = 5 := by kernel_rfl
theorem c_part : Tryz.prog.cellsOf 49 = 2 := by kernel_rfl
theorem c_refu : Tryz.prog.cellsOf 54 = 1 := by kernel_rfl
theorem c_entr : Tryz.prog.cellsOf 52 = 1 := by kernel_rfl
theorem c_case : Tryz.prog.cellsOf 61 = 6 := by kernel_rfl
theorem open_code {r : Reach} {b0 : Nat} {v : Value} {d : DataW H} {p : List MemPlace} (hv : Value.okWide Tryz.prog W r b0 47 v) (h : DataW.Trod enc Tryz.prog W 0 (fun _ => true) held 47 v d p) :
  ∃ (c : CdV) (mv gv : Value),v = c.arg mv gv ∧ c.at W mv gv := by
 obtain ⟨cs,rfl,hsz⟩ := okWide_agg Tryz.underlying47 hv;obtain ⟨c0,c1,c2,c3,c4,rfl⟩ := array5 (hsz.trans c_code);obtain ⟨fuel,hf⟩ := h;obtain ⟨xs,k,_,_,_,hxl,hff⟩ := DataW.trod_struct Tryz.underlying47 hf;have g0 := hff 0 _ rfl;have g1 := hff 1 _ rfl;have g2 := hff 2 _ rfl
 match xs,hxl with
 | [y0,y1,y2],_ =>
  simp [c_int,c_fld,c_rows,Value.cells] at g0 g1 g2;obtain ⟨P,M,ml,rfl,rfl,hm⟩ := fld_cells g0;obtain ⟨N,e0,_,_⟩ := DataW.trod_int Tryz.underlying3 g1;obtain ⟨rows,hr⟩ := msl_trod g2;simp at e0;subst e0;exact ⟨⟨P,M,ml,N,rows⟩,_,_,rfl,hm,hr⟩
theorem part_cells {fuel : Nat} {c0 c1 : Value} {y : DataW H × List MemPlace} (h : DataW.trod enc Tryz.prog W 0 (fun _ => true) held fuel 49 [c0,c1] = some y) :
  ∃ (tl sl : List Int),ISl W c0 tl ∧ ISl W c1 sl := by
 obtain ⟨xs,k,_,_,_,hxl,hf⟩ := DataW.trod_struct Tryz.underlying49 h;have g0 := hf 0 _ rfl;have g1 := hf 1 _ rfl
 match xs,hxl with
 | [y0,y1],_ =>
  simp [c_ints] at g0 g1;obtain ⟨l,hl⟩ := isl_trod g0;obtain ⟨l',hl'⟩ := isl_trod g1;exact ⟨l,l',hl,hl'⟩
theorem array2' {α : Type} {cs : Array α} (h : cs.size = 2) : ∃ c0 c1,cs = #[c0,c1] := by
 obtain ⟨l⟩ := cs
 match l,h with
 | [c0,c1],_ => exact ⟨c0,c1,rfl⟩
theorem open_part {r : Reach} {b0 : Nat} {v : Value} {d : DataW H} {p : List MemPlace} (hv : Value.okWide Tryz.prog W r b0 49 v) (h : DataW.Trod enc Tryz.prog W 0 (fun _ => true) held 49 v d p) :
  ∃ (tv sv : Value) (tl sl : List Int),v = .agg #[tv,sv] ∧ ISl W tv tl ∧ ISl W sv sl := by
 obtain ⟨cs,rfl,hsz⟩ := okWide_agg Tryz.underlying49 hv;obtain ⟨c0,c1,rfl⟩ := array2' (hsz.trans c_part);obtain ⟨fuel,hf⟩ := h;obtain ⟨tl,sl,h1,h2⟩ := part_cells (by simpa [Value.cells] using hf);exact ⟨_,_,tl,sl,rfl,h1,h2⟩
theorem refu_cells {fuel : Nat} {c0 : Value} {y : DataW H × List MemPlace} (h : DataW.trod enc Tryz.prog W 0 (fun _ => true) held fuel 54 [c0] = some y) : ∃ es,RSl W c0 es := by
 obtain ⟨xs,k,_,_,_,hxl,hf⟩ := DataW.trod_struct Tryz.underlying54 h;have g0 := hf 0 _ rfl
 match xs,hxl with
 | [y0],_ =>
  simp [c_entr] at g0;exact rsl_trod g0
theorem open_case {r : Reach} {b0 : Nat} {v : Value} {d : DataW H} {p : List MemPlace} (hv : Value.okWide Tryz.prog W r b0 61 v) (h : DataW.Trod enc Tryz.prog W 0 (fun _ => true) held 61 v d p) :
  ∃ (tv sv ev pv uv : Value) (tl sl : List Int) (es : List Rf) (pl ul : List Int) (fr : Int),v = .agg #[tv,sv,ev,pv,uv,.int .i64 fr] ∧ ISl W tv tl ∧ ISl W sv sl ∧ RSl W ev es ∧ ISl W pv pl ∧ ISl W uv ul := by
 obtain ⟨cs,rfl,hsz⟩ := okWide_agg Tryz.underlying61 hv;obtain ⟨c0,c1,c2,c3,c4,c5,rfl⟩ := array6 (hsz.trans c_case);obtain ⟨fuel,hf⟩ := h;obtain ⟨xs,k,_,_,_,hxl,hff⟩ := DataW.trod_struct Tryz.underlying61 hf;have g0 := hff 0 _ rfl;have g1 := hff 1 _ rfl;have g2 := hff 2 _ rfl
 match xs,hxl with
 | [y0,y1,y2],_ =>
  simp [c_part,c_refu,c_mon,Value.cells] at g0 g1 g2;obtain ⟨tl,sl,h1,h2⟩ := part_cells g0;obtain ⟨es,h3⟩ := refu_cells g1;obtain ⟨pl,ul,fr,h4,h5,rfl⟩ := mon_cells g2;exact ⟨_,_,_,_,_,tl,sl,es,pl,ul,fr,rfl,h1,h2,h3,h4,h5⟩
end
end
end Go.Proofs.YtgdmlmhpineibaaGreat
