/- Walk of codewrightref31.sides. -/
import Derived.Deep.CutRange
import Derived.Test.YtgdmlmhpineibaaGreatZe26
import Derived.Test.YtgdmlmhpineibaaGreatZe27
import Derived.Test.YtgdmlmhpineibaaGreatZe34
import Derived.Test.YtgdmlmhpineibaaGreatZe42
import Derived.Test.YtgdmlmhpineibaaGreatZe44
namespace Go.Proofs.YtgdmlmhpineibaaGreat
set_option linter.unusedVariables false
set_option linter.unusedSimpArgs false
set_option maxRecDepth 100000
set_option maxHeartbeats 8000000
section
open Go.RowKit
theorem rowsL_suc9 (N k : Nat) (a : Nat → Nat → Int) : rowsL N (k + 1) a = rowsL N k a ++ [il N (a k)] := by
 unfold rowsL;rw [List.range_succ,List.map_append];rfl
theorem keep_rows {l : List (List Int)} {s : List Int} : (l.map fun r => il s.length (pckF r s)) = rowsL s.length l.length (fun i => seF s (rowsF l i)) := by
 refine List.ext_getElem? fun i => ?_;by_cases hi : i < l.length
 ·rw [rowsL_get hi,List.getElem?_map,List.getElem?_eq_getElem hi];show some _ = some _
  congr 1
  unfold il;refine List.map_congr_left fun j _ => ?_;unfold pckF seF rowsF;rw [List.getD_eq_getElem?_getD (l := l),List.getElem?_eq_getElem hi];rfl
 ·rw [List.getElem?_eq_none (by simpa using hi),List.getElem?_eq_none (by rw [rowsL_len];omega)]
def SidO (p m : Nat) (ml tl sl : List Int) (l1 l2 : List (List Int)) (K : Nat) (r : Ending) (w' : World) : Prop :=
 ∃ (av bv : Value) (pa pb : List Nat) (aa ab : Nat → Nat → Int),r = .returned (.tuple #[av,bv]) ∧ ElO p m ml K l1.length (fun i => mpF p m ml sl (rowsF l1 i)) aa pa ∧ ElO p m ml K l2.length (fun i => seF tl (rowsF l2 i)) ab pb ∧ MSl w' av (rowsL K pa.length aa) ∧ MSl w' bv (rowsL K pb.length ab)
theorem rSides_any {p m n : Nat} {ml : List Int} {l1 l2 : List (List Int)} (w : World) (hf : FSh p m ml) (hF : IsF p m (lw ml)) (hn : n ≤ 64) (h1 : ∀ r ∈ l1,r.length = n ∧ entS (p ^ m) r = 0) (h2 : ∀ r ∈ l2,r.length = n ∧ entS (p ^ m) r = 0) (k1 : l1.length ≤ 256) (k2 : l2.length ≤ 256)
  (m1 m2 v1 v2 : Value) (hm1 : ISl w m1 ml) (hv1 : MSl w v1 l1) (hm2 : ISl w m2 ml) (hv2 : MSl w v2 l2) (tl sl : List Int) (tv sv : Value) (ht : ISl w tv tl) (hs : ISl w sv sl) (hsl : sl.length = tl.length) (K : Nat) (hK : tl.length = K) (htn : K ≤ n) (hrg : rngB tl n = true) :
  Calls Tryz.prog 145 #[.agg #[.int .i64 p,.int .i64 m,m1,.int .i64 n,v1],.agg #[.int .i64 p,.int .i64 m,m2,.int .i64 n,v2],.agg #[tv,sv]] w fun r w' => SidO p m ml tl sl l1 l2 K r w' ∧ Ex w w' := by
 obtain ⟨c0,c1,c2,c3,c4,ea⟩ := boxC_facts w p m m1 n v1;obtain ⟨d0,d1,d2,d3,d4,eb⟩ := boxC_facts (w.alloc (.cells #[.int .i64 p,.int .i64 m,m1,.int .i64 n,v1] 47)) p m m2 n v2;have asz : (w.alloc (.cells #[.int .i64 p,.int .i64 m,m1,.int .i64 n,v1] 47)).heap.size = w.heap.size + 1 := by simp
 have bsz : ((w.alloc (.cells #[.int .i64 p,.int .i64 m,m1,.int .i64 n,v1] 47)).alloc (.cells #[.int .i64 p,.int .i64 m,m2,.int .i64 n,v2] 47)).heap.size = w.heap.size + 1 + 1 := by simp
 obtain ⟨b0,b1,ec,-⟩ := boxP_facts ((w.alloc (.cells #[.int .i64 p,.int .i64 m,m1,.int .i64 n,v1] 47)).alloc (.cells #[.int .i64 p,.int .i64 m,m2,.int .i64 n,v2] 47)) tv sv;rw [asz] at d0 d1 d2 d3 d4;rw [bsz] at b0 b1;replace c0 := (eb.trans ec).cell c0;replace c1 := (eb.trans ec).cell c1;replace c2 := (eb.trans ec).cell c2;replace c3 := (eb.trans ec).cell c3;replace c4 := (eb.trans ec).cell c4;replace d4 := ec.cell d4;have HX := hid_ (ea.trans (eb.trans ec));have HMP := hid_ (fun (w' : World) (h : Ex w w') (x : List Int) (xv : Value) (hx : ISl w' xv x) (hxl : x.length = n) => rMapped_any w' hf (hm1.ex h) tl sl x tv sv xv (ht.ex h) (hs.ex h) hx hsl (by omega) K hK (by omega));have HCA := hid_ (fun (w' : World) (h : Ex w w') (R : Nat) (hR : R ≤ 256) (a : Nat → Nat → Int) (hrng : Rng p m R K a) (v : Value) (hv : MSl w' v (rowsL K R a)) => rCanon_any w' hf hF (hm1.ex h) K R (by omega) hR a hrng v hv);have HKE := hid_ (fun (w' : World) (h : Ex w w') => rKeep_any w' l2 tl v2 tv (hv2.ex h) (ht.ex h) (by omega) (by omega) fun r hr x hx => by
  have := List.all_eq_true.1 (show (tl.all fun x => decide (0 ≤ x ∧ x < (n : Int))) = true from hrg) x hx;have h3 := (h2 r hr).1;simp at this;omega)
 have hR1 : Rng p m l1.length K (fun i => mpF p m ml sl (rowsF l1 i)) := fun i _ j hj => mpF_rng hf.p2 sl (rowsF l1 i) K j hj;have hR2 : Rng p m l2.length K (fun i => seF tl (rowsF l2 i)) := fun i hi j hj => seF_rng hrg (rowsF_rng' h2 hi) j (by omega);have HR1 := hid_ hR1;have HR2 := hid_ hR2;have HH1 := hid_ h1;have HTL := hid_ hK;have HKR := hid_ (show (l2.map fun r => il K (pckF r tl)) = rowsL K l2.length (fun i => seF tl (rowsF l2 i)) from by rw [← hK];exact keep_rows);obtain ⟨x1,y1,rfl,p1,z1,g1⟩ := hv1.open;obtain ⟨x2,y2,rfl,p2,z2,-⟩ := hv2.open;obtain ⟨x3,y3,rfl,-,z3,-⟩ := hm1.open;obtain ⟨x4,y4,rfl,-,z4,-⟩ := hm2.open;obtain ⟨ta,tc,rfl,t1,t2,-⟩ := ht.open;obtain ⟨sa,sc,rfl,s1,s2,-⟩ := hs.open;unfold maxLen at t2 s2 z1 z2 z3 z4;have V3 := hid_ g1;obtain ⟨B,hB⟩ : ∃ B,w.heap.size = B := ⟨_,rfl⟩;rw [hB] at c0 c1 c2 c3 c4 d4 b0 b1;rw [hK] at c0 c1 c2 c3 c4 d4 b0 b1 HX HMP HKE ⊢;clear hf hF h1 h2 hm1 hv1 hm2 hv2 ht hs hsl hK htn hrg ea eb ec asz bsz d0 d1 d2 d3 hR1 hR2 g1 t1 s1 p1 p2;go_enter Tryz.func145,Tryz.ntmps145
 go_upto_region 1 with fail
 try simp only [hB]
 have HB := hid_ hB;clear hB;generalize ((w.alloc (.cells #[.int .i64 p,.int .i64 m,.slice x3 ml.length y3,.int .i64 n,.slice x1 l1.length y1] 47)).alloc (.cells #[.int .i64 p,.int .i64 m,.slice x4 ml.length y4,.int .i64 n,.slice x2 l2.length y2] 47)).alloc (.cells #[.slice ta K tc,.slice sa sl.length sc] 49) = w3 at *;have HALL := hid_ (fun w' (h : Ex w3 w') => (⟨h.cell c0,h.cell c1,h.cell c2,h.cell c4,h.cell d4,h.cell b0,h.cell b1⟩ : _ ∧ _ ∧ _ ∧ _ ∧ _ ∧ _ ∧ _));go_wp2_with fail
 clear c0 c1 c2 c3 c4 d4 b0 b1
 go_loopw [8,9] (fun cv i' wr => ∃ (k : Nat) (vals : List Value),k ≤ l1.length ∧ i' = .int .i64 k ∧ Hid (MRows wr w3.heap.size cv (rowsL K k (fun i => mpF p m ml sl (rowsF l1 i))) vals) ∧ Hid (Ex w3 wr)) (fun _ i' _ => l1.length - (intOf i').toNat)
 case atStart => exact ⟨0,[],by omega,rfl,hid_ (MRows.nil _ _),hid_ (Ex.refl _)⟩
 case round =>
  obtain ⟨k,vals,hk,rfl,hm,hxw⟩ := hrel;obtain ⟨qa,qc,hqv⟩ := own_shape hm.out.cvo;subst hqv;obtain ⟨c0,c1,c2,c4,d4,b0,b1⟩ := HALL.out wr hxw.out;have HLN := hid_ (rowsL_len K k (fun i => mpF p m ml sl (rowsF l1 i)));by_cases hkR : k < l1.length
  ·obtain ⟨rb,ro,rfl,hrc⟩ := V3.out (by omega);obtain ⟨uv,huc,hui⟩ := hrc k _ (List.getElem?_eq_getElem hkR);have cu := (HX.out.trans hxw.out).cell huc;have i1 : (0 : Int) ≤ (k : Int) := by omega
   have i2 : (k : Int) < (l1.length : Int) := by omega
   obtain ⟨x,hx⟩ : ∃ x,l1[k] = x := ⟨_,rfl⟩;have HXL := hid_ (show x.length = n ∧ entS (p ^ m) x = 0 from hx ▸ HH1.out _ (List.getElem_mem hkR));have HXF := hid_ (show (fun j => x.getD j 0) = rowsF l1 k from by
    funext j;unfold rowsF;rw [List.getD_eq_getElem?_getD (l := l1),List.getElem?_eq_getElem hkR,← hx];rfl)
   have HXS := hid_ (rowsL_suc9 K k (fun i => mpF p m ml sl (rowsF l1 i)));rw [hx] at hui;have HUI := hid_ (hui.ex (HX.out.trans hxw.out));have HMR := hid_ hm.out;have HK2 := hid_ (show k < 256 from by omega);have HSZ := hid_ hxw.out.size;obtain ⟨ua,uc,rfl,-,u2,-⟩ := hui.open;unfold maxLen at u2;have HXG := hid_ (show Ex wr wr.drew from (Ex.refl wr).drew);have HSX := hid_ (fun (w1 : World) (h1 : Ex wr w1) => HMP.out w1 (HX.out.trans (hxw.out.trans h1)) x _ (HUI.out.ex h1) HXL.out.1);rw [HXF.out] at HSX;have HGE := hid_ (show w3.heap.size ≤ wr.heap.size from hxw.out.size);rw [HLN.out];clear hrc huc hui hx hm;go_upto_region 5 with fail
   go_region_law
    ((first
          | (refine step_append_sl (by rfl) _ _ _ (by rfl) w3.heap.size 22 (.slice none 0 0) 1 24 Tryz.underlying45 infoIntsL rfl (by decide) (.slice qa k qc) k vals (by rfl) (by have h := ownsRow_ex HMR.out.cvo ((HXG.out.trans hx5).trans (e_al w5 (.cells #[.slice (some ⟨g5,0,none⟩) K K] 22)));rw [HLN.out] at h;exact h) _ 1 [.slice (some ⟨g5,0,none⟩) K K] (by rfl) (Sl.own (own_lit1 w5 (.slice (some ⟨g5,0,none⟩) K K) 22)) (by simp [Value.oneCell']) (by unfold maxLen;have := HK2.out;omega) (by have := HK2.out;omega) (by have h1 := HSZ.out;have h2 := (HXG.out.trans hx5).size;simp;omega) ?_;intro v8 w8 hown8 hg8 ha8;have HAP := hid_ (e_appd (by have h := ownsRow_ex HMR.out.cvo (HXG.out.trans hx5);rw [HLN.out] at h;exact h) hown8 hg8 ha8);obtain ⟨va8,vc8,hv8⟩ := own_shape hown8;subst hv8)
          | (go_simp;refine (HSX.out _ HXG.out).mono ?_;rintro e w5 ⟨g5,rfl,ho5,hx5⟩;go_simp)))
   all_goals
    have hx5' := HXG.out.trans hx5;have hm5 := HMR.out.ex hx5';rw [HLN.out] at hm5;have hl5 : w5.ownsRow w3.heap.size 3 1 (.slice (some ⟨g5,0,none⟩) K K) (il K (mpF p m ml sl (rowsF l1 k))).length (ints (il K (mpF p m ml sl (rowsF l1 k)))) := by
     rw [il_len,ints_il];exact ownsRow_mono ho5 (by have h1 := HSZ.out;have h2 := HXG.out.size;omega)
    have hal : Aprt (.slice (some ⟨g5,0,none⟩) K K) (.slice qa k qc) := by
     right;show some g5 ≠ _
     intro e;have h0 := HMR.out.cvo;rw [HLN.out] at h0;have h1 := (h0.lt g5 e.symm).2;have h2 := ho5.lt.1;have h3 := HXG.out.size;omega
    have HS8 := hid_ (hm5.app hl5 hal (by rw [HLN.out];exact HAP.out));rw [← HXS.out] at HS8;have HX8 := hid_ (HAP.out.ex (hxw.out.trans hx5') (Nat.le_refl _));have hk2 := HK2.out;clear hm5 hl5 hal hx5' HAP hown8 hg8 ha8 ho5 hx5 HSX;go_wp2_with fail
    go_roundw
    case rel => first | exact ⟨k + 1,_,by omega,by go_num,HS8,HX8⟩ | ((repeat apply Exists.intro);exact ⟨⟨k + 1,_,by omega,by go_num,HS8,HX8⟩,rfl⟩)
    case measure => simp [intOf];omega
  ·obtain rfl : k = l1.length := by omega
   have HMS := hid_ hm.out.msl;have HXW := hid_ hxw.out;clear hm;rw [HLN.out] at HMS ⊢;go_wp2_with fail
   refine (HCA.out _ (HX.out.trans HXW.out) _ k1 _ HR1.out _ HMS.out).mono ?_;rintro e w5 ⟨pa,pv5,av,aa,rfl,hea,hav,hpv5,hx5⟩;obtain ⟨ra,rc,rfl,-,-,-⟩ := hav.open;obtain ⟨fa,fc,rfl,-,-,-⟩ := hpv5.open;have HX5 := hid_ (HXW.out.trans hx5);have HEA := hid_ hea;have HAV := hid_ hav;clear hea hav hpv5 hx5 c0 c1 c2 c4 d4 b0 b1;obtain ⟨c0,c1,c2,c4,d4,b0,b1⟩ := HALL.out w5 HX5.out;go_upto_region 7 with fail
   have G5 := hid_ (show Ex w w5.drew from HX.out.trans (HX5.out.trans (Ex.refl w5).drew));have HCX := hid_ (fun w' (h : Ex w5 w') => HALL.out w' (HX5.out.trans h))
   go_cut [12] from 43 to 56 (fun bv wx => ∃ (pb : List Nat) (ab : Nat → Nat → Int),Hid (ElO p m ml K l2.length (fun i => seF tl (rowsF l2 i)) ab pb) ∧ Hid (MSl wx bv (rowsL K pb.length ab)) ∧ Hid (Ex w5 wx))
   case first =>
    have HAL := hid_ (fun w' (h : Ex w5 w') => (⟨(HCX.out w' h).1,(HCX.out w' h).2.1,(HCX.out w' h).2.2.1,(HCX.out w' h).2.2.2.2.1,(HCX.out w' h).2.2.2.2.2.1⟩ : w'.cell? ⟨B,0,none⟩ = some (.int .i64 (p : Int)) ∧ w'.cell? ⟨B,1,none⟩ = some (.int .i64 (m : Int)) ∧ w'.cell? ⟨B,2,none⟩ = some (.slice x3 ml.length y3) ∧ w'.cell? ⟨B + 1,4,none⟩ = some (.slice x2 l2.length y2) ∧ w'.cell? ⟨B + 1 + 1,0,none⟩ = some (.slice ta K tc)));have X0 : Ex w5 w5.drew := (Ex.refl w5).drew;clear c0 c1 c2 c4 d4 b0 b1
    go_region_held3 (fun w' => w'.cell? ⟨B,0,none⟩ = some (.int .i64 (p : Int)) ∧ w'.cell? ⟨B,1,none⟩ = some (.int .i64 (m : Int)) ∧ w'.cell? ⟨B,2,none⟩ = some (.slice x3 ml.length y3) ∧ w'.cell? ⟨B + 1,4,none⟩ = some (.slice x2 l2.length y2) ∧ w'.cell? ⟨B + 1 + 1,0,none⟩ = some (.slice ta K tc))
     (first | with_reducible exact HAL.out _ X7 | with_reducible exact HAL.out _ X6 | with_reducible exact HAL.out _ X0)
     (first | (go_at_call 169;(with_reducible refine (HKE.out _ G5.out).mono ?_);rintro e w6 ⟨cv,vals,rfl,hmr,hx6⟩;rw [HKR.out] at hmr;obtain ⟨ca,cc,rfl⟩ := own_shape hmr.cvo;have HMK := hid_ hmr.msl;have HG6 := hid_ (G5.out.trans hx6);have X6 := X0.trans hx6;clear hmr hx6) | (go_at_call 123;(with_reducible refine (HCA.out _ HG6.out _ k2 _ HR2.out _ HMK.out).mono ?_);rintro e w7 ⟨pb,pv7,bv,ab,rfl,heb,hbv,hpv7,hx7⟩;obtain ⟨za,zc,rfl,-,-,-⟩ := hbv.open;obtain ⟨ya,yc,rfl,-,-,-⟩ := hpv7.open;have HEB := hid_ heb;have HBV := hid_ hbv;have X7 := X6.trans hx7;have HE7 := hid_ X7;clear heb hbv hpv7 hx7))
    all_goals go_wp2_with fail
    all_goals go_meet
    all_goals exact ⟨pb,ab,HEB.out,HBV.out,HE7.out⟩
   case rest =>
    obtain ⟨pb,ab,heb,hbv,hxc⟩ := hcut;have HHB := hid_ hbv.out;obtain ⟨za,zc,rfl,-,-,-⟩ := hbv.out.open;have HRE := hid_ (show SidO p m ml tl sl l1 l2 K (.returned (.tuple #[.slice ra (rowsL K pa.length aa).length rc,.slice za (rowsL K pb.length ab).length zc])) wc from ⟨_,_,pa,pb,aa,ab,rfl,HEA.out,heb.out,HAV.out.ex hxc.out,HHB.out⟩);clear c0 c1 c2 c4 d4 b0 b1 hbv;go_wp2_with fail
    go_ret2;exact ⟨HRE.out,HX.out.trans (HX5.out.trans hxc.out)⟩
end
section
open Go.RowKit
inductive RKd where
 | val (g : List Value → Value)
 | new (e : TypeId) (size n : Nat) (xs : List Value → List Value)
 | app (c : Option Nat) (e : TypeId) (size n : Nat) (xs : List Value → List Value)
structure RDc where
 kd : RKd
 dp : List Nat
 eat : Nat
def RDc.says (d : RDc) (bw b0 : Nat) (V : Nat → Value) (k : Nat) (w : World) : Prop := match d.kd with
 | .val g => V k = g (d.dp.map V)
 | .new e size n xs => w.ownsRow bw e size (V k) n (xs (d.dp.map V))
 | .app (some _) e size n xs => w.ownsRow bw e size (V k) n (xs (d.dp.map V))
 | .app none e size n xs => w.ownsRow b0 e size (V k) n (xs (d.dp.map V))
def RDc.isRow (d : RDc) : Bool := match d.kd with
 | .val _ => false
 | _ => true
structure RwJ (D : Nat → RDc) (m e0 b0 : Nat) (w0 w : World) (v0 : Value) (e : TypeId) (size n : Nat) (xs : List Value) (L : Nat → Bool) (V : Nat → Value) (w' : World) : Prop where
 gr : w.grownBy w' v0.ownBlock
 ex : Ex w0 w'
 lt : ∀ k,L k = true → k < m
 dps : ∀ k,L k = true → ∀ d ∈ (D k).dp,L d = true
 says : ∀ k,L k = true → L (D k).eat = false → (D k).says w.heap.size b0 V k w'
 ap : ∀ j k,L j = true → L k = true → L (D j).eat = false → L (D k).eat = false → j ≠ k → (D j).isRow = true → (D k).isRow = true → Aprt (V j) (V k)
 out : L e0 = false → w'.ownsRow b0 e size v0 n xs ∧ ∀ k,L k = true → L (D k).eat = false → (D k).isRow = true → Aprt (V k) v0
 oat : L e0 = true → (V e0).ownBlock = v0.ownBlock ∨ ∀ B,(V e0).ownBlock = some B → w.heap.size ≤ B
theorem ownsRow_le {w : World} {base b' : Nat} {e : TypeId} {size : Nat} {v : Value} {n : Nat} {xs : List Value} (h : w.ownsRow base e size v n xs) (hb : b' ≤ base) : w.ownsRow b' e size v n xs := by
 obtain ⟨h1,h2⟩ := h;refine ⟨h1,?_⟩;rcases h2 with h2 | ⟨g,cap,cur,a,b,c⟩
 ·exact .inl h2
 ·exact .inr ⟨g,cap,cur,a,Nat.le_trans hb b,c⟩
theorem grown_ex {w w' : World} (h : Ex w w') (ob : Option Nat) : w.grownBy w' ob := ⟨h.os,h.tape,h.output,h.size,fun k hk _ => h.block k hk⟩
theorem map_upd {V : Nat → Value} {i : Nat} {u : Value} {dp : List Nat} (h : i ∉ dp) : dp.map (upd V i u) = dp.map V := by
 refine List.map_congr_left fun d hd => ?_;exact upd_ne _ _ fun e => h (e ▸ hd)
theorem upd_tt {L : Nat → Bool} {i k : Nat} (h : upd L i true k = true) (hk : k ≠ i) : L k = true := by rwa [upd_ne _ _ hk] at h
theorem upd_ff {L : Nat → Bool} {i k : Nat} (h : upd L i true k = false) : L k = false := by
 by_cases e : k = i
 ·subst e;rw [upd_same] at h;cases h
 ·rwa [upd_ne _ _ e] at h
section
variable {D : Nat → RDc} {m e0 b0 : Nat} {w0 w : World} {v0 : Value} {te : TypeId} {size n : Nat} {xs : List Value} {L : Nat → Bool} {V : Nat → Value} {w' w'' : World}
theorem RDc.says_upd {d : RDc} {bw : Nat} {k i : Nat} {u : Value} (h : d.says bw b0 V k w') (hk : k ≠ i) (hd : i ∉ d.dp) : d.says bw b0 (upd V i u) k w' := by
 unfold RDc.says at *;rw [map_upd hd,upd_ne _ _ hk];exact h
theorem RDc.says_ex {d : RDc} {bw : Nat} {k : Nat} (h : d.says bw b0 V k w') (hx : Ex w' w'') : d.says bw b0 V k w'' := by
 unfold RDc.says at *;split at h
 ·exact h
 ·exact ownsRow_ex h hx
 ·exact ownsRow_ex h hx
 ·exact ownsRow_ex h hx
theorem RDc.says_kept {d : RDc} {bw : Nat} {k : Nat} {ob : Value} (h : d.says bw b0 V k w') (hg : w'.grownBy w'' ob.ownBlock) (ha : d.isRow = true → Aprt (V k) ob) : d.says bw b0 V k w'' := by
 unfold RDc.says RDc.isRow at *;split at h
 ·exact h
 ·exact h.kept hg (ha (by simp [*]))
 ·exact h.kept hg (ha (by simp [*]))
 ·exact h.kept hg (ha (by simp [*]))
theorem RDc.says_lt {d : RDc} {bw : Nat} {k : Nat} (h : d.says bw b0 V k w') (hr : d.isRow = true) : ∀ B,(V k).ownBlock = some B → B < w'.heap.size := fun B hB => by
 unfold RDc.says RDc.isRow at *;split at h
 ·simp [*] at hr
 ·exact (h.lt B hB).2
 ·exact (h.lt B hB).2
 ·exact (h.lt B hB).2
theorem aprt_new {u v : Value} {N : Nat} (h1 : ∀ B,u.ownBlock = some B → N ≤ B) (h2 : ∀ B,v.ownBlock = some B → B < N) : Aprt u v := by
 unfold Aprt
 cases hu : u.ownBlock with
 | none => exact .inl rfl
 | some B =>
  right;intro e;have := h1 B hu;have := h2 B e.symm;omega
variable {l : List Oper} {i : Nat} {u : Value}
theorem RwJ.set_val (h : RwJ D m e0 b0 w0 w v0 te size n xs L V w') (him : i < m) (hne : e0 ≠ i) (hi : L i = false) {g : List Value → Value} {dp : List Nat} {eat : Nat} (hD : D i = ⟨.val g,dp,eat⟩) (hC : eat = m) (hdp : ∀ d ∈ dp,L d = true) (hx : Ex w' w'') (hu : u = g (dp.map V)) : RwJ D m e0 b0 w0 w v0 te size n xs (upd L i true) (upd V i u) w'' where
 gr := h.gr.trans (grown_ex hx _)
 ex := h.ex.trans hx
 lt := fun k hk => by
  by_cases e : k = i
  ·omega
  ·exact h.lt k (upd_tt hk e)
 dps := fun k hk d hd => by
  by_cases e : k = i
  ·subst e;rw [hD] at hd;have := hdp d hd;by_cases e2 : d = k
   ·rw [e2,upd_same]
   ·rw [upd_ne _ _ e2];exact this
  ·have := h.dps k (upd_tt hk e) d hd;by_cases e2 : d = i
   ·rw [e2,upd_same]
   ·rw [upd_ne _ _ e2];exact this
 says := fun k hk he => by
  by_cases e : k = i
  ·subst e;have hn : k ∉ dp := fun hm => by rw [hdp k hm] at hi;cases hi
   unfold RDc.says;simp only [hD];rw [map_upd hn,upd_same];exact hu
  ·have hk' := upd_tt hk e;exact RDc.says_ex (RDc.says_upd (h.says k hk' (upd_ff he)) e (fun hm => by rw [h.dps k hk' i hm] at hi;cases hi)) hx
 ap := fun j k hj hk ej ek hjk rj rk => by
  have nj : j ≠ i := fun e => by subst e;rw [hD] at rj;cases rj
  have nk : k ≠ i := fun e => by subst e;rw [hD] at rk;cases rk
  rw [upd_ne _ _ nj,upd_ne _ _ nk];exact h.ap j k (upd_tt hj nj) (upd_tt hk nk) (upd_ff ej) (upd_ff ek) hjk rj rk
 out := fun h0 => by
  obtain ⟨a,b⟩ := h.out (upd_ff h0);refine ⟨ownsRow_ex a hx,fun k hk ek rk => ?_⟩;have nk : k ≠ i := fun e => by subst e;rw [hD] at rk;cases rk
  rw [upd_ne _ _ nk];exact b k (upd_tt hk nk) (upd_ff ek) rk
 oat := fun h0 => by
  rw [upd_ne _ _ hne] at h0 ⊢;exact h.oat h0
theorem RwJ.set_new (h : RwJ D m e0 b0 w0 w v0 te size n xs L V w') (him : i < m) (hne : e0 ≠ i) (hi : L i = false) {t : TypeId} {s n' : Nat} {ys : List Value → List Value} {dp : List Nat} {eat : Nat} (hD : D i = ⟨.new t s n' ys,dp,eat⟩) (hdp : ∀ d ∈ dp,L d = true) (hx : Ex w' w'') (hu : w''.ownsRow w'.heap.size t s u n' (ys (dp.map V))) : RwJ D m e0 b0 w0 w v0 te size n xs (upd L i true) (upd V i u) w'' where
 gr := h.gr.trans (grown_ex hx _)
 ex := h.ex.trans hx
 lt := fun k hk => by
  by_cases e : k = i
  ·omega
  ·exact h.lt k (upd_tt hk e)
 dps := fun k hk d hd => by
  by_cases e : k = i
  ·subst e;rw [hD] at hd;have := hdp d hd;by_cases e2 : d = k
   ·rw [e2,upd_same]
   ·rw [upd_ne _ _ e2];exact this
  ·have := h.dps k (upd_tt hk e) d hd;by_cases e2 : d = i
   ·rw [e2,upd_same]
   ·rw [upd_ne _ _ e2];exact this
 says := fun k hk he => by
  by_cases e : k = i
  ·subst e;have hn : k ∉ dp := fun hm => by rw [hdp k hm] at hi;cases hi
   unfold RDc.says;simp only [hD];rw [map_upd hn,upd_same];exact ownsRow_le hu h.gr.size
  ·have hk' := upd_tt hk e;exact RDc.says_ex (RDc.says_upd (h.says k hk' (upd_ff he)) e (fun hm => by rw [h.dps k hk' i hm] at hi;cases hi)) hx
 ap := fun j k hj hk ej ek hjk rj rk => by
  by_cases e : j = i
  ·subst e;have nk : k ≠ j := fun e => hjk e.symm;rw [upd_same,upd_ne _ _ nk];exact aprt_new (fun B hB => (hu.lt B hB).1) (RDc.says_lt (h.says k (upd_tt hk nk) (upd_ff ek)) rk)
  ·by_cases e2 : k = i
   ·subst e2;rw [upd_same,upd_ne _ _ e];exact (aprt_new (fun B hB => (hu.lt B hB).1) (RDc.says_lt (h.says j (upd_tt hj e) (upd_ff ej)) rj)).symm
   ·rw [upd_ne _ _ e,upd_ne _ _ e2];exact h.ap j k (upd_tt hj e) (upd_tt hk e2) (upd_ff ej) (upd_ff ek) hjk rj rk
 out := fun h0 => by
  obtain ⟨a,b⟩ := h.out (upd_ff h0);refine ⟨ownsRow_ex a hx,fun k hk ek rk => ?_⟩;by_cases e : k = i
  ·subst e;rw [upd_same];exact aprt_new (fun B hB => (hu.lt B hB).1) fun B hB => (a.lt B hB).2
  ·rw [upd_ne _ _ e];exact b k (upd_tt hk e) (upd_ff ek) rk
 oat := fun h0 => by
  rw [upd_ne _ _ hne] at h0 ⊢;exact h.oat h0
theorem aprt_at {u v x : Value} {N : Nat} (h1 : u.ownBlock = v.ownBlock ∨ u.ownBlock = some N) (h2 : ∀ B,x.ownBlock = some B → B < N) (h3 : Aprt x v) : Aprt x u := by
 unfold Aprt at *;rcases h3 with h3 | h3
 ·exact .inl h3
 ·rcases h1 with h1 | h1
  ·right;rw [h1];exact h3
  ·cases hx : x.ownBlock with
   | none => exact .inl rfl
   | some B =>
    right;rw [h1];intro e;injection e with e;have := h2 B hx;omega
theorem RwJ.set_app (h : RwJ D m e0 b0 w0 w v0 te size n xs L V w') (hb : w0.heap.size ≤ b0) (him : i < m) (hne : e0 ≠ i) (hi : L i = false) {t : TypeId} {s n' : Nat} {ys : List Value → List Value} {dp : List Nat} {c eat : Nat} (hD : D i = ⟨.app (some c) t s n' ys,dp,eat⟩) (hc : L c = true) (hce : (D c).eat = i) (hcr : (D c).isRow = true) (hdp : ∀ d ∈ dp,L d = true) (hg : w'.grownBy w'' (V c).ownBlock) (hx : Ex w0 w'') (hat : u.ownBlock = (V c).ownBlock ∨ u.ownBlock = some w'.heap.size) (hbk : ∀ B,(V c).ownBlock = some B → w.heap.size ≤ B) (hu : w''.ownsRow w.heap.size t s u n' (ys (dp.map V))) : RwJ D m e0 b0 w0 w v0 te size n xs (upd L i true) (upd V i u) w'' where
 gr := h.gr.andThen hg fun j hj => .inl (hbk j hj)
 ex := hx
 lt := fun k hk => by
  by_cases e : k = i
  ·omega
  ·exact h.lt k (upd_tt hk e)
 dps := fun k hk d hd => by
  by_cases e : k = i
  ·subst e;rw [hD] at hd;have := hdp d hd;by_cases e2 : d = k
   ·rw [e2,upd_same]
   ·rw [upd_ne _ _ e2];exact this
  ·have := h.dps k (upd_tt hk e) d hd;by_cases e2 : d = i
   ·rw [e2,upd_same]
   ·rw [upd_ne _ _ e2];exact this
 says := fun k hk he => by
  by_cases e : k = i
  ·subst e;have hn : k ∉ dp := fun hm => by rw [hdp k hm] at hi;cases hi
   unfold RDc.says;simp only [hD];rw [map_upd hn,upd_same];exact hu
  ·have hk' := upd_tt hk e;have hck : k ≠ c := fun e2 => by subst e2;rw [hce,upd_same] at he;cases he
   exact RDc.says_upd (RDc.says_kept (h.says k hk' (upd_ff he)) hg fun hr => h.ap k c hk' hc (upd_ff he) (by rw [hce];exact hi) hck hr hcr) e (fun hm => by rw [h.dps k hk' i hm] at hi;cases hi)
 ap := fun j k hj hk ej ek hjk rj rk => by
  have key : ∀ k,k ≠ i → upd L i true k = true → upd L i true (D k).eat = false → (D k).isRow = true → Aprt (V k) u := fun k nk hk ek rk => by
   have hck : k ≠ c := fun e2 => by subst e2;rw [hce,upd_same] at ek;cases ek
   exact aprt_at hat (RDc.says_lt (h.says k (upd_tt hk nk) (upd_ff ek)) rk) (h.ap k c (upd_tt hk nk) hc (upd_ff ek) (by rw [hce];exact hi) hck rk hcr)
  by_cases e : j = i
  ·subst e;have nk : k ≠ j := fun e => hjk e.symm;rw [upd_same,upd_ne _ _ nk];exact (key k nk hk ek rk).symm
  ·by_cases e2 : k = i
   ·subst e2;rw [upd_same,upd_ne _ _ e];exact key j e hj ej rj
   ·rw [upd_ne _ _ e,upd_ne _ _ e2];exact h.ap j k (upd_tt hj e) (upd_tt hk e2) (upd_ff ej) (upd_ff ek) hjk rj rk
 out := fun h0 => by
  obtain ⟨a,b⟩ := h.out (upd_ff h0);have hcv := b c hc (by rw [hce];exact hi) hcr;refine ⟨a.kept hg hcv.symm,fun k hk ek rk => ?_⟩;by_cases e : k = i
  ·subst e;rw [upd_same];exact (aprt_at hat (fun B hB => (a.lt B hB).2) hcv.symm).symm
  ·rw [upd_ne _ _ e];exact b k (upd_tt hk e) (upd_ff ek) rk
 oat := fun h0 => by
  rw [upd_ne _ _ hne] at h0 ⊢;exact h.oat h0
theorem RwJ.set_out (h : RwJ D m e0 b0 w0 w v0 te size n xs L V w') (him : i < m) (hi : L i = false) (he0 : e0 = i) {t : TypeId} {s n' : Nat} {ys : List Value → List Value} {dp : List Nat} {eat : Nat} (hD : D i = ⟨.app none t s n' ys,dp,eat⟩) (hdp : ∀ d ∈ dp,L d = true) (hg : w'.grownBy w'' v0.ownBlock) (hx : Ex w0 w'') (hat : u.ownBlock = v0.ownBlock ∨ u.ownBlock = some w'.heap.size) (hu : w''.ownsRow b0 t s u n' (ys (dp.map V))) : RwJ D m e0 b0 w0 w v0 te size n xs (upd L i true) (upd V i u) w'' where
 gr := h.gr.trans hg
 ex := hx
 lt := fun k hk => by
  by_cases e : k = i
  ·omega
  ·exact h.lt k (upd_tt hk e)
 dps := fun k hk d hd => by
  by_cases e : k = i
  ·subst e;rw [hD] at hd;have := hdp d hd;by_cases e2 : d = k
   ·rw [e2,upd_same]
   ·rw [upd_ne _ _ e2];exact this
  ·have := h.dps k (upd_tt hk e) d hd;by_cases e2 : d = i
   ·rw [e2,upd_same]
   ·rw [upd_ne _ _ e2];exact this
 says := fun k hk he => by
  by_cases e : k = i
  ·subst e;have hn : k ∉ dp := fun hm => by rw [hdp k hm] at hi;cases hi
   unfold RDc.says;simp only [hD];rw [map_upd hn,upd_same];exact hu
  ·have hk' := upd_tt hk e;obtain ⟨a,b⟩ := h.out (by rw [he0];exact hi);exact RDc.says_upd (RDc.says_kept (h.says k hk' (upd_ff he)) hg fun hr => b k hk' (upd_ff he) hr) e (fun hm => by rw [h.dps k hk' i hm] at hi;cases hi)
 ap := fun j k hj hk ej ek hjk rj rk => by
  obtain ⟨a,b⟩ := h.out (by rw [he0];exact hi);have key : ∀ k,k ≠ i → upd L i true k = true → upd L i true (D k).eat = false → (D k).isRow = true → Aprt (V k) u := fun k nk hk ek rk =>
   aprt_at hat (RDc.says_lt (h.says k (upd_tt hk nk) (upd_ff ek)) rk) (b k (upd_tt hk nk) (upd_ff ek) rk)
  by_cases e : j = i
  ·subst e;have nk : k ≠ j := fun e => hjk e.symm;rw [upd_same,upd_ne _ _ nk];exact (key k nk hk ek rk).symm
  ·by_cases e2 : k = i
   ·subst e2;rw [upd_same,upd_ne _ _ e];exact key j e hj ej rj
   ·rw [upd_ne _ _ e,upd_ne _ _ e2];exact h.ap j k (upd_tt hj e) (upd_tt hk e2) (upd_ff ej) (upd_ff ek) hjk rj rk
 out := fun h0 => by rw [he0,upd_same] at h0;cases h0
 oat := fun _ => by
  rw [he0,upd_same];rcases hat with h1 | h1
  ·exact .inl h1
  ·right;intro B hB;rw [h1] at hB;injection hB with hB;have := h.gr.size;omega
end
section
variable {P : Program} {Q : Exit → Act → World → Prop} {l : List Oper} {a0 : Act} {D : Nat → RDc} {m e0 b0 : Nat} {w0 w : World} {v0 : Value} {te : TypeId} {size n : Nat} {xs : List Value} {i : Nat} {o : Oper}
structure RwH (l : List Oper) (a0 : Act) (D : Nat → RDc) (m e0 b0 : Nat) (w0 w : World) (v0 : Value) (te : TypeId) (size n : Nat) (xs : List Value) (i : Nat) (o : Oper) (L : Nat → Bool) (V : Nat → Value) (a : Act) (w' : World) : Prop where
 hin : ∀ (k t : Nat) (o' : Oper),L k = true → l[k]? = some o' → o'.dst = some t → a.tmps[t]? = some (V k)
 hout : ∀ t,(l.all fun o => o.dst != some t) = true → a.tmps[t]? = a0.tmps[t]?
 hold : ∀ t d,((List.range l.length).all fun j => j == d || !((l[j]?).bind (·.dst) == some t)) = true → L d = false → a.tmps[t]? = a0.tmps[t]?
 hj : RwJ D m e0 b0 w0 w v0 te size n xs L V w'
 hi : L i = false
 hd : ∀ e ∈ o.after,Region.binds .any e = true → L e.on = true
 hcl : ∀ (k : Nat) (o' : Oper),L k = true → l.toArray[k]? = some o' → ∀ e ∈ o'.after,Region.binds .any e = true → L e.on = true
def OpRw (P : Program) (Q : Exit → Act → World → Prop) (l : List Oper) (a0 : Act) (D : Nat → RDc) (m e0 b0 : Nat) (w0 w : World) (v0 : Value) (te : TypeId) (size n : Nat) (xs : List Value) (i : Nat) (o : Oper) : Prop :=
 ∀ L V a w',RwH l a0 D m e0 b0 w0 w v0 te size n xs i o L V a w' → ∀ K : Act → World → Prop,(∀ u w'',RwJ D m e0 b0 w0 w v0 te size n xs (upd L i true) (upd V i u) w'' → K (a.put o.dst u) w'') → o.wp P a w' K Q
theorem OpRw.val {g : List Value → Value} {dp : List Nat} {eat : Nat} (hD : D i = ⟨.val g,dp,eat⟩) (him : i < m) (hne : e0 ≠ i) (hC : eat = m) (h : ∀ L V a w',RwH l a0 D m e0 b0 w0 w v0 te size n xs i o L V a w' → (∀ d ∈ dp,L d = true) ∧ ∀ K : Act → World → Prop,(∀ w'',Ex w' w'' → K (a.put o.dst (g (dp.map V))) w'') → o.wp P a w' K Q) :
  OpRw P Q l a0 D m e0 b0 w0 w v0 te size n xs i o := fun L V a w' H K hK => by
 obtain ⟨h1,h2⟩ := h L V a w' H;exact h2 K fun w'' hx => hK _ _ (H.hj.set_val him hne H.hi hD hC h1 hx rfl)
theorem OpRw.new {t : TypeId} {s n' : Nat} {ys : List Value → List Value} {dp : List Nat} {eat : Nat} (hD : D i = ⟨.new t s n' ys,dp,eat⟩) (him : i < m) (hne : e0 ≠ i) (h : ∀ L V a w',RwH l a0 D m e0 b0 w0 w v0 te size n xs i o L V a w' → (∀ d ∈ dp,L d = true) ∧ ∀ K : Act → World → Prop,(∀ u w'',Ex w' w'' → w''.ownsRow w'.heap.size t s u n' (ys (dp.map V)) → K (a.put o.dst u) w'') → o.wp P a w' K Q) :
  OpRw P Q l a0 D m e0 b0 w0 w v0 te size n xs i o := fun L V a w' H K hK => by
 obtain ⟨h1,h2⟩ := h L V a w' H;exact h2 K fun u w'' hx hu => hK _ _ (H.hj.set_new him hne H.hi hD h1 hx hu)
theorem OpRw.app {t : TypeId} {s n' : Nat} {ys : List Value → List Value} {dp : List Nat} {c eat : Nat} (hD : D i = ⟨.app (some c) t s n' ys,dp,eat⟩) (him : i < m) (hne : e0 ≠ i) (hce : (D c).eat = i) (hcr : (D c).isRow = true) (hb : w0.heap.size ≤ b0) (hb2 : w0.heap.size ≤ w.heap.size) (h : ∀ L V a w',RwH l a0 D m e0 b0 w0 w v0 te size n xs i o L V a w' → L c = true ∧ (∀ d ∈ dp,L d = true) ∧ ∀ (K : Act → World → Prop),w.heap.size ≤ w'.heap.size → (D c).says w.heap.size b0 V c w' → (∀ u w'',w''.ownsRow w.heap.size t s u n' (ys (dp.map V)) → w'.grownBy w'' (V c).ownBlock → (u.ownBlock = (V c).ownBlock ∨ u.ownBlock = some w'.heap.size) → K (a.put o.dst u) w'') → o.wp P a w' K Q)
  (hbase : ∀ t s n ys,(D c).kd ≠ .app none t s n ys) : OpRw P Q l a0 D m e0 b0 w0 w v0 te size n xs i o := fun L V a w' H K hK => by
 obtain ⟨h1,h2,h3⟩ := h L V a w' H;have hs := H.hj.says c h1 (by rw [hce];exact H.hi);have hbk : ∀ B,(V c).ownBlock = some B → w.heap.size ≤ B ∧ B < w'.heap.size := fun B hB => by
  have hs2 := hs;have hcr := hcr;unfold RDc.says at hs2;unfold RDc.isRow at hcr;split at hs2
  ·simp [*] at hcr
  ·exact hs2.lt B hB
  ·exact hs2.lt B hB
  ·rename_i h;exact absurd h (hbase _ _ _ _)
 refine h3 K H.hj.gr.size hs fun u w'' hu hg hat => hK u w'' (H.hj.set_app hb him hne H.hi hD h1 hce hcr h2 hg ?_ hat (fun B hB => (hbk B hB).1) hu);exact Below.grown H.hj.ex hg H.hj.ex.size (fun k hk => Nat.le_trans hb2 (hbk k hk).1)
theorem OpRw.out {t : TypeId} {s n' : Nat} {ys : List Value → List Value} {dp : List Nat} {eat : Nat} (hD : D i = ⟨.app none t s n' ys,dp,eat⟩) (him : i < m) (he0 : e0 = i) (hb : w0.heap.size ≤ b0) (h : ∀ L V a w',RwH l a0 D m e0 b0 w0 w v0 te size n xs i o L V a w' → (∀ d ∈ dp,L d = true) ∧ ∀ (K : Act → World → Prop),w.heap.size ≤ w'.heap.size → w'.ownsRow b0 te size v0 n xs → (∀ u w'',w''.ownsRow b0 t s u n' (ys (dp.map V)) → w'.grownBy w'' v0.ownBlock → (u.ownBlock = v0.ownBlock ∨ u.ownBlock = some w'.heap.size) → K (a.put o.dst u) w'') → o.wp P a w' K Q) :
  OpRw P Q l a0 D m e0 b0 w0 w v0 te size n xs i o := fun L V a w' H K hK => by
 obtain ⟨h1,h2⟩ := h L V a w' H;obtain ⟨a1,a2⟩ := H.hj.out (by rw [he0];exact H.hi);exact h2 K H.hj.gr.size a1 fun u w'' hu hg hat => hK u w'' (H.hj.set_out him H.hi he0 hD h1 hg (Below.grown H.hj.ex hg H.hj.ex.size (fun k hk => Nat.le_trans hb (a1.lt k hk).1)) hat hu)
theorem wp_region_rw {id : Nat} (D : Nat → RDc) (m e0 b0 : Nat) (v0 : Value) (te : TypeId) (size n : Nat) (xs : List Value) (hm : P.follows .mixedOrders = true) (hB : rgnG a0.tmps.size l 0 [] = true) (hlm : l.length ≤ m) (hx : Ex w0 w) (hown : w.ownsRow b0 te size v0 n xs)
  (hs : StepAll (OpRw P Q l a0 D m e0 b0 w0 w v0 te size n xs) l 0)
  (he : ∀ L V w',(∀ i,i < l.length → L i = true) → RwJ D m e0 b0 w0 w v0 te size n xs L V w' → Q .normal (putK l V 0 a0) w') : (Code.region id l.toArray true).wp P Q a0 w := by
 refine wp_region_inv (RwJ D m e0 b0 w0 w v0 te size n xs) hm hB ⟨grown_ex ((Ex.refl w).drew) _,hx.drew,fun k h => (by cases h),fun k h => (by cases h),fun k h => (by cases h),fun j k h => (by cases h),fun _ => ⟨ownsRow_ex hown ((Ex.refl w).drew),fun k h => (by cases h)⟩,fun h => (by cases h)⟩ ?_ he;have key : ∀ (l' : List Oper) (k0 : Nat),StepAll (OpRw P Q l a0 D m e0 b0 w0 w v0 te size n xs) l' k0 → StepAll (OpSt P Q (RwJ D m e0 b0 w0 w v0 te size n xs) l.toArray a0) l' k0 := fun l' => by
  induction l' with
  | nil => intro _ _;trivial
  | cons o l' ih =>
   intro k0 h;refine ⟨?_,ih (k0 + 1) h.2⟩;intro L V a w' hf hj hi hd hcl K hK;refine h.1 L V a w' ⟨fun k t o' hk ho' hd' => hf.in_ k t hk ho' hd',fun t ht => hf.out_ t ht,fun t d ht hL => hf.old t fun j oj hj' hoj e => ?_,hj,hi,hd,hcl⟩ K hK;have hoj' : l[j]? = some oj := by simpa using hoj
   have h1 := List.all_eq_true.1 ht j (List.mem_range.2 (List.getElem?_eq_some_iff.1 hoj').1);rw [hoj'] at h1;simp [e] at h1;rw [h1] at hj';rw [hj'] at hL;cases hL
 exact key l 0 hs
end
end
end Go.Proofs.YtgdmlmhpineibaaGreat
