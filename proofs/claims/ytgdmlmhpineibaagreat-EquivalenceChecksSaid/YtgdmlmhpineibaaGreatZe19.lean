/- Walks of codewrightref10.Pivots, Zero. -/
import Derived.Test.YtgdmlmhpineibaaGreatZe16
import Derived.Test.YtgdmlmhpineibaaGreatZe17
import Derived.Test.YtgdmlmhpineibaaGreatZe18
namespace Go.Proofs.YtgdmlmhpineibaaGreat
set_option linter.unusedVariables false
set_option linter.unusedSimpArgs false
set_option maxRecDepth 100000
set_option maxHeartbeats 8000000
section
open Go.RowKit
def fzN : List Int → Nat
 | [] => 0
 | x :: l => if x = 0 then fzN l + 1 else 0
theorem fzN_of : ∀ (r : List Int) (c : Nat),(∀ j,j < c → r.getD j 0 = 0) → c ≤ r.length → (c = r.length ∨ r.getD c 0 ≠ 0) → fzN r = c
 | [],c,_,h2,_ => by simp at h2;subst h2;rfl
 | x :: l,0,_,_,h3 => by
  rcases h3 with h3 | h3
  ·simp at h3
  ·unfold fzN;rw [if_neg (by simpa using h3)]
 | x :: l,c + 1,h1,h2,h3 => by
  have h0 : x = 0 := by have := h1 0 (by omega);simpa using this
  unfold fzN;rw [if_pos h0,fzN_of l c (fun j hj => by have := h1 (j + 1) (by omega);simpa using this) (by simpa using h2) (by simpa using h3)]
theorem lget_D {l : List Int} {i : Nat} (hi : i < l.length) : l[i]? = some (l.getD i 0) := by
 rw [List.getD_eq_getElem?_getD,List.getElem?_eq_getElem hi];rfl
def pvL (rows : List (List Int)) : List Int := rows.map fun r => (fzN r : Int)
theorem rPiv_any (w : World) (rows : List (List Int)) (v : Value) (hv : MSl w v rows) (hR : rows.length ≤ 1000) (hN : ∀ r ∈ rows,r.length ≤ 1000) :
  Calls Tryz.prog 185 #[v] w fun r w' => ∃ pa pc,r = .returned (.slice pa rows.length pc) ∧ ISl w' (.slice pa rows.length pc) (pvL rows) ∧ Ex w w' := by
 obtain ⟨va,vc,rfl,v1,v2,v3⟩ := hv.open;unfold maxLen at v2;have V3 := hid_ v3;have HN := hid_ hN;clear hv v3 hN;go_enter Tryz.func185,Tryz.ntmps185
 go_wp2_with fail
 go_loopw [3,4] (fun pv i' wr => ∃ (i : Nat) (L : List Int),i ≤ rows.length ∧ i' = .int .i64 i ∧ Hid (L = (pvL rows).take i) ∧ Hid (wr.ownsRow w.heap.size 3 1 pv L.length (ints L)) ∧ Hid (Ex w wr)) (fun _ i' _ => rows.length - (intOf i').toNat)
 case atStart => exact ⟨0,[],by omega,rfl,hid_ rfl,hid_ (World.ownsRow_nil _ _ _ _),hid_ (Ex.refl _)⟩
 case round =>
  obtain ⟨i,L,hi,rfl,hL,ho,hx⟩ := hrel;obtain ⟨pa,pc,hpv⟩ := own_shape ho.out;subst hpv;have HPL := hid_ (show (pvL rows).length = rows.length from by unfold pvL;simp);have HLL := hid_ (show L.length = i from by rw [hL.out,List.length_take,HPL.out];omega);by_cases hlt : i < rows.length
  ·obtain ⟨zb,zo,rfl,hzc⟩ := V3.out (by omega);obtain ⟨uv,huc,hui⟩ := hzc i _ (List.getElem?_eq_getElem hlt);have cu := hx.out.cell huc;have hru := HN.out _ (List.getElem_mem hlt);obtain ⟨r,hre⟩ : ∃ r,rows[i]'hlt = r := ⟨_,rfl⟩;rw [hre] at hui hru;have HFZ := hid_ (fun (c : Nat) (h1 : ∀ j,j < c → r.getD j 0 = 0) (h2 : c ≤ r.length) (h3 : c = r.length ∨ r.getD c 0 ≠ 0) => show L ++ [(c : Int)] = (pvL rows).take (i + 1) from by
    have h := fzN_of r c h1 h2 h3;rw [hL.out,List.take_add_one,List.getElem?_eq_getElem (by rw [HPL.out];exact hlt)];unfold pvL;simp [hre,h])
   have i1 : (0 : Int) ≤ (i : Int) := by omega
   have i2 : (i : Int) < (rows.length : Int) := by omega
   have b1 : decide (i < rows.length) = true := by simpa using hlt
   obtain ⟨ua,uc,rfl,-,u2,u3⟩ := hui.open;have U3 := hid_ u3;unfold maxLen at u2;have HX := hid_ hx.out;have HO := hid_ ho.out;clear hzc huc hui hL ho hx u3 hre;go_wp2_with fail
   go_loop [5] (fun c' => ∃ c : Nat,c ≤ r.length ∧ c' = .int .i64 c ∧ Hid (∀ j,j < c → r.getD j 0 = 0)) (fun c' => r.length - (intOf c').toNat)
   case atStart => exact ⟨0,by omega,rfl,hid_ (fun j h => by omega)⟩
   case round =>
    obtain ⟨c,hc,rfl,hz⟩ := hrel;have key : ∀ (hend : c = r.length ∨ r.getD c 0 ≠ 0),L ++ [(c : Int)] = (pvL rows).take (i + 1) := fun hend => HFZ.out c hz.out hc hend;have KEY := hid_ key;clear key;have HSZ := hid_ HX.out.size;by_cases hcl : c < r.length
    ·obtain ⟨ub,uo,rfl,huc⟩ := U3.out (by omega);have c1 := HX.out.cell (huc c _ (lget_D hcl));obtain ⟨x,hxx⟩ : ∃ x,r.getD c 0 = x := ⟨_,rfl⟩;rw [hxx] at c1;have HXX := hid_ hxx;have j1 : (0 : Int) ≤ (c : Int) := by omega
     have j2 : (c : Int) < (r.length : Int) := by omega
     have b2 : decide (c < r.length) = true := by simpa using hcl
     clear huc hxx;by_cases h0 : x = 0
     ·subst h0;have HZ := hid_ (show ∀ j,j < c + 1 → r.getD j 0 = 0 from fun j hj => by
       by_cases e : j = c
       ·subst e;exact HXX.out
       ·exact hz.out j (by omega))
      go_wp2_with fail
      go_round
      case rel => exact ⟨c + 1,by omega,by go_num,HZ⟩
      case measure => simp [intOf];omega
     ·have kb : (x == 0) = false := by simpa using h0
      have HK := hid_ (KEY.out (.inr (by rw [HXX.out];exact h0)));clear h0;go_wp2_with (at_builtin;go_loud (refine wpList_append1 _ rfl _ _ 22 rfl w.heap.size 3 (.int .i64 0) 1 8 Tryz.underlying22 infoInt rfl (by decide) _ L.length _ rfl HO.out [.int .i64 c] 3 _ rfl (by simp) rfl (by simp [Value.oneCell']) (by have := HLL.out;unfold maxLen;omega) (by have := HLL.out;omega) HSZ.out ?_))
      intro v2 w9 happ;have HO9 := hid_ (show w9.ownsRow w.heap.size 3 1 v2 (L ++ [(c : Int)]).length (ints (L ++ [(c : Int)])) from by
       have := happ.own;unfold ints at *;rw [List.length_append,List.map_append];exact this)
      have HX9 := hid_ (happ.ex HX.out (Nat.le_refl _));obtain ⟨xa,xc,hv2⟩ := own_shape happ.own;subst hv2;clear happ;go_wp2_with fail
      go_roundw
      case rel => first | exact ⟨i + 1,_,by omega,by go_num,HK,HO9,HX9⟩ | ((repeat apply Exists.intro);exact ⟨⟨i + 1,_,by omega,by go_num,HK,HO9,HX9⟩,rfl⟩)
      case measure => simp [intOf];omega
    ·obtain rfl : c = r.length := by omega
     have HK := hid_ (KEY.out (.inl rfl));have b2 : decide (r.length < r.length) = false := by simp
     go_wp2_with (at_builtin;go_loud (refine wpList_append1 _ rfl _ _ 22 rfl w.heap.size 3 (.int .i64 0) 1 8 Tryz.underlying22 infoInt rfl (by decide) _ L.length _ rfl HO.out [.int .i64 r.length] 3 _ rfl (by simp) rfl (by simp [Value.oneCell']) (by have := HLL.out;unfold maxLen;omega) (by have := HLL.out;omega) HSZ.out ?_))
     intro v2 w9 happ;have HO9 := hid_ (show w9.ownsRow w.heap.size 3 1 v2 (L ++ [(r.length : Int)]).length (ints (L ++ [(r.length : Int)])) from by
      have := happ.own;unfold ints at *;rw [List.length_append,List.map_append];exact this)
     have HX9 := hid_ (happ.ex HX.out (Nat.le_refl _));obtain ⟨xa,xc,hv2⟩ := own_shape happ.own;subst hv2;clear happ;go_wp2_with fail
     go_roundw
     case rel => first | exact ⟨i + 1,_,by omega,by go_num,HK,HO9,HX9⟩ | ((repeat apply Exists.intro);exact ⟨⟨i + 1,_,by omega,by go_num,HK,HO9,HX9⟩,rfl⟩)
     case measure => simp [intOf];omega
  ·obtain rfl : i = rows.length := by omega
   have HI := hid_ (show ISl wr (.slice pa L.length pc) (pvL rows) from by
    have h := hL.out;rw [← HPL.out,List.take_length] at h;rw [h];have := Sl.own ho.out;rw [h] at this;exact this)
   have HX := hid_ hx.out;have hll := HLL.out;rw [hll] at HI;have b1 : decide (rows.length < rows.length) = false := by simp
   rw [hll];clear ho hx hL hll HLL;go_wp2_with fail
   go_ret;exact ⟨_,_,rfl,HI.out,HX.out⟩
def zerB (l : List Int) : Bool := l.all fun x => x == 0
theorem zerB_iff {l : List Int} : zerB l = true ↔ ∀ j,j < l.length → l.getD j 0 = 0 := by
 unfold zerB;rw [List.all_eq_true];constructor
 ·intro h j hj;have := h (l.getD j 0) (List.mem_of_getElem? (lget_D hj));simpa using this
 ·intro h x hx;obtain ⟨j,hj,rfl⟩ := List.getElem_of_mem hx;have := h j hj;rw [List.getD_eq_getElem?_getD,List.getElem?_eq_getElem hj] at this;simpa using this
theorem rZero_any (w : World) (l : List Int) (v : Value) (hl : ISl w v l) :
  Calls Tryz.prog 170 #[v] w fun r w' => r = .returned (.bool (zerB l)) ∧ w = w' := by
 obtain ⟨a,cap,rfl,s1,s2,s3⟩ := hl.open;unfold maxLen at s2;have S3 := hid_ s3;have HY := hid_ (show (∀ j,j < l.length → l.getD j 0 = 0) → zerB l = true from zerB_iff.2);have HN := hid_ (show ∀ j,j < l.length → l.getD j 0 ≠ 0 → zerB l = false from fun j hj h => by
  cases hb : zerB l with
  | false => rfl
  | true => exact absurd (zerB_iff.1 hb j hj) h)
 obtain ⟨D,hD⟩ : ∃ D,zerB l = D := ⟨_,rfl⟩;rw [hD] at HY HN;rw [hD];clear hl s3 hD;go_enter Tryz.func170,Tryz.ntmps170
 go_wp2_with fail
 go_loop [3] (fun i' => ∃ (i : Nat),i ≤ l.length ∧ i' = .int .i64 i ∧ Hid (∀ j,j < i → l.getD j 0 = 0)) (fun i' => l.length - (intOf i').toNat)
 case atStart => exact ⟨0,by omega,rfl,hid_ (fun j h => by omega)⟩
 case round =>
  obtain ⟨i,hi,rfl,hall⟩ := hrel;by_cases hlt : i < l.length
  ·obtain ⟨bb,o,rfl,hc⟩ := S3.out (by omega);have c1 := hc i _ (lget_D hlt);obtain ⟨x,hx⟩ : ∃ x,l.getD i 0 = x := ⟨_,rfl⟩;rw [hx] at c1;have HX := hid_ hx;have i1 : (0 : Int) ≤ (i : Int) := by omega
   have i2 : (i : Int) < (l.length : Int) := by omega
   clear hc hx;by_cases h0 : x = 0
   ·subst h0;have HA := hid_ (show ∀ j,j < i + 1 → l.getD j 0 = 0 from fun j hj => by
     by_cases e : j = i
     ·subst e;exact HX.out
     ·exact hall.out j (by omega))
    go_wp2_with fail
    go_round
    case rel => exact ⟨i + 1,by omega,by go_num,HA⟩
    case measure => simp [intOf];omega
   ·have kb : (x != 0) = true := by simpa using h0
    have hr : D = false := HN.out i hlt (by rw [HX.out];exact h0);subst hr;clear h0;go_wp2_with fail
    go_ret;exact ⟨rfl,rfl⟩
  ·obtain rfl : i = l.length := by omega
   have hr : D = true := HY.out hall.out;subst hr;go_wp2_with fail
   go_ret;exact ⟨rfl,rfl⟩
end
section
open Go.RowKit
def rst (p m : Nat) (ml : List Int) (a : Nat → Nat → Int) (pl : Nat → Nat) (f : Nat → Int) : Nat → Nat → Int
 | 0 => f
 | i + 1 => addF p m ml (rst p m ml a pl f i) (kneg p m (kin (p ^ m) (f (pl i)))) (a i)
theorem rRest_any {p m : Nat} {ml : List Int} {mv : Value} (w : World) (hf : FSh p m ml) (hmv : ISl w mv ml) (N k : Nat) (hN1 : 1 ≤ N ∨ k = 0) (hN : N ≤ 256) (hk : k ≤ 256) (a : Nat → Nat → Int) (pl : Nat → Nat) (hpl : ∀ i,i < k → fzN (il N (a i)) = pl i ∧ pl i < N) (rv : Value) (hr : MSl w rv (rowsL N k a)) (f : Nat → Int) (v : Value) (hv : ISl w v (il N f)) :
  Calls Tryz.prog 171 #[.agg #[.int .i64 p,.int .i64 m,mv],rv,v] w fun r w' => ∃ ov,r = .returned ov ∧ ISl w' ov (il N (rst p m ml a pl f k)) ∧ Ex w w' := by
 obtain ⟨a0,a1,a2,ea,asz⟩ := box_facts w p m mv;have p2 := hf.p2;have HPC := hid_ (rPiv_any (w.alloc (.cells #[.int .i64 p,.int .i64 m,mv] 24)) (rowsL N k a) rv (hr.ex ea) (by rw [rowsL_len];omega) (fun r h => by
  unfold rowsL at h;obtain ⟨i,_,rfl⟩ := List.mem_map.1 h;rw [il_len];omega))
 obtain ⟨ra,rc,hre,r1,r2,r3⟩ := hr.open;rw [rowsL_len] at hre r1 r3;subst hre;obtain ⟨va,vc,hve,v1,v2,v3⟩ := hv.open;rw [il_len] at hve v1 v3;subst hve;have HV3 := hid_ v3;have HR3 := hid_ r3;have HF := hid_ hf;have HMV := hid_ hmv;have HV := hid_ hv;have HPL := hid_ hpl;have HE0 := hid_ ea;obtain ⟨ma,mc,rfl,-,-,-⟩ := hmv.open;unfold maxLen at v2 r2;obtain ⟨B,hB⟩ : ∃ B,w.heap.size = B := ⟨_,rfl⟩;rw [hB] at a0 a1 a2 asz;clear hf hmv hv hr r3 v3 hpl ea;go_enter Tryz.func171,Tryz.ntmps171
 go_wp2_with fail
 try simp only [hB]
 have HBW := hid_ hB;clear hB;generalize w.alloc (.cells #[.int .i64 p,.int .i64 m,.slice ma ml.length mc] 24) = w1 at *;have A0 := hid_ a0;have A1 := hid_ a1;have A2 := hid_ a2;clear a0 a1 a2;refine HPC.out.mono ?_;rintro e w2 ⟨pa,pc,rfl,hp,hx2⟩;rw [rowsL_len] at hp ⊢;have HP := hid_ hp;have HX2 := hid_ hx2;have HON := hid_ (show ∀ u ∈ ints (il N f),u.oneCell' = true from fun u hu => by
  unfold ints at hu;obtain ⟨x,_,rfl⟩ := List.mem_map.1 hu;simp [Value.oneCell'])
 have HVN := hid_ (il_len N f);clear hp hx2 HPC;go_wp2_with (at_builtin;refine wpList_append_sl _ rfl _ _ 22 rfl w2.heap.size 3 (.int .i64 0) 1 8 Tryz.underlying22 infoInt rfl (by decide) _ 0 [] rfl (own_lit0 w2 3) (.slice va N vc) N (ints (il N f)) rfl (by have := HV.out.ex (HE0.out.trans (HX2.out.trans ((Ex.refl w2).alloc (.cells #[] 3))));unfold ISl at this;rw [HVN.out] at this;exact this) HON.out (by unfold maxLen;omega) (by omega) (by simp) ?_)
 intro v2 w5 hown2 hg2 ha2;have HX5 := hid_ (show Ex w2 w5 from Ex.grown ((Ex.refl w2).alloc _) (own_lit0 w2 3) (Nat.le_refl _) hg2);have HO5 := hid_ (show ISl w5 v2 (il N f) from isl_own (by rw [HVN.out,List.nil_append,Nat.zero_add];exact hown2));obtain ⟨xa,xc,hv2⟩ := own_shape hown2;subst hv2;clear hown2 hg2 ha2;go_wp2_with fail
 go_loopw [8,9] (fun ov i' wr => ∃ (i : Nat),i ≤ k ∧ i' = .int .i64 i ∧ Hid (ISl wr ov (il N (rst p m ml a pl f i))) ∧ Hid (Ex w2 wr)) (fun _ i' _ => k - (intOf i').toNat)
 case atStart => exact ⟨0,by omega,rfl,HO5,HX5⟩
 case round =>
  obtain ⟨i,hi,rfl,hO,hX⟩ := hrel;obtain ⟨oa,oc,hov,o1,o2,-⟩ := hO.out.open;rw [il_len] at hov;subst hov;by_cases hik : i < k
  ·obtain ⟨zb,zo,rfl,hzc⟩ := HV3.out (by omega);have HVC := hid_ hzc;clear hzc;obtain ⟨pa',pc',hpe,q1,q2,hpc⟩ := HP.out.open;have hpvl : (pvL (rowsL N k a)).length = k := by unfold pvL;rw [List.length_map,rowsL_len]
   obtain ⟨pb,po,hpa,hpj⟩ := hpc (by omega);injection hpe with e1 e2 e3;subst e1;subst hpa;obtain ⟨h1,h2⟩ := HPL.out i hik;have cp := hpj i (pl i : Int) (by unfold pvL;rw [List.getElem?_map,rowsL_get hik,← h1];rfl);have cv := HVC.out (pl i) (f (pl i)) (il_get h2 _);obtain ⟨rb,ro,hra,hrj⟩ := HR3.out (by omega);subst hra;obtain ⟨uv,huc,hui⟩ := hrj i _ (rowsL_get hik);obtain ⟨ua,uc,hue,-,-,-⟩ := hui.open;rw [il_len] at hue;subst hue;have x1 := HX2.out.trans hX.out;have x0 := HE0.out.trans x1;have CP := hid_ (hX.out.cell cp);have CV := hid_ (x0.cell cv);have CR := hid_ (x0.cell huc);have C0 := hid_ (x1.cell A0.out);have C1 := hid_ (x1.cell A1.out);have C2 := hid_ (x1.cell A2.out);have i1 : (0 : Int) ≤ (i : Int) := by omega
   have i2 : (i : Int) < (k : Int) := by omega
   have i3 : (0 : Int) ≤ (pl i : Int) := by omega
   have i4 : (pl i : Int) < (N : Int) := by omega
   have b1 : decide (i < k) = true := by simpa using hik
   have HNG := hid_ (fun (w' : World) (h : Ex wr w') => rNeg_any (mv := .slice ma ml.length mc) w' HF.out (f (pl i)));have hkl := kneg_lt (m := m) (show 1 ≤ p by omega) (kin (p ^ m) (f (pl i)));have HAT0 := hid_ (fun (w' : World) (h : Ex wr w') => rAddTo_any p m ml (.slice ma ml.length mc) w' HF.out (HMV.out.ex (x0.trans h)) (il N (rst p m ml a pl f i)) (il N (a i)) _ _ (hO.out.ex h) (hui.ex (x0.trans h)) ((kneg p m (kin (p ^ m) (f (pl i))) : Nat) : Int) (by rw [il_len,il_len];omega) (by rw [il_len];omega));obtain ⟨z,hz⟩ : ∃ z,kneg p m (kin (p ^ m) (f (pl i))) = z := ⟨_,rfl⟩;have HRS := hid_ (show rst p m ml a pl f (i + 1) = addF p m ml (rst p m ml a pl f i) z (a i) from by rw [← hz];rfl);rw [hz] at HNG hkl HAT0;obtain ⟨q,hq⟩ : ∃ q,rst p m ml a pl f i = q := ⟨_,rfl⟩;rw [hq] at HAT0 HRS;have HAT := hid_ (fun (w' : World) (h : Ex wr w') => show Calls Tryz.prog 174 #[.agg #[.int .i64 p,.int .i64 m,.slice ma ml.length mc],.slice oa N oc,.int .i64 (z : Int),.slice ua N uc] w' fun r w'' => ∃ g7,r = .returned (.slice (some ⟨g7,0,none⟩) N N) ∧ ISl w'' (.slice (some ⟨g7,0,none⟩) N N) (il N (addF p m ml q z (a i))) ∧ Ex w' w'' from by
    have := HAT0.out w' h;refine this.mono fun r w'' ⟨g7,h1,h2,h3⟩ => ?_;rw [il_len] at h1 h2;refine ⟨g7,h1,(h2.icongr fun j hj => ?_).isl,h3⟩;rw [atF_addF (by omega) hj,kin_of hkl])
   obtain ⟨c,hc⟩ : ∃ c,pl i = c := ⟨_,rfl⟩;obtain ⟨y,hy⟩ : ∃ y,f (pl i) = y := ⟨_,rfl⟩;rw [hy,hc] at CV;rw [hc] at CP i3 i4;rw [hy] at HNG;have HXR := hid_ hX.out;clear hX hO HX5 HO5 HAT0 HV hc hy hz hq hkl x0 x1 cp cv huc hui h1 h2 hpj hrj hpc hpvl e2 e3 HP HVC HR3 HPL o1 o2 q1 q2;go_wp2_with fail
   have G0 : Ex wr wr.drew := (Ex.refl wr).drew
   go_region_held3 (fun w' => w'.cell? ⟨pb,po + i,none⟩ = some (.int .i64 (c : Int)) ∧ w'.cell? ⟨zb,zo + c,none⟩ = some (.int .i64 y) ∧ w'.cell? ⟨rb,ro + i,none⟩ = some (.slice ua N uc) ∧ w'.cell? ⟨B,0,none⟩ = some (.int .i64 p) ∧ w'.cell? ⟨B,1,none⟩ = some (.int .i64 m) ∧ w'.cell? ⟨B,2,none⟩ = some (.slice ma ml.length mc))
    (first | with_reducible exact ⟨G0.cell CP.out,G0.cell CV.out,G0.cell CR.out,G0.cell C0.out,G0.cell C1.out,G0.cell C2.out⟩ | with_reducible exact ⟨G1.cell CP.out,G1.cell CV.out,G1.cell CR.out,G1.cell C0.out,G1.cell C1.out,G1.cell C2.out⟩ | with_reducible exact ⟨G2.cell CP.out,G2.cell CV.out,G2.cell CR.out,G2.cell C0.out,G2.cell C1.out,G2.cell C2.out⟩)
    ((first
          | (go_at_call 177;(with_reducible refine (HNG.out _ G0).mono ?_);rintro e wx1 ⟨rfl,hy1⟩;have G1 := G0.trans hy1;clear HNG)
          | (go_at_call 174;(with_reducible refine (HAT.out _ G1).mono ?_);rintro e wx2 ⟨g5,rfl,hown5,hy2⟩;have G2 := G1.trans hy2;have HO5 := hid_ hown5;clear hown5 HAT)))
   all_goals have HO6 := hid_ (show ISl wx2 (.slice (some ⟨g5,0,none⟩) N N) (il N (rst p m ml a pl f (i + 1))) from by rw [HRS.out];exact HO5.out)
   all_goals have HXS := hid_ (HXR.out.trans G2)
   all_goals clear HO5 G0 G1 G2 hy1 hy2 CP CV CR C0 C1 C2 HRS HXR
   all_goals go_wp2_with fail
   all_goals go_roundw
   all_goals first
        | exact ⟨i + 1,by omega,by go_num,HO6,HXS⟩
        | ((repeat apply Exists.intro);exact ⟨⟨i + 1,by omega,by go_num,HO6,HXS⟩,rfl⟩)
        | (simp [intOf];omega)
  ·obtain rfl : i = k := by omega
   have b1 : decide (i < i) = false := by simp
   have HXX := hid_ (HE0.out.trans (HX2.out.trans hX.out));clear HX5 HO5;go_wp2_with fail
   go_ret;exact ⟨_,rfl,hO.out,HXX.out⟩
theorem rHasR_any {p m : Nat} {ml : List Int} {mv : Value} (w : World) (hf : FSh p m ml) (hmv : ISl w mv ml) (N k : Nat) (hN1 : 1 ≤ N ∨ k = 0) (hN : N ≤ 256) (hk : k ≤ 256) (a : Nat → Nat → Int) (pl : Nat → Nat) (hpl : ∀ i,i < k → fzN (il N (a i)) = pl i ∧ pl i < N) (rv : Value) (hr : MSl w rv (rowsL N k a)) (f : Nat → Int) (v : Value) (hv : ISl w v (il N f)) :
  Calls Tryz.prog 146 #[.agg #[.int .i64 p,.int .i64 m,mv],rv,v] w fun r w' => r = .returned (.bool (zerB (il N (rst p m ml a pl f k)))) ∧ Ex w w' := by
 obtain ⟨a0,a1,a2,ea,asz⟩ := box_facts w p m mv;have HRS := hid_ (rRest_any (w.alloc (.cells #[.int .i64 p,.int .i64 m,mv] 24)) hf (hmv.ex ea) N k hN1 hN hk a pl hpl rv (hr.ex ea) f v (hv.ex ea));have HE := hid_ ea;obtain ⟨b,hb⟩ : ∃ b,zerB (il N (rst p m ml a pl f k)) = b := ⟨_,rfl⟩;have HB := hid_ hb;rw [hb];obtain ⟨ra,rc,hre,-,-,-⟩ := hr.open;rw [rowsL_len] at hre;subst hre;obtain ⟨va,vc,hve,-,-,-⟩ := hv.open;rw [il_len] at hve;subst hve;obtain ⟨ma,mc,rfl,-,-,-⟩ := hmv.open;clear hf hmv hpl hr hv ea hb;go_enter Tryz.func146,Tryz.ntmps146
 go_wp2_with fail
 refine HRS.out.mono ?_;rintro e w2 ⟨ov,rfl,ho,hx⟩;have HZ := hid_ (rZero_any w2 _ ov ho);have HX := hid_ (HE.out.trans hx);obtain ⟨oa,oc,rfl,-,-,-⟩ := ho.open;clear ho hx HRS;rw [HB.out] at HZ;go_wp2_with (go_at_call 170;refine HZ.out.mono ?_;rintro e w5 ⟨rfl,hw5⟩)
 subst hw5;go_ret;exact ⟨rfl,HX.out⟩
end
end Go.Proofs.YtgdmlmhpineibaaGreat
