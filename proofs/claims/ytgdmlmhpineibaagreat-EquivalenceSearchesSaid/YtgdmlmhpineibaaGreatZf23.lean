/- slices.Clone at any list of ints; code.own, code.gen, code.length, code.of. -/
import Derived.Test.YtgdmlmhpineibaaGreatZf19
import Derived.Test.YtgdmlmhpineibaaGreatZf22
namespace Go.Proofs.YtgdmlmhpineibaaGreat
set_option linter.unusedVariables false
set_option linter.unusedSimpArgs false
set_option maxRecDepth 100000
set_option maxHeartbeats 8000000
section
open Go.RowKit
theorem CloneE_any (w:World) (l:List Int) (v:Value) (hl:ISl w v l) (hn2:l.length≤1000):
  Calls Tryz.prog 66 #[v] w fun r w'=> ∃v',r= .returned v'∧ISl w' v' l∧(∀B,v'.ownBlock=some B→w.heap.size≤B)∧Ex w w':=by
 have HL:=hid_ hl;obtain ⟨a,cap,rfl,s1,s2,s3⟩:=hl.open;have hmi:∀u∈ints l,u.oneCell'=true:=by
  intro u hu;obtain ⟨z,_,rfl⟩:=List.mem_map.1 hu;rfl
 have HON:=hid_ hmi;clear hl hmi
 cases a with
 | none=>
  have h0:l= []:=by
   cases l with
   | nil=> rfl
   | cons x t=> obtain ⟨_,_,h,_⟩:=s3 (by simp);cases h
  subst h0;have hnil:=fun w'=> run_eql_slice_nil (P:=Tryz.prog) w' 22 3 none 0 cap Tryz.underlying22;simp only [Option.isNone] at hnil;clear s1 s2 s3;go_enter Tryz.func66,Tryz.ntmps66
  go_wp2_with fail
  go_ret;exact ⟨_,rfl,isl_nil _,by simp [Value.ownBlock],Ex.refl _⟩
 | some ad=>
  have hnil:=fun w'=> run_eql_slice_nil (P:=Tryz.prog) w' 22 3 (some ad) l.length cap Tryz.underlying22;simp only [Option.isNone] at hnil;clear s3;go_enter Tryz.func66,Tryz.ntmps66
  go_wp2_with (at_builtin;refine wpList_append_sl _ rfl _ _ 22 rfl w.heap.size 3 (.int .i64 0) 1 8 Tryz.underlying22 infoInt rfl (by decide) _ 0 [] rfl (own_lit0 w 3) (.slice (some ad) l.length cap) l.length (ints l) rfl (HL.out.ex ((Ex.refl w).alloc _)) HON.out (by unfold maxLen;omega) (by omega) (by simp) ?_)
  intro v1 w1 hown1 hg1 ha1;have hx1:Ex w w1:=Ex.grown ((Ex.refl w).alloc _) (own_lit0 w 3) (Nat.le_refl _) hg1;have HI:=hid_ (show ISl w1 v1 l from Sl.own hown1);have HB:=hid_ (fun B (e:v1.ownBlock=some B)=> (hown1.lt B e).1);have HX:=hid_ hx1;clear hown1 hg1 ha1 hx1 hnil;go_wp2_with fail
  go_ret;exact ⟨_,rfl,HI.out,HB.out,HX.out⟩
def lenE (n:Int):Int:=if n < 1∨64 < n then 4 else 0
theorem length_any (w:World) (n:Int):Calls Tryz.prog 119 #[.int .i64 n] w fun r w'=> r= .returned (.int .i64 (lenE n))∧w'=w:=by
 unfold lenE;go_enter Tryz.func119,Tryz.ntmps119
 by_cases h1:n < 1
 ·have b1:decide (n < 1)=true:=by simpa using h1
  rw [if_pos (.inl h1)];go_wp2_with fail
  go_ret;exact ⟨rfl,rfl⟩
 ·have b1:decide (n < 1)=false:=by simpa using h1
  by_cases h2:64 < n
  ·have b2:decide (64 < n)=true:=by simpa using h2
   rw [if_pos (.inr h2)];go_wp2_with fail
   go_ret;exact ⟨rfl,rfl⟩
  ·have b2:decide (64 < n)=false:=by simpa using h2
   rw [if_neg (by omega)];go_wp2_with fail
   go_ret;exact ⟨rfl,rfl⟩
theorem boxC_facts (w:World) (p m:Int) (mv:Value) (n:Int) (gv:Value):(w.alloc (.cells #[.int .i64 p,.int .i64 m,mv,.int .i64 n,gv] 47)).cell? ⟨w.heap.size,0,none⟩=some (.int .i64 p)∧(w.alloc (.cells #[.int .i64 p,.int .i64 m,mv,.int .i64 n,gv] 47)).cell? ⟨w.heap.size,1,none⟩=some (.int .i64 m)∧(w.alloc (.cells #[.int .i64 p,.int .i64 m,mv,.int .i64 n,gv] 47)).cell? ⟨w.heap.size,2,none⟩=some mv∧(w.alloc (.cells #[.int .i64 p,.int .i64 m,mv,.int .i64 n,gv] 47)).cell? ⟨w.heap.size,3,none⟩=some (.int .i64 n)∧(w.alloc (.cells #[.int .i64 p,.int .i64 m,mv,.int .i64 n,gv] 47)).cell? ⟨w.heap.size,4,none⟩=some gv∧Ex w (w.alloc (.cells #[.int .i64 p,.int .i64 m,mv,.int .i64 n,gv] 47)):=
 ⟨by simp,by simp,by simp,by simp,by simp,(Ex.refl _).alloc _⟩
theorem gen_any (w:World) (p m:Int) (mv:Value) (n:Int) (rows:List (List Int)) (gv:Value) (hg:MSl w gv rows):
  Calls Tryz.prog 80 #[.agg #[.int .i64 p,.int .i64 m,mv,.int .i64 n,gv]] w fun r w'=> r= .returned (.agg #[.int .i64 n,gv])∧Ex w w':=by
 obtain ⟨a0,a1,a2,a3,a4,ea⟩:=boxC_facts w p m mv n gv;obtain ⟨za,zc,rfl,z1,z2,z3⟩:=hg.open;clear z3;unfold maxLen at z2;go_enter Tryz.func80,Tryz.ntmps80
 go_wp2_with fail
 exact bodyPost_ret (v:= .agg #[.int .i64 n,.slice za rows.length zc]) (by simp [results,Tryz.results80,go_sem]) rfl ⟨rfl,ea.trans ((Ex.refl _).alloc _)⟩
theorem own_any (w:World) (p m:Int) (ml:List Int) (mv:Value) (hmv:ISl w mv ml) (hn:ml.length≤1000):
  Calls Tryz.prog 127 #[.agg #[.int .i64 p,.int .i64 m,mv]] w fun r w'=> ∃v',r= .returned (.agg #[.int .i64 p,.int .i64 m,v'])∧ISl w' v' ml∧(∀B,v'.ownBlock=some B→w.heap.size≤B)∧Ex w w':=by
 obtain ⟨a0,a1,a2,e0,asz⟩:=box_facts w p m mv;obtain ⟨q0,q1,q2,eb,bsz⟩:=box_facts (w.alloc (.cells #[.int .i64 p,.int .i64 m,mv] 24)) 0 0 (.slice none 0 0);have af:(w.alloc (.cells #[.int .i64 p,.int .i64 m,mv] 24)).frozen? ⟨w.heap.size,2,none⟩=false:=by simp
 have qf:((w.alloc (.cells #[.int .i64 p,.int .i64 m,mv] 24)).alloc (.cells #[.int .i64 0,.int .i64 0,.slice none 0 0] 24)).frozen? ⟨(w.alloc (.cells #[.int .i64 p,.int .i64 m,mv] 24)).heap.size,0,none⟩=false∧((w.alloc (.cells #[.int .i64 p,.int .i64 m,mv] 24)).alloc (.cells #[.int .i64 0,.int .i64 0,.slice none 0 0] 24)).frozen? ⟨(w.alloc (.cells #[.int .i64 p,.int .i64 m,mv] 24)).heap.size,1,none⟩=false∧((w.alloc (.cells #[.int .i64 p,.int .i64 m,mv] 24)).alloc (.cells #[.int .i64 0,.int .i64 0,.slice none 0 0] 24)).frozen? ⟨(w.alloc (.cells #[.int .i64 p,.int .i64 m,mv] 24)).heap.size,2,none⟩=false:=⟨by simp,by simp,by simp⟩;replace af:=eb.frz a2 af;replace a0:=eb.cell a0;replace a1:=eb.cell a1;replace a2:=eb.cell a2;rw [asz] at q0 q1 q2 qf bsz;have HE:=hid_ (e0.trans eb);have HMV:=hid_ (hmv.ex HE.out);obtain ⟨ma,mc,rfl,m1',m2,m3⟩:=hmv.open;unfold maxLen at m2;clear hmv m3 e0 eb asz;go_enter Tryz.func127,Tryz.ntmps127
 go_wp2_with fail
 obtain ⟨xb,hxb⟩:∃xb,w.heap.size=xb:=⟨_,rfl⟩;rw [hxb] at a0 a1 a2 q0 q1 q2 qf bsz af
 try simp only [hxb]
 generalize (w.alloc (.cells #[.int .i64 p,.int .i64 m,.slice ma ml.length mc] 24)).alloc (.cells #[.int .i64 0,.int .i64 0,.slice none 0 0] 24)=w1 at *;have HXB:=hid_ hxb;obtain ⟨qf0,qf1,qf2⟩:=qf;clear hxb;refine (CloneE_any w1 ml _ HMV.out hn).mono ?_;rintro e w2 ⟨v',rfl,hv',hb',hx⟩;have HV:=hid_ hv';have HB:=hid_ (fun B e=> show xb + 1 + 1≤B from by have:=hb' B e;omega);have HX:=hid_ hx;obtain ⟨va,vc,rfl,-,-,-⟩:=hv'.open;have a0':=hx.cell a0;have a1':=hx.cell a1;have af':=hx.frz a2 af;have a2':=hx.cell a2;have q0':=hx.cell q0;have q1':=hx.cell q1;have q2':=hx.cell q2;have qf0':=hx.frz q0 qf0;have qf1':=hx.frz q1 qf1;have qf2':=hx.frz q2 qf2;clear a0 a1 a2 af q0 q1 q2 qf0 qf1 qf2 hv' hb' hx;go_wp2_with fail
 have hne:∀B,(Value.slice va ml.length vc).ownBlock=some B→B≠xb∧B≠xb + 1:=fun B e=> by have:=HB.out B e;omega
 have hw:w.heap.size=xb:=HXB.out;exact bodyPost_ret (v:= .agg #[.int .i64 p,.int .i64 m,.slice va ml.length vc]) (by simp [results,Tryz.results127,go_sem,q0',q1',q2']) rfl ⟨_,rfl,Sl.other (Sl.other (Sl.other (Sl.other HV.out (fun B h=> (hne B h).1) _) (fun B h=> (hne B h).2) _) (fun B h=> (hne B h).2) _) (fun B h=> (hne B h).2) _,fun B e=> by have:=HB.out B e;omega,
  ((((HE.out.trans HX.out).setCell (p:=⟨xb,2,none⟩) (by show w.heap.size≤xb;omega) _).setCell (p:=⟨xb + 1,0,none⟩) (by show w.heap.size≤xb + 1;omega) _).setCell (p:=⟨xb + 1,1,none⟩) (by show w.heap.size≤xb + 1;omega) _).setCell (p:=⟨xb + 1,2,none⟩) (by show w.heap.size≤xb + 1;omega) _⟩
end
section
open Go.RowKit
def rst (p m:Nat) (ml:List Int) (a:Nat→Nat→Int) (pl:Nat→Nat) (f:Nat→Int):Nat→Nat→Int
 | 0=> f
 | i + 1=> addF p m ml (rst p m ml a pl f i) (kneg p m (kin (p ^ m) (f (pl i)))) (a i)
theorem rRest_any {p m:Nat} {ml:List Int} {mv:Value} (w:World) (hf:FSh p m ml) (hmv:ISl w mv ml) (N k:Nat) (hN1:1≤N∨k=0) (hN:N≤256) (hk:k≤256) (a:Nat→Nat→Int) (pl:Nat→Nat) (hpl:∀i,i < k→fzN (il N (a i))=pl i∧pl i < N) (rv:Value) (hr:MSl w rv (rowsL N k a)) (f:Nat→Int) (v:Value) (hv:ISl w v (il N f)):
  Calls Tryz.prog 171 #[.agg #[.int .i64 p,.int .i64 m,mv],rv,v] w fun r w'=> ∃ov,r= .returned ov∧ISl w' ov (il N (rst p m ml a pl f k))∧Ex w w':=by
 obtain ⟨a0,a1,a2,ea,asz⟩:=box_facts w p m mv;have p2:=hf.p2;have HPC:=hid_ (rPiv_any (w.alloc (.cells #[.int .i64 p,.int .i64 m,mv] 24)) (rowsL N k a) rv (hr.ex ea) (by rw [rowsL_len];omega) (fun r h=> by
  unfold rowsL at h;obtain ⟨i,_,rfl⟩:=List.mem_map.1 h;rw [il_len];omega))
 obtain ⟨ra,rc,hre,r1,r2,r3⟩:=hr.open;rw [rowsL_len] at hre r1 r3;subst hre;obtain ⟨va,vc,hve,v1,v2,v3⟩:=hv.open;rw [il_len] at hve v1 v3;subst hve;have HV3:=hid_ v3;have HR3:=hid_ r3;have HF:=hid_ hf;have HMV:=hid_ hmv;have HV:=hid_ hv;have HPL:=hid_ hpl;have HE0:=hid_ ea;obtain ⟨ma,mc,rfl,-,-,-⟩:=hmv.open;unfold maxLen at v2 r2;obtain ⟨B,hB⟩:∃B,w.heap.size=B:=⟨_,rfl⟩;rw [hB] at a0 a1 a2 asz;clear hf hmv hv hr r3 v3 hpl ea;go_enter Tryz.func171,Tryz.ntmps171
 go_wp2_with fail
 try simp only [hB]
 have HBW:=hid_ hB;clear hB;generalize w.alloc (.cells #[.int .i64 p,.int .i64 m,.slice ma ml.length mc] 24)=w1 at *;have A0:=hid_ a0;have A1:=hid_ a1;have A2:=hid_ a2;clear a0 a1 a2;refine HPC.out.mono ?_;rintro e w2 ⟨pa,pc,rfl,hp,hx2⟩;rw [rowsL_len] at hp ⊢;have HP:=hid_ hp;have HX2:=hid_ hx2;have HON:=hid_ (show ∀u∈ints (il N f),u.oneCell'=true from fun u hu=> by
  unfold ints at hu;obtain ⟨x,_,rfl⟩:=List.mem_map.1 hu;simp [Value.oneCell'])
 have HVN:=hid_ (il_len N f);clear hp hx2 HPC;go_wp2_with (at_builtin;refine wpList_append_sl _ rfl _ _ 22 rfl w2.heap.size 3 (.int .i64 0) 1 8 Tryz.underlying22 infoInt rfl (by decide) _ 0 [] rfl (own_lit0 w2 3) (.slice va N vc) N (ints (il N f)) rfl (by have:=HV.out.ex (HE0.out.trans (HX2.out.trans ((Ex.refl w2).alloc (.cells #[] 3))));unfold ISl at this;rw [HVN.out] at this;exact this) HON.out (by unfold maxLen;omega) (by omega) (by simp) ?_)
 intro v2 w5 hown2 hg2 ha2;have HX5:=hid_ (show Ex w2 w5 from Ex.grown ((Ex.refl w2).alloc _) (own_lit0 w2 3) (Nat.le_refl _) hg2);have HO5:=hid_ (show ISl w5 v2 (il N f) from isl_own (by rw [HVN.out,List.nil_append,Nat.zero_add];exact hown2));obtain ⟨xa,xc,hv2⟩:=own_shape hown2;subst hv2;clear hown2 hg2 ha2;go_wp2_with fail
 go_loopw [8,9] (fun ov i' wr=> ∃(i:Nat),i≤k∧i'= .int .i64 i∧Hid (ISl wr ov (il N (rst p m ml a pl f i)))∧Hid (Ex w2 wr)) (fun _ i' _=> k - (intOf i').toNat)
 case atStart=> exact ⟨0,by omega,rfl,HO5,HX5⟩
 case round=>
  obtain ⟨i,hi,rfl,hO,hX⟩:=hrel;obtain ⟨oa,oc,hov,o1,o2,-⟩:=hO.out.open;rw [il_len] at hov;subst hov;by_cases hik:i < k
  ·obtain ⟨zb,zo,rfl,hzc⟩:=HV3.out (by omega);have HVC:=hid_ hzc;clear hzc;obtain ⟨pa',pc',hpe,q1,q2,hpc⟩:=HP.out.open;have hpvl:(pvL (rowsL N k a)).length=k:=by unfold pvL;rw [List.length_map,rowsL_len]
   obtain ⟨pb,po,hpa,hpj⟩:=hpc (by omega);injection hpe with e1 e2 e3;subst e1;subst hpa;obtain ⟨h1,h2⟩:=HPL.out i hik;have cp:=hpj i (pl i:Int) (by unfold pvL;rw [List.getElem?_map,rowsL_get hik,←h1];rfl);have cv:=HVC.out (pl i) (f (pl i)) (il_get h2 _);obtain ⟨rb,ro,hra,hrj⟩:=HR3.out (by omega);subst hra;obtain ⟨uv,huc,hui⟩:=hrj i _ (rowsL_get hik);obtain ⟨ua,uc,hue,-,-,-⟩:=hui.open;rw [il_len] at hue;subst hue;have x1:=HX2.out.trans hX.out;have x0:=HE0.out.trans x1;have CP:=hid_ (hX.out.cell cp);have CV:=hid_ (x0.cell cv);have CR:=hid_ (x0.cell huc);have C0:=hid_ (x1.cell A0.out);have C1:=hid_ (x1.cell A1.out);have C2:=hid_ (x1.cell A2.out);have i1:(0:Int)≤(i:Int):=by omega
   have i2:(i:Int) < (k:Int):=by omega
   have i3:(0:Int)≤(pl i:Int):=by omega
   have i4:(pl i:Int) < (N:Int):=by omega
   have b1:decide (i < k)=true:=by simpa using hik
   have HNG:=hid_ (fun (w':World) (h:Ex wr w')=> rNeg_any (mv:= .slice ma ml.length mc) w' HF.out (f (pl i)));have hkl:=kneg_lt (m:=m) (show 1≤p by omega) (kin (p ^ m) (f (pl i)));have HAT0:=hid_ (fun (w':World) (h:Ex wr w')=> rAddTo_any p m ml (.slice ma ml.length mc) w' HF.out (HMV.out.ex (x0.trans h)) (il N (rst p m ml a pl f i)) (il N (a i)) _ _ (hO.out.ex h) (hui.ex (x0.trans h)) ((kneg p m (kin (p ^ m) (f (pl i))):Nat):Int) (by rw [il_len,il_len];omega) (by rw [il_len];omega));obtain ⟨z,hz⟩:∃z,kneg p m (kin (p ^ m) (f (pl i)))=z:=⟨_,rfl⟩;have HRS:=hid_ (show rst p m ml a pl f (i + 1)=addF p m ml (rst p m ml a pl f i) z (a i) from by rw [←hz];rfl);rw [hz] at HNG hkl HAT0;obtain ⟨q,hq⟩:∃q,rst p m ml a pl f i=q:=⟨_,rfl⟩;rw [hq] at HAT0 HRS;have HAT:=hid_ (fun (w':World) (h:Ex wr w')=> show Calls Tryz.prog 174 #[.agg #[.int .i64 p,.int .i64 m,.slice ma ml.length mc],.slice oa N oc,.int .i64 (z:Int),.slice ua N uc] w' fun r w''=> ∃g7,r= .returned (.slice (some ⟨g7,0,none⟩) N N)∧ISl w'' (.slice (some ⟨g7,0,none⟩) N N) (il N (addF p m ml q z (a i)))∧Ex w' w'' from by
    have:=HAT0.out w' h;refine this.mono fun r w'' ⟨g7,h1,h2,h3⟩=> ?_;rw [il_len] at h1 h2;refine ⟨g7,h1,(h2.icongr fun j hj=> ?_).isl,h3⟩;rw [atF_addF (by omega) hj,kin_of hkl])
   obtain ⟨c,hc⟩:∃c,pl i=c:=⟨_,rfl⟩;obtain ⟨y,hy⟩:∃y,f (pl i)=y:=⟨_,rfl⟩;rw [hy,hc] at CV;rw [hc] at CP i3 i4;rw [hy] at HNG;have HXR:=hid_ hX.out;clear hX hO HX5 HO5 HAT0 HV hc hy hz hq hkl x0 x1 cp cv huc hui h1 h2 hpj hrj hpc hpvl e2 e3 HP HVC HR3 HPL o1 o2 q1 q2;go_wp2_with fail
   have G0:Ex wr wr.drew:=(Ex.refl wr).drew
   go_region_held3 (fun w'=> w'.cell? ⟨pb,po + i,none⟩=some (.int .i64 (c:Int))∧w'.cell? ⟨zb,zo + c,none⟩=some (.int .i64 y)∧w'.cell? ⟨rb,ro + i,none⟩=some (.slice ua N uc)∧w'.cell? ⟨B,0,none⟩=some (.int .i64 p)∧w'.cell? ⟨B,1,none⟩=some (.int .i64 m)∧w'.cell? ⟨B,2,none⟩=some (.slice ma ml.length mc))
    (first | with_reducible exact ⟨G0.cell CP.out,G0.cell CV.out,G0.cell CR.out,G0.cell C0.out,G0.cell C1.out,G0.cell C2.out⟩ | with_reducible exact ⟨G1.cell CP.out,G1.cell CV.out,G1.cell CR.out,G1.cell C0.out,G1.cell C1.out,G1.cell C2.out⟩ | with_reducible exact ⟨G2.cell CP.out,G2.cell CV.out,G2.cell CR.out,G2.cell C0.out,G2.cell C1.out,G2.cell C2.out⟩)
    ((first
          | (go_at_call 177;(with_reducible refine (HNG.out _ G0).mono ?_);rintro e wx1 ⟨rfl,hy1⟩;have G1:=G0.trans hy1;clear HNG)
          | (go_at_call 174;(with_reducible refine (HAT.out _ G1).mono ?_);rintro e wx2 ⟨g5,rfl,hown5,hy2⟩;have G2:=G1.trans hy2;have HO5:=hid_ hown5;clear hown5 HAT)))
   all_goals have HO6:=hid_ (show ISl wx2 (.slice (some ⟨g5,0,none⟩) N N) (il N (rst p m ml a pl f (i + 1))) from by rw [HRS.out];exact HO5.out)
   all_goals have HXS:=hid_ (HXR.out.trans G2)
   all_goals clear HO5 G0 G1 G2 hy1 hy2 CP CV CR C0 C1 C2 HRS HXR
   all_goals go_wp2_with fail
   all_goals go_roundw
   all_goals first
        | exact ⟨i + 1,by omega,by go_num,HO6,HXS⟩
        | ((repeat apply Exists.intro);exact ⟨⟨i + 1,by omega,by go_num,HO6,HXS⟩,rfl⟩)
        | (simp [intOf];omega)
  ·obtain rfl:i=k:=by omega
   have b1:decide (i < i)=false:=by simp
   have HXX:=hid_ (HE0.out.trans (HX2.out.trans hX.out));clear HX5 HO5;go_wp2_with fail
   go_ret;exact ⟨_,rfl,hO.out,HXX.out⟩
theorem rHasR_any {p m:Nat} {ml:List Int} {mv:Value} (w:World) (hf:FSh p m ml) (hmv:ISl w mv ml) (N k:Nat) (hN1:1≤N∨k=0) (hN:N≤256) (hk:k≤256) (a:Nat→Nat→Int) (pl:Nat→Nat) (hpl:∀i,i < k→fzN (il N (a i))=pl i∧pl i < N) (rv:Value) (hr:MSl w rv (rowsL N k a)) (f:Nat→Int) (v:Value) (hv:ISl w v (il N f)):
  Calls Tryz.prog 146 #[.agg #[.int .i64 p,.int .i64 m,mv],rv,v] w fun r w'=> r= .returned (.bool (zerB (il N (rst p m ml a pl f k))))∧Ex w w':=by
 obtain ⟨a0,a1,a2,ea,asz⟩:=box_facts w p m mv;have HRS:=hid_ (rRest_any (w.alloc (.cells #[.int .i64 p,.int .i64 m,mv] 24)) hf (hmv.ex ea) N k hN1 hN hk a pl hpl rv (hr.ex ea) f v (hv.ex ea));have HE:=hid_ ea;obtain ⟨b,hb⟩:∃b,zerB (il N (rst p m ml a pl f k))=b:=⟨_,rfl⟩;have HB:=hid_ hb;rw [hb];obtain ⟨ra,rc,hre,-,-,-⟩:=hr.open;rw [rowsL_len] at hre;subst hre;obtain ⟨va,vc,hve,-,-,-⟩:=hv.open;rw [il_len] at hve;subst hve;obtain ⟨ma,mc,rfl,-,-,-⟩:=hmv.open;clear hf hmv hpl hr hv ea hb;go_enter Tryz.func146,Tryz.ntmps146
 go_wp2_with fail
 refine HRS.out.mono ?_;rintro e w2 ⟨ov,rfl,ho,hx⟩;have HZ:=hid_ (rZero_any w2 _ ov ho);have HX:=hid_ (HE.out.trans hx);obtain ⟨oa,oc,rfl,-,-,-⟩:=ho.open;clear ho hx HRS;rw [HB.out] at HZ;go_wp2_with (go_at_call 170;refine HZ.out.mono ?_;rintro e w5 ⟨rfl,hw5⟩)
 subst hw5;go_ret;exact ⟨rfl,HX.out⟩
end
end Go.Proofs.YtgdmlmhpineibaaGreat
