/- Walk of space's reduce. -/
import Derived.Deep.CutRange
import Derived.Test.YtgdmlmhpineibaaGreatZg23
import Derived.Test.YtgdmlmhpineibaaGreatZg33
import Derived.Test.YtgdmlmhpineibaaGreatZg49
import Derived.Test.YtgdmlmhpineibaaGreatZg50
import Derived.Test.YtgdmlmhpineibaaGreatZg51
namespace Go.Proofs.YtgdmlmhpineibaaGreat
set_option linter.unusedVariables false
set_option linter.unusedSimpArgs false
set_option maxRecDepth 100000
set_option maxHeartbeats 8000000
section
open Go.RowKit
theorem redJ_full {p m:Nat} {ml:List Int} (hp:2≤p) {x:Int} {u r:Nat→Int} {c:Nat} (h0:0≤u c) (h1:u c < ((p ^ m:Nat):Int)):redJ p m ml x u r c=((kadd p m (kin (p ^ m) (u c)) (kneg p m (kmul p m (lw ml) (kin (p ^ m) x) (kin (p ^ m) (r c)))):Nat):Int):=by
 unfold redJ;split
 ·rename_i h;have hq:0 < p ^ m:=Nat.pow_pos (by omega);rw [h,kin_zero,kmul_zero_r (by omega),kneg_zero (by omega),kadd_zero (by omega) (kin_lt hq _),kin_code h0 h1]
 ·rfl
section
variable {b p m x0:Nat} {ml:List Int}
theorem viewRed_any (w:World) (hg:GFat w b p m ml x0) (t:Nat) (ht1:1≤t) (ht:t≤1000) (n:Nat) (hn:n≤1000) (a:Nat→Nat→Int) (pl:Nat→Nat) (rv pv:Value) (hrows:MSl w rv (rowsL t n a)) (hplc:ISl w pv (il n fun i=> (pl i:Int))) (hpl:∀i,i < n→pl i < t) (f:Nat→Int) (hfr:EntR p m t f) (vv:Value) (hv:ISl w vv (il t f)):
  Calls Tryz.prog 164 #[.agg #[.pointer (some ⟨b,0,none⟩),.int .i64 t,rv,pv],vv] w fun r w'=> ∃v' tv,r= .returned (.tuple #[v',tv])∧ISl w' v' (il t (redK p m ml a pl f n))∧Ex w w':=by
 obtain ⟨ra,rc,rfl,r1,r2,-⟩:=hrows.open;obtain ⟨pa,pc,rfl,p1,p2,-⟩:=hplc.open;obtain ⟨va,vc,rfl,-,-,-⟩:=hv.open;obtain ⟨b0,b1,b2,b3,eb⟩:=boxW_facts w (.pointer (some ⟨b,0,none⟩)) (.int .i64 t) (.slice ra (rowsL t n a).length rc) (.slice pa (il n fun i=> (pl i:Int)).length pc);obtain ⟨ra9,rc9,er9,-,-,R3⟩:=(hrows.ex eb).open;injection er9 with er9 z1 z2;clear z1 z2;subst er9;obtain ⟨pa9,pc9,ep9,-,-,P3⟩:=(hplc.ex eb).open;injection ep9 with ep9 z1 z2;clear z1 z2;subst ep9;have HG:=hid_ (hg.ex eb);have HRNG:=hid_ (fun k=> redK_rng (ml:=ml) (a:=a) (pl:=pl) hg.sh.p2 hfr k);have HP2:=hid_ hg.sh.p2;have HE:=hid_ eb;have R3:=hid_ R3;have P3:=hid_ P3;have HPL:=hid_ hpl;unfold maxLen at r2 p2;obtain ⟨B,hB⟩:∃B,w.heap.size=B:=⟨_,rfl⟩;rw [hB] at b0 b1 b2 b3;obtain ⟨K,hK⟩:∃K,redK p m ml a pl f=K:=⟨_,rfl⟩;have HK0:=hid_ (show K 0=f from by rw [←hK];rfl);have HKS:=hid_ (fun k=> show K (k + 1)=redI p m ml (K k) (pl k) (a k) from by rw [←hK];rfl);rw [hK] at HRNG ⊢;have hcl:=Clone_any _ (il t f) _ (hv.ex eb) (by rw [il_len];omega) (by rw [il_len];omega);have HCL:=hid_ hcl;have HSB:=hid_ (fun (w':World) (h1:Ex _ w') (y z:Int)=> Sub_any w' (HG.out.ex h1) y z);have HMU:=hid_ (fun (w':World) (h1:Ex _ w') (y z:Int)=> Mul_any w' (HG.out.ex h1) y z);simp only [rowsL_len,il_len] at *;clear hg hrows hplc hv eb hpl hfr hK hcl HG;go_enter Tryz.func164,Tryz.ntmps164
 go_upto_region 1 with fail
 try simp only [hB]
 clear hB;generalize w.alloc (.cells #[.pointer (some ⟨b,0,none⟩),.int .i64 t,.slice ra n rc,.slice pa n pc] 166)=w1 at *;have HC:=hid_ (fun w' (h:Ex w1 w')=> (⟨h.cell b0,h.cell b2,h.cell b3⟩:w'.cell? ⟨B,0,none⟩=some (.pointer (some ⟨b,0,none⟩))∧w'.cell? ⟨B,2,none⟩=some (.slice ra n rc)∧w'.cell? ⟨B,3,none⟩=some (.slice pa n pc)));go_wp2_with fail
 refine HCL.out.mono ?_;rintro e w2 ⟨g,cap,rfl,ho1,hx1⟩;have HO1:=hid_ (show OwnC w2 w1.heap.size 3 g t cap (iv (K 0)) from ho1.icongr fun j hj=> by
  rw [HK0.out];exact eil_getD hj f)
 have HX1:=hid_ hx1;have HT1:=hid_ (show w2.ownsRow w1.heap.size 3 1 (.slice none 0 0) 0 []∧Aprt (.slice (some ⟨g,0,none⟩) t cap) (.slice none 0 0) from ⟨World.ownsRow_nil _ _ _ _,(Aprt.nil _).symm⟩);clear ho1 hx1 b0 b1 b2 b3;obtain ⟨b0,b2,b3⟩:=HC.out w2 HX1.out;go_wp2_with fail
 clear b0 b2 b3
 go_loopw [5,16] (fun tk i' wr=> ∃(i:Nat) (xs:List Value),i≤n∧i'= .int .i64 i∧Hid (OwnC wr w1.heap.size 3 g t cap (iv (K i)))∧Hid (Ex w1 wr)∧Hid (wr.ownsRow w1.heap.size 3 1 tk i xs∧Aprt (.slice (some ⟨g,0,none⟩) t cap) tk)) (fun _ i' _=> n - (intOf i').toNat)
 case atStart=> exact ⟨0, [],by omega,rfl,HO1,HX1,HT1⟩
 case round=>
  clear HO1 HX1 HT1;obtain ⟨i,xs,hi,rfl,hown,hex,htk⟩:=hrel;by_cases hin:i < n
  ·obtain ⟨rb,ro,rfl,hrc⟩:=R3.out (by omega);obtain ⟨pb,po,rfl,hpc⟩:=P3.out (by omega);obtain ⟨uv,huc,hui⟩:=hrc i _ (rowsL_get hin);have cp:=hex.out.cell (hpc i _ (il_get hin _));obtain ⟨b0,b2,b3⟩:=HC.out wr hex.out;have hpt:=HPL.out i hin;have co:wr.cell? ⟨g,pl i,none⟩=some (.int .i64 (K i (pl i))):=hown.out.cell hpt;have i1:(0:Int)≤(i:Int):=by omega
   have i2:(i:Int) < (n:Int):=by omega
   have i3:(0:Int)≤(pl i:Int):=by omega
   have i4:(pl i:Int) < (t:Int):=by omega
   have HUI:=hid_ hui;have HUC:=hid_ huc;have HOW:=hid_ hown.out;have HEX:=hid_ hex.out;have hks:=HKS.out i;have hrg:=HRNG.out i;obtain ⟨r,hr⟩:∃r,a i=r:=⟨_,rfl⟩;rw [hr] at HUI hks;obtain ⟨u,hu⟩:∃u,K i=u:=⟨_,rfl⟩;rw [hu] at HOW hks co hrg;have HRG:=hid_ hrg;obtain ⟨pi,hpi⟩:∃q,pl i=q:=⟨_,rfl⟩;rw [hpi] at co hks hpt i3 i4 cp;obtain ⟨x,hx⟩:∃x,u pi=x:=⟨_,rfl⟩;rw [hx] at co;unfold redI at hks;rw [hx] at hks;obtain ⟨ka,kc,hkv⟩:=own_shape htk.out.1;subst hkv;have HTK:=hid_ htk.out;have HSZ:=hid_ (show w1.heap.size≤wr.heap.size from hex.out.size);clear hpc hrc huc hui hr hu hpi hown hex htk hrg;go_wp2_with (at_builtin;refine wpList_append1 _ rfl _ _ 22 rfl w1.heap.size 3 (.int .i64 0) 1 8 Tryz.underlying22 infoInt rfl (by decide) _ i xs rfl HTK.out.1 [.int .i64 x] 3 _ rfl (by simp) rfl (by simp [Value.oneCell']) (by unfold maxLen;omega) (by omega) HSZ.out ?_)
   intro v6 w6 happ;obtain ⟨hk1,hk2⟩:=happ.row HOW.out HTK.out.2;have HO6:=hid_ (show OwnC w6 w1.heap.size 3 g t cap (iv u) from hk1);have HT6:=hid_ (And.intro happ.own hk2);have HX6:=hid_ (happ.ex HEX.out (Nat.le_refl _));clear happ hk1 hk2 HOW HTK HEX co cp b0 b2 b3;obtain ⟨b0,b2,b3⟩:=HC.out w6 HX6.out;obtain ⟨ka6,kc6,hkv⟩:=own_shape HT6.out.1;subst hkv;by_cases h0:x=0
   ·rw [if_pos h0] at hks;have hb0:(x !=0)=false:=by simp [h0]
    have HO2:=hid_ (show OwnC w6 w1.heap.size 3 g t cap (iv (K (i + 1))) from by rw [hks];exact HO6.out);clear h0 hx hks;go_wp2_with fail
    go_roundw
    case rel=> first | exact ⟨i + 1,_,by omega,by go_num,HO2,HX6,HT6⟩ | ((repeat apply Exists.intro);exact ⟨⟨i + 1,_,by omega,by go_num,HO2,HX6,HT6⟩,rfl⟩)
    case measure=> simp [intOf];omega
   ·rw [if_neg h0] at hks;have hb0:(x !=0)=true:=by simpa using h0
    have HKE:=hid_ hks;obtain ⟨ua,uc,rfl,u1,u2,u3⟩:=HUI.out.open;rw [il_len] at u1 u3 HUC;unfold maxLen at u2;have U3:=hid_ u3;have cu:=HX6.out.cell HUC.out;have HO8:=hid_ (show OwnC w6 w1.heap.size 3 g t cap (iv (redC p m ml x u r 0)) from by rw [redC_zero];exact HO6.out);have HQ8:=hid_ (Ex.refl w6);clear h0 hx hks u3 HUI;go_wp2_with fail
    clear b0 b2 b3 cu HO6
    go_loopw [38] (fun c' wr=> ∃c:Nat,c≤t∧c'= .int .i64 c∧Hid (OwnC wr w1.heap.size 3 g t cap (iv (redC p m ml x u r c)))∧Hid (Ex w1 wr)∧Hid (w6.grownBy wr (some g))) (fun c' _=> t - (intOf c').toNat)
    case atStart=> exact ⟨0,by omega,rfl,HO8,HX6,hid_ (grown_ex (Ex.refl w6) _)⟩
    case round=>
     clear HO8 HQ8;obtain ⟨c,hc,rfl,hown,hex,hgr⟩:=hrel;by_cases hct:c < t
     ·obtain ⟨ub,uo,rfl,huc⟩:=U3.out (by omega);have d1:=hex.out.cell (huc c (r c) (il_get hct r));have j1:(0:Int)≤(c:Int):=by omega
      have j2:(c:Int) < (t:Int):=by omega
      have HEX:=hid_ hex.out;have HOW:=hid_ hown.out;have HGR:=hid_ hgr.out;have hcv:wr.cell? ⟨g,c,none⟩=some (.int .i64 (u c)):=by
       rw [HOW.out.cell hct];show some (Value.int .i64 (redC p m ml x u r c c))=_;unfold redC;rw [if_neg (by omega)]
      have hfv:=HOW.out.frz c;obtain ⟨b0,-,-⟩:=HC.out _ HEX.out;obtain ⟨K1,hK1⟩:∃K,kmul p m (lw ml) (kin (p ^ m) x) (kin (p ^ m) (r c))=K:=⟨_,rfl⟩;have hK1l:K1 < p ^ m:=by rw [←hK1];exact kmul_lt (by have:=HP2.out;omega) _ _
      have HMUL:=hid_ (fun w' (h:Ex w1 w')=> HMU.out w' h x (r c));rw [hK1] at HMUL;obtain ⟨K2,hK2⟩:∃K,kadd p m (kin (p ^ m) (u c)) (kneg p m (kin (p ^ m) (K1:Nat)))=K:=⟨_,rfl⟩;have HSUB:=hid_ (fun w' (h:Ex w1 w')=> HSB.out w' h (u c) (K1:Nat));rw [hK2] at HSUB;have HAF:=hid_ (show redJ p m ml x u r c=(K2:Nat) from by
       rw [redJ_full HP2.out (HRG.out c hct).1 (HRG.out c hct).2,hK1,←hK2,kin_of hK1l])
      obtain ⟨rcv,hrcv⟩:∃y,r c=y:=⟨_,rfl⟩;rw [hrcv] at d1 HMUL;clear hK1 hK2 hK1l hrcv huc hown hex hgr;have HO2:=hid_ (fun n=> show OwnC ((wr.drewN n).setCell ⟨g,c,none⟩ (.int .i64 (K2:Nat))) w1.heap.size 3 g t cap (iv (redC p m ml x u r (c + 1))) from by
       have:=(HOW.out.drewN n).set c (.int .i64 (K2:Nat));rw [iv_upd,←HAF.out,redC_succ] at this;rw [←HAF.out];exact this)
      have HX2:=hid_ (fun n=> (HOW.out.drewN n).exSet (a:=w1) (Nat.le_refl _) (HEX.out.drewN n) c (.int .i64 (K2:Nat)));have HG2:=hid_ (fun n=> show w6.grownBy ((wr.drewN n).setCell ⟨g,c,none⟩ (.int .i64 (K2:Nat))) (some g) from by
       have h5:w6.grownBy (wr.drewN n) (some g):=HGR.out.trans (grown_ex ((Ex.refl wr).drewN n) _);exact ⟨h5.os,h5.tape,h5.output,by rw [heap_size_set];exact h5.size,fun k hk hne=> by
        rw [Below.heap_setCell _ ⟨g,c,none⟩ _ k (fun e=> hne (by rw [e]))];exact h5.block k hk hne⟩)
      have G0:Ex w1 wr.drew:=HEX.out.drewN 1;clear HOW;go_upto_region 11 with fail
      go_region_law
        ((first
                  | (go_simp;go_at_call 59;(with_reducible refine (HMUL.out _ (HEX.out.drewN _)).mono ?_);rintro e wx1 ⟨rfl,n1,rfl⟩)
                  | (go_simp;go_at_call 59;(with_reducible refine (HMUL.out _ G0).mono ?_);rintro e wx1 ⟨rfl,n1,rfl⟩)
                  | (go_simp;go_at_call 172;(with_reducible refine (HSUB.out _ (HEX.out.drewN _)).mono ?_);rintro e wx2 ⟨rfl,n2,rfl⟩)))
      all_goals
       clear HMUL HSUB G0 hcv hfv HSB HMU HCL HKE b0 d1;go_wp2_with fail
       go_roundw
       case measure=> simp [intOf];omega
       case rel=> exact ⟨c + 1,by omega,by go_num,hid_ (HO2.out _),hid_ (HX2.out _),hid_ (HG2.out _)⟩
     ·obtain rfl:c=t:=by omega
      have HO2:=hid_ (show OwnC wr w1.heap.size 3 g c cap (iv (K (i + 1))) from hown.out.icongr fun j hj=> by rw [redC_all hj,HKE.out]);have HEX:=hid_ hex.out;have HT7:=hid_ (show wr.ownsRow w1.heap.size 3 1 (.slice ka6 (i + 1) kc6) (i + 1) (xs ++ [.int .i64 x])∧Aprt (.slice (some ⟨g,0,none⟩) c cap) (.slice ka6 (i + 1) kc6) from ⟨HT6.out.1.kept hgr.out (by
       rcases HT6.out.2.symm with h5 | h5
       ·exact .inl h5
       ·exact .inr h5),HT6.out.2⟩)
      clear hown hex hgr;go_wp2_with fail
      go_roundw
      case rel=> first | exact ⟨i + 1,_,by omega,by go_num,HO2,HEX,HT7⟩ | ((repeat apply Exists.intro);exact ⟨⟨i + 1,_,by omega,by go_num,HO2,HEX,HT7⟩,rfl⟩)
      case measure=> simp [intOf];omega
  ·obtain rfl:i=n:=by omega
   have HOW:=hid_ hown.out;have HEX:=hid_ hex.out;clear hown hex htk;go_wp2_with fail
   go_ret2;exact ⟨_,_,rfl,HOW.out.isl,HE.out.trans HEX.out⟩
end
end
section
open Go.RowKit
theorem pI_il (piv:List Nat):pI piv=il piv.length fun i=> ((piv.getD i 0:Nat):Int):=by
 unfold pI il;refine List.ext_getElem (by simp) fun i h1 h2=> ?_;simp at h1;simp [List.getD_eq_getElem?_getD,h1]
theorem il_self {l:List Int} {N:Nat} (h:l.length=N):il N (fun j=> l.getD j 0)=l:=by
 subst h;unfold il;refine List.ext_getElem (by simp) fun i h1 h2=> ?_;simp [List.getD_eq_getElem?_getD,h2]
theorem lisE_zero {q N:Nat} {l:List Int}:lisE q l N=0↔l.length=N∧entS q l=0:=by
 unfold lisE entS;rw [show (l.any fun y=> !isB q y)=!(l.all fun x=> isB q x) from by rw [List.all_eq_not_any_not,Bool.not_not]];cases h:(l.all fun x=> isB q x) <;> simp <;> omega
theorem wrdV_zero {q N:Nat} {l:List Int} (h:l.length=N) (he:entS q l=0):wrdV q N l=0:=by
 have:=(lisE_zero (q:=q) (N:=N) (l:=l)).2 ⟨h,he⟩;unfold lisE at this;rw [if_neg (by omega)] at this;unfold wrdV;rw [if_neg (by omega)];split at this
 ·cases this
 ·rename_i h2;rw [if_neg h2]
theorem red_zero {p m N R:Nat} {ml:List Int} {a:Nat→Nat→Int} {piv:List Nat} {a0:Nat→Nat→Int} (hp:2≤p) (hm:1≤m) (h:ElO p m ml N R a0 a piv) {v:Nat→Int} (hv:EntR p m N v) (hc:Cl p m ml N R a0 v):∀j,j < N→redK p m ml a (fun i=> piv.getD i 0) v piv.length j=0:=fun j hj=> by
 have hc':=(elO_cl hp h v).2 hc;obtain ⟨c,x1,x2,x3,x4⟩:=h;have hE:=RR.ech (⟨c,x1,x2,x3⟩:RR p m N R a piv);have:=Ech.zero (ml:=ml) hp hm hE (fun i hi=> redK_zer hp hm hE _ (Nat.le_refl _) i hi) (fun x hx=> by
  show dt p m ml N (redK p m ml a (fun i=> piv.getD i 0) v piv.length) x=0
  rw [redK_dt hp _ hx];exact hc' x hx) hj
 obtain ⟨r1,r2⟩:=redK_rng (ml:=ml) (a:=a) (pl:=fun i=> piv.getD i 0) hp hv piv.length j hj;have e2:=kin_code r1 r2;rw [this] at e2;exact e2.symm
section
variable {b p m x0:Nat} {ml:List Int}
theorem viewHas_any (w:World) (hg:GFat w b p m ml x0) (t:Nat) (ht1:1≤t) (ht:t≤1000) (n:Nat) (hn:n≤1000) (a:Nat→Nat→Int) (pl:Nat→Nat) (rv pv:Value) (hrows:MSl w rv (rowsL t n a)) (hplc:ISl w pv (il n fun i=> (pl i:Int))) (hpl:∀i,i < n→pl i < t) (f:Nat→Int) (hfr:EntR p m t f) (vv:Value) (hv:ISl w vv (il t f)) (hz:∀j,j < t→redK p m ml a pl f n j=0):
  Calls Tryz.prog 134 #[.agg #[.pointer (some ⟨b,0,none⟩),.int .i64 t,rv,pv],vv] w fun r w'=> r= .returned (.bool true)∧Ex w w':=by
 have HRD:=hid_ (fun (w':World) (h:Ex w w')=> viewRed_any w' (hg.ex h) t ht1 ht n hn a pl rv pv (hrows.ex h) (hplc.ex h) hpl f hfr vv (hv.ex h));have hany:(!((il t (redK p m ml a pl f n)).any fun x=> x !=0))=true:=by
  rw [Bool.not_eq_true',List.any_eq_false];intro x hx;unfold il at hx;obtain ⟨j,hj,rfl⟩:=List.mem_map.1 hx;simp [hz j (List.mem_range.1 hj)]
 have HZR:=hid_ (fun (w':World) (v:Value) (h:ISl w' v (il t (redK p m ml a pl f n)))=> zero_any w' _ v h);rw [hany] at HZR;obtain ⟨ra,rc,rfl,r1,r2,-⟩:=hrows.open;obtain ⟨pa,pc,rfl,p1,p2,-⟩:=hplc.open;obtain ⟨va,vc,rfl,-,v2,-⟩:=hv.open;unfold maxLen at r2 p2 v2;obtain ⟨b0,b1,b2,b3,eb⟩:=boxW_facts w (.pointer (some ⟨b,0,none⟩)) (.int .i64 t) (.slice ra (rowsL t n a).length rc) (.slice pa (il n fun i=> (pl i:Int)).length pc);obtain ⟨B,hB⟩:∃B,w.heap.size=B:=⟨_,rfl⟩;rw [hB] at b0 b1 b2 b3;have HE:=hid_ eb;obtain ⟨K,hK⟩:∃K,il t (redK p m ml a pl f n)=K:=⟨_,rfl⟩;rw [hK] at HRD HZR;simp only [rowsL_len,il_len] at *;clear hg hrows hplc hpl hfr hv hz hany eb hK;go_enter Tryz.func134,Tryz.ntmps134
 go_upto_region 1 with fail
 try simp only [hB]
 clear hB;generalize w.alloc (.cells #[.pointer (some ⟨b,0,none⟩),.int .i64 t,.slice ra n rc,.slice pa n pc] 166)=w1 at *;go_wp2_with fail
 refine (HRD.out w1 HE.out).mono ?_;rintro e w2 ⟨v',tv,rfl,hv',hx2⟩;have HX2:=hid_ (HE.out.trans hx2);have HZ:=hid_ (HZR.out w2 v' hv');obtain ⟨xa,xc,rfl,-,-,-⟩:=hv'.open;clear hv' hx2 b0 b1 b2 b3 HRD HZR;go_wp2_with fail
 refine HZ.out.mono ?_;rintro e w3 ⟨rfl,hx3⟩;have HX3:=hid_ (HX2.out.trans hx3);clear hx3;go_wp2_with fail
 go_ret;exact ⟨rfl,HX3.out⟩
end
theorem pivs_lt {p m N R:Nat} {ml:List Int} {a0 a:Nat→Nat→Int} {piv:List Nat} (h:ElO p m ml N R a0 a piv):∀i,i < piv.length→piv.getD i 0 < N:=by
 obtain ⟨c,x1,x2,x3,x4⟩:=h;exact (RR.ech (⟨c,x1,x2,x3⟩:RR p m N R a piv)).lt
theorem spaceHas_any (w:World) (p m N:Nat) (ml:List Int) (mv:Value) (hmv:ISl w mv ml) (rows:List (List Int)) (v:Value) (hv:MSl w v rows) (hN1:1≤N) (hN2:N≤64) (hR:rows.length≤256) (hok:∀e,SpcO p m ml N rows e→e=0) (l:List Int) (lv:Value) (hl:ISl w lv l) (hll:l.length=N) (hle:entS (p ^ m) l=0) (hcl:Cl p m ml N rows.length (rowsF rows) fun j=> l.getD j 0) (hmm:1≤m):
  Calls Tryz.prog 86 #[.agg #[.int .i64 p,.int .i64 m,mv],.agg #[.int .i64 N,v],lv] w fun r w'=> r= .returned (.tuple #[.bool true,.int .i64 0])∧Ex w w':=by
 obtain ⟨g0,g1,g2,e0,gsz⟩:=box_facts w p m mv;have HOP:=hid_ (fun (w':World) (h:Ex w w')=> spaceOpenS_any w' p m N ml mv (hmv.ex h) rows v (hv.ex h) hN1 hok);have HV:=hid_ hv;have HL:=hid_ hl;have HLL:=hid_ hll;have HLE:=hid_ hle;have HCL:=hid_ hcl;obtain ⟨za,zc,rfl,z1,z2,z3⟩:=hv.open;clear z1 z3;unfold maxLen at z2;obtain ⟨ma,mc,rfl,-,m2,-⟩:=hmv.open;obtain ⟨la,lc,rfl,-,l2,-⟩:=hl.open;unfold maxLen at m2 l2;obtain ⟨a0,a1,ea⟩:=boxM2_facts (w.alloc (.cells #[.int .i64 p,.int .i64 m,.slice ma ml.length mc] 24)) N (.slice za rows.length zc);have HE:=hid_ (e0.trans ea);replace g0:=ea.cell g0;replace g1:=ea.cell g1;replace g2:=ea.cell g2;rw [gsz] at a0 a1;obtain ⟨xb,hxb⟩:∃xb,w.heap.size=xb:=⟨_,rfl⟩;rw [hxb] at g0 g1 g2 a0 a1;clear hmv hv hl hll hle hcl hok e0 ea gsz;go_enter Tryz.func86,Tryz.ntmps86
 go_upto_region 1 with fail
 try simp only [hxb]
 clear hxb;generalize (w.alloc (.cells #[.int .i64 p,.int .i64 m,.slice ma ml.length mc] 24)).alloc (.cells #[.int .i64 N,.slice za rows.length zc] 113)=w1 at *;go_wp2_with fail
 refine (HOP.out w1 HE.out).mono ?_;rintro e w2 ⟨⟨b,x,piv,a',a2,n2,k2,rfl,hfb,hel,hrl,hgf,hpv⟩,hx2⟩;obtain ⟨B,hB⟩:∃B,w2.heap.size=B:=⟨_,rfl⟩;obtain ⟨b0,b1,b2,b3,eb⟩:=boxW_facts w2 (.pointer (some ⟨b,0,none⟩)) (.int .i64 N) (.slice za rows.length zc) (.slice a2 n2 k2);rw [hB] at b0 b1 b2 b3;have HX2:=hid_ (HE.out.trans hx2);have HXB:=hid_ (HX2.out.trans eb);have HWD:=hid_ (viewWord_any (w2.alloc (.cells #[.pointer (some ⟨b,0,none⟩),.int .i64 N,.slice za rows.length zc,.slice a2 n2 k2] 166)) (hgf.ex eb) N _ a2 n2 k2 rows (HV.out.ex HXB.out) l _ (HL.out.ex HXB.out));rw [wrdV_zero HLL.out HLE.out] at HWD;have hlr:EntR p m N fun j=> l.getD j 0:=fun j hj=> by
  have:=entS_rng HLE.out (l.getD j 0) (by
   rw [List.getD_eq_getElem?_getD,List.getElem?_eq_getElem (by rw [HLL.out];exact hj)];exact List.getElem_mem _)
  exact this
 have hpn:piv.length≤1000:=by
  have:=(elo_rows hel).1;omega
 have HHS:=hid_ (fun (w':World) (h:Ex w2 w')=> viewHas_any w' (hgf.ex h) N hN1 (by omega) piv.length hpn a' (fun i=> piv.getD i 0) (.slice za rows.length zc) (.slice a2 n2 k2) (by rw [hrl];exact HV.out.ex (HX2.out.trans h)) (by rw [←pI_il];exact hpv.ex h) (pivs_lt hel) (fun j=> l.getD j 0) hlr (.slice la l.length lc) (by rw [il_self HLL.out];exact HL.out.ex (HX2.out.trans h)) (red_zero hgf.sh.p2 hmm hel hlr HCL.out));have HEB:=hid_ eb;clear hfb hel hrl hgf hpv hx2 hlr hpn eb g0 g1 g2 a0 a1;go_upto_region 2 with fail
 try simp only [hB]
 clear hB;generalize w2.alloc (.cells #[.pointer (some ⟨b,0,none⟩),.int .i64 N,.slice za rows.length zc,.slice a2 n2 k2] 166)=w3 at *;go_wp2_with fail
 refine HWD.out.mono ?_;rintro e w4 ⟨rfl,hx4⟩;have HX4:=hid_ (HXB.out.trans hx4);have HHS4:=hid_ (HHS.out w4 (HEB.out.trans hx4));replace b0:=hx4.cell b0;replace b1:=hx4.cell b1;replace b2:=hx4.cell b2;replace b3:=hx4.cell b3;clear hx4 HHS HWD;go_wp2_with fail
 refine HHS4.out.mono ?_;rintro e w5 ⟨rfl,hx5⟩;have HX5:=hid_ (HX4.out.trans hx5);clear hx5;go_wp2_with fail
 go_ret2;exact ⟨rfl,HX5.out⟩
theorem codeWord_any (w:World) (p m N:Nat) (ml:List Int) (mv:Value) (hmv:ISl w mv ml) (rows:List (List Int)) (v:Value) (hv:MSl w v rows) (hok:CodO p m ml N rows 0) (l:List Int) (lv:Value) (hl:ISl w lv l) (hll:l.length=N) (hle:entS (p ^ m) l=0):
  Calls Tryz.prog 85 #[.agg #[.int .i64 p,.int .i64 m,mv,.int .i64 N,v],lv] w fun r w'=> r= .returned (.int .i64 0)∧Ex w w':=by
 obtain ⟨a0,a1,a2,a3,a4,ea⟩:=boxC_facts w p m mv N v;have HCK:=hid_ (fun (w':World) (h:Ex w w')=> codeCheck_any w' p m ml mv (hmv.ex h) N rows v (hv.ex h));have HLS:=hid_ (fun (w':World) (h:Ex w w')=> list_any w' p m ml mv (hmv.ex h) (codO_fld hok).1 l lv (hl.ex h) N);rw [lisE_zero.2 ⟨hll,hle⟩] at HLS;have HOK:=hid_ hok;obtain ⟨za,zc,rfl,-,z2,-⟩:=hv.open;obtain ⟨ma,mc,rfl,-,m2,-⟩:=hmv.open;obtain ⟨la,lc,rfl,-,l2,-⟩:=hl.open;unfold maxLen at z2 m2 l2;have HE:=hid_ ea;obtain ⟨xb,hxb⟩:∃xb,w.heap.size=xb:=⟨_,rfl⟩;rw [hxb] at a0 a1 a2 a3 a4;clear hmv hv hl hll hle hok ea;go_enter Tryz.func85,Tryz.ntmps85
 go_upto_region 1 with fail
 try simp only [hxb]
 clear hxb;generalize w.alloc (.cells #[.int .i64 p,.int .i64 m,.slice ma ml.length mc,.int .i64 N,.slice za rows.length zc] 47)=w1 at *;go_wp2_with fail
 refine (HCK.out w1 HE.out).mono ?_;rintro e w2 ⟨⟨e1,rfl,ho1⟩,hx2⟩;obtain rfl:=codO_uniq ho1 HOK.out;have HX2:=hid_ (HE.out.trans hx2);replace a0:=hx2.cell a0;replace a1:=hx2.cell a1;replace a2:=hx2.cell a2;replace a3:=hx2.cell a3;have HLS2:=hid_ (HLS.out w2 HX2.out);clear hx2 ho1 HCK HLS a4;go_wp2_with fail
 refine HLS2.out.mono ?_;rintro e w3 ⟨rfl,hx3⟩;have HX3:=hid_ (HX2.out.trans hx3);clear hx3;go_wp2_with fail
 go_ret;exact ⟨rfl,HX3.out⟩
theorem codeHas_any (w:World) (p m N:Nat) (ml:List Int) (mv:Value) (hmv:ISl w mv ml) (rows:List (List Int)) (v:Value) (hv:MSl w v rows) (hok:CodO p m ml N rows 0) (l:List Int) (lv:Value) (hl:ISl w lv l) (hll:l.length=N) (hle:entS (p ^ m) l=0) (hcl:Cl p m ml N rows.length (rowsF rows) fun j=> l.getD j 0):
  Calls Tryz.prog 45 #[.agg #[.int .i64 p,.int .i64 m,mv,.int .i64 N,v],lv] w fun r w'=> r= .returned (.tuple #[.bool true,.int .i64 0])∧Ex w w':=by
 obtain ⟨a0,a1,a2,a3,a4,ea⟩:=boxC_facts w p m mv N v;obtain ⟨pn,mn,N',e1,e2,e3,hsh,-,n1,n64,k256,-⟩:=codO_two hok;obtain rfl:p=pn:=by omega
 obtain rfl:m=mn:=by omega
 obtain rfl:N=N':=by omega
 have hsp:∀e,SpcO p m ml N rows e→e=0:=fun e he=> codO_uniq (.inr (.inr ⟨(chk_iff _ _ _).2 (codO_fld hok).1,by unfold lenE;rw [if_neg (by omega)],he⟩)) hok;have HWD:=hid_ (fun (w':World) (h:Ex w w')=> codeWord_any w' p m N ml mv (hmv.ex h) rows v (hv.ex h) hok l lv (hl.ex h) hll hle);have HGN:=hid_ (fun (w':World) (h:Ex w w')=> gen_any w' p m mv N rows v (hv.ex h));have HSH:=hid_ (fun (w':World) (h:Ex w w')=> spaceHas_any w' p m N ml mv (hmv.ex h) rows v (hv.ex h) n1 n64 k256 hsp l lv (hl.ex h) hll hle hcl hsh.m1);obtain ⟨za,zc,rfl,-,z2,-⟩:=hv.open;obtain ⟨ma,mc,rfl,-,m2,-⟩:=hmv.open;obtain ⟨la,lc,rfl,-,l2,-⟩:=hl.open;unfold maxLen at z2 m2 l2;have HE:=hid_ ea;obtain ⟨xb,hxb⟩:∃xb,w.heap.size=xb:=⟨_,rfl⟩;rw [hxb] at a0 a1 a2 a3 a4;clear hmv hv hl hll hle hok ea hcl hsp hsh n1 n64 k256 e1 e2 e3;go_enter Tryz.func45,Tryz.ntmps45
 go_upto_region 1 with fail
 try simp only [hxb]
 clear hxb;generalize w.alloc (.cells #[.int .i64 p,.int .i64 m,.slice ma ml.length mc,.int .i64 N,.slice za rows.length zc] 47)=w1 at *;go_wp2_with fail
 refine (HWD.out w1 HE.out).mono ?_;rintro e w3 ⟨rfl,hx2⟩;have HX2:=hid_ (HE.out.trans hx2);have HALL:=hid_ (fun (w':World) (h':Ex w3 w')=> (⟨h'.cell (hx2.cell a0),h'.cell (hx2.cell a1),h'.cell (hx2.cell a2),h'.cell (hx2.cell a3),h'.cell (hx2.cell a4)⟩:w'.cell? ⟨xb,0,none⟩=some (.int .i64 p)∧w'.cell? ⟨xb,1,none⟩=some (.int .i64 m)∧w'.cell? ⟨xb,2,none⟩=some (.slice ma ml.length mc)∧w'.cell? ⟨xb,3,none⟩=some (.int .i64 N)∧w'.cell? ⟨xb,4,none⟩=some (.slice za rows.length zc)));clear hx2 HWD a0 a1 a2 a3 a4;have G0:Ex w3 w3.drew:=(Ex.refl w3).drew;go_upto_region 4 with fail
 go_region_held3 (fun w'=> w'.cell? ⟨xb,0,none⟩=some (.int .i64 p)∧w'.cell? ⟨xb,1,none⟩=some (.int .i64 m)∧w'.cell? ⟨xb,2,none⟩=some (.slice ma ml.length mc)∧w'.cell? ⟨xb,3,none⟩=some (.int .i64 N)∧w'.cell? ⟨xb,4,none⟩=some (.slice za rows.length zc))
  (first | with_reducible exact HALL.out _ X4 | with_reducible exact HALL.out _ X3 | with_reducible exact HALL.out _ G0)
  (first | (go_at_call 80;(with_reducible refine (HGN.out _ (HX2.out.trans G0)).mono ?_);rintro e w5 ⟨rfl,h3⟩;have X3:=G0.trans h3;clear h3) | (go_at_call 86;(with_reducible refine (HSH.out _ (HX2.out.trans X3)).mono ?_);rintro e w4 ⟨rfl,h4⟩;have X4:=X3.trans h4;clear h4))
 go_wp2_with fail
 go_ret2;exact ⟨rfl,HX2.out.trans X4⟩
theorem vecO_ok {p m N:Nat} {ml x:List Int} {ks:List (List Int)} {r:Ending} {w w':World} (h:VecO p m N ml x ks r w w') (h0:x.length=ks.length∧entS (p ^ m) x=0):∃g,r= .returned (.tuple #[.slice (some ⟨g,0,none⟩) N N,.int .i64 0])∧Own w' w.heap.size 3 g N (iv (vecF p m ml x ks ks.length)):=by
 rcases h with ⟨h,-⟩ | ⟨-,-,h⟩
 ·exact absurd h0 h
 ·exact h
def EncR (p m:Int) (ml:List Int) (n:Int) (rows:List (List Int)) (x:List Int) (r:Ending) (w':World):Prop:=
 (∃e:Int,e≠0∧r= .returned (.tuple #[.slice none 0 0,.int .i64 e]))∨
 ∃(pn mn N:Nat) (g:Nat),p=pn∧m=mn∧n=N∧CodO p m ml n rows 0∧x.length=rows.length∧entS (pn ^ mn) x=0∧
  r= .returned (.tuple #[.slice (some ⟨g,0,none⟩) N N,.int .i64 0])∧ISl w' (.slice (some ⟨g,0,none⟩) N N) (il N (vecF pn mn ml x rows rows.length))
theorem codeEncode_any (w:World) (p m n:Int) (ml:List Int) (mv:Value) (hmv:ISl w mv ml) (rows:List (List Int)) (v:Value) (hv:MSl w v rows) (l:List Int) (lv:Value) (hl:ISl w lv l):
  Calls Tryz.prog 44 #[.agg #[.int .i64 p,.int .i64 m,mv,.int .i64 n,v],lv] w fun r w'=> EncR p m ml n rows l r w'∧Ex w w':=by
 obtain ⟨a0,a1,a2,a3,a4,ea⟩:=boxC_facts w p m mv n v;have HCK:=hid_ (fun (w':World) (h:Ex w w')=> codeCheck_any w' p m ml mv (hmv.ex h) n rows v (hv.ex h));have HGN:=hid_ (fun (w':World) (h:Ex w w')=> gen_any w' p m mv n rows v (hv.ex h));have HMV:=hid_ hmv;have HV:=hid_ hv;have HL:=hid_ hl;obtain ⟨za,zc,rfl,-,z2,-⟩:=hv.open;obtain ⟨ma,mc,rfl,-,m2,-⟩:=hmv.open;obtain ⟨la,lc,rfl,-,l2,-⟩:=hl.open;unfold maxLen at z2 m2 l2;have HE:=hid_ ea;obtain ⟨xb,hxb⟩:∃xb,w.heap.size=xb:=⟨_,rfl⟩;rw [hxb] at a0 a1 a2 a3 a4;clear hmv hv hl ea;go_enter Tryz.func44,Tryz.ntmps44
 go_upto_region 1 with fail
 try simp only [hxb]
 clear hxb;generalize w.alloc (.cells #[.int .i64 p,.int .i64 m,.slice ma ml.length mc,.int .i64 n,.slice za rows.length zc] 47)=w1 at *;go_wp2_with fail
 refine (HCK.out w1 HE.out).mono ?_;rintro e w2 ⟨⟨e1,rfl,ho1⟩,hx2⟩;have HX2:=hid_ (HE.out.trans hx2);replace a0:=hx2.cell a0;replace a1:=hx2.cell a1;replace a2:=hx2.cell a2;replace a3:=hx2.cell a3;replace a4:=hx2.cell a4;clear hx2 HCK;by_cases h1:e1=0
 rotate_left
 ·have k1:(e1==0)=false:=by simpa using h1
  have k2:(e1 !=0)=true:=by simpa using h1
  have H1:=hid_ h1;clear h1 ho1;go_wp2_with fail
  go_ret2;exact ⟨.inl ⟨e1,H1.out,rfl⟩,HX2.out⟩
 subst h1;have HO:=hid_ ho1;obtain ⟨pn,mn,N,rfl,rfl,rfl,hsh,-,n1,n64,k256,hrw⟩:=codO_two ho1;have HLS:=hid_ (list_any w2 pn mn ml _ (HMV.out.ex HX2.out) (codO_fld ho1).1 l _ (HL.out.ex HX2.out) rows.length);have HVC:=hid_ (fun (w':World) (h:Ex w w')=> Vec_any pn mn N ml _ w' (HMV.out.ex h) l _ (HL.out.ex h) rows _ (HV.out.ex h) (codO_fld ho1).1 (mchk_of (by omega) k256 hrw) n1);obtain ⟨W,hW⟩:∃W,lisE (pn ^ mn) l rows.length=W:=⟨_,rfl⟩;have HW:=hid_ hW;rw [hW] at HLS;clear ho1 hsh n1 n64 k256 hrw hW;go_wp2_with fail
 refine HLS.out.mono ?_;rintro e w3 ⟨rfl,hx3⟩;have HX3:=hid_ (HX2.out.trans hx3);have HALL:=hid_ (fun (w':World) (h':Ex w3 w')=> (⟨h'.cell (hx3.cell a0),h'.cell (hx3.cell a1),h'.cell (hx3.cell a2),h'.cell (hx3.cell a3),h'.cell (hx3.cell a4)⟩:w'.cell? ⟨xb,0,none⟩=some (.int .i64 pn)∧w'.cell? ⟨xb,1,none⟩=some (.int .i64 mn)∧w'.cell? ⟨xb,2,none⟩=some (.slice ma ml.length mc)∧w'.cell? ⟨xb,3,none⟩=some (.int .i64 N)∧w'.cell? ⟨xb,4,none⟩=some (.slice za rows.length zc)));clear hx3 HLS a0 a1 a2 a3 a4;by_cases h1:W=0
 rotate_left
 ·have k2:(W !=0)=true:=by simpa using h1
  have H1:=hid_ h1;clear h1;go_wp2_with fail
  go_ret2;exact ⟨.inl ⟨W,H1.out,rfl⟩,HX3.out⟩
 subst h1;have G0:Ex w3 w3.drew:=(Ex.refl w3).drew;go_upto_region 6 with fail
 go_region_held3 (fun w'=> w'.cell? ⟨xb,0,none⟩=some (.int .i64 pn)∧w'.cell? ⟨xb,1,none⟩=some (.int .i64 mn)∧w'.cell? ⟨xb,2,none⟩=some (.slice ma ml.length mc)∧w'.cell? ⟨xb,3,none⟩=some (.int .i64 N)∧w'.cell? ⟨xb,4,none⟩=some (.slice za rows.length zc))
  (first | with_reducible exact HALL.out _ X4 | with_reducible exact HALL.out _ X3 | with_reducible exact HALL.out _ G0)
  (first | (go_at_call 80;(with_reducible refine (HGN.out _ (HX3.out.trans G0)).mono ?_);rintro e w5 ⟨rfl,h3⟩;have X3:=G0.trans h3;clear h3) | (go_at_call 84;(with_reducible refine (HVC.out _ (HX3.out.trans X3)).mono ?_);rintro e w4 ⟨hvo,h4⟩;obtain ⟨g,rfl,hown⟩:=vecO_ok hvo (lisE_zero.1 HW.out);have X4:=X3.trans h4;clear h4))
 go_wp2_with fail
 go_ret2;exact ⟨.inr ⟨pn,mn,N,g,rfl,rfl,rfl,HO.out,(lisE_zero.1 HW.out).1,(lisE_zero.1 HW.out).2,rfl,hown.isl⟩,HX3.out.trans X4⟩
end
end Go.Proofs.YtgdmlmhpineibaaGreat
