/- Walk of the echelon's reduce. -/
import Derived.Deep.CutRange
import Derived.Test.YtgdmlmhpineibaaGreatZg31
import Derived.Test.YtgdmlmhpineibaaGreatZg32
namespace Go.Proofs.YtgdmlmhpineibaaGreat
set_option linter.unusedVariables false
set_option linter.unusedSimpArgs false
set_option maxRecDepth 100000
set_option maxHeartbeats 4000000
section
open Go.RowKit
structure EchAt (w:World) (E b t:Nat) (e:EcS) (rv pv:Value):Prop where
 c0:w.cell? ⟨E,0,none⟩=some (.pointer (some ⟨b,0,none⟩))
 c1:w.cell? ⟨E,1,none⟩=some rv
 c2:w.cell? ⟨E,2,none⟩=some pv
 rows:MSl w rv (rowsL t e.n e.a)
 plc:ISl w pv (il e.n fun i=> (e.pl i:Int))
theorem EchAt.ex {w w':World} {E b t:Nat} {e:EcS} {rv pv:Value} (h:EchAt w E b t e rv pv) (hx:Ex w w'):EchAt w' E b t e rv pv:=
 ⟨hx.cell h.c0,hx.cell h.c1,hx.cell h.c2,h.rows.ex hx,h.plc.ex hx⟩
theorem redC_zero (p m:Nat) (ml:List Int) (x:Int) (u r:Nat→Int):redC p m ml x u r 0=u:=by funext j;unfold redC;rw [if_neg (by omega)]
theorem redC_succ (p m:Nat) (ml:List Int) (x:Int) (u r:Nat→Int) (c:Nat):upd (redC p m ml x u r c) c (redJ p m ml x u r c)=redC p m ml x u r (c + 1):=by
 funext j;by_cases e:j=c
 ·subst e;rw [upd_same];unfold redC;rw [if_pos (by omega)]
 ·rw [upd_ne _ _ e];unfold redC;by_cases h:j < c
  ·rw [if_pos h,if_pos (by omega)]
  ·rw [if_neg h,if_neg (by omega)]
theorem redC_skip {p m:Nat} {ml:List Int} {x:Int} {u r:Nat→Int} {c:Nat} (h:r c=0):redC p m ml x u r (c + 1)=redC p m ml x u r c:=by
 funext j;unfold redC;by_cases e:j=c
 ·subst e;rw [if_pos (by omega),if_neg (by omega)];unfold redJ;rw [if_pos h]
 ·by_cases h:j < c
  ·rw [if_pos h,if_pos (by omega)]
  ·rw [if_neg h,if_neg (by omega)]
theorem redC_all {p m:Nat} {ml:List Int} {x:Int} {u r:Nat→Int} {t j:Nat} (h:j < t):redC p m ml x u r t j=redJ p m ml x u r j:=by unfold redC;rw [if_pos h]
theorem red1_any (w:World) (x:Int):
  Calls Tryz.prog 173 #[.int .i64 x] w fun r w'=> r= .returned (.bool (x !=0))∧Ex w w':=by
 go_enter Tryz.func173,Tryz.ntmps173
 go_wp2_with fail
 go_ret;exact ⟨rfl,Ex.refl _⟩
section
variable {b p m x0:Nat} {ml:List Int}
theorem reduce_any (w:World) (hg:GFat w b p m ml x0) (E t:Nat) (ht:t≤1000) (e:EcS) (rv pv:Value) (hE:EchAt w E b t e rv pv) (hpl:∀i,i < e.n→e.pl i < t) (f:Nat→Int) (vv:Value) (hv:ISl w vv (il t f)):
  Calls Tryz.prog 151 #[.pointer (some ⟨E,0,none⟩),vv] w fun r w'=> ∃v',r= .returned (.tuple #[v',.int .i64 (lzI t (e.red p m ml f))])∧ISl w' v' (il t (e.red p m ml f))∧Ex w w':=by
 obtain ⟨n,a,pl⟩:=e;simp only [EcS.red] at *;obtain ⟨e0,e1,e2,hrows,hplc⟩:=hE;simp only at e1 e2 hrows hplc hpl;obtain ⟨ra,rc,rfl,r1,r2,r3⟩:=hrows.open;obtain ⟨pa,pc,rfl,p1,p2,p3⟩:=hplc.open;rw [rowsL_len] at r1 r3 e1;rw [il_len] at p1 p3 e2;unfold maxLen at r2 p2;have R3:=hid_ r3;have P3:=hid_ p3;have E0:=hid_ e0;have E1:=hid_ e1;have E2:=hid_ e2;have HPL:=hid_ hpl;have HG:=hid_ hg;by_cases ht0:t=0
 ·subst ht0;have hn0:n=0:=by
   by_cases h:n=0
   ·exact h
   ·exact absurd (hpl 0 (by omega)) (by omega)
  subst hn0;have HCL:=hid_ (CloneE_any w (il 0 f) vv hv (by simp [il]));clear hv hg hrows hplc r3 p3 hpl;have HX1:redK p m ml a pl f 0=f:=rfl;rw [HX1];go_enter Tryz.func151,Tryz.ntmps151
  go_wp2_with fail
  refine HCL.out.mono ?_;rintro e w1 ⟨v1,rfl,hv1,-,hx1⟩;have e1':=hx1.cell E1.out;have HV1:=hid_ hv1;have HX1:=hid_ hx1;obtain ⟨va,vc,rfl,-,-,-⟩:=hv1.open;clear hv1 hx1;go_wp2_with fail
  go_loopw [18] (fun i' wr=> i'= .int .i64 0∧wr=w1) (fun i' _=> 0)
  case atStart=> exact ⟨rfl,rfl⟩
  case round=>
   obtain ⟨rfl,rfl⟩:=hrel;have HIF:=hid_ (IndexFunc_red wr (.slice va (il 0 f).length vc) 0 [] (by simpa [ISl,il,ints] using HV1.out) (fun j=> f j !=0) (fun w1 i u h1 hu=> by simp at hu));go_wp2_with fail
   refine HIF.out.mono ?_;rintro e w2 ⟨rfl,hx2⟩;have HX2:=hid_ hx2;clear hx2;go_wp2_with fail
   go_ret2;exact ⟨_,rfl,HV1.out.ex HX2.out,HX1.out.trans HX2.out⟩
 ·have HCL:=hid_ (Clone_any w (il t f) vv hv (by rw [il_len];omega) (by rw [il_len];omega));have HSB:=hid_ (fun (w1:World) (h1:Ex w w1) (y z:Int)=> Sub_any w1 (HG.out.ex h1) y z);have HMU:=hid_ (fun (w1:World) (h1:Ex w w1) (y z:Int)=> Mul_any w1 (HG.out.ex h1) y z);have HP2:=hid_ hg.sh.p2;obtain ⟨K,hK⟩:∃K,redK p m ml a pl f=K:=⟨_,rfl⟩;have HK0:=hid_ (show K 0=f from by rw [←hK];rfl);have HKS:=hid_ (fun k=> show K (k + 1)=redI p m ml (K k) (pl k) (a k) from by rw [←hK];rfl);rw [hK];rw [il_len] at HCL;obtain ⟨va,vc,rfl,-,-,-⟩:=hv.open;rw [il_len] at HCL ⊢;clear hv hg hrows hplc r3 p3 hpl hK;go_enter Tryz.func151,Tryz.ntmps151
  go_wp2_with fail
  refine HCL.out.mono ?_;rintro e w1 ⟨g,cap,rfl,ho1,hx1⟩;have e1':=hx1.cell E1.out;have HO1:=hid_ (show OwnC w1 w.heap.size 3 g t cap (iv (K 0)) from ho1.icongr fun j hj=> by
   rw [HK0.out];exact eil_getD hj f)
  have HX1:=hid_ hx1;clear ho1 hx1;go_wp2_with fail
  go_loopw [18] (fun i' wr=> ∃i:Nat,i≤n∧i'= .int .i64 i∧Hid (OwnC wr w.heap.size 3 g t cap (iv (K i)))∧Hid (Ex w wr)) (fun i' _=> n - (intOf i').toNat)
  case atStart=> exact ⟨0,by omega,rfl,HO1,HX1⟩
  case round=>
   clear HO1 e1';obtain ⟨i,hi,rfl,hown,hex⟩:=hrel;by_cases hin:i < n
   ·obtain ⟨rb,ro,rfl,hrc⟩:=R3.out (by omega);obtain ⟨pb,po,rfl,hpc⟩:=P3.out (by omega);obtain ⟨uv,huc,hui⟩:=hrc i _ (rowsL_get hin);have cu:=hex.out.cell huc;have cp:=hex.out.cell (hpc i _ (il_get hin _));have d0:=hex.out.cell E0.out;have d2:=hex.out.cell E2.out;have hpt:=HPL.out i hin;have co:wr.cell? ⟨g,pl i,none⟩=some (.int .i64 (K i (pl i))):=hown.out.cell hpt;have i1:(0:Int)≤(i:Int):=by omega
    have i2:(i:Int) < (n:Int):=by omega
    have i3:(0:Int)≤(pl i:Int):=by omega
    have i4:(pl i:Int) < (t:Int):=by omega
    have HUI:=hid_ hui;have HOW:=hid_ hown.out;have HEX:=hid_ hex.out;have hks:=HKS.out i;obtain ⟨r,hr⟩:∃r,a i=r:=⟨_,rfl⟩;rw [hr] at HUI hks;obtain ⟨u,hu⟩:∃u,K i=u:=⟨_,rfl⟩;rw [hu] at HOW hks co;obtain ⟨pi,hpi⟩:∃q,pl i=q:=⟨_,rfl⟩;rw [hpi] at co hks hpt i3 i4 cp;obtain ⟨x,hx⟩:∃x,u pi=x:=⟨_,rfl⟩;rw [hx] at co;unfold redI at hks;rw [hx] at hks;obtain ⟨ua,uc,rfl,u1,u2,u3⟩:=HUI.out.open;rw [il_len] at u1 u3 cu;unfold maxLen at u2;have U3:=hid_ u3;clear hpc hrc huc hui u3 hr hu hpi hown hex HUI;by_cases h0:x=0
    ·rw [if_pos h0] at hks;have hb0:(x !=0)=false:=by simp [h0]
     have HO2:=hid_ (show OwnC wr w.heap.size 3 g t cap (iv (K (i + 1))) from by rw [hks];exact HOW.out);clear h0 hx hks;go_wp2_with fail
     go_roundw
     case rel=> exact ⟨i + 1,by omega,by go_num,HO2,HEX⟩
     case measure=> simp [intOf];omega
    ·rw [if_neg h0] at hks;have hb0:(x !=0)=true:=by simpa using h0
     have HKE:=hid_ hks;clear h0 hx hks;go_wp2_with fail
     obtain ⟨w8,hw8⟩:∃w8,w8=wr:=⟨_,rfl⟩;have HEX8:=hid_ HEX.out;rw [←hw8] at HEX8;have HO8:=hid_ (show OwnC w8 w.heap.size 3 g t cap (iv (redC p m ml x u r 0)) from by rw [redC_zero,hw8];exact HOW.out);have HLI:=hid_ (show ∀w',Ex w w'→w'.cell? ⟨E,0,none⟩=some (.pointer (some ⟨b,0,none⟩)) from fun w' h=> h.cell E0.out);have HWW:=hid_ (hw8 ▸ HEX.out);have U8:=hid_ (show 0 < t→∃b_1 o,ua=some ⟨b_1,o,none⟩∧∀(j:Nat) (x:Int),(il t r)[j]?=some x→w.cell? ⟨b_1,o + j,none⟩=some (.int .i64 x) from U3.out);subst hw8;clear co cp cu d0 d2 HOW HEX
     go_loopw [37] (fun c' wr=> ∃c:Nat,c≤t∧c'= .int .i64 c∧Hid (OwnC wr w.heap.size 3 g t cap (iv (redC p m ml x u r c)))∧Hid (Ex w wr)) (fun c' _=> t - (intOf c').toNat)
     case atStart=> exact ⟨0,by omega,rfl,HO8,HEX8⟩
     case round=>
      clear HO8 HEX8;obtain ⟨c,hc,rfl,hown,hex⟩:=hrel;by_cases hct:c < t
      ·obtain ⟨ub,uo,rfl,huc⟩:=U8.out (by omega);have d1:=hex.out.cell (huc c (r c) (il_get hct r));have j1:(0:Int)≤(c:Int):=by omega
       have j2:(c:Int) < (t:Int):=by omega
       have HEX:=hid_ hex.out;have HOW:=hid_ hown.out;clear huc hown hex;by_cases hr0:r c=0
       ·have hb1:(r c !=0)=false:=by simp [hr0]
        have HO2:=hid_ (show OwnC wr w.heap.size 3 g t cap (iv (redC p m ml x u r (c + 1))) from by rw [redC_skip hr0];exact HOW.out);clear hr0 HOW;go_wp2_with fail
        go_roundw
        case rel=> exact ⟨c + 1,by omega,by go_num,HO2,HEX⟩
        case measure=> simp [intOf];omega
       ·have hb1:(r c !=0)=true:=by simpa using hr0
        have hcv:wr.cell? ⟨g,c,none⟩=some (.int .i64 (u c)):=by
         rw [HOW.out.cell hct];show some (Value.int .i64 (redC p m ml x u r c c))=_;unfold redC;rw [if_neg (by omega)]
        have hfv:=HOW.out.frz c;have d0:=HLI.out _ HEX.out;obtain ⟨K1,hK1⟩:∃K,kmul p m (lw ml) (kin (p ^ m) x) (kin (p ^ m) (r c))=K:=⟨_,rfl⟩;have hK1l:K1 < p ^ m:=by rw [←hK1];exact kmul_lt (by have:=HP2.out;omega) _ _
        have HMUL:=hid_ (fun w' (h:Ex w w')=> HMU.out w' h x (r c));rw [hK1] at HMUL;obtain ⟨K2,hK2⟩:∃K,kadd p m (kin (p ^ m) (u c)) (kneg p m (kin (p ^ m) (K1:Nat)))=K:=⟨_,rfl⟩;have HSUB:=hid_ (fun w' (h:Ex w w')=> HSB.out w' h (u c) (K1:Nat));rw [hK2] at HSUB;have HAF:=hid_ (show redJ p m ml x u r c=(K2:Nat) from by
         unfold redJ;rw [if_neg hr0,hK1,←hK2,kin_of hK1l])
        obtain ⟨rc,hrc⟩:∃y,r c=y:=⟨_,rfl⟩;rw [hrc] at hb1 d1 HMUL;clear hK1 hK2 hK1l hr0 hrc;have HO2:=hid_ (fun n=> show OwnC ((wr.drewN n).setCell ⟨g,c,none⟩ (.int .i64 (K2:Nat))) w.heap.size 3 g t cap (iv (redC p m ml x u r (c + 1))) from by
         have:=(HOW.out.drewN n).set c (.int .i64 (K2:Nat));rw [iv_upd,←HAF.out,redC_succ] at this;rw [←HAF.out];exact this)
        have HX2:=hid_ (fun n=> (HOW.out.drewN n).exSet (a:=w) (Nat.le_refl _) (HEX.out.drewN n) c (.int .i64 (K2:Nat)));have G0:Ex w wr.drew:=HEX.out.drewN 1;clear HOW;go_upto_region 11 with fail
        go_region_law
          ((first
                      | (go_simp;go_at_call 59;(with_reducible refine (HMUL.out _ (HEX.out.drewN _)).mono ?_);rintro e wx1 ⟨rfl,n1,rfl⟩)
                      | (go_simp;go_at_call 59;(with_reducible refine (HMUL.out _ G0).mono ?_);rintro e wx1 ⟨rfl,n1,rfl⟩)
                      | (go_simp;go_at_call 172;(with_reducible refine (HSUB.out _ (HEX.out.drewN _)).mono ?_);rintro e wx2 ⟨rfl,n2,rfl⟩)))
        all_goals
         clear HMUL HSUB G0 hcv hfv HSB HMU HCL HKE d0 d1;go_wp2_with fail
         go_roundw
         case measure=> simp [intOf];omega
         case rel=> exact ⟨c + 1,by omega,by go_num,hid_ (HO2.out _),hid_ (HX2.out _)⟩
      ·obtain rfl:c=t:=by omega
       have HO2:=hid_ (show OwnC wr w.heap.size 3 g c cap (iv (K (i + 1))) from hown.out.icongr fun j hj=> by rw [redC_all hj,HKE.out]);have HEX:=hid_ hex.out;clear hown hex;go_wp2_with fail
       go_roundw
       case rel=> first | exact ⟨i + 1,by omega,by go_num,HO2,HEX⟩ | ((repeat apply Exists.intro);exact ⟨⟨i + 1,by omega,by go_num,HO2,HEX⟩,rfl⟩)
       case measure=> simp [intOf];omega
   ·obtain rfl:i=n:=by omega
    have HOW:=hid_ hown.out;have HEX:=hid_ hex.out;have HIF:=hid_ (IndexFunc_red wr (.slice (some ⟨g,0,none⟩) t cap) t _ hown.out.sl (fun j=> K i j !=0) (fun w1 j u h1 hu=> by
     have hj:j < t:=by
      have:=(List.getElem?_eq_some_iff.1 hu).1;rw [vs_length] at this;exact this
     rw [vs_get hj] at hu;injection hu with hu;subst hu;exact red1_any w1 (K i j)))
    clear hown hex;go_wp2_with fail
    refine HIF.out.mono ?_;rintro e w2 ⟨rfl,hx2⟩;have HX2:=hid_ hx2;clear hx2;go_wp2_with fail
    go_ret2;exact ⟨_,rfl,(HOW.out.ex HX2.out).isl,HEX.out.trans HX2.out⟩
end
end
section
open Go.RowKit
theorem MRows.other {w w':World} {base b2:Nat} {e2:TypeId} {s2 n:Nat} {cv pv pv':Value} {M:List (List Int)} {vals xs news:List Value} (h:MRows w base cv M vals) (ha:Appd w w' b2 e2 s2 pv pv' n xs news) (hc:Aprt cv pv) (hv:∀u∈vals,Aprt u pv):
  MRows w' base cv M vals∧Aprt cv pv'∧∀u∈vals,Aprt u pv':=by
 have hn:=h.len;have h0:=ha.row h.cvo hc;refine ⟨⟨h0.1,fun i r u h1 h2=> (ha.row (h.row i r u h1 h2) (hv u (List.mem_of_getElem? h2))).1,h.apart⟩,h0.2,fun u hu=> ?_⟩;obtain ⟨i,hi,e⟩:=List.getElem_of_mem hu;exact (ha.row (h.row i (M[i]'(by omega)) u (List.getElem?_eq_getElem _) (by rw [List.getElem?_eq_getElem hi,e])) (hv u hu)).2
structure ESt (w1 wr:World) (E b:Nat) (M:List (List Int)) (P:List Int) (rv pv:Value) (vals:List Value):Prop where
 c0:wr.cell? ⟨E,0,none⟩=some (.pointer (some ⟨b,0,none⟩))
 c1:wr.cell? ⟨E,1,none⟩=some rv
 c2:wr.cell? ⟨E,2,none⟩=some pv
 f1:wr.frozen? ⟨E,1,none⟩=false
 f2:wr.frozen? ⟨E,2,none⟩=false
 rows:MRows wr (E + 1) rv M vals
 plc:wr.ownsRow (E + 1) 3 1 pv P.length (ints P)
 ap:Aprt rv pv
 av:∀u∈vals,Aprt u pv
 lb:w1.heap.size≤E
 ex:Ex w1 wr
section
variable {w1 wr w':World} {E b:Nat} {M:List (List Int)} {P:List Int} {rv pv v' l:Value} {vals:List Value} {L:List Int} {x:Int}
theorem ESt.later (h:ESt w1 wr E b M P rv pv vals) (hx:Ex wr w'):ESt w1 w' E b M P rv pv vals:=
 ⟨hx.cell h.c0,hx.cell h.c1,hx.cell h.c2,hx.frz h.c1 h.f1,hx.frz h.c2 h.f2,h.rows.ex hx,ownsRow_ex h.plc hx,h.ap,h.av,h.lb,h.ex.trans hx⟩
theorem est_ne {w:World} {e:TypeId} {s n:Nat} {v:Value} {xs:List Value} (h:w.ownsRow (E + 1) e s v n xs):v.ownBlock≠some E:=fun e=> by
 have:=(h.lt E e).1;omega
theorem ESt.at1 (h:ESt w1 wr E b M P rv pv vals) (ha:Appd wr w' (E + 1) 22 1 rv v' M.length vals [l]):w'.cell? ⟨E,1,none⟩=some rv∧w'.frozen? ⟨E,1,none⟩=false:=
 ⟨ha.cell h.c1 (fun e=> est_ne h.rows.cvo e.symm),ha.frz h.c1 h.f1 (fun e=> est_ne h.rows.cvo e.symm)⟩
theorem ESt.app1 (h:ESt w1 wr E b M P rv pv vals) (hl:wr.ownsRow (E + 1) 3 1 l L.length (ints L)) (h1:Aprt l rv) (h2:Aprt l pv) (ha:Appd wr w' (E + 1) 22 1 rv v' M.length vals [l]):
  ESt w1 (w'.setCell ⟨E,1,none⟩ v') E b (M ++ [L]) P v' pv (vals ++ [l]):=by
 have hne:some E≠rv.ownBlock:=fun e=> est_ne h.rows.cvo e.symm;have hm:=h.rows.app hl h1 ha;have hr:=ha.row h.plc h.ap.symm;refine ⟨?_,World.cell?_setCell_same _ _ _ (ha.cell h.c1 hne),?_,?_,?_,hm.setNe (a:=⟨E,1,none⟩) (by show E < E + 1;omega) v',?_,hr.2.symm,?_,h.lb,(ha.ex h.ex (by have:=h.lb;omega)).setCell (p:=⟨E,1,none⟩) h.lb _⟩
 ·rw [cell_set_off (by decide)];exact ha.cell h.c0 hne
 ·rw [cell_set_off (by decide)];exact ha.cell h.c2 hne
 ·rw [efrz_set];exact ha.frz h.c1 h.f1 hne
 ·rw [efrz_set];exact ha.frz h.c2 h.f2 hne
 ·exact ownsRow_setCell_ne (a:=⟨E,1,none⟩) hr.1 (est_ne h.plc) v'
 ·intro u hu;rcases List.mem_append.1 hu with hu | hu
  ·exact h.av u hu
  ·simp at hu;subst hu;exact h2
theorem ESt.at2 (h:ESt w1 wr E b M P rv pv vals) (ha:Appd wr w' (E + 1) 3 1 pv v' P.length (ints P) [.int .i64 x]):w'.cell? ⟨E,2,none⟩=some pv∧w'.frozen? ⟨E,2,none⟩=false:=
 ⟨ha.cell h.c2 (fun e=> est_ne h.plc e.symm),ha.frz h.c2 h.f2 (fun e=> est_ne h.plc e.symm)⟩
theorem ESt.app2 (h:ESt w1 wr E b M P rv pv vals) (ha:Appd wr w' (E + 1) 3 1 pv v' P.length (ints P) [.int .i64 x]):
  ESt w1 (w'.setCell ⟨E,2,none⟩ v') E b M (P ++ [x]) rv v' vals:=by
 have hne:some E≠pv.ownBlock:=fun e=> est_ne h.plc e.symm;obtain ⟨hm,ha1,ha2⟩:=h.rows.other ha h.ap h.av;have ho:w'.ownsRow (E + 1) 3 1 v' (P ++ [x]).length (ints (P ++ [x])):=by
  have:=ha.own;rw [List.length_append,show ints (P ++ [x])=ints P ++ [.int .i64 x] from by unfold ints;simp];exact this
 refine ⟨?_,?_,World.cell?_setCell_same _ _ _ (ha.cell h.c2 hne),?_,?_,hm.setNe (a:=⟨E,2,none⟩) (by show E < E + 1;omega) v',ownsRow_setCell_ne (a:=⟨E,2,none⟩) ho (est_ne ho) v',ha1,ha2,h.lb,(ha.ex h.ex (by have:=h.lb;omega)).setCell (p:=⟨E,2,none⟩) h.lb _⟩
 ·rw [cell_set_off (by decide)];exact ha.cell h.c0 hne
 ·rw [cell_set_off (by decide)];exact ha.cell h.c1 hne
 ·rw [efrz_set];exact ha.frz h.c1 h.f1 hne
 ·rw [efrz_set];exact ha.frz h.c2 h.f2 hne
theorem ESt.at {t:Nat} {e:EcS} (h:ESt w1 wr E b (rowsL t e.n e.a) (il e.n fun i=> (e.pl i:Int)) rv pv vals):EchAt wr E b t e rv pv:=
 ⟨h.c0,h.c1,h.c2,h.rows.msl,Sl.own h.plc⟩
end
theorem ESt.new (w1:World) (b:Nat):ESt w1 (w1.alloc (.cells #[.pointer (some ⟨b,0,none⟩),.slice none 0 0,.slice none 0 0] 181)) w1.heap.size b [] [] (.slice none 0 0) (.slice none 0 0) [] where
 c0:=by simp
 c1:=by simp
 c2:=by simp
 f1:=by simp
 f2:=by simp
 rows:=MRows.nil _ _
 plc:=World.ownsRow_nil _ _ _ _
 ap:=Aprt.nil _
 av:=fun u h=> (List.not_mem_nil h).elim
 lb:=Nat.le_refl _
 ex:=(Ex.refl _).alloc _
theorem e_al (w:World) (o:Obj):Ex w (w.alloc o):=(Ex.refl w).alloc o
theorem e_appd {w w':World} {o:Obj} {base:Nat} {e:TypeId} {size:Nat} {v v':Value} {n:Nat} {xs news:List Value} (old:w.ownsRow base e size v n xs) (hown:w'.ownsRow base e size v' (n + 1) (xs ++ news))
  (hg:(w.alloc o).grownBy w' v.ownBlock) (ha:v'.ownBlock=v.ownBlock∨v'.ownBlock=some (w.alloc o).heap.size):Appd w w' base e size v v' n xs news:=
 ⟨hown,⟨o,hg⟩,by simpa using ha,old⟩
theorem spn_yes {p m:Nat} {ml:List Int} {t:Nat} {e:EcS} {r:Nat→Int} {k:Nat} (h:lzI t (e.red p m ml r)=k):
  rowsL t (spnS p m ml t e r).n (spnS p m ml t e r).a=rowsL t e.n e.a ++ [il t (sclF p m ml (ivz p m ml (kin (p ^ m) (e.red p m ml r k))) (e.red p m ml r))]∧(il (spnS p m ml t e r).n fun i=> ((spnS p m ml t e r).pl i:Int))=(il e.n fun i=> (e.pl i:Int)) ++ [(k:Int)]:=by
 unfold spnS;rw [if_pos (by omega),h];simp only [Int.toNat_natCast];constructor
 ·unfold rowsL;rw [List.range_succ,List.map_append]
  congr 1
  ·exact List.map_congr_left fun i hi=> by
    have:=List.mem_range.1 hi;rw [upd_ne _ _ (by omega)]
  ·simp [upd_same]
 ·unfold il;rw [List.range_succ,List.map_append]
  congr 1
  ·exact List.map_congr_left fun i hi=> by
    have:=List.mem_range.1 hi;rw [upd_ne _ _ (by omega)]
  ·simp [upd_same]
theorem spn_not {p m:Nat} {ml:List Int} {t:Nat} {e:EcS} {r:Nat→Int} (h:lzI t (e.red p m ml r)=-1):spnS p m ml t e r=e:=by
 unfold spnS;rw [if_neg (by omega)]
section
variable {b p m x0:Nat} {ml:List Int}
theorem span_any (w:World) (hg:GFat w b p m ml x0) (hx01:1≤x0) (hx02:x0 < p ^ m) (A:Nat) (hA:w.cell? ⟨A,0,none⟩=some (.pointer (some ⟨b,0,none⟩))) (t R:Nat) (ht:t≤1000) (hR:R≤1000) (a:Nat→Nat→Int) (v:Value) (hv:MSl w v (rowsL t R a)):
  Calls Tryz.prog 113 #[.pointer (some ⟨A,0,none⟩),v] w fun r w'=> ∃E rv pv,r= .returned (.pointer (some ⟨E,0,none⟩))∧EchAt w' E b t (spn p m ml t a R) rv pv∧Ex w w':=by
 obtain ⟨ra,rc,rfl,r1,r2,r3⟩:=hv.open;rw [rowsL_len] at r1 r3 ⊢;unfold maxLen at r2;have R3:=hid_ r3;have HA:=hid_ hA;have HG:=hid_ hg;have HIN:=hid_ (fun (w1:World) (h1:Ex w w1) (y:Int)=> Inv_any w1 (hg.ex h1) hx01 hx02 y);have HSC:=hid_ (fun (w1:World) (h1:Ex w w1) (c:Int) (f:Nat→Int) (uv:Value) (hu:ISl w1 uv (il t f))=> Scale_any w1 (hg.ex h1) t f c uv hu ht);have HRD:=hid_ (fun (w1:World) (h1:Ex w w1) (E:Nat) (e:EcS) (rv pv:Value) (hE:EchAt w1 E b t e rv pv) (hpl:∀i,i < e.n→e.pl i < t) (f:Nat→Int) (vv:Value) (hu:ISl w1 vv (il t f))=> reduce_any w1 (hg.ex h1) E t ht e rv pv hE hpl f vv hu);have HQ:=hid_ (show 1≤p ^ m from by omega);clear hv r3 hg;go_enter Tryz.func113,Tryz.ntmps113
 go_wp2_with fail
 obtain ⟨E,hE⟩:∃E,w.heap.size=E:=⟨_,rfl⟩;have HS0:=hid_ (ESt.new w b)
 try simp only [hE]
 rw [hE] at HS0;have HEW:=hid_ hE;generalize w.alloc (.cells #[.pointer (some ⟨b,0,none⟩),.slice none 0 0,.slice none 0 0] 181)=w2 at *;clear hE
 go_loopw [20] (fun i' wr=> ∃(k:Nat) (rv pv:Value) (vals:List Value),k≤R∧i'= .int .i64 k∧Hid (ESt w wr E b (rowsL t (spn p m ml t a k).n (spn p m ml t a k).a) (il (spn p m ml t a k).n fun i=> ((spn p m ml t a k).pl i:Int)) rv pv vals)) (fun i' _=> R - (intOf i').toNat)
 case atStart=> exact ⟨0,_,_,_,by omega,rfl,HS0⟩
 case round=>
  clear HS0;obtain ⟨k,rv,pv,vals,hk,rfl,hst⟩:=hrel;by_cases hkR:k < R
  ·obtain ⟨rb,ro,rfl,hrc⟩:=R3.out (by omega);obtain ⟨uv,huc,hui⟩:=hrc k _ (rowsL_get hkR);have cu:=hst.out.ex.cell huc;have i1:(0:Int)≤(k:Int):=by omega
   have i2:(k:Int) < (R:Int):=by omega
   have HST:=hid_ hst.out;have HSX:=hid_ (show spn p m ml t a (k + 1)=spnS p m ml t (spn p m ml t a k) (a k) from rfl);have HNK:=hid_ (spn_n (p:=p) (m:=m) (ml:=ml) t a k);have HRE:=hid_ (HRD.out wr hst.out.ex E (spn p m ml t a k) rv pv hst.out.at (spn_lt t a k) (a k) uv (hui.ex hst.out.ex));obtain ⟨e,he⟩:∃e,spn p m ml t a k=e:=⟨_,rfl⟩;rw [he] at HST HSX HRE HNK;obtain ⟨z,hz⟩:∃z,lzI t (e.red p m ml (a k))=z:=⟨_,rfl⟩;have hzl:=lzI_lt t (e.red p m ml (a k));rw [hz] at HRE hzl;have HYES:=hid_ (fun k' (h:z=(k':Nat))=> spn_yes (p:=p) (m:=m) (ml:=ml) (t:=t) (e:=e) (r:=a k) (hz.trans h));have HNO:=hid_ (fun (h:z=-1)=> spn_not (p:=p) (m:=m) (ml:=ml) (t:=t) (e:=e) (r:=a k) (hz.trans h));obtain ⟨f,hf⟩:∃f,e.red p m ml (a k)=f:=⟨_,rfl⟩;rw [hf] at HRE HYES;rw [←HSX.out] at HYES HNO;clear hrc huc hui hst he hz hf HSX;go_wp2_with fail
   refine HRE.out.mono ?_;rintro e' w3 ⟨v3,rfl,hv3,hx3⟩;have HV3:=hid_ hv3;have HX3:=hid_ hx3;clear hx3 HRE;obtain ⟨va,vc,rfl,-,v2,v3⟩:=hv3.open;rw [il_len] at v3 HV3 ⊢;clear hv3;by_cases hz0:0≤z
   ·obtain ⟨k',rfl⟩:=Int.eq_ofNat_of_zero_le hz0;have hkt:k' < t:=by omega
    obtain ⟨hy1,hy2⟩:=HYES.out k' rfl;obtain ⟨vb,vo,rfl,hvc⟩:=v3 (by omega);have cv:=hvc k' _ (il_get hkt f);have hb0:decide ((0:Int)≤(k':Int))=true:=by simp
    have ca:=(HST.out.ex.trans HX3.out).cell HA.out;have j1:(0:Int)≤(k':Int):=by omega
    have j2:(k':Int) < (t:Int):=by omega
    have HIX:=hid_ (fun (w1:World) (h1:Ex w w1)=> HIN.out w1 h1 (f k'));obtain ⟨IV,hIV,hIVl⟩:∃c:Nat,(∃e2,invR p m ml (kin (p ^ m) (f k'))= .tuple #[.int .i64 (c:Nat),e2])∧kin (p ^ m) (c:Int)=ivz p m ml (kin (p ^ m) (f k')):=by
     unfold invR ivz;by_cases h0:kin (p ^ m) (f k')=0
     ·rw [if_pos h0,if_pos h0];exact ⟨0,⟨_,rfl⟩,kin_zero _⟩
     ·rw [if_neg h0,if_neg h0];exact ⟨_,⟨_,rfl⟩,kin_of (kinv_lt HQ.out _)⟩
    obtain ⟨e2,hIV⟩:=hIV;rw [hIV] at HIX;have HY1:=hid_ hy1;have HY2:=hid_ hy2;rw [←hIVl] at HY1;have HST3:=hid_ (HST.out.later HX3.out);have HCA:=hid_ ca;have HCV:=hid_ cv;clear hz0 hIV hIVl v3 hvc hzl hy1 hy2 HYES HNO HST HX3;go_wp2_with fail
    go_region_held3 (fun w'=> w'.cell? ⟨A,0,none⟩=some (.pointer (some ⟨b,0,none⟩))∧w'.cell? ⟨vb,vo + k',none⟩=some (.int .i64 (f k')))
     (first | exact ⟨HCA.out,HCV.out⟩)
     (first | (go_at_call 52;(with_reducible refine (HIX.out _ HST3.out.ex.drew).mono ?_);rintro e w4 ⟨rfl,n4,rfl⟩))
    obtain ⟨w4,hw4⟩:∃w4,w3.drewN (1 + n4)=w4:=⟨_,rfl⟩;have HX34:=hid_ (show Ex w3 w4 from by rw [←hw4];exact (Ex.refl w3).drewN _)
    try simp only [hw4]
    clear hw4 ca cv HIX;have HST4:=hid_ (HST3.out.later HX34.out);have HV4:=hid_ (HV3.out.ex HX34.out);have ca:=(HST4.out.ex).cell HA.out;have t1:=HST4.out.c1;have T1F:=hid_ HST4.out.f1;obtain ⟨qa,qc,hqv⟩:=own_shape HST4.out.rows.cvo;subst hqv;have HSX:=hid_ (fun (w1:World) (h1:Ex w4 w1)=> HSC.out w1 (HST4.out.ex.trans h1) (IV:Int) f _ (by
     have:=HV4.out.ex h1;exact this))
    have G0:Ex w4 w4.drew:=(Ex.refl w4).drew;have hnl:(rowsL t e.n e.a).length=e.n:=rowsL_len _ _ _;rw [hnl] at t1;have HNL:=hid_ hnl;have HNK':=hid_ (show e.n≤k from HNK.out);have HTT:=hid_ t1;clear HST3 HV3 hnl;go_upto_region 8 with fail
    go_cut [10] from 44 to 70 (fun s10 wx=> ∃qa' qc' vals',Hid (ESt w wx E b (rowsL t e.n e.a ++ [il t (sclF p m ml (kin (p ^ m) (IV:Int)) f)]) (il e.n fun i=> (e.pl i:Int)) (.slice qa' (e.n + 1) qc') pv vals'))
    case first=>
     have HXG:=hid_ G0
     go_region_law
      ((first
              | (refine step_append_sl (by rfl) _ _ _ (by rfl) (E + 1) 22 (.slice none 0 0) 1 24 Tryz.underlying45 infoIntsL rfl (by decide) (.slice qa e.n qc) e.n vals (by rfl) (by have h:=ownsRow_ex HST4.out.rows.cvo ((HXG.out.trans hx5).trans (e_al w5 (.cells #[.slice (some ⟨g5,0,none⟩) t t] 22)));rw [HNL.out] at h;exact h) _ 1 [.slice (some ⟨g5,0,none⟩) t t] (by rfl) (Sl.own (own_lit1 w5 (.slice (some ⟨g5,0,none⟩) t t) 22)) (by simp [Value.oneCell']) (by have:=HNK'.out;unfold maxLen;omega) (by have:=HNK'.out;omega) (by have:=HS5.out;simp;omega) ?_;intro v8 w8 hown8 hg8 ha8;have HAP:=hid_ (e_appd (by have h:=ownsRow_ex HST4.out.rows.cvo (HXG.out.trans hx5);rw [HNL.out] at h;exact h) hown8 hg8 ha8);obtain ⟨t1y,t2y⟩:=(HST4.out.later (HXG.out.trans hx5)).at1 (by rw [HNL.out];exact HAP.out);rw [HNL.out] at t1y;obtain ⟨va8,vc8,hv8⟩:=own_shape hown8;subst hv8)
              | (go_simp;refine (HSX.out _ HXG.out).mono ?_;rintro e w5 ⟨g5,rfl,ho5,hx5⟩;have t1:=hx5.cell (show w4.drew.cell? ⟨E,1,none⟩=some (.slice qa e.n qc) from HTT.out);have t1x:=(e_al w5 (.cells #[.slice (some ⟨g5,0,none⟩) t t] 22)).cell t1;have HS5:=hid_ (show E + 1≤w5.heap.size from by have h1:=ho5.lt;have h2:=World.block_lt_of_cell? _ _ t1;exact h2);go_simp)))
     all_goals
      have hx5':=HXG.out.trans hx5;have HS5':=HST4.out.later hx5';have hl5:w5.ownsRow (E + 1) 3 1 (.slice (some ⟨g5,0,none⟩) t t) (il t (sclF p m ml (kin (p ^ m) (IV:Int)) f)).length (ints (il t (sclF p m ml (kin (p ^ m) (IV:Int)) f))):=by
       rw [il_len,ints_il];exact ownsRow_mono ho5 (World.block_lt_of_cell? _ _ (HXG.out.cell HTT.out))
      have ha1:∀v2 (e2:TypeId) (n2:Nat) xs2,w4.ownsRow (E + 1) e2 1 v2 n2 xs2→Aprt (.slice (some ⟨g5,0,none⟩) t t) v2:=fun v2 e2 n2 xs2 h=> by
       right;show some g5≠_
       intro e;have h1:=(h.lt g5 e.symm).2;have h2:=ho5.lt.1;have h3:=HXG.out.size;omega
      have HS8:=hid_ (HS5'.app1 hl5 (ha1 _ _ _ _ HST4.out.rows.cvo) (ha1 _ _ _ _ HST4.out.plc) (by rw [HNL.out];exact HAP.out));clear HS5' hl5 ha1 hx5' t1y t2y t1 t1x HAP hown8 hg8 ha8 ho5 hx5 HSX;go_wp2_with fail
      go_meet
      exact ⟨_,_,_,HS8⟩
    case rest=>
     obtain ⟨qa',qc',vals',hc⟩:=hcut;have t2:=hc.out.c2;have T2F:=hid_ hc.out.f2;obtain ⟨pa,pc,hpv⟩:=own_shape hc.out.plc;subst hpv;rw [il_len] at t2;have HSZ:=hid_ (show E + 1≤wc.heap.size from World.block_lt_of_cell? _ _ t2);have HC:=hid_ hc.out;have HIL:=hid_ (il_len e.n fun i=> (e.pl i:Int));have HOP:=hid_ (show wc.ownsRow (E + 1) 3 1 (.slice pa e.n pc) e.n (ints (il e.n fun i=> (e.pl i:Int))) from by
      have h:=hc.out.plc;rw [il_len] at h;exact h)
     clear hc t1 ca G0 HTT HSX HST4;go_wp2_with (at_builtin;refine wpList_append1 _ rfl _ _ 22 rfl (E + 1) 3 (.int .i64 0) 1 8 Tryz.underlying22 infoInt rfl (by decide) _ e.n _ rfl HOP.out [.int .i64 k'] 3 _ rfl (by simp) rfl (by simp [Value.oneCell']) (by have:=HNK'.out;unfold maxLen;omega) (by have:=HNK'.out;omega) HSZ.out ?_)
     intro v8 w8 happ;have happ':Appd wc w8 (E + 1) 3 1 (.slice pa (il e.n fun i=> (e.pl i:Int)).length pc) v8 (il e.n fun i=> (e.pl i:Int)).length (ints (il e.n fun i=> (e.pl i:Int))) [.int .i64 k']:=by
      rw [HIL.out];exact happ
     obtain ⟨t2y,t3y⟩:=HC.out.at2 happ';rw [HIL.out] at t2y;have HS9:=hid_ (HC.out.app2 happ');rw [←HY1.out,←HY2.out] at HS9;obtain ⟨va8,vc8,hv8⟩:=own_shape happ.own;subst hv8;clear happ happ' HC HOP;go_wp2_with fail
     go_roundw
     case rel=> first | exact ⟨k + 1,_,_,_,by omega,by go_num,HS9⟩ | ((repeat apply Exists.intro);exact ⟨⟨k + 1,_,_,_,by omega,by go_num,HS9⟩,rfl⟩)
     case measure=> simp [intOf];omega
   ·have hz1:z=-1:=by omega
    have hb0:decide ((0:Int)≤z)=false:=by simp;omega
    have hno:=HNO.out hz1;have HST3:=hid_ (HST.out.later HX3.out);rw [←hno] at HST3;clear hz0 hz1 hzl hno HYES HNO HST HX3 v3;go_wp2_with fail
    go_roundw
    case rel=> exact ⟨k + 1,_,_,_,by omega,by go_num,HST3⟩
    case measure=> simp [intOf];omega
  ·obtain rfl:k=R:=by omega
   go_wp2_with fail
   go_ret;exact ⟨E,rv,pv,rfl,hst.out.at,hst.out.ex⟩
end
end
end Go.Proofs.YtgdmlmhpineibaaGreat
