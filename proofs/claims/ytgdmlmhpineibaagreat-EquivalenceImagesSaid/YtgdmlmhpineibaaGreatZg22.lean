/- Walks of the reference's Eliminate and Canon (printed by gen_elim.py). -/
import Derived.Deep.CutRange
import Derived.Test.YtgdmlmhpineibaaGreatZg08
import Derived.Test.YtgdmlmhpineibaaGreatZg18
import Derived.Test.YtgdmlmhpineibaaGreatZg19
import Derived.Test.YtgdmlmhpineibaaGreatZg21
namespace Go.Proofs.YtgdmlmhpineibaaGreat
set_option linter.unusedVariables false
set_option linter.unusedSimpArgs false
set_option maxRecDepth 100000
set_option maxHeartbeats 16000000
open Go.RowKit
theorem rElim_any {p m:Nat} {ml:List Int} {mv:Value} (w:World) (hf:FSh p m ml) (hF:IsF p m (lw ml)) (hmv:ISl w mv ml) (N R:Nat) (hN:N≤256) (hR:R≤256) (a:Nat→Nat→Int) (hrng:Rng p m R N a) (v:Value) (hv:MSl w v (rowsL N R a)):
  Calls Tryz.prog 156 #[.agg #[.int .i64 p,.int .i64 m,mv],v,.int .i64 N] w fun r w'=> (∃piv pa pc la lc a',r= .returned (.tuple #[.slice la R lc,.slice pa piv.length pc])∧ElO p m ml N R a a' piv∧ISl w' (.slice pa piv.length pc) (pI piv)∧R≤lc∧∀k,k≤R→MSlF w.heap.size w' (.slice la k lc) (rowsL N k a'))∧Ex w w':=by
 obtain ⟨a0,a1,a2,ea,asz⟩:=box_facts w p m mv;have p2:=hf.p2;have m1:=hf.m1;have hq0:0 < p ^ m:=Nat.pow_pos (by omega);have HCP:=hid_ (rCopy_any _ (rowsL N R a) v (hv.ex ea) (by rw [rowsL_len];omega) (fun r hr=> by
  unfold rowsL at hr;obtain ⟨i,_,rfl⟩:=List.mem_map.1 hr;rw [il_len];omega))
 obtain ⟨va,vc,hve,v1,v2,-⟩:=hv.open;rw [rowsL_len] at hve v1;subst hve;have HF:=hid_ (And.intro hf hF);have HMV:=hid_ hmv;have HRG:=hid_ hrng;have HE0:=hid_ ea;obtain ⟨ma,mc,rfl,-,-,-⟩:=hmv.open;obtain ⟨B,hB⟩:∃B,w.heap.size=B:=⟨_,rfl⟩;rw [hB] at a0 a1 a2 asz;clear hf hF hmv hv hrng ea;go_enter Tryz.func156,Tryz.ntmps156
 go_wp2_with fail
 try simp only [hB]
 have HBW:=hid_ hB;clear hB;generalize w.alloc (.cells #[.int .i64 p,.int .i64 m,.slice ma ml.length mc] 24)=w1 at *;have A0:=hid_ a0;have A1:=hid_ a1;have A2:=hid_ a2;clear a0 a1 a2;refine HCP.out.mono ?_;rintro e w2 ⟨cv,vl,rfl,hm,hx2⟩;have HX2:=hid_ hx2;have HM:=hid_ hm;clear hx2 hm HCP;by_cases hR0:R=0
 ·subst hR0;obtain ⟨ca,cc,hcv⟩:=own_shape HM.out.cvo;subst hcv;have HLC:=hid_ (show MSl w2 (.slice ca 0 cc) (rowsL N 0 a) from by have:=HM.out.msl;exact this);obtain ⟨_,c9,e9,l9,l8,-⟩:=HLC.out.open;have HC9:=hid_ (show cc≤maxLen from by injection e9 with _ _ h3;rw [h3];exact l8);have HEL:=hid_ (show ElO p m ml N 0 a a [] from ⟨0,by omega,PV.init HRG.out,.inl rfl,fun x=> Iff.rfl⟩);have hl0:(rowsL N 0 a).length=0:=rowsL_len N 0 a;rw [hl0];clear e9 l9 l8 hl0;go_wp2_with fail
  go_loop [9,10,11] (fun pv at' c'=> pv= .slice none 0 0∧at'= .int .i64 ((0:Nat):Int)∧∃c:Nat,c≤N∧c'= .int .i64 c) (fun _ _ c'=> N - (intOf c').toNat)
  case atStart=> exact ⟨rfl,rfl,0,by omega,rfl⟩
  case round=>
   obtain ⟨rfl,rfl,c,hc,rfl⟩:=hrel;by_cases hcN:c < N
   ·have k1:decide ((0:Nat) < 0)=false:=by simp
    go_wp2_with fail
    go_ret2;exact ⟨⟨[],none,0,ca,cc,rfl,a,HEL.out,isl_nil _,MSlF.nil HC9.out⟩,HE0.out.trans HX2.out⟩
   ·have k1:decide (c < N)=false:=by simpa using hcN
    go_wp2_with fail
    go_ret2;exact ⟨⟨[],none,0,ca,cc,rfl,a,HEL.out,isl_nil _,MSlF.nil HC9.out⟩,HE0.out.trans HX2.out⟩
 ·obtain ⟨g,cap,hcv,hem⟩:=EMR.of HM.out (by omega);subst hcv;obtain ⟨base,hbase⟩:∃b,w1.heap.size=b:=⟨_,rfl⟩;rw [hbase] at hem;have HER:=hid_ (show ERS w1 w2 base g R N cap (fun i=> vl.getD i undef) a [] (.slice none 0 0) from ⟨hem,World.ownsRow_nil _ _ _ _,by simp [Value.ownBlock],fun i hi=> (Aprt.nil _).symm,by omega,HX2.out⟩);have HPV:=hid_ (show PV p m R N a [] 0 from PV.init HRG.out);have HSO:=hid_ (show ∀x,Sol p m ml N R a x↔Sol p m ml N R a x from fun x=> Iff.rfl);have HX1:=hid_ (Ex.refl w1);clear hem HM;go_wp2_with fail
  go_loopw [9,10,11] (fun pv at' c' wr=> ∃(c:Nat) (piv:List Nat) (vals:Nat→Value) (a1:Nat→Nat→Int),c≤N∧c'= .int .i64 c∧at'= .int .i64 piv.length∧Hid (ERS w1 wr base g R N cap vals a1 piv pv)∧Hid (PV p m R N a1 piv c)∧Hid (∀x,Sol p m ml N R a1 x↔Sol p m ml N R a x)) (fun _ _ c' _=> N - (intOf c').toNat)
  case atStart=> exact ⟨0, [],_,a,by omega,rfl,rfl,HER,HPV,hid_ (fun x=> Iff.rfl)⟩
  case round=>
   clear HER HPV HSO;obtain ⟨c,piv,vals,a1,hc,rfl,rfl,her,hpv,hsol⟩:=hrel;obtain ⟨pa,pc,hpve⟩:=own_shape her.out.po;subst hpve;have hple:=hpv.out.le;obtain ⟨cp1,cp2⟩:=her.out.em.o.caps;unfold maxLen at cp2;have HRES:=hid_ (show (piv.length=R∨c=N)→(∃piv' pa' pc' la lc a',Ending.returned (.tuple #[.slice (some ⟨g,0,none⟩) R cap,.slice pa piv.length pc])= .returned (.tuple #[.slice la R lc,.slice pa' piv'.length pc'])∧ElO p m ml N R a a' piv'∧ISl wr (.slice pa' piv'.length pc') (pI piv')∧R≤lc∧∀k,k≤R→MSlF w.heap.size wr (.slice la k lc) (rowsL N k a'))∧Ex w wr from fun h=> ⟨⟨piv,pa,pc,_,cap,a1,rfl,⟨c,hc,hpv.out,h,hsol.out⟩,by
    have:=Sl.own her.out.po;unfold ISl;rw [pI_len];exact this,cp1,fun k hk=> her.out.em.mslF (by have h1:=her.out.hb;have h2:=HE0.out.size;omega) hk⟩,HE0.out.trans her.out.ex⟩)
   obtain ⟨s,hs⟩:∃s,piv.length=s:=⟨_,rfl⟩;by_cases hcN:c < N
   ·by_cases hsR:s < R
    ·have k1:decide (s < R)=true:=by simpa using hsR
     have HS:=hid_ hs;have HER:=hid_ (show ERS w1 wr base g R N cap vals a1 piv (.slice pa s pc) from by rw [←hs];exact her.out);rw [hs];clear hs hple HRES;have HPV:=hid_ hpv.out;have HSO:=hid_ hsol.out;clear her hpv hsol;go_wp2_with fail
     go_loop [12] (fun k'=> ∃(k:Nat),s≤k∧k≤R∧k'= .int .i64 k∧Hid (∀j,s≤j→j < k→a1 j c=0)) (fun k'=> R - (intOf k').toNat)
     case atStart=> exact ⟨s,by omega,by omega,rfl,hid_ (fun j h1 h2=> by omega)⟩
     case round=>
      obtain ⟨k,hk1,hk2,rfl,hz⟩:=hrel;by_cases hkR:k < R
      ·obtain ⟨gk,ck,hvk,hck,k3,k4⟩:=HER.out.em.at (by omega) hkR hcN;have ckv:=HER.out.em.o.cell hkR;rw [hvk] at ckv;unfold maxLen at k4;obtain ⟨y,hy⟩:∃y,a1 k c=y:=⟨_,rfl⟩;rw [hy] at hck;have i1:(0:Int)≤(k:Int):=by omega
       have i2:(k:Int) < (R:Int):=by omega
       have i3:(0:Int)≤(c:Int):=by omega
       have i4:(c:Int) < (N:Int):=by omega
       have b1:decide (k < R)=true:=by simpa using hkR
       by_cases hy0:y=0
       ·subst hy0;have HZ:=hid_ (show ∀j,s≤j→j < k + 1→a1 j c=0 from fun j h1 h2=> by
         by_cases e:j=k
         ·subst e;exact hy
         ·exact hz.out j h1 (by omega))
        clear hy;go_wp2_with fail
        go_round
        case rel=> exact ⟨k + 1,by omega,by omega,by go_num,HZ⟩
        case measure=> simp [intOf];omega
       ·have kb:(y==0)=false:=by simpa using hy0
        have HY:=hid_ (And.intro hy hy0);have b2:((k:Int)==(R:Int))=false:=by simp;omega
        have b3:(k==R)=false:=by simp;omega
        have HKR:=hid_ (show s < R∧k < R∧s≤k from ⟨hsR,hkR,hk1⟩);have HVK:=hid_ hvk;clear hy hy0 hvk k3 k4;have cs1:=HER.out.em.o.cell hsR;have fs1:=HER.out.em.o.frz s;have fk1:=HER.out.em.o.frz k;have j1:(0:Int)≤(s:Int):=by omega
        have j2:(s:Int) < (R:Int):=by omega
        have HSW:=hid_ ((HER.out.swp hsR hkR).later (Ex.refl _).drew);rw [HVK.out] at HSW;go_upto_region 11 with fail
        clear hck
        go_cut [48] from 48 to 61 (fun _ wx=> ∃vals2,Hid (ERS w1 wx base g R N cap vals2 (swpA a1 s k) piv (.slice pa s pc)))
        case first=>
         by_cases hsk:s=k
         ·subst hsk;rw [HVK.out] at HSW;clear cs1 fk1
          go_region
          all_goals go_wp2_with fail
          all_goals go_meet
          all_goals exact ⟨_,HSW⟩
         ·obtain ⟨gs,cs,hvs,-⟩:=HER.out.em.at (by omega) hsR hcN;rw [hvs] at cs1 HSW;have n1:¬s=k:=hsk;have n2:¬k=s:=fun e=> hsk e.symm;clear hvs
          go_region
          all_goals go_wp2_with fail
          all_goals go_meet
          all_goals exact ⟨_,HSW⟩
        case rest=>
         obtain ⟨vals2,her2⟩:=hcut;have HER:=hid_ her2.out;have HPV:=hid_ (show PV p m R N (swpA a1 s k) piv c from by have:=HPV.out.swp (k:=k) (by rw [HS.out];exact hk1) hkR;rw [HS.out] at this;exact this);have HSO:=hid_ (show ∀x,Sol p m ml N R (swpA a1 s k) x↔Sol p m ml N R a x from fun x=> (Sol.swp hsR hkR).trans (HSO.out x));have HAK:=hid_ (show swpA a1 s k s c=a1 k c from by unfold swpA;rw [if_pos rfl]);clear her2 HSW cs1 fs1 fk1 ckv i1 i2;obtain ⟨a2,ha2⟩:∃a2,swpA a1 s k=a2:=⟨_,rfl⟩;rw [ha2] at HER HPV HSO HAK;clear ha2;obtain ⟨gs,cs,hvs,hcs,k3,k4⟩:=HER.out.em.at (by omega) hsR hcN;have csv:=HER.out.em.o.cell hsR;rw [hvs] at csv;unfold maxLen at k4;have CS1:=hid_ csv;rw [HAK.out,HY.out.1] at hcs;have CS2:=hid_ hcs;have hy:=HPV.out.rng s hsR c hcN;rw [HAK.out,HY.out.1] at hy;obtain ⟨yn,rfl⟩:∃yn:Nat,y=yn:=⟨y.toNat,by omega⟩;have hyn:yn < p ^ m:=by omega
         have hyn0:1≤yn:=by have:=HY.out.2;omega
         have HSI:=hid_ (show (0:Int)≤(s:Int)∧(s:Int) < (R:Int)∧(0:Int)≤(c:Int)∧(c:Int) < (N:Int)∧s < R from ⟨by omega,by omega,by omega,by omega,hsR⟩);have HIV:=hid_ (fun (w':World) (h:Ex wc w')=> by
          have:=rInv_any (mv:= .slice ma ml.length mc) w' HF.out.1 (HMV.out.ex (HE0.out.trans (HER.out.ex.trans h))) (yn:Int);rw [kin_of hyn] at this;exact this)
         have hkv:=kinv_mul p2 m1 HF.out.2 hyn0 hyn;have hkl:=kinv_lt (ml:=ml) hq0 yn;obtain ⟨z,hz0⟩:∃z,kinv p m ml yn=z:=⟨_,rfl⟩;rw [hz0] at HIV hkv hkl;have HSC:=hid_ (fun (w':World) (h:Ex wc w')=> by
          have:=rScl_any w' p m ml (.slice ma ml.length mc) HF.out.1 (HMV.out.ex (HE0.out.trans (HER.out.ex.trans h))) (z:Int) N (by omega) (a2 s) _ ((HER.out.em.isl hsR).ex h);rw [kin_of hkl,hvs] at this;exact this)
         have hz1:1≤z:=by
          rcases Nat.eq_zero_or_pos z with e | e
          ·subst e;rw [kmul_zero_r (by omega)] at hkv;omega
          ·omega
         have HX1:=hid_ HER.out.ex;have HZ1:=hid_ (show ∀f:Nat→Int,f c=(yn:Int)→sclF p m ml z f c=1 from fun f hf=> by
          unfold sclF;rw [hf,kin_of hyn,kmul_comm,hkv];rfl)
         have HZR:=hid_ (And.intro hz1 hkl);have HA2:=hid_ (show a2 s c=(yn:Int) from by rw [HAK.out,HY.out.1]);clear hkv hz0 hvs k3 k4 hy hz hk1 hk2 hkR hz1 hkl HAK HY;go_upto_if 69 with fail
         go_cut [70] from 69 to 87 (fun _ wx=> ∃vals3 a3,Hid (ERS w1 wx base g R N cap vals3 a3 piv (.slice pa s pc))∧Hid (PV p m R N a3 piv c)∧Hid (∀x,Sol p m ml N R a3 x↔Sol p m ml N R a x)∧Hid (a3 s c=1))
         case first=>
          by_cases hy1:yn=1
          ·have kb:((yn:Int) !=1)=false:=by simp [hy1]
           subst hy1;have HA3:=hid_ (show a2 s c=1 from HA2.out);go_wp2_with fail
           go_meet
           exact ⟨_,a2,HER,HPV,HSO,HA3⟩
          ·have kb:((yn:Int) !=1)=true:=by simp;omega
           have hy2:¬((yn:Int)=1):=by omega
           clear hy1;go_upto_region 13 with fail
           refine wp_region_fs (fun k=> ([.slice (some ⟨g,0,none⟩) R cap,.int .i64 (s:Int),.agg #[.int .i64 (p:Int),.int .i64 (m:Int),.slice ma ml.length mc],.agg #[.int .i64 (p:Int),.int .i64 (m:Int),.slice ma ml.length mc],.slice (some ⟨g,0,none⟩) R cap,.int .i64 (s:Int),.pointer (some ⟨g,s,none⟩),.slice (some ⟨gs,0,none⟩) N cs,.int .i64 (c:Int),.pointer (some ⟨gs,c,none⟩),.int .i64 (yn:Int),.int .i64 (z:Int),.slice (some ⟨g,0,none⟩) R cap,.int .i64 (s:Int),.pointer (some ⟨g,s,none⟩),.slice (some ⟨gs,0,none⟩) N cs,undef,.pointer (some ⟨g,s,none⟩)]:List Value).getD k undef) 16 18 (fun v w'=> ∃g7,v= .slice (some ⟨g7,0,none⟩) N N∧Own w' wc.heap.size 3 g7 N (iv (sclF p m ml z (a2 s)))) (fun v w'=> ∃vals3,Hid (ERS w1 w' base g R N cap vals3 (upd a2 s (sclF p m ml z (a2 s))) piv (.slice pa s pc))) (fun v wa wb ⟨g7,h1,h2⟩ hx=> ⟨g7,h1,h2.ex hx⟩) (by kernel_rfl) (by kernel_rfl) (by kernel_rfl) ?_ (fun v k=> ([.slice (some ⟨g,0,none⟩) R cap,.int .i64 (s:Int),.agg #[.int .i64 (p:Int),.int .i64 (m:Int),.slice ma ml.length mc],.agg #[.int .i64 (p:Int),.int .i64 (m:Int),.slice ma ml.length mc],.slice (some ⟨g,0,none⟩) R cap,.int .i64 (s:Int),.pointer (some ⟨g,s,none⟩),.slice (some ⟨gs,0,none⟩) N cs,.int .i64 (c:Int),.pointer (some ⟨gs,c,none⟩),.int .i64 (yn:Int),.int .i64 (z:Int),.slice (some ⟨g,0,none⟩) R cap,.int .i64 (s:Int),.pointer (some ⟨g,s,none⟩),.slice (some ⟨gs,0,none⟩) N cs,v,.pointer (some ⟨g,s,none⟩)]:List Value).getD k undef) (fun _=> rfl) ?_
           ·simp only [StepAll];refine ⟨?_,?_,?_,?_,?_,?_,?_,?_,?_,?_,?_,?_,?_,?_,?_,?_,?_,?_,?_,trivial⟩
            ·intro L a w hin hout hd hx K;rw [if_neg (by decide),if_neg (by decide)];intro hK;have e8:a.tmps[8]?=some (.slice (some ⟨g,0,none⟩) R cap):=hout 8 (by kernel_rfl);clear hin hout hd;go_simp;exact hK _ (Ex.refl w)
            ·intro L a w hin hout hd hx K;rw [if_neg (by decide),if_neg (by decide)];intro hK;have e10:a.tmps[10]?=some (.int .i64 (s:Int)):=hout 10 (by kernel_rfl);clear hin hout hd;go_simp;exact hK _ (Ex.refl w)
            ·intro L a w hin hout hd hx K;rw [if_neg (by decide),if_neg (by decide)];intro hK;have e3:a.tmps[3]?=some (.pointer (some ⟨B,0,none⟩)):=hout 3 (by kernel_rfl);have q1:=(HX1.out.trans hx).cell A0.out;have q2:=(HX1.out.trans hx).cell A1.out;have q3:=(HX1.out.trans hx).cell A2.out;clear hin hout hd;go_simp;exact hK _ (Ex.refl w)
            ·intro L a w hin hout hd hx K;rw [if_neg (by decide),if_neg (by decide)];intro hK;have e3:a.tmps[3]?=some (.pointer (some ⟨B,0,none⟩)):=hout 3 (by kernel_rfl);have q1:=(HX1.out.trans hx).cell A0.out;have q2:=(HX1.out.trans hx).cell A1.out;have q3:=(HX1.out.trans hx).cell A2.out;clear hin hout hd;go_simp;exact hK _ (Ex.refl w)
            ·intro L a w hin hout hd hx K;rw [if_neg (by decide),if_neg (by decide)];intro hK;have e8:a.tmps[8]?=some (.slice (some ⟨g,0,none⟩) R cap):=hout 8 (by kernel_rfl);clear hin hout hd;go_simp;exact hK _ (Ex.refl w)
            ·intro L a w hin hout hd hx K;rw [if_neg (by decide),if_neg (by decide)];intro hK;have e10:a.tmps[10]?=some (.int .i64 (s:Int)):=hout 10 (by kernel_rfl);clear hin hout hd;go_simp;exact hK _ (Ex.refl w)
            ·intro L a w hin hout hd hx K;rw [if_neg (by decide),if_neg (by decide)];intro hK;have e74:=hin 4 74 _ (hd ⟨4,.data⟩ (by simp) rfl) (by decide) (by decide) rfl rfl;have e75:=hin 5 75 _ (hd ⟨5,.data⟩ (by simp) rfl) (by decide) (by decide) rfl rfl;have q1:=HSI.out.1;have q2:=HSI.out.2.1;clear hin hout hd;go_simp;exact hK _ (Ex.refl w)
            ·intro L a w hin hout hd hx K;rw [if_neg (by decide),if_neg (by decide)];intro hK;have e76:=hin 6 76 _ (hd ⟨6,.data⟩ (by simp) rfl) (by decide) (by decide) rfl rfl;have q1:=hx.cell CS1.out;clear hin hout hd;go_simp;exact hK _ (Ex.refl w)
            ·intro L a w hin hout hd hx K;rw [if_neg (by decide),if_neg (by decide)];intro hK;have e11:a.tmps[11]?=some (.int .i64 (c:Int)):=hout 11 (by kernel_rfl);clear hin hout hd;go_simp;exact hK _ (Ex.refl w)
            ·intro L a w hin hout hd hx K;rw [if_neg (by decide),if_neg (by decide)];intro hK;have e77:=hin 7 77 _ (hd ⟨7,.data⟩ (by simp) rfl) (by decide) (by decide) rfl rfl;have e78:=hin 8 78 _ (hd ⟨8,.data⟩ (by simp) rfl) (by decide) (by decide) rfl rfl;have q1:=HSI.out.2.2.1;have q2:=HSI.out.2.2.2;clear hin hout hd;go_simp;exact hK _ (Ex.refl w)
            ·intro L a w hin hout hd hx K;rw [if_neg (by decide),if_neg (by decide)];intro hK;have e79:=hin 9 79 _ (hd ⟨9,.data⟩ (by simp) rfl) (by decide) (by decide) rfl rfl;have q1:=hx.cell CS2.out;clear hin hout hd;go_simp;exact hK _ (Ex.refl w)
            ·intro L a w hin hout hd hx K;rw [if_neg (by decide),if_neg (by decide)];intro hK;have e73:=hin 3 73 _ (hd ⟨3,.data⟩ (by simp) rfl) (by decide) (by decide) rfl rfl;have e80:=hin 10 80 _ (hd ⟨10,.data⟩ (by simp) rfl) (by decide) (by decide) rfl rfl;clear hin hout hd;go_simp;refine (HIV.out w hx).mono ?_;rintro e w' ⟨rfl,h5⟩;exact hK _ h5
            ·intro L a w hin hout hd hx K;rw [if_neg (by decide),if_neg (by decide)];intro hK;have e8:a.tmps[8]?=some (.slice (some ⟨g,0,none⟩) R cap):=hout 8 (by kernel_rfl);clear hin hout hd;go_simp;exact hK _ (Ex.refl w)
            ·intro L a w hin hout hd hx K;rw [if_neg (by decide),if_neg (by decide)];intro hK;have e10:a.tmps[10]?=some (.int .i64 (s:Int)):=hout 10 (by kernel_rfl);clear hin hout hd;go_simp;exact hK _ (Ex.refl w)
            ·intro L a w hin hout hd hx K;rw [if_neg (by decide),if_neg (by decide)];intro hK;have e82:=hin 12 82 _ (hd ⟨12,.data⟩ (by simp) rfl) (by decide) (by decide) rfl rfl;have e83:=hin 13 83 _ (hd ⟨13,.data⟩ (by simp) rfl) (by decide) (by decide) rfl rfl;have q1:=HSI.out.1;have q2:=HSI.out.2.1;clear hin hout hd;go_simp;exact hK _ (Ex.refl w)
            ·intro L a w hin hout hd hx K;rw [if_neg (by decide),if_neg (by decide)];intro hK;have e84:=hin 14 84 _ (hd ⟨14,.data⟩ (by simp) rfl) (by decide) (by decide) rfl rfl;have q1:=hx.cell CS1.out;clear hin hout hd;go_simp;exact hK _ (Ex.refl w)
            ·intro L a w hin hout hd hx K;rw [if_pos rfl];intro hK;have e72:=hin 2 72 _ (hd ⟨2,.data⟩ (by simp) rfl) (by decide) (by decide) rfl rfl;have e81:=hin 11 81 _ (hd ⟨11,.data⟩ (by simp) rfl) (by decide) (by decide) rfl rfl;have e85:=hin 15 85 _ (hd ⟨15,.data⟩ (by simp) rfl) (by decide) (by decide) rfl rfl;clear hin hout hd;go_simp;refine (HSC.out w hx).mono ?_;rintro e w' ⟨g7,rfl,ho,h5⟩;exact hK _ _ h5 ⟨g7,rfl,ho.mono hx.size⟩
            ·intro L a w hin hout hd hx K;rw [if_neg (by decide),if_neg (by decide)];intro hK;have e70:=hin 0 70 _ (hd ⟨0,.data⟩ (by simp) rfl) (by decide) (by decide) rfl rfl;have e71:=hin 1 71 _ (hd ⟨1,.data⟩ (by simp) rfl) (by decide) (by decide) rfl rfl;have q1:=HSI.out.1;have q2:=HSI.out.2.1;clear hin hout hd;go_simp;exact hK _ (Ex.refl w)
            ·intro L a w hin hout hd hx K;rw [if_neg (by decide),if_pos rfl];intro v hA hv hK;have e87:=hin 17 87 _ (hd ⟨17,.data⟩ (by simp) rfl) (by decide) (by decide) rfl rfl;have e86:=hv 86 _ rfl rfl;clear hin hout hd;obtain ⟨g7,rfl,ho⟩:=hA;have H5:=(HER.out.later hx);have hfr:=HER.out.fresh (b':=0) (u:= .slice (some ⟨g7,0,none⟩) N N) ho;have hset:=H5.set (i:=s) (u:= .slice (some ⟨g7,0,none⟩) N N) (f:=sclF p m ml z (a2 s)) (by have h:=ownsRow_mono ho (show base≤wc.heap.size from by have:=HER.out.em.o.lt;omega);rw [ints_il];exact h) hfr.1 hfr.2;have q1:=H5.em.o.cell HSI.out.2.2.2.2;have q2:=H5.em.o.frz s;have HST:=hid_ hset;clear ho H5 hfr hset;go_simp;exact hK _ ⟨_,HST⟩
           ·intro v w9 hF;obtain ⟨vals3,HE3⟩:=hF;have HP3:=hid_ (show PV p m R N (upd a2 s (sclF p m ml z (a2 s))) piv c from by have:=HPV.out.scl (ml:=ml) (k:=z) (by omega) (by rw [HS.out];exact hsR);rw [HS.out] at this;exact this);have HS3:=hid_ (show ∀x,Sol p m ml N R (upd a2 s (sclF p m ml z (a2 s))) x↔Sol p m ml N R a x from fun x=> (Sol.scl p2 m1 HF.out.2 hsR HZR.out.1 HZR.out.2).trans (HSO.out x));have HA3:=hid_ (show upd a2 s (sclF p m ml z (a2 s)) s c=1 from by rw [upd_same];exact HZ1.out _ HA2.out);simp only [putK,Act.put,List.setIfInBounds_toArray,List.set_cons_zero,List.set_cons_succ];go_wp2_with fail
            go_meet
            exact ⟨vals3,_,HE3,HP3,HS3,HA3⟩
         case rest=>
          obtain ⟨vals3,a3,HE3,HP3,HS3,HA3⟩:=hcut;clear HSC HIV CS1 CS2 csv hcs HX1 HER HPV HSO;go_wp2_with fail
          go_loopw [13] (fun i' wr=> ∃(i:Nat) (vals4:Nat→Value) (a4:Nat→Nat→Int),i≤R∧i'= .int .i64 i∧Hid (ERS w1 wr base g R N cap vals4 a4 piv (.slice pa s pc))∧Hid (PV p m R N a4 piv c)∧Hid (∀x,Sol p m ml N R a4 x↔Sol p m ml N R a x)∧Hid (a4 s c=1)∧Hid (∀j,j < i→j≠s→a4 j c=0)) (fun i' _=> R - (intOf i').toNat)
          case atStart=> exact ⟨0,vals3,a3,by omega,rfl,HE3,HP3,HS3,HA3,hid_ (fun j h=> by omega)⟩
          case round=>
           clear HE3 HP3 HS3 HA3;obtain ⟨i,vals4,a4,hi,rfl,HER,HPV,HSO,HA4,HZ4⟩:=hrel;by_cases hiR:i < R
           ·have b1:decide (i < R)=true:=by simpa using hiR
            by_cases his:i=s
            ·have b2:((i:Int) !=(s:Int))=false:=by simp;omega
             have b3:(i !=s)=false:=by simp;omega
             have HZ5:=hid_ (show ∀j,j < i + 1→j≠s→a4 j c=0 from fun j h1 h2=> HZ4.out j (by omega) h2);clear his;go_wp2_with fail
             go_roundw
             case rel=> first | exact ⟨i + 1,vals4,a4,by omega,by go_num,HER,HPV,HSO,HA4,HZ5⟩ | ((repeat apply Exists.intro);exact ⟨⟨i + 1,vals4,a4,by omega,by go_num,HER,HPV,HSO,HA4,HZ5⟩,rfl⟩)
             case measure=> simp [intOf];omega
            ·have b2:((i:Int) !=(s:Int))=true:=by simp;omega
             have b3:(i !=s)=true:=by simp;omega
             have n1:¬((i:Int)=(s:Int)):=by omega
             obtain ⟨gi,ci,hvi,hci,k3,k4⟩:=HER.out.em.at (by omega) hiR hcN;have civ:=HER.out.em.o.cell hiR;rw [hvi] at civ;unfold maxLen at k4;obtain ⟨y,hy⟩:∃y,a4 i c=y:=⟨_,rfl⟩;rw [hy] at hci;have i1:(0:Int)≤(i:Int):=by omega
             have i2:(i:Int) < (R:Int):=by omega
             have i3:(0:Int)≤(c:Int):=by omega
             have i4:(c:Int) < (N:Int):=by omega
             by_cases hy0:y=0
             ·subst hy0;have b4:((0:Int) !=0)=false:=by simp
              have HZ5:=hid_ (show ∀j,j < i + 1→j≠s→a4 j c=0 from fun j h1 h2=> by
               by_cases e:j=i
               ·subst e;exact hy
               ·exact HZ4.out j (by omega) h2)
              clear hy his;go_wp2_with fail
              go_roundw
              case rel=> first | exact ⟨i + 1,vals4,a4,by omega,by go_num,HER,HPV,HSO,HA4,HZ5⟩ | ((repeat apply Exists.intro);exact ⟨⟨i + 1,vals4,a4,by omega,by go_num,HER,HPV,HSO,HA4,HZ5⟩,rfl⟩)
              case measure=> simp [intOf];omega
             ·have kb:(y !=0)=true:=by simpa using hy0
              have hyr:=HPV.out.rng i hiR c hcN;rw [hy] at hyr;obtain ⟨yn',rfl⟩:∃n:Nat,y=n:=⟨y.toNat,by omega⟩;have hyn':yn' < p ^ m:=by omega
              obtain ⟨gs',cs',hvs',-,-,k5⟩:=HER.out.em.at (by omega) hsR hcN;have csv':=HER.out.em.o.cell hsR;rw [hvs'] at csv';have CI1:=hid_ civ;have CI2:=hid_ hci;have CT1:=hid_ csv';have HII:=hid_ (show (0:Int)≤(i:Int)∧(i:Int) < (R:Int)∧i < R from ⟨by omega,by omega,hiR⟩);have HX1:=hid_ HER.out.ex;have HNG:=hid_ (fun (w':World) (h:Ex wr w')=> by
               have:=rNeg_any (mv:= .slice ma ml.length mc) w' HF.out.1 (yn':Int);rw [kin_of hyn'] at this;exact this)
              have hnl:=kneg_lt (m:=m) (show 1≤p by omega) yn';have HK0:=hid_ (kadd_kneg (m:=m) (show 1≤p by omega) yn');obtain ⟨z4,hz4⟩:∃z,kneg p m yn'=z:=⟨_,rfl⟩;rw [hz4] at HNG hnl HK0;have HAT0:=hid_ (fun (w':World) (h:Ex wr w')=> (rAddTo_any p m ml (.slice ma ml.length mc) w' HF.out.1 (HMV.out.ex (HE0.out.trans (HER.out.ex.trans h))) (il N (a4 i)) (il N (a4 s)) _ _ ((HER.out.em.isl hiR).ex h) ((HER.out.em.isl hsR).ex h) (z4:Int) (by rw [il_len,il_len];omega) (by rw [il_len];omega)));have HAT:=hid_ (fun (w':World) (h:Ex wr w')=> show Calls Tryz.prog 174 #[.agg #[.int .i64 p,.int .i64 m,.slice ma ml.length mc],.slice (some ⟨gi,0,none⟩) N ci,.int .i64 (z4:Int),.slice (some ⟨gs',0,none⟩) N cs'] w' fun r w''=> ∃g7,r= .returned (.slice (some ⟨g7,0,none⟩) N N)∧Own w'' w'.heap.size 3 g7 N (iv (addF p m ml (a4 i) z4 (a4 s)))∧Ex w' w'' from by
               have:=HAT0.out w' h;rw [hvi,hvs'] at this;refine this.mono fun r w'' ⟨g7,h1,h2,h3⟩=> ?_;rw [il_len] at h1 h2;refine ⟨g7,h1,h2.icongr fun j hj=> ?_,h3⟩;rw [atF_addF (by omega) hj,kin_of hnl])
              have HZ5:=hid_ (show ∀j,j < i + 1→j≠s→upd a4 i (addF p m ml (a4 i) z4 (a4 s)) j c=0 from fun j h1 h2=> by
               by_cases e:j=i
               ·subst e;rw [upd_same];unfold addF;rw [HA4.out,if_neg (by decide),hy,kin_of hyn',(show kin (p ^ m) 1=1 from kin_of (q:=p ^ m) (x:=1) (one_lt_q p2 m1)),kmul_one p2 m1 hnl,HK0.out];rfl
               ·rw [upd_ne _ _ e];exact HZ4.out j (by omega) h2)
              have HA5:=hid_ (show upd a4 i (addF p m ml (a4 i) z4 (a4 s)) s c=1 from by rw [upd_ne _ _ (fun e=> his e.symm)];exact HA4.out);have HP5:=hid_ (show PV p m R N (upd a4 i (addF p m ml (a4 i) z4 (a4 s))) piv c from by have:=HPV.out.add (ml:=ml) (k:=z4) (by omega) (by rw [HS.out];exact hsR) hiR (by rw [HS.out];exact his);rw [HS.out] at this;exact this);have HS5:=hid_ (show ∀x,Sol p m ml N R (upd a4 i (addF p m ml (a4 i) z4 (a4 s))) x↔Sol p m ml N R a x from fun x=> (Sol.add p2 hsR hiR his).trans (HSO.out x));clear hvi hvs' hz4 hnl hy hy0 his hyr k5 csv' HAT0;go_upto_region 18 with fail
              refine wp_region_fs (fun k=> ([.slice (some ⟨g,0,none⟩) R cap,.int .i64 (i:Int),.agg #[.int .i64 (p:Int),.int .i64 (m:Int),.slice ma ml.length mc],.slice (some ⟨g,0,none⟩) R cap,.int .i64 (i:Int),.pointer (some ⟨g,i,none⟩),.slice (some ⟨gi,0,none⟩) N ci,.agg #[.int .i64 (p:Int),.int .i64 (m:Int),.slice ma ml.length mc],.slice (some ⟨g,0,none⟩) R cap,.int .i64 (i:Int),.pointer (some ⟨g,i,none⟩),.slice (some ⟨gi,0,none⟩) N ci,.int .i64 (c:Int),.pointer (some ⟨gi,c,none⟩),.int .i64 (yn':Int),.int .i64 (z4:Int),.slice (some ⟨g,0,none⟩) R cap,.int .i64 (s:Int),.pointer (some ⟨g,s,none⟩),.slice (some ⟨gs',0,none⟩) N cs',undef,.pointer (some ⟨g,i,none⟩)]:List Value).getD k undef) 20 22 (fun v w'=> ∃g7,v= .slice (some ⟨g7,0,none⟩) N N∧Own w' wr.heap.size 3 g7 N (iv (addF p m ml (a4 i) z4 (a4 s)))) (fun v w'=> ∃vals3,Hid (ERS w1 w' base g R N cap vals3 (upd a4 i (addF p m ml (a4 i) z4 (a4 s))) piv (.slice pa s pc))) (fun v wa wb ⟨g7,h1,h2⟩ hx=> ⟨g7,h1,h2.ex hx⟩) (by kernel_rfl) (by kernel_rfl) (by kernel_rfl) ?_ (fun v k=> ([.slice (some ⟨g,0,none⟩) R cap,.int .i64 (i:Int),.agg #[.int .i64 (p:Int),.int .i64 (m:Int),.slice ma ml.length mc],.slice (some ⟨g,0,none⟩) R cap,.int .i64 (i:Int),.pointer (some ⟨g,i,none⟩),.slice (some ⟨gi,0,none⟩) N ci,.agg #[.int .i64 (p:Int),.int .i64 (m:Int),.slice ma ml.length mc],.slice (some ⟨g,0,none⟩) R cap,.int .i64 (i:Int),.pointer (some ⟨g,i,none⟩),.slice (some ⟨gi,0,none⟩) N ci,.int .i64 (c:Int),.pointer (some ⟨gi,c,none⟩),.int .i64 (yn':Int),.int .i64 (z4:Int),.slice (some ⟨g,0,none⟩) R cap,.int .i64 (s:Int),.pointer (some ⟨g,s,none⟩),.slice (some ⟨gs',0,none⟩) N cs',v,.pointer (some ⟨g,i,none⟩)]:List Value).getD k undef) (fun _=> rfl) ?_
              ·simp only [StepAll];refine ⟨?_,?_,?_,?_,?_,?_,?_,?_,?_,?_,?_,?_,?_,?_,?_,?_,?_,?_,?_,?_,?_,?_,?_,trivial⟩
               ·intro L a w hin hout hd hx K;rw [if_neg (by decide),if_neg (by decide)];intro hK;have e8:a.tmps[8]?=some (.slice (some ⟨g,0,none⟩) R cap):=hout 8 (by kernel_rfl);clear hin hout hd;go_simp;exact hK _ (Ex.refl w)
               ·intro L a w hin hout hd hx K;rw [if_neg (by decide),if_neg (by decide)];intro hK;have e13:a.tmps[13]?=some (.int .i64 (i:Int)):=hout 13 (by kernel_rfl);clear hin hout hd;go_simp;exact hK _ (Ex.refl w)
               ·intro L a w hin hout hd hx K;rw [if_neg (by decide),if_neg (by decide)];intro hK;have e3:a.tmps[3]?=some (.pointer (some ⟨B,0,none⟩)):=hout 3 (by kernel_rfl);have q1:=(HX1.out.trans hx).cell A0.out;have q2:=(HX1.out.trans hx).cell A1.out;have q3:=(HX1.out.trans hx).cell A2.out;clear hin hout hd;go_simp;exact hK _ (Ex.refl w)
               ·intro L a w hin hout hd hx K;rw [if_neg (by decide),if_neg (by decide)];intro hK;have e8:a.tmps[8]?=some (.slice (some ⟨g,0,none⟩) R cap):=hout 8 (by kernel_rfl);clear hin hout hd;go_simp;exact hK _ (Ex.refl w)
               ·intro L a w hin hout hd hx K;rw [if_neg (by decide),if_neg (by decide)];intro hK;have e13:a.tmps[13]?=some (.int .i64 (i:Int)):=hout 13 (by kernel_rfl);clear hin hout hd;go_simp;exact hK _ (Ex.refl w)
               ·intro L a w hin hout hd hx K;rw [if_neg (by decide),if_neg (by decide)];intro hK;have e110:=hin 3 110 _ (hd ⟨3,.data⟩ (by simp) rfl) (by decide) (by decide) rfl rfl;have e111:=hin 4 111 _ (hd ⟨4,.data⟩ (by simp) rfl) (by decide) (by decide) rfl rfl;have q1:=HII.out.1;have q2:=HII.out.2.1;clear hin hout hd;go_simp;exact hK _ (Ex.refl w)
               ·intro L a w hin hout hd hx K;rw [if_neg (by decide),if_neg (by decide)];intro hK;have e112:=hin 5 112 _ (hd ⟨5,.data⟩ (by simp) rfl) (by decide) (by decide) rfl rfl;have q1:=hx.cell CI1.out;clear hin hout hd;go_simp;exact hK _ (Ex.refl w)
               ·intro L a w hin hout hd hx K;rw [if_neg (by decide),if_neg (by decide)];intro hK;have e3:a.tmps[3]?=some (.pointer (some ⟨B,0,none⟩)):=hout 3 (by kernel_rfl);have q1:=(HX1.out.trans hx).cell A0.out;have q2:=(HX1.out.trans hx).cell A1.out;have q3:=(HX1.out.trans hx).cell A2.out;clear hin hout hd;go_simp;exact hK _ (Ex.refl w)
               ·intro L a w hin hout hd hx K;rw [if_neg (by decide),if_neg (by decide)];intro hK;have e8:a.tmps[8]?=some (.slice (some ⟨g,0,none⟩) R cap):=hout 8 (by kernel_rfl);clear hin hout hd;go_simp;exact hK _ (Ex.refl w)
               ·intro L a w hin hout hd hx K;rw [if_neg (by decide),if_neg (by decide)];intro hK;have e13:a.tmps[13]?=some (.int .i64 (i:Int)):=hout 13 (by kernel_rfl);clear hin hout hd;go_simp;exact hK _ (Ex.refl w)
               ·intro L a w hin hout hd hx K;rw [if_neg (by decide),if_neg (by decide)];intro hK;have e115:=hin 8 115 _ (hd ⟨8,.data⟩ (by simp) rfl) (by decide) (by decide) rfl rfl;have e116:=hin 9 116 _ (hd ⟨9,.data⟩ (by simp) rfl) (by decide) (by decide) rfl rfl;have q1:=HII.out.1;have q2:=HII.out.2.1;clear hin hout hd;go_simp;exact hK _ (Ex.refl w)
               ·intro L a w hin hout hd hx K;rw [if_neg (by decide),if_neg (by decide)];intro hK;have e117:=hin 10 117 _ (hd ⟨10,.data⟩ (by simp) rfl) (by decide) (by decide) rfl rfl;have q1:=hx.cell CI1.out;clear hin hout hd;go_simp;exact hK _ (Ex.refl w)
               ·intro L a w hin hout hd hx K;rw [if_neg (by decide),if_neg (by decide)];intro hK;have e11:a.tmps[11]?=some (.int .i64 (c:Int)):=hout 11 (by kernel_rfl);clear hin hout hd;go_simp;exact hK _ (Ex.refl w)
               ·intro L a w hin hout hd hx K;rw [if_neg (by decide),if_neg (by decide)];intro hK;have e118:=hin 11 118 _ (hd ⟨11,.data⟩ (by simp) rfl) (by decide) (by decide) rfl rfl;have e119:=hin 12 119 _ (hd ⟨12,.data⟩ (by simp) rfl) (by decide) (by decide) rfl rfl;have q1:=HSI.out.2.2.1;have q2:=HSI.out.2.2.2.1;clear hin hout hd;go_simp;exact hK _ (Ex.refl w)
               ·intro L a w hin hout hd hx K;rw [if_neg (by decide),if_neg (by decide)];intro hK;have e120:=hin 13 120 _ (hd ⟨13,.data⟩ (by simp) rfl) (by decide) (by decide) rfl rfl;have q1:=hx.cell CI2.out;clear hin hout hd;go_simp;exact hK _ (Ex.refl w)
               ·intro L a w hin hout hd hx K;rw [if_neg (by decide),if_neg (by decide)];intro hK;have e114:=hin 7 114 _ (hd ⟨7,.data⟩ (by simp) rfl) (by decide) (by decide) rfl rfl;have e121:=hin 14 121 _ (hd ⟨14,.data⟩ (by simp) rfl) (by decide) (by decide) rfl rfl;clear hin hout hd;go_simp;refine (HNG.out w hx).mono ?_;rintro e w' ⟨rfl,h5⟩;exact hK _ h5
               ·intro L a w hin hout hd hx K;rw [if_neg (by decide),if_neg (by decide)];intro hK;have e8:a.tmps[8]?=some (.slice (some ⟨g,0,none⟩) R cap):=hout 8 (by kernel_rfl);clear hin hout hd;go_simp;exact hK _ (Ex.refl w)
               ·intro L a w hin hout hd hx K;rw [if_neg (by decide),if_neg (by decide)];intro hK;have e10:a.tmps[10]?=some (.int .i64 (s:Int)):=hout 10 (by kernel_rfl);clear hin hout hd;go_simp;exact hK _ (Ex.refl w)
               ·intro L a w hin hout hd hx K;rw [if_neg (by decide),if_neg (by decide)];intro hK;have e123:=hin 16 123 _ (hd ⟨16,.data⟩ (by simp) rfl) (by decide) (by decide) rfl rfl;have e124:=hin 17 124 _ (hd ⟨17,.data⟩ (by simp) rfl) (by decide) (by decide) rfl rfl;have q1:=HSI.out.1;have q2:=HSI.out.2.1;clear hin hout hd;go_simp;exact hK _ (Ex.refl w)
               ·intro L a w hin hout hd hx K;rw [if_neg (by decide),if_neg (by decide)];intro hK;have e125:=hin 18 125 _ (hd ⟨18,.data⟩ (by simp) rfl) (by decide) (by decide) rfl rfl;have q1:=hx.cell CT1.out;clear hin hout hd;go_simp;exact hK _ (Ex.refl w)
               ·intro L a w hin hout hd hx K;rw [if_pos rfl];intro hK;have e109:=hin 2 109 _ (hd ⟨2,.data⟩ (by simp) rfl) (by decide) (by decide) rfl rfl;have e113:=hin 6 113 _ (hd ⟨6,.data⟩ (by simp) rfl) (by decide) (by decide) rfl rfl;have e122:=hin 15 122 _ (hd ⟨15,.data⟩ (by simp) rfl) (by decide) (by decide) rfl rfl;have e126:=hin 19 126 _ (hd ⟨19,.data⟩ (by simp) rfl) (by decide) (by decide) rfl rfl;clear hin hout hd;go_simp;refine (HAT.out w hx).mono ?_;rintro e w' ⟨g7,rfl,ho,h5⟩;exact hK _ _ h5 ⟨g7,rfl,ho.mono hx.size⟩
               ·intro L a w hin hout hd hx K;rw [if_neg (by decide),if_neg (by decide)];intro hK;have e107:=hin 0 107 _ (hd ⟨0,.data⟩ (by simp) rfl) (by decide) (by decide) rfl rfl;have e108:=hin 1 108 _ (hd ⟨1,.data⟩ (by simp) rfl) (by decide) (by decide) rfl rfl;have q1:=HII.out.1;have q2:=HII.out.2.1;clear hin hout hd;go_simp;exact hK _ (Ex.refl w)
               ·intro L a w hin hout hd hx K;rw [if_neg (by decide),if_pos rfl];intro v hA hv hK;have e128:=hin 21 128 _ (hd ⟨21,.data⟩ (by simp) rfl) (by decide) (by decide) rfl rfl;have e127:=hv 127 _ rfl rfl;clear hin hout hd;obtain ⟨g7,rfl,ho⟩:=hA;have H5:=(HER.out.later hx);have hfr:=HER.out.fresh (b':=0) (u:= .slice (some ⟨g7,0,none⟩) N N) ho;have hset:=H5.set (i:=i) (u:= .slice (some ⟨g7,0,none⟩) N N) (f:=addF p m ml (a4 i) z4 (a4 s)) (by have h:=ownsRow_mono ho (show base≤wr.heap.size from by have:=HER.out.em.o.lt;omega);rw [ints_il];exact h) hfr.1 hfr.2;have q1:=H5.em.o.cell HII.out.2.2;have q2:=H5.em.o.frz i;have HST:=hid_ hset;clear ho H5 hfr hset;go_simp;exact hK _ ⟨_,HST⟩
              ·intro v w9 hF;obtain ⟨vals5,HE5⟩:=hF;clear civ hci CI1 CI2 CT1 HNG;simp only [putK,Act.put,List.setIfInBounds_toArray,List.set_cons_zero,List.set_cons_succ];go_wp2_with fail
               go_roundw
               case rel=> first | exact ⟨i + 1,vals5,_,by omega,by go_num,HE5,HP5,HS5,HA5,HZ5⟩ | ((repeat apply Exists.intro);exact ⟨⟨i + 1,vals5,_,by omega,by go_num,HE5,HP5,HS5,HA5,HZ5⟩,rfl⟩)
               case measure=> simp [intOf];omega
           ·obtain rfl:i=R:=by omega
            have b1:decide (i < i)=false:=by simp
            have HPO:=hid_ (show wr.ownsRow base 3 1 (.slice pa s pc) s (ints (pI piv)) from by have:=HER.out.po;rw [HS.out] at this;exact this);have HBS:=hid_ (show base≤wr.heap.size from by have:=HER.out.em.o.lt;omega);have HPD:=hid_ (HPV.out.done (by rw [HS.out];exact hsR) (by rw [HS.out];exact HA4.out) (fun j hj hjs=> HZ4.out j hj (by rw [←HS.out];exact hjs)));have HSL:=hid_ (show (piv ++ [c]).length=s + 1 from by rw [List.length_append,HS.out];rfl);clear HA4 HZ4 HPV;go_wp2_with (at_builtin;refine wpList_append1 _ rfl _ _ 22 rfl base 3 (.int .i64 0) 1 8 Tryz.underlying22 infoInt rfl (by decide) _ s _ rfl HPO.out [.int .i64 c] 3 _ rfl (by simp) rfl (by simp [Value.oneCell']) (by unfold maxLen;omega) (by omega) HBS.out ?_)
            intro v2 w9 happ;have HE9:=hid_ (HER.out.app (by rw [HS.out];exact happ));obtain ⟨xa,xc,hv2⟩:=own_shape happ.own;subst hv2;clear happ HER;go_wp2_with fail
            go_roundw
            case rel=> first | exact ⟨c + 1,piv ++ [c],_,_,by omega,by go_num,by rw [HSL.out];go_num,HE9,HPD,HSO⟩ | ((repeat apply Exists.intro);exact ⟨⟨c + 1,piv ++ [c],_,_,by omega,by go_num,by rw [HSL.out];go_num,HE9,HPD,HSO⟩,rfl⟩)
            case measure=> simp [intOf];omega
      ·obtain rfl:k=R:=by omega
       have HPN:=hid_ (HPV.out.none fun k' h1 h2=> hz.out k' (by rw [←HS.out];exact h1) h2);have b1:decide (k < k)=false:=by simp
       have b2:((k:Int)==(k:Int))=true:=by simp
       go_wp2_with fail
       go_roundw
       case rel=> first | exact ⟨c + 1,piv,vals,a1,by omega,by go_num,by rw [HS.out],HER,HPN,HSO⟩ | ((repeat apply Exists.intro);exact ⟨⟨c + 1,piv,vals,a1,by omega,by go_num,by rw [HS.out],HER,HPN,HSO⟩,rfl⟩)
       case measure=> simp [intOf];omega
    ·have k1:decide (s < R)=false:=by simpa using hsR
     have HR:=hid_ (HRES.out (.inl (by omega)));rw [hs] at HR ⊢;have HS:=hid_ hs;clear hs HRES hple her hpv hsol;go_wp2_with fail
     go_ret2;exact HR.out
   ·have k1:decide (c < N)=false:=by simpa using hcN
    have HR:=hid_ (HRES.out (.inr (by omega)));rw [hs] at HR ⊢;have HS:=hid_ hs;clear hs HRES hple her hpv hsol;go_wp2_with fail
    go_ret2;exact HR.out
end Go.Proofs.YtgdmlmhpineibaaGreat
