/- Walk of EquivalenceSearches (printed by gen_sch.py). -/
import Derived.Test.YtgdmlmhpineibaaGreatZf43
import Derived.Test.YtgdmlmhpineibaaGreatZf47
import Derived.Test.YtgdmlmhpineibaaGreatZf48
import Derived.Test.YtgdmlmhpineibaaGreatZf50
import Derived.Test.YtgdmlmhpineibaaGreatZf52
namespace Go.Proofs.YtgdmlmhpineibaaGreat
set_option linter.unusedVariables false
set_option linter.unusedSimpArgs false
set_option maxRecDepth 100000
set_option maxHeartbeats 8000000
open Go.RowKit
theorem ThrO.uniq {c d:CdV} {tl sl:List Int} {e e':Int} (h:ThrO c d tl sl e) (k:ThrO c d tl sl e'):e=e':=by
 obtain ⟨a1,a2,g1,g2,g3⟩:=h;obtain ⟨b1,b2,k1,k2,k3⟩:=k;obtain rfl:=codO_uniq g1 k1;rw [g3,k3];by_cases h0:a1=0
 ·rw [codO_uniq (g2 h0) (k2 h0)]
 ·unfold stE;rw [if_pos h0,if_pos h0]
section
variable (w:World) (c d:CdV) (m1 m2 v1 v2:Value) (hc:c.at w m1 v1) (hd:d.at w m2 v2) (tl sl:List Int) (tv sv:Value) (ht:ISl w tv tl) (hs:ISl w sv sl)
include hc hd ht hs
theorem FindT_any:Calls Tryz.prog 29 #[c.arg m1 v1,d.arg m2 v2,.agg #[tv,sv]] w fun r w'=> (∃E:Int,ThrO c d tl sl E∧MoR (fndM E (fndS c d tl sl)) (fndE E (fndS c d tl sl)) r w')∧Ex w w':=
 (Find_any w c d m1 m2 v1 v2 hc hd tl sl tv sv ht hs).mono fun r w' ⟨⟨e1,e2,h1,h2,h3⟩,hx⟩=> ⟨⟨_,⟨e1,e2,h1,h2,rfl⟩,h3⟩,hx⟩
theorem RefuteT_any:Calls Tryz.prog 31 #[c.arg m1 v1,d.arg m2 v2,.agg #[tv,sv]] w fun r w'=> (∃E:Int,ThrO c d tl sl E∧RfR (rftL E (fndS c d tl sl)) (rftE E (fndS c d tl sl)) r w')∧Ex w w':=
 (Refute_any w c d m1 m2 v1 v2 hc hd tl sl tv sv ht hs).mono fun r w' ⟨⟨e1,e2,h1,h2,h3⟩,hx⟩=> ⟨⟨_,⟨e1,e2,h1,h2,rfl⟩,h3⟩,hx⟩
theorem CheckT_any (es:List Rf) (ev:Value) (hr:RSl w ev es):Calls Tryz.prog 34 #[c.arg m1 v1,d.arg m2 v2,.agg #[tv,sv],.agg #[ev]] w fun r w'=> (∃E:Int,ThrO c d tl sl E∧r= .returned (.int .i64 (ckE E (flS c d es tl sl) es)))∧Ex w w':=
 (CheckRefutation_any w c d m1 m2 v1 v2 hc hd tl sl tv sv ht hs es ev hr).mono fun r w' ⟨⟨e1,e2,h1,h2,h3⟩,hx⟩=> ⟨⟨_,⟨e1,e2,h1,h2,rfl⟩,h3⟩,hx⟩
end
theorem sea_law {c d:CdV} {tl sl:List Int} {E:Int} (h:ThrO c d tl sl E) (h0:rftE E (fndS c d tl sl)=0):ckE E (flS c d (rftL E (fndS c d tl sl)) tl sl) (rftL E (fndS c d tl sl))=0:=by
 unfold rftE at h0;by_cases hE:E=0
 ·subst hE;rw [if_neg (fun h=> h rfl)] at h0;have hR:(fndS c d tl sl).2=0:=by
   by_cases h1:(fndS c d tl sl).2=0
   ·exact h1
   ·rw [if_neg h1] at h0;split at h0
    ·cases h0
    ·exact h0
  obtain ⟨e1,e2,g1,g2,g3⟩:=h;obtain ⟨p,m,n,H⟩:=pair_ok g1 g2 g3.symm;have hT:Two p m c.ml n c.rows d.rows:=⟨H.fs.p2,H.fs.m1,H.isf,H.r1,H.r2⟩;have hs:=hT.src_ok H.fs (n - tl.length) [] tl sl (by have:=H.le;omega) H.len.symm H.rng (fun h=> absurd rfl h);have ef:srF p m c.ml c.rows d.rows n (n - tl.length) (([]:List Nd).length, []) tl sl=fndS c d tl sl:=by
   unfold fndS;rw [H.cp,H.cm,H.cn];rfl
  rw [ef] at hs;obtain ⟨s1,s2,s3⟩:=hs;have el:rftL 0 (fndS c d tl sl)=rfOf (fndS c d tl sl).1.2:=by
   unfold rftL;rw [if_neg (fun h=> h rfl),if_pos hR]
  rw [el];have s4:=s3 hR _ List.prefix_rfl;have e3:flS c d (rfOf (fndS c d tl sl).1.2) tl sl=flF p m c.ml c.rows d.rows n (rfOf (fndS c d tl sl).1.2) (n - tl.length) 0 tl sl:=by
   unfold flS;rw [H.cp,H.cm,H.cn];rfl
  rw [e3];have s5:flF p m c.ml c.rows d.rows n (rfOf (fndS c d tl sl).1.2) (n - tl.length) 0 tl sl=((fndS c d tl sl).1.2.length,0):=s4;rw [s5];unfold ckE;rw [if_neg (fun h=> h rfl),rfOf_len,if_neg (fun h=> by have:=h.2;simp at this)]
 ·rw [if_pos hE] at h0;exact absurd h0 hE
theorem EquivalenceSearches_any (w:World) (c d:CdV) (m1 m2 v1 v2:Value) (hc:c.at w m1 v1) (hd:d.at w m2 v2) (tl sl:List Int) (tv sv:Value) (ht:ISl w tv tl) (hs:ISl w sv sl):
  Calls Tryz.prog 6 #[c.arg m1 v1,d.arg m2 v2,.agg #[tv,sv]] w fun r w'=> r= .returned (.bool true)∧Ex w w':=by
 obtain ⟨c0,c1,c2,c3,c4⟩:=boxC5 w c m1 v1;obtain ⟨d0,d1,d2,d3,d4⟩:=boxC5 (w.alloc (c.obj m1 v1)) d m2 v2;obtain ⟨b0,b1,e3,hz3⟩:=boxP_facts ((w.alloc (c.obj m1 v1)).alloc (d.obj m2 v2)) tv sv;have hz1:(w.alloc (c.obj m1 v1)).heap.size=w.heap.size + 1:=by simp
 have hz2:((w.alloc (c.obj m1 v1)).alloc (d.obj m2 v2)).heap.size=w.heap.size + 1 + 1:=by simp
 have e1:=e_al w (c.obj m1 v1);have e2:=e_al (w.alloc (c.obj m1 v1)) (d.obj m2 v2);rw [hz1] at d0 d1 d2 d3 d4;rw [hz2] at b0 b1;replace c0:=(e2.trans e3).cell c0;replace c1:=(e2.trans e3).cell c1;replace c2:=(e2.trans e3).cell c2;replace c3:=(e2.trans e3).cell c3;replace c4:=(e2.trans e3).cell c4;replace d0:=e3.cell d0;replace d1:=e3.cell d1;replace d2:=e3.cell d2;replace d3:=e3.cell d3;replace d4:=e3.cell d4;have HX:=hid_ (e1.trans (e2.trans e3));have HAW:=hid_ (fun w'=> awake_any w');have HF1:=hid_ (fun (w':World) (h:Ex w w')=> few31_any w' c m1 v1 (hc.ex h));have HF2:=hid_ (fun (w':World) (h:Ex w w')=> few31_any w' d m2 v2 (hd.ex h));have HSM:=hid_ (fun (w':World) (h:Ex w w')=> rSmall_any w' c m1 v1 (hc.ex h));have HP1:=hid_ (fun (w':World) (h:Ex w w')=> FindT_any w' c d m1 m2 v1 v2 (hc.ex h) (hd.ex h) tl sl tv sv (ht.ex h) (hs.ex h));have HP2:=hid_ (fun (w':World) (h:Ex w w')=> rFind_any w' c d m1 m2 v1 v2 (hc.ex h) (hd.ex h) tl sl tv sv (ht.ex h) (hs.ex h));have HP3:=hid_ (fun (w':World) (h:Ex w w')=> RefuteT_any w' c d m1 m2 v1 v2 (hc.ex h) (hd.ex h) tl sl tv sv (ht.ex h) (hs.ex h));have HP4:=hid_ (fun (w':World) (h:Ex w w')=> rRefute_any w' c d m1 m2 v1 v2 (hc.ex h) (hd.ex h) tl sl tv sv (ht.ex h) (hs.ex h));have HP5:=hid_ (fun (w':World) (h:Ex w w') (es:List Rf) (ev:Value) (hr:RSl w' ev es)=> CheckT_any w' c d m1 m2 v1 v2 (hc.ex h) (hd.ex h) tl sl tv sv (ht.ex h) (hs.ex h) es ev hr);have HUQ:=hid_ (fun E E' (h:ThrO c d tl sl E) (k:ThrO c d tl sl E')=> h.uniq k);have HLW:=hid_ (fun E (h:ThrO c d tl sl E) (h0:rftE E (fndS c d tl sl)=0)=> sea_law h h0);obtain ⟨ta,tc,rfl,-,t2,-⟩:=ht.open;obtain ⟨sa,sc,rfl,-,s2,-⟩:=hs.open;obtain ⟨x1,y1,rfl,-,z1,-⟩:=hc.g.open;obtain ⟨x2,y2,rfl,-,z2,-⟩:=hd.g.open;obtain ⟨x3,y3,rfl,-,z3,-⟩:=hc.m.open;obtain ⟨x4,y4,rfl,-,z4,-⟩:=hd.m.open;unfold maxLen at t2 s2 z1 z2 z3 z4;obtain ⟨TO,hTO⟩:∃T,ThrO c d tl sl=T:=⟨_,rfl⟩;obtain ⟨RS,hRS⟩:∃T,fndS c d tl sl=T:=⟨_,rfl⟩;obtain ⟨FL,hFL⟩:∃T,(fun es=> flS c d es tl sl)=T:=⟨_,rfl⟩;have hFL':∀es,flS c d es tl sl=FL es:=fun es=> by rw [←hFL]
 rw [hTO] at HP1 HP2 HP3 HP4 HP5 HUQ HLW;rw [hRS] at HP1 HP2 HP3 HP4 HLW;simp only [hFL'] at HP5 HLW;obtain ⟨p,m,ml,n,rows⟩:=c;obtain ⟨p',m',ml',n',rows'⟩:=d;obtain ⟨B,hB⟩:∃B,w.heap.size=B:=⟨_,rfl⟩;rw [hB] at c0 c1 c2 c3 c4 d0 d1 d2 d3 d4 b0 b1;dsimp only [CdV.arg,CdV.obj] at *;clear hc hd ht hs e1 e2 e3 hz1 hz2 hz3 hTO hRS hFL hFL';go_enter Tryz.func6,Tryz.ntmps6
 go_upto_region 1 with fail
 try simp only [hB]
 clear hB;generalize ((w.alloc (.cells #[.int .i64 p,.int .i64 m,.slice x3 ml.length y3,.int .i64 n,.slice x1 rows.length y1] 47)).alloc (.cells #[.int .i64 p',.int .i64 m',.slice x4 ml'.length y4,.int .i64 n',.slice x2 rows'.length y2] 47)).alloc (.cells #[.slice ta tl.length tc,.slice sa sl.length sc] 49)=w1 at *;have HALL:=hid_ (fun w' (h:Ex w1 w')=> (⟨h.cell c0,h.cell c1,h.cell c2,h.cell c3,h.cell c4,h.cell d0,h.cell d1,h.cell d2,h.cell d3,h.cell d4,h.cell b0,h.cell b1⟩:_∧_∧_∧_∧_∧_∧_∧_∧_∧_∧_∧_));have bad:∀w',Ex w1 w'→Calls Tryz.prog 12 #[] w' fun r w''=> r= .returned (.bool true)∧Ex w1 w'':=fun w' h=> (HAW.out w').mono fun r w'' ⟨h1,h2⟩=> ⟨h1,h.trans h2⟩;have BAD:=hid_ bad;have HX1:=hid_ (Ex.refl w1);clear bad;go_wp2_with fail
 refine (HAW.out w1).mono ?_;rintro e w2 ⟨rfl,hx2⟩;have HX2:=hid_ (HX1.out.trans hx2);clear hx2 c0 c1 c2 c3 c4 d0 d1 d2 d3 d4 b0 b1;obtain ⟨c0,c1,c2,c3,c4,d0,d1,d2,d3,d4,b0,b1⟩:=HALL.out w2 HX2.out;go_wp2_with fail
 refine (HF1.out w2 (HX.out.trans HX2.out)).mono ?_;rintro e w3 ⟨⟨f1,rfl,-⟩,hx3⟩;have HX3:=hid_ (HX2.out.trans hx3);clear hx3 c0 c1 c2 c3 c4 d0 d1 d2 d3 d4 b0 b1;obtain ⟨c0,c1,c2,c3,c4,d0,d1,d2,d3,d4,b0,b1⟩:=HALL.out w3 HX3.out
 cases f1 with
 | false=>
  go_wp2_with fail
  refine (BAD.out _ HX3.out).mono ?_;rintro e w99 ⟨rfl,hx99⟩;have HX99:=hid_ hx99;clear hx99;go_wp2_with fail
  go_ret;exact ⟨rfl,HX.out.trans HX99.out⟩
 | true=>
  go_wp2_with fail
  refine (HF2.out w3 (HX.out.trans HX3.out)).mono ?_;rintro e w4 ⟨⟨f2,rfl,-⟩,hx4⟩;have HX4:=hid_ (HX3.out.trans hx4);clear hx4 c0 c1 c2 c3 c4 d0 d1 d2 d3 d4 b0 b1;obtain ⟨c0,c1,c2,c3,c4,d0,d1,d2,d3,d4,b0,b1⟩:=HALL.out w4 HX4.out
  cases f2 with
  | false=>
   go_wp2_with fail
   refine (BAD.out _ HX4.out).mono ?_;rintro e w99 ⟨rfl,hx99⟩;have HX99:=hid_ hx99;clear hx99;go_wp2_with fail
   go_ret;exact ⟨rfl,HX.out.trans HX99.out⟩
  | true=>
   go_wp2_with fail
   refine (HSM.out w4 (HX.out.trans HX4.out)).mono ?_;rintro e w5 ⟨⟨f3,rfl,-⟩,hx5⟩;have HX5:=hid_ (HX4.out.trans hx5);clear hx5 c0 c1 c2 c3 c4 d0 d1 d2 d3 d4 b0 b1;obtain ⟨c0,c1,c2,c3,c4,d0,d1,d2,d3,d4,b0,b1⟩:=HALL.out w5 HX5.out
   cases f3 with
   | false=>
    go_wp2_with fail
    refine (BAD.out _ HX5.out).mono ?_;rintro e w99 ⟨rfl,hx99⟩;have HX99:=hid_ hx99;clear hx99;go_wp2_with fail
    go_ret;exact ⟨rfl,HX.out.trans HX99.out⟩
   | true=>
    by_cases z1:100 < tl.length
    ·have q_tl:decide ((100:Int) < (tl.length:Int))=true:=by simp;omega
     have j_tl:(100:Int) < (tl.length:Int):=by omega
     clear z1;go_wp2_with fail
     refine (BAD.out _ HX5.out).mono ?_;rintro e w99 ⟨rfl,hx99⟩;have HX99:=hid_ hx99;clear hx99;go_wp2_with fail
     go_ret;exact ⟨rfl,HX.out.trans HX99.out⟩
    ·have q_tl:decide ((100:Int) < (tl.length:Int))=false:=by simp;omega
     have j_tl:¬(100:Int) < (tl.length:Int):=by omega
     have HZ6:=hid_ z1;clear z1;by_cases z1:100 < sl.length
     ·have q_sl:decide ((100:Int) < (sl.length:Int))=true:=by simp;omega
      have j_sl:(100:Int) < (sl.length:Int):=by omega
      clear z1;go_wp2_with fail
      refine (BAD.out _ HX5.out).mono ?_;rintro e w99 ⟨rfl,hx99⟩;have HX99:=hid_ hx99;clear hx99;go_wp2_with fail
      go_ret;exact ⟨rfl,HX.out.trans HX99.out⟩
     ·have q_sl:decide ((100:Int) < (sl.length:Int))=false:=by simp;omega
      have j_sl:¬(100:Int) < (sl.length:Int):=by omega
      have HZ7:=hid_ z1;clear z1;go_wp2_with fail
      refine (HP1.out w5 (HX.out.trans HX5.out)).mono ?_;rintro e w6 ⟨⟨E,hth,u1,v1,rfl,hu1,hv1⟩,hx6⟩;have HTH:=hid_ hth;obtain ⟨FM,hFM⟩:∃M,fndM E RS=M:=⟨_,rfl⟩;obtain ⟨FE,hFE⟩:∃M,fndE E RS=M:=⟨_,rfl⟩;obtain ⟨Fp,Fs,Ff⟩:=FM;have HFM:=hid_ hFM;have HFE:=hid_ hFE;clear hFM hFE hth;rw [HFM.out] at hu1 hv1 ⊢;rw [HFE.out];dsimp only at hu1 hv1 ⊢;obtain ⟨na1,nc1,rfl,-,-,-⟩:=hu1.open;obtain ⟨oa1,oc1,rfl,-,-,-⟩:=hv1.open;obtain ⟨m10,m11,m12,em1⟩:=boxMo_facts w6 (.slice na1 Fp.length nc1) (.slice oa1 Fs.length oc1) Ff;have HY7:=hid_ (hx6.trans em1);have HX7:=hid_ (HX5.out.trans HY7.out);have HU1:=hid_ (hu1.ex em1);have HV1:=hid_ (hv1.ex em1);obtain ⟨MB1,hMB1⟩:∃D,w6.heap.size=D:=⟨_,rfl⟩;rw [hMB1] at m10 m11 m12;clear hx6 em1 hu1 hv1 c0 c1 c2 c3 c4 d0 d1 d2 d3 d4 b0 b1;go_upto_region 4 with fail
      try simp only [hMB1]
      clear hMB1;generalize w6.alloc (.cells #[.slice na1 Fp.length nc1,.slice oa1 Fs.length oc1,.int .i64 Ff] 26)=w7 at *;have HM1:=hid_ (fun w' (h:Ex w7 w')=> (⟨h.cell m10,h.cell m11,h.cell m12⟩:_∧_∧_));clear m10 m11 m12;obtain ⟨c0,c1,c2,c3,c4,d0,d1,d2,d3,d4,b0,b1⟩:=HALL.out w7 HX7.out;go_wp2_with fail
      refine (HP2.out w7 (HX.out.trans HX7.out)).mono ?_;rintro e w8 ⟨⟨E',hth,u2,v2,rfl,hu2,hv2⟩,hx8⟩;obtain hEE:E=E':=HUQ.out _ _ HTH.out hth;subst hEE;clear hth;rw [HFM.out] at hu2 hv2 ⊢;rw [HFE.out];dsimp only at hu2 hv2 ⊢;obtain ⟨na2,nc2,rfl,-,-,-⟩:=hu2.open;obtain ⟨oa2,oc2,rfl,-,-,-⟩:=hv2.open;obtain ⟨m20,m21,m22,em2⟩:=boxMo_facts w8 (.slice na2 Fp.length nc2) (.slice oa2 Fs.length oc2) Ff;have HY9:=hid_ (hx8.trans em2);have HX9:=hid_ (HX7.out.trans HY9.out);have HU2:=hid_ (hu2.ex em2);have HV2:=hid_ (hv2.ex em2);obtain ⟨MB2,hMB2⟩:∃D,w8.heap.size=D:=⟨_,rfl⟩;rw [hMB2] at m20 m21 m22;clear hx8 em2 hu2 hv2 c0 c1 c2 c3 c4 d0 d1 d2 d3 d4 b0 b1;go_upto_region 5 with fail
      try simp only [hMB2]
      clear hMB2;generalize w8.alloc (.cells #[.slice na2 Fp.length nc2,.slice oa2 Fs.length oc2,.int .i64 Ff] 26)=w9 at *;have HM2:=hid_ (fun w' (h:Ex w9 w')=> (⟨h.cell m20,h.cell m21,h.cell m22⟩:_∧_∧_));clear m20 m21 m22;obtain ⟨c0,c1,c2,c3,c4,d0,d1,d2,d3,d4,b0,b1⟩:=HALL.out w9 HX9.out;go_wp2_with fail
      refine (HP3.out w9 (HX.out.trans HX9.out)).mono ?_;rintro e w10 ⟨⟨E',hth,u3,rfl,hu3⟩,hx10⟩;obtain hEE:E=E':=HUQ.out _ _ HTH.out hth;subst hEE;clear hth;obtain ⟨RL,hRL⟩:∃M,rftL E RS=M:=⟨_,rfl⟩;obtain ⟨RE,hRE⟩:∃M,rftE E RS=M:=⟨_,rfl⟩;have HRL:=hid_ hRL;have HRE:=hid_ hRE;clear hRL hRE;rw [HRL.out] at hu3;rw [HRE.out];obtain ⟨na3,nc3,rfl,-,-,-⟩:=rsl_open hu3;have f30:=boxRf w10 (.slice na3 RL.length nc3);have em3:=e_al w10 (.cells #[.slice na3 RL.length nc3] 54);have HY11:=hid_ (hx10.trans em3);have HX11:=hid_ (HX9.out.trans HY11.out);have HU3:=hid_ (hu3.ex em3);obtain ⟨MB3,hMB3⟩:∃D,w10.heap.size=D:=⟨_,rfl⟩;rw [hMB3] at f30;clear hx10 em3 hu3 c0 c1 c2 c3 c4 d0 d1 d2 d3 d4 b0 b1;go_upto_region 6 with fail
      try simp only [hMB3]
      clear hMB3;generalize w10.alloc (.cells #[.slice na3 RL.length nc3] 54)=w11 at *;have HM3:=hid_ (fun w' (h:Ex w11 w')=> h.cell f30);clear f30;obtain ⟨c0,c1,c2,c3,c4,d0,d1,d2,d3,d4,b0,b1⟩:=HALL.out w11 HX11.out;go_wp2_with fail
      refine (HP4.out w11 (HX.out.trans HX11.out)).mono ?_;rintro e w12 ⟨⟨E',hth,u4,rfl,hu4⟩,hx12⟩;obtain hEE:E=E':=HUQ.out _ _ HTH.out hth;subst hEE;clear hth;rw [HRL.out] at hu4;rw [HRE.out];obtain ⟨na4,nc4,rfl,-,-,-⟩:=rsl_open hu4;have f40:=boxRf w12 (.slice na4 RL.length nc4);have em4:=e_al w12 (.cells #[.slice na4 RL.length nc4] 54);have HY13:=hid_ (hx12.trans em4);have HX13:=hid_ (HX11.out.trans HY13.out);have HU4:=hid_ (hu4.ex em4);obtain ⟨MB4,hMB4⟩:∃D,w12.heap.size=D:=⟨_,rfl⟩;rw [hMB4] at f40;clear hx12 em4 hu4 c0 c1 c2 c3 c4 d0 d1 d2 d3 d4 b0 b1;go_upto_region 7 with fail
      try simp only [hMB4]
      clear hMB4;generalize w12.alloc (.cells #[.slice na4 RL.length nc4] 54)=w13 at *;have HM4:=hid_ (fun w' (h:Ex w13 w')=> h.cell f40);clear f40;obtain ⟨c0,c1,c2,c3,c4,d0,d1,d2,d3,d4,b0,b1⟩:=HALL.out w13 HX13.out;have HT1:=hid_ (((HY9.out.trans HY11.out).trans HY13.out));have HT2:=hid_ ((HY11.out.trans HY13.out));have HT3:=hid_ (HY13.out);have hne:(FE !=FE)=false:=by simp
      have hne2:(RE !=RE)=false:=by simp
      obtain ⟨a10,a11,a12⟩:=HM1.out w13 HT1.out;obtain ⟨a20,a21,a22⟩:=HM2.out w13 HT2.out;have HSQ:=hid_ (SameMap_any w13 Fp Fs Fp Fs _ _ _ _ (HU1.out.ex HT1.out) (HV1.out.ex HT1.out) (HU2.out.ex HT2.out) (HV2.out.ex HT2.out) Ff Ff);rw [decide_eq_true (⟨rfl,rfl,rfl⟩:Ff=Ff∧Fp=Fp∧Fs=Fs)] at HSQ;go_wp2_with fail
      refine HSQ.out.mono ?_;rintro e w40 ⟨rfl,hx40⟩;have HX40:=hid_ (HX13.out.trans hx40);have HZ3:=hid_ (HT3.out.trans hx40);have HZ4:=hid_ hx40;clear hx40 a10 a11 a12 a20 a21 a22 c0 c1 c2 c3 c4 d0 d1 d2 d3 d4 b0 b1 HSQ;have a30:=HM3.out w40 HZ3.out;have a40:=HM4.out w40 HZ4.out;have HSR:=hid_ (rSameR_any w40 RL RL _ _ (HU3.out.ex HZ3.out) (HU4.out.ex HZ4.out));go_wp2_with fail
      refine HSR.out.mono ?_;rintro e w41 ⟨⟨bb,rfl,hbb⟩,hx41⟩;obtain rfl:bb=true:=hbb.2 (by first | rfl | trivial);have HX41:=hid_ (HX40.out.trans hx41);have HZ5:=hid_ (HZ3.out.trans hx41);clear hx41 a30 a40 hbb HSR;have a30:=HM3.out w41 HZ5.out;obtain ⟨c0,c1,c2,c3,c4,d0,d1,d2,d3,d4,b0,b1⟩:=HALL.out w41 HX41.out;by_cases hz:RE=0
      rotate_left
      ·have k1:(RE !=0)=true:=by simpa using hz
       clear hz;go_wp2_with fail
       go_ret;exact ⟨rfl,HX.out.trans HX41.out⟩
      have k1:(RE !=0)=false:=by simp [hz]
      have HCK:=hid_ (HP5.out w41 (HX.out.trans HX41.out) RL _ (HU3.out.ex HZ5.out));have HZR:=hid_ hz;subst hz;go_wp2_with fail
      refine HCK.out.mono ?_;rintro e w42 ⟨⟨E2,hth,rfl⟩,hx42⟩;obtain hEE:=HUQ.out _ _ hth HTH.out;have hfin:=HLW.out _ HTH.out HRE.out;rw [HRL.out,←hEE] at hfin;rw [hfin];have HX42:=hid_ (HX41.out.trans hx42);clear hx42 hth hEE hfin;go_wp2_with fail
      go_ret;exact ⟨rfl,HX.out.trans HX42.out⟩
end Go.Proofs.YtgdmlmhpineibaaGreat
