/- Walks of codewrightref31's search (out of its body), Find and Refute (printed by gen_rfr.py). -/
import Derived.Test.YtgdmlmhpineibaaGreatZf37
import Derived.Test.YtgdmlmhpineibaaGreatZf50
import Derived.Test.YtgdmlmhpineibaaGreatZf51
namespace Go.Proofs.YtgdmlmhpineibaaGreat
set_option linter.unusedVariables false
set_option linter.unusedSimpArgs false
set_option maxRecDepth 100000
set_option maxHeartbeats 8000000
open Go.RowKit
theorem rSrc_any {p m n:Nat} {ml:List Int} {l1 l2:List (List Int)} (w0:World) (hf:FSh p m ml) (hF:IsF p m (lw ml)) (hn:n≤64) (h1:∀r∈l1,r.length=n∧entS (p ^ m) r=0) (h2:∀r∈l2,r.length=n∧entS (p ^ m) r=0) (k1:l1.length≤256) (k2:l2.length≤256)
  (m1 m2 v1 v2:Value) (hm1:ISl w0 m1 ml) (hv1:MSl w0 v1 l1) (hm2:ISl w0 m2 ml) (hv2:MSl w0 v2 l2):
  ∀(d:Nat) (w:World) (tl sl:List Int) (tv sv lv:Value) (L:List Nd) (mvs:List Value) (first:Bool),Ex w0 w→tl.length + d=n→sl.length=tl.length→rngB tl n=true→ISl w tv tl→ISl w sv sl→RGr w0 w lv L mvs→L.length≤65536→(tl≠ []→Aprt tv lv)→(sl≠ []→Aprt sv lv)→(first=true↔L= [])→(L≠ []→tl≠ [])→
  Calls Tryz.prog 68 #[.agg #[.int .i64 p,.int .i64 m,m1,.int .i64 n,v1],.agg #[.int .i64 p,.int .i64 m,m2,.int .i64 n,v2],.agg #[tv,sv],.bool first,lv] w fun r w'=> SrO w0 w lv (srF p m ml l1 l2 n d (L.length,L) tl sl) r w':=by
 intro d
 induction d with
 | zero=>
  intro w tl sl tv sv lv L mvs first hx hd hsl hrg ht hs hr hL ha1 ha2 hfi hne;have h:=rSrc_body w0 w hx hf hF hn h1 h2 k1 k2 m1 m2 v1 v2 hm1 hv1 hm2 hv2 tl sl tv sv ht hs hsl tl.length rfl (by omega) hrg lv L mvs hr hL ha1 ha2 first hfi hne (fun _ _ _=> ((0, []),0)) (fun h=> absurd h (by omega));have e:srB p m ml l1 l2 n (L.length,L) tl sl (foX (fun _ _ _=> ((0, []),0)) (exL (p ^ m) tl sl n) (srS p m ml l1 l2 (L.length,L) tl sl))=srF p m ml l1 l2 n 0 (L.length,L) tl sl:=by
   rw [srF_zero];unfold srB;split
   ·rfl
   ·split
    ·rfl
    ·rw [if_pos (by omega),if_pos (by omega)]
  rw [e] at h;exact h
 | succ d ih=>
  intro w tl sl tv sv lv L mvs first hx hd hsl hrg ht hs hr hL ha1 ha2 hfi hne;have h:=rSrc_body w0 w hx hf hF hn h1 h2 k1 k2 m1 m2 v1 v2 hm1 hv1 hm2 hv2 tl sl tv sv ht hs hsl tl.length rfl (by omega) hrg lv L mvs hr hL ha1 ha2 first hfi hne (srF p m ml l1 l2 n d)
   (fun hlt x hxm w' L' mvs' lv' x1 x2 hx' hne' hL' hr' i1 i2 a1 a2=> ih w' x.1 x.2 x1 x2 lv' L' mvs' false hx' (by have:=(exL_len x hxm).1;omega) (by have:=exL_len x hxm;omega) (exL_rng hrg x hxm) i1 i2 hr' hL' (fun _=> a1) (fun _=> a2) ⟨fun h=> (by cases h),fun h=> absurd h hne'⟩ (fun _ h0=> by have:=(exL_len x hxm).1;rw [h0] at this;simp at this))
  rw [srF_succ,rnJ_foX];exact h
theorem isl_same {w:World} {v:Value} {l:List Int} (h:ISl w v l) {A:Addr} {u:Value} (hA:w.cell? A=some u):ISl (w.setCell A u) v l:=by
 obtain ⟨h1,b,cap,h2,h3,h4,h5⟩:=h;refine ⟨h1,b,cap,h2,h3,h4,fun hn=> ?_⟩;obtain ⟨B,o,h6,h7⟩:=h5 hn;refine ⟨B,o,h6,fun j x hx=> ?_⟩;have h8:=h7 j x hx;by_cases e:A=⟨B,o + j,none⟩
 ·subst e;rw [hA] at h8;rw [←h8];exact World.cell?_setCell_same _ _ _ hA
 ·rw [World.cell?_setCell_other _ _ _ _ (fun e2=> e (by rw [e2]))];exact h8
theorem rFind_any (w:World) (c d:CdV) (m1 m2 v1 v2:Value) (hc:c.at w m1 v1) (hd:d.at w m2 v2) (tl sl:List Int) (tv sv:Value) (ht:ISl w tv tl) (hs:ISl w sv sl):
  Calls Tryz.prog 30 #[c.arg m1 v1,d.arg m2 v2,.agg #[tv,sv]] w fun r w'=> (∃E:Int,ThrO c d tl sl E∧MoR (fndM E (fndS c d tl sl)) (fndE E (fndS c d tl sl)) r w')∧Ex w w':=by
 obtain ⟨c0,c1,c2,c3,c4⟩:=boxC5 w c m1 v1;obtain ⟨d0,d1,d2,d3,d4⟩:=boxC5 (w.alloc (c.obj m1 v1)) d m2 v2;obtain ⟨b0,b1,e3,hz3⟩:=boxP_facts ((w.alloc (c.obj m1 v1)).alloc (d.obj m2 v2)) tv sv;have hbm:=BxM.new (((w.alloc (c.obj m1 v1)).alloc (d.obj m2 v2)).alloc (.cells #[tv,sv] 49));have hz1:(w.alloc (c.obj m1 v1)).heap.size=w.heap.size + 1:=by simp
 have hz2:((w.alloc (c.obj m1 v1)).alloc (d.obj m2 v2)).heap.size=w.heap.size + 1 + 1:=by simp
 have e1:=e_al w (c.obj m1 v1);have e2:=e_al (w.alloc (c.obj m1 v1)) (d.obj m2 v2);have e4:=e_al (((w.alloc (c.obj m1 v1)).alloc (d.obj m2 v2)).alloc (.cells #[tv,sv] 49)) (.cells #[.slice none 0 0,.slice none 0 0,.int .i64 0] 26);rw [hz3,hz2] at hbm;rw [hz1] at d0 d1 d2 d3 d4;rw [hz2] at b0 b1;have hxw:=e1.trans (e2.trans (e3.trans e4));replace c0:=(e2.trans (e3.trans e4)).cell c0;replace c1:=(e2.trans (e3.trans e4)).cell c1;replace c2:=(e2.trans (e3.trans e4)).cell c2;replace c3:=(e2.trans (e3.trans e4)).cell c3;replace c4:=(e2.trans (e3.trans e4)).cell c4;replace d0:=(e3.trans e4).cell d0;replace d1:=(e3.trans e4).cell d1;replace d2:=(e3.trans e4).cell d2;replace d3:=(e3.trans e4).cell d3;replace d4:=(e3.trans e4).cell d4;replace b0:=e4.cell b0;replace b1:=e4.cell b1;have HX:=hid_ hxw;have HTH:=hid_ (fun (w':World) (h:Ex w w')=> rThree_any w' c d m1 m2 v1 v2 (hc.ex h) (hd.ex h) tl sl tv sv (ht.ex h) (hs.ex h));have HFO:=hid_ (fun (w':World) (h:Ex w w') (E:Int) (hE:ThrO c d tl sl E) (h0:E=0)=> (by
  subst h0;obtain ⟨e1,e2,g1,g2,g3⟩:=hE;obtain ⟨p,m,n,H⟩:=pair_ok g1 g2 g3.symm;have hm2:ISl w' m2 c.ml:=by have:=(hd.ex h).m;rw [H.dl] at this;exact this
  have:=rSrc_any (l1:=c.rows) (l2:=d.rows) w' H.fs H.isf H.n64 H.r1 H.r2 H.k1 H.k2 m1 m2 v1 v2 (hc.ex h).m (hc.ex h).g hm2 (hd.ex h).g (n - tl.length) w' tl sl tv sv (.slice none 0 0) [] [] true (Ex.refl _) (by have:=H.le;omega) H.len.symm H.rng (ht.ex h) (hs.ex h) (RGr.nil (Ex.refl _)) (by simp) (fun _=> (Aprt.nil _).symm) (fun _=> (Aprt.nil _).symm) ⟨fun _=> rfl,fun _=> rfl⟩ (fun h=> absurd rfl h);have e:srF p m c.ml c.rows d.rows n (n - tl.length) (0, []) tl sl=fndS c d tl sl:=by
   unfold fndS;rw [H.cp,H.cm,H.cn];rfl
  rw [show (([]:List Nd).length,([]:List Nd))=(0, []) from rfl,e] at this;unfold CdV.arg;rw [H.cp,H.cm,H.cn,H.dp,H.dm,H.dn];exact this:Calls Tryz.prog 68 #[c.arg m1 v1,d.arg m2 v2,.agg #[tv,sv],.bool true,.slice none 0 0] w' fun r w''=> SrO w' w' (.slice none 0 0) (fndS c d tl sl) r w''))
 obtain ⟨ta,tc,rfl,-,t2,-⟩:=ht.open;obtain ⟨sa,sc,rfl,-,s2,-⟩:=hs.open;obtain ⟨x1,y1,rfl,-,z1,-⟩:=hc.g.open;obtain ⟨x2,y2,rfl,-,z2,-⟩:=hd.g.open;obtain ⟨x3,y3,rfl,-,z3,-⟩:=hc.m.open;obtain ⟨x4,y4,rfl,-,z4,-⟩:=hd.m.open;unfold maxLen at t2 s2 z1 z2 z3 z4;obtain ⟨p,m,ml,n,rows⟩:=c;obtain ⟨p',m',ml',n',rows'⟩:=d;obtain ⟨B,hB⟩:∃B,w.heap.size=B:=⟨_,rfl⟩;rw [hB] at c0 c1 c2 c3 c4 d0 d1 d2 d3 d4 b0 b1 hbm;obtain ⟨TO,hTO⟩:∃T,ThrO ⟨p,m,ml,n,rows⟩ ⟨p',m',ml',n',rows'⟩ tl sl=T:=⟨_,rfl⟩;obtain ⟨R,hR⟩:∃T,fndS ⟨p,m,ml,n,rows⟩ ⟨p',m',ml',n',rows'⟩ tl sl=T:=⟨_,rfl⟩;rw [hTO] at HTH HFO ⊢;rw [hR] at HFO ⊢;dsimp only [CdV.arg,CdV.obj] at *;have HWB:=hid_ hB;clear hc hd ht hs e1 e2 e3 e4 hz1 hz2 hz3 hxw hTO hR;go_enter Tryz.func30,Tryz.ntmps30
 go_upto_region 1 with fail
 try simp only [hB]
 clear hB;generalize (((w.alloc (.cells #[.int .i64 p,.int .i64 m,.slice x3 ml.length y3,.int .i64 n,.slice x1 rows.length y1] 47)).alloc (.cells #[.int .i64 p',.int .i64 m',.slice x4 ml'.length y4,.int .i64 n',.slice x2 rows'.length y2] 47)).alloc (.cells #[.slice ta tl.length tc,.slice sa sl.length sc] 49)).alloc (.cells #[.slice none 0 0,.slice none 0 0,.int .i64 0] 26)=w1 at *;have HBM:=hid_ hbm;have HALL:=hid_ (fun w' (h:Ex w1 w')=> (⟨h.cell c0,h.cell c1,h.cell c2,h.cell c3,h.cell c4,h.cell d0,h.cell d1,h.cell d2,h.cell d3,h.cell d4,h.cell b0,h.cell b1⟩:_∧_∧_∧_∧_∧_∧_∧_∧_∧_∧_∧_));have HQS:=hid_ (show B + 1 + 1 + 1 < w1.heap.size from World.block_lt_of_cell? _ _ hbm.c0);clear hbm;go_wp2_with fail
 refine (HTH.out w1 HX.out).mono ?_;rintro e w2 ⟨⟨E,rfl,hth⟩,hx2⟩;have HX2:=hid_ hx2;have HE:=hid_ hth;clear hx2 hth c0 c1 c2 c3 c4 d0 d1 d2 d3 d4 b0 b1;have HQW:=hid_ (show w.heap.size≤B + 1 + 1 + 1 from by have:=HWB.out;omega);by_cases h0:E=0
 rotate_left
 ·have k1:(E !=0)=true:=by simpa using h0
  have H0:=hid_ h0;obtain ⟨q0,q1,q2,qf0,qf1,qf2⟩:=HBM.out.ex HX2.out;clear h0;go_wp2_with fail
  refine bodyPost_ret (v:= .tuple #[.agg #[.slice none 0 0,.slice none 0 0,.int .i64 0],.int .i64 E]) (by simp [results,Tryz.results30,go_sem,q0,q1,q2]) rfl ⟨⟨E,HE.out,?_⟩,set3_ex (HX.out.trans HX2.out) HQW.out _ _ _⟩;unfold fndM fndE;rw [if_pos H0.out,if_pos H0.out];exact ⟨_,_,rfl,isl_nil _,isl_nil _⟩
 ·have k1:(E !=0)=false:=by simp [h0]
  have HFC:=hid_ (HFO.out w2 (HX.out.trans HX2.out) E HE.out h0);subst h0;obtain ⟨c0,c1,c2,c3,c4,d0,d1,d2,d3,d4,b0,b1⟩:=HALL.out w2 HX2.out;go_wp2_with fail
  refine HFC.out.mono ?_;rintro r w3 ⟨v,qt,qs,e,rfl,hsv⟩;have hx3:Ex w2 w3:=⟨hsv.2.1.os,hsv.2.1.tape,hsv.2.1.output,hsv.2.1.size,fun k hk=> hsv.2.1.block k hk (by intro h;cases h)⟩;have HX3:=hid_ (HX2.out.trans hx3);obtain ⟨⟨qa1,qn1,qc1,hq1⟩,⟨qa2,qn2,qc2,hq2⟩⟩:=And.intro hsv.2.2.1 hsv.2.2.2.1;subst hq1 hq2;have HCS:=hid_ hsv.2.2.2.2;clear hsv hx3 c0 c1 c2 c3 c4 d0 d1 d2 d3 d4 b0 b1;obtain ⟨C,hC⟩:∃C,w3.heap.size=C:=⟨_,rfl⟩;have HCC:=hid_ hC;obtain ⟨n0,n1,HX4,-⟩:=boxP_facts w3 (.slice qa1 qn1 qc1) (.slice qa2 qn2 qc2);rw [hC] at n0 n1;have HX4:=hid_ (HX3.out.trans HX4);obtain ⟨q0,q1,q2,qf0,qf1,qf2⟩:=HBM.out.ex HX4.out;have HQC:=hid_ (show B + 1 + 1 + 1 < C from by have:=HQS.out;have:=HX3.out.size;omega)
  try simp only [hC]
  rcases HCS.out with ⟨a1,rfl,-⟩ | ⟨a1,rfl,i1,i2⟩ | ⟨a1,rfl⟩
  ·clear HCS;go_upto_region 5 with fail
   try simp only [hC]
   clear hC;generalize w3.alloc (.cells #[.slice qa1 qn1 qc1,.slice qa2 qn2 qc2] 49)=w4 at *;have HFM:=hid_ (show fndM 0 R=⟨[], [],0⟩∧fndE 0 R=11 from by
    unfold fndM fndE;rw [a1];exact ⟨rfl,rfl⟩)
   clear a1;go_wp2_with fail
   refine bodyPost_ret (v:= .tuple #[.agg #[.slice none 0 0,.slice none 0 0,.int .i64 0],.int .i64 11]) (by simp [results,Tryz.results30,go_sem,q0,q1,q2]) rfl ⟨⟨0,HE.out,?_⟩,set3_ex (HX.out.trans HX4.out) HQW.out _ _ _⟩;rw [HFM.out.1,HFM.out.2];exact ⟨_,_,rfl,isl_nil _,isl_nil _⟩
  ·have HFM:=hid_ (show fndM 0 R=⟨(lastN R.1.2).tl,(lastN R.1.2).sc,0⟩∧fndE 0 R=0 from by
    unfold fndM fndE;rw [a1];exact ⟨rfl,rfl⟩)
   have j1:=i1.ex (e_al w3 (.cells #[.slice qa1 qn1 qc1,.slice qa2 qn2 qc2] 49));have j2:=i2.ex (e_al w3 (.cells #[.slice qa1 qn1 qc1,.slice qa2 qn2 qc2] 49));clear HCS a1 i1 i2;go_upto_region 5 with fail
   try simp only [hC]
   clear hC;generalize w3.alloc (.cells #[.slice qa1 qn1 qc1,.slice qa2 qn2 qc2] 49)=w4 at *;have y1:(w4.setCell ⟨B + 1 + 1 + 1,0,none⟩ (.slice qa1 qn1 qc1)).cell? ⟨B + 1 + 1 + 1,1,none⟩=some (.slice none 0 0):=by rw [cell_set_off (by decide)];exact q1
   have y2:((w4.setCell ⟨B + 1 + 1 + 1,0,none⟩ (.slice qa1 qn1 qc1)).setCell ⟨B + 1 + 1 + 1,1,none⟩ (.slice qa2 qn2 qc2)).cell? ⟨B + 1 + 1 + 1,2,none⟩=some (.int .i64 0):=by rw [cell_set_off (by decide),cell_set_off (by decide)];exact q2
   have HI1:=hid_ (isl_same (isl_set (isl_set j1 q0 (.slice qa1 qn1 qc1)) y1 (.slice qa2 qn2 qc2)) y2);have HI2:=hid_ (isl_same (isl_set (isl_set j2 q0 (.slice qa1 qn1 qc1)) y1 (.slice qa2 qn2 qc2)) y2);clear y1 y2 j1 j2;go_wp2_with fail
   refine bodyPost_ret (v:= .tuple #[.agg #[.slice qa1 qn1 qc1,.slice qa2 qn2 qc2,.int .i64 0],.int .i64 0]) (by simp [results,Tryz.results30,go_sem,q0,q1,q2]) rfl ⟨⟨0,HE.out,?_⟩,set3_ex (HX.out.trans HX4.out) HQW.out _ _ _⟩;rw [HFM.out.1,HFM.out.2];exact ⟨_,_,rfl,HI1.out,HI2.out⟩
  ·clear HCS;go_upto_region 5 with fail
   try simp only [hC]
   clear hC;generalize w3.alloc (.cells #[.slice qa1 qn1 qc1,.slice qa2 qn2 qc2] 49)=w4 at *;have HFM:=hid_ (show fndM 0 R=⟨[], [],0⟩∧fndE 0 R=8 from by
    unfold fndM fndE;rw [a1];exact ⟨rfl,rfl⟩)
   clear a1;go_wp2_with fail
   refine bodyPost_ret (v:= .tuple #[.agg #[.slice none 0 0,.slice none 0 0,.int .i64 0],.int .i64 8]) (by simp [results,Tryz.results30,go_sem,q0,q1,q2]) rfl ⟨⟨0,HE.out,?_⟩,set3_ex (HX.out.trans HX4.out) HQW.out _ _ _⟩;rw [HFM.out.1,HFM.out.2];exact ⟨_,_,rfl,isl_nil _,isl_nil _⟩
theorem rRefute_any (w:World) (c d:CdV) (m1 m2 v1 v2:Value) (hc:c.at w m1 v1) (hd:d.at w m2 v2) (tl sl:List Int) (tv sv:Value) (ht:ISl w tv tl) (hs:ISl w sv sl):
  Calls Tryz.prog 32 #[c.arg m1 v1,d.arg m2 v2,.agg #[tv,sv]] w fun r w'=> (∃E:Int,ThrO c d tl sl E∧RfR (rftL E (fndS c d tl sl)) (rftE E (fndS c d tl sl)) r w')∧Ex w w':=by
 obtain ⟨c0,c1,c2,c3,c4⟩:=boxC5 w c m1 v1;obtain ⟨d0,d1,d2,d3,d4⟩:=boxC5 (w.alloc (c.obj m1 v1)) d m2 v2;obtain ⟨b0,b1,e3,hz3⟩:=boxP_facts ((w.alloc (c.obj m1 v1)).alloc (d.obj m2 v2)) tv sv;have hbm:=BxR.new (((w.alloc (c.obj m1 v1)).alloc (d.obj m2 v2)).alloc (.cells #[tv,sv] 49));have hz1:(w.alloc (c.obj m1 v1)).heap.size=w.heap.size + 1:=by simp
 have hz2:((w.alloc (c.obj m1 v1)).alloc (d.obj m2 v2)).heap.size=w.heap.size + 1 + 1:=by simp
 have e1:=e_al w (c.obj m1 v1);have e2:=e_al (w.alloc (c.obj m1 v1)) (d.obj m2 v2);have e4:=e_al (((w.alloc (c.obj m1 v1)).alloc (d.obj m2 v2)).alloc (.cells #[tv,sv] 49)) (.cells #[.slice none 0 0] 54);rw [hz3,hz2] at hbm;rw [hz1] at d0 d1 d2 d3 d4;rw [hz2] at b0 b1;have hxw:=e1.trans (e2.trans (e3.trans e4));replace c0:=(e2.trans (e3.trans e4)).cell c0;replace c1:=(e2.trans (e3.trans e4)).cell c1;replace c2:=(e2.trans (e3.trans e4)).cell c2;replace c3:=(e2.trans (e3.trans e4)).cell c3;replace c4:=(e2.trans (e3.trans e4)).cell c4;replace d0:=(e3.trans e4).cell d0;replace d1:=(e3.trans e4).cell d1;replace d2:=(e3.trans e4).cell d2;replace d3:=(e3.trans e4).cell d3;replace d4:=(e3.trans e4).cell d4;replace b0:=e4.cell b0;replace b1:=e4.cell b1;have HX:=hid_ hxw;have HTH:=hid_ (fun (w':World) (h:Ex w w')=> rThree_any w' c d m1 m2 v1 v2 (hc.ex h) (hd.ex h) tl sl tv sv (ht.ex h) (hs.ex h));have HFO:=hid_ (fun (w':World) (h:Ex w w') (E:Int) (hE:ThrO c d tl sl E) (h0:E=0)=> (by
  subst h0;obtain ⟨e1,e2,g1,g2,g3⟩:=hE;obtain ⟨p,m,n,H⟩:=pair_ok g1 g2 g3.symm;have hm2:ISl w' m2 c.ml:=by have:=(hd.ex h).m;rw [H.dl] at this;exact this
  have:=rSrc_any (l1:=c.rows) (l2:=d.rows) w' H.fs H.isf H.n64 H.r1 H.r2 H.k1 H.k2 m1 m2 v1 v2 (hc.ex h).m (hc.ex h).g hm2 (hd.ex h).g (n - tl.length) w' tl sl tv sv (.slice none 0 0) [] [] true (Ex.refl _) (by have:=H.le;omega) H.len.symm H.rng (ht.ex h) (hs.ex h) (RGr.nil (Ex.refl _)) (by simp) (fun _=> (Aprt.nil _).symm) (fun _=> (Aprt.nil _).symm) ⟨fun _=> rfl,fun _=> rfl⟩ (fun h=> absurd rfl h);have e:srF p m c.ml c.rows d.rows n (n - tl.length) (0, []) tl sl=fndS c d tl sl:=by
   unfold fndS;rw [H.cp,H.cm,H.cn];rfl
  rw [show (([]:List Nd).length,([]:List Nd))=(0, []) from rfl,e] at this;unfold CdV.arg;rw [H.cp,H.cm,H.cn,H.dp,H.dm,H.dn];exact this:Calls Tryz.prog 68 #[c.arg m1 v1,d.arg m2 v2,.agg #[tv,sv],.bool true,.slice none 0 0] w' fun r w''=> SrO w' w' (.slice none 0 0) (fndS c d tl sl) r w''))
 obtain ⟨ta,tc,rfl,-,t2,-⟩:=ht.open;obtain ⟨sa,sc,rfl,-,s2,-⟩:=hs.open;obtain ⟨x1,y1,rfl,-,z1,-⟩:=hc.g.open;obtain ⟨x2,y2,rfl,-,z2,-⟩:=hd.g.open;obtain ⟨x3,y3,rfl,-,z3,-⟩:=hc.m.open;obtain ⟨x4,y4,rfl,-,z4,-⟩:=hd.m.open;unfold maxLen at t2 s2 z1 z2 z3 z4;obtain ⟨p,m,ml,n,rows⟩:=c;obtain ⟨p',m',ml',n',rows'⟩:=d;obtain ⟨B,hB⟩:∃B,w.heap.size=B:=⟨_,rfl⟩;rw [hB] at c0 c1 c2 c3 c4 d0 d1 d2 d3 d4 b0 b1 hbm;obtain ⟨TO,hTO⟩:∃T,ThrO ⟨p,m,ml,n,rows⟩ ⟨p',m',ml',n',rows'⟩ tl sl=T:=⟨_,rfl⟩;obtain ⟨R,hR⟩:∃T,fndS ⟨p,m,ml,n,rows⟩ ⟨p',m',ml',n',rows'⟩ tl sl=T:=⟨_,rfl⟩;rw [hTO] at HTH HFO ⊢;rw [hR] at HFO ⊢;dsimp only [CdV.arg,CdV.obj] at *;have HWB:=hid_ hB;clear hc hd ht hs e1 e2 e3 e4 hz1 hz2 hz3 hxw hTO hR;go_enter Tryz.func32,Tryz.ntmps32
 go_upto_region 1 with fail
 try simp only [hB]
 clear hB;generalize (((w.alloc (.cells #[.int .i64 p,.int .i64 m,.slice x3 ml.length y3,.int .i64 n,.slice x1 rows.length y1] 47)).alloc (.cells #[.int .i64 p',.int .i64 m',.slice x4 ml'.length y4,.int .i64 n',.slice x2 rows'.length y2] 47)).alloc (.cells #[.slice ta tl.length tc,.slice sa sl.length sc] 49)).alloc (.cells #[.slice none 0 0] 54)=w1 at *;have HBM:=hid_ hbm;have HALL:=hid_ (fun w' (h:Ex w1 w')=> (⟨h.cell c0,h.cell c1,h.cell c2,h.cell c3,h.cell c4,h.cell d0,h.cell d1,h.cell d2,h.cell d3,h.cell d4,h.cell b0,h.cell b1⟩:_∧_∧_∧_∧_∧_∧_∧_∧_∧_∧_∧_));have HQS:=hid_ (show B + 1 + 1 + 1 < w1.heap.size from World.block_lt_of_cell? _ _ hbm.c0);clear hbm;go_wp2_with fail
 refine (HTH.out w1 HX.out).mono ?_;rintro e w2 ⟨⟨E,rfl,hth⟩,hx2⟩;have HX2:=hid_ hx2;have HE:=hid_ hth;clear hx2 hth c0 c1 c2 c3 c4 d0 d1 d2 d3 d4 b0 b1;have HQW:=hid_ (show w.heap.size≤B + 1 + 1 + 1 from by have:=HWB.out;omega);by_cases h0:E=0
 rotate_left
 ·have k1:(E !=0)=true:=by simpa using h0
  have H0:=hid_ h0;obtain ⟨q0,qf0⟩:=HBM.out.ex HX2.out;clear h0;go_wp2_with fail
  refine bodyPost_ret (v:= .tuple #[.agg #[.slice none 0 0],.int .i64 E]) (by simp [results,Tryz.results32,go_sem,q0]) rfl ⟨⟨E,HE.out,?_⟩,(HX.out.trans HX2.out).setCell (p:=⟨B + 1 + 1 + 1,0,none⟩) HQW.out _⟩;unfold rftL rftE;rw [if_pos H0.out,if_pos H0.out];exact ⟨_,rfl,RSl.nil _⟩
 ·have k1:(E !=0)=false:=by simp [h0]
  have HFC:=hid_ (HFO.out w2 (HX.out.trans HX2.out) E HE.out h0);subst h0;obtain ⟨c0,c1,c2,c3,c4,d0,d1,d2,d3,d4,b0,b1⟩:=HALL.out w2 HX2.out;go_wp2_with fail
  refine HFC.out.mono ?_;rintro r w3 ⟨v,qt,qs,e,rfl,hsv⟩;have hx3:Ex w2 w3:=⟨hsv.2.1.os,hsv.2.1.tape,hsv.2.1.output,hsv.2.1.size,fun k hk=> hsv.2.1.block k hk (by intro h;cases h)⟩;have HX3:=hid_ (HX2.out.trans hx3);obtain ⟨⟨qa1,qn1,qc1,hq1⟩,⟨qa2,qn2,qc2,hq2⟩⟩:=And.intro hsv.2.2.1 hsv.2.2.2.1;subst hq1 hq2;have HCS:=hid_ hsv.2.2.2.2;clear hsv hx3 c0 c1 c2 c3 c4 d0 d1 d2 d3 d4 b0 b1;obtain ⟨C,hC⟩:∃C,w3.heap.size=C:=⟨_,rfl⟩;have HCC:=hid_ hC;obtain ⟨n0,n1,HX4,-⟩:=boxP_facts w3 (.slice qa1 qn1 qc1) (.slice qa2 qn2 qc2);rw [hC] at n0 n1;have HX4:=hid_ (HX3.out.trans HX4);obtain ⟨q0,qf0⟩:=HBM.out.ex HX4.out;have HQC:=hid_ (show B + 1 + 1 + 1 < C from by have:=HQS.out;have:=HX3.out.size;omega);rcases HCS.out with ⟨a1,rfl,-,-,-,⟨mvs,hgr⟩,hfr⟩ | ⟨a1,rfl,-,-⟩ | ⟨a1,rfl⟩
  ·have HFM:=hid_ (show rftL 0 R=rfOf R.1.2∧rftE 0 R=0 from by
    unfold rftL rftE;rw [a1];exact ⟨rfl,rfl⟩)
   have hg4:=hgr.later (e_al w3 (.cells #[.slice qa1 qn1 qc1,.slice qa2 qn2 qc2] 49));obtain ⟨va,vc,hv⟩:=own_shape hgr.own;subst hv;have HQN:=hid_ (show ∀X,B + 1 + 1 + 1=X→X < w2.heap.size from fun X h=> by have:=HQS.out;have:=HX2.out.size;omega);clear HCS a1 hgr hfr;go_upto_region 5 with fail
   try simp only [hC]
   clear hC;generalize w3.alloc (.cells #[.slice qa1 qn1 qc1,.slice qa2 qn2 qc2] 49)=w4 at *;obtain ⟨NL,hNL⟩:∃k,R.1.2.length=k:=⟨_,rfl⟩;rw [hNL] at hg4 ⊢;have HRS:=hid_ (show RSl (w4.setCell ⟨B + 1 + 1 + 1,0,none⟩ (.slice va NL vc)) (.slice va NL vc) (rfOf R.1.2) from by
    refine ⟨mvs,by rw [hg4.len,rfOf_len],by rw [rfOf_len];exact Sl.own (ownsRow_setCell_ne (a:=⟨B + 1 + 1 + 1,0,none⟩) hg4.own (fun e=> by have h5:w2.heap.size≤B + 1 + 1 + 1:=(hg4.own.lt _ e).1;have:=HQN.out _ rfl;omega) _),fun i e mv a b=> Sl.own (ownsRow_setCell_ne (a:=⟨B + 1 + 1 + 1,0,none⟩) (hg4.at_ i e mv a b).1 (fun h=> by have h5:w2.heap.size≤B + 1 + 1 + 1:=((hg4.at_ i _ mv a b).1.lt _ h).1;have:=HQN.out _ rfl;omega) _)⟩)
   clear hg4 hNL;go_wp2_with fail
   refine bodyPost_ret (v:= .tuple #[.agg #[.slice va NL vc],.int .i64 0]) (by simp [results,Tryz.results32,go_sem,q0]) rfl ⟨⟨0,HE.out,?_⟩,(HX.out.trans HX4.out).setCell (p:=⟨B + 1 + 1 + 1,0,none⟩) HQW.out _⟩;rw [HFM.out.1,HFM.out.2];exact ⟨_,rfl,HRS.out⟩
  ·clear HCS;go_upto_region 5 with fail
   try simp only [hC]
   clear hC;generalize w3.alloc (.cells #[.slice qa1 qn1 qc1,.slice qa2 qn2 qc2] 49)=w4 at *;have HFM:=hid_ (show rftL 0 R= []∧rftE 0 R=11 from by
    unfold rftL rftE;rw [a1];exact ⟨rfl,rfl⟩)
   clear a1;go_wp2_with fail
   refine bodyPost_ret (v:= .tuple #[.agg #[.slice none 0 0],.int .i64 11]) (by simp [results,Tryz.results32,go_sem,q0]) rfl ⟨⟨0,HE.out,?_⟩,(HX.out.trans HX4.out).setCell (p:=⟨B + 1 + 1 + 1,0,none⟩) HQW.out _⟩;rw [HFM.out.1,HFM.out.2];exact ⟨_,rfl,RSl.nil _⟩
  ·clear HCS;go_upto_region 5 with fail
   try simp only [hC]
   clear hC;generalize w3.alloc (.cells #[.slice qa1 qn1 qc1,.slice qa2 qn2 qc2] 49)=w4 at *;have HFM:=hid_ (show rftL 0 R= []∧rftE 0 R=8 from by
    unfold rftL rftE;rw [a1];exact ⟨rfl,rfl⟩)
   clear a1;go_wp2_with fail
   refine bodyPost_ret (v:= .tuple #[.agg #[.slice none 0 0],.int .i64 8]) (by simp [results,Tryz.results32,go_sem,q0]) rfl ⟨⟨0,HE.out,?_⟩,(HX.out.trans HX4.out).setCell (p:=⟨B + 1 + 1 + 1,0,none⟩) HQW.out _⟩;rw [HFM.out.1,HFM.out.2];exact ⟨_,rfl,RSl.nil _⟩
end Go.Proofs.YtgdmlmhpineibaaGreat
