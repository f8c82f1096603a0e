/- Walk of equivalence.CheckRefutation. -/
import Derived.Laws.EntriesVeiled
import Derived.Deep.RegionHeld3
import Derived.Test.YtgdmlmhpineibaaGreatZg27
import Derived.Test.YtgdmlmhpineibaaGreatZg35
import Derived.Test.YtgdmlmhpineibaaGreatZg42
namespace Go.Proofs.YtgdmlmhpineibaaGreat
set_option linter.unusedVariables false
set_option linter.unusedSimpArgs false
set_option maxRecDepth 100000
set_option maxHeartbeats 8000000
section
open Go.RowKit
theorem boxRf (w:World) (ev:Value):(w.alloc (.cells #[ev] 54)).cell? ⟨w.heap.size,0,none⟩=some ev:=by simp
def flS (c d:CdV) (es:List Rf) (tl sl:List Int):Nat × Int:=flF c.p.toNat c.m.toNat c.ml c.rows d.rows c.n.toNat es (c.n.toNat - tl.length) 0 tl sl
def ckE (E:Int) (R:Nat × Int) (es:List Rf):Int:=if E≠0 then E else if R.2=0∧R.1 < es.length then 13 else R.2
theorem CheckRefutation_any (w:World) (c d:CdV) (m1 m2 v1 v2:Value) (hc:c.at w m1 v1) (hd:d.at w m2 v2) (tl sl:List Int) (tv sv:Value) (ht:ISl w tv tl) (hs:ISl w sv sl) (es:List Rf) (ev:Value) (hr:RSl w ev es):
  Calls Tryz.prog 34 #[c.arg m1 v1,d.arg m2 v2,.agg #[tv,sv],.agg #[ev]] w fun r w'=> (∃e1 e2:Int,CodO c.p c.m c.ml c.n c.rows e1∧(e1=0→CodO d.p d.m d.ml d.n d.rows e2)∧r= .returned (.int .i64 (ckE (stE e1 e2 (samF c.p c.m c.ml d.p d.m d.ml) c.n d.n tl sl (c.p.toNat ^ c.m.toNat)) (flS c d es tl sl) es)))∧Ex w w':=by
 obtain ⟨c0,c1,c2,c3,c4⟩:=boxC5 w c m1 v1;obtain ⟨d0,d1,d2,d3,d4⟩:=boxC5 (w.alloc (c.obj m1 v1)) d m2 v2;obtain ⟨b0,b1,e3,hz3⟩:=boxP_facts ((w.alloc (c.obj m1 v1)).alloc (d.obj m2 v2)) tv sv;have hbm:=boxRf (((w.alloc (c.obj m1 v1)).alloc (d.obj m2 v2)).alloc (.cells #[tv,sv] 49)) ev;have hz1:(w.alloc (c.obj m1 v1)).heap.size=w.heap.size + 1:=by simp
 have hz2:((w.alloc (c.obj m1 v1)).alloc (d.obj m2 v2)).heap.size=w.heap.size + 1 + 1:=by simp
 have e1:=e_al w (c.obj m1 v1);have e2:=e_al (w.alloc (c.obj m1 v1)) (d.obj m2 v2);have e4:=e_al (((w.alloc (c.obj m1 v1)).alloc (d.obj m2 v2)).alloc (.cells #[tv,sv] 49)) (.cells #[ev] 54);rw [hz3,hz2] at hbm;rw [hz1] at d0 d1 d2 d3 d4;rw [hz2] at b0 b1;have hxw:=e1.trans (e2.trans (e3.trans e4));replace c0:=(e2.trans (e3.trans e4)).cell c0;replace c1:=(e2.trans (e3.trans e4)).cell c1;replace c2:=(e2.trans (e3.trans e4)).cell c2;replace c3:=(e2.trans (e3.trans e4)).cell c3;replace c4:=(e2.trans (e3.trans e4)).cell c4;replace d0:=(e3.trans e4).cell d0;replace d1:=(e3.trans e4).cell d1;replace d2:=(e3.trans e4).cell d2;replace d3:=(e3.trans e4).cell d3;replace d4:=(e3.trans e4).cell d4;replace b0:=e4.cell b0;replace b1:=e4.cell b1;obtain ⟨B,hB⟩:∃B,w.heap.size=B:=⟨_,rfl⟩;rw [hB] at c0 c1 c2 c3 c4 d0 d1 d2 d3 d4 b0 b1 hbm;have HST:=hid_ (start_any _ c d m1 m2 v1 v2 (hc.ex hxw) (hd.ex hxw) tl sl tv sv (ht.ex hxw) (hs.ex hxw));obtain ⟨ta,tc,rfl,-,t2,-⟩:=ht.open;obtain ⟨sa,sc,rfl,-,s2,-⟩:=hs.open;obtain ⟨x1,y1,rfl,-,z1,-⟩:=hc.g.open;obtain ⟨x2,y2,rfl,-,z2,-⟩:=hd.g.open;obtain ⟨x3,y3,rfl,-,z3,-⟩:=hc.m.open;obtain ⟨x4,y4,rfl,-,z4,-⟩:=hd.m.open;unfold maxLen at t2 s2 z1 z2 z3 z4;have HX:=hid_ hxw;have HC:=hid_ hc;have HD:=hid_ hd;have HT:=hid_ ht;have HS:=hid_ hs;have HR:=hid_ hr;have HBM:=hid_ hbm;obtain ⟨ra,rc,rfl,hrc,-,-⟩:=rsl_open hr;unfold maxLen at hrc;have HWB:=hid_ hB;clear hc hd ht hs hr e1 e2 e3 e4 hz1 hz2 hz3 hxw hbm;unfold CdV.arg at HST ⊢;go_enter Tryz.func34,Tryz.ntmps34
 unfold CdV.obj at c0 c1 c2 c3 c4 d0 d1 d2 d3 d4 b0 b1 HX HBM HST;go_upto_region 1 with fail
 try simp only [hB]
 clear hB;generalize (((w.alloc (.cells #[.int .i64 c.p,.int .i64 c.m,.slice x3 c.ml.length y3,.int .i64 c.n,.slice x1 c.rows.length y1] 47)).alloc (.cells #[.int .i64 d.p,.int .i64 d.m,.slice x4 d.ml.length y4,.int .i64 d.n,.slice x2 d.rows.length y2] 47)).alloc (.cells #[.slice ta tl.length tc,.slice sa sl.length sc] 49)).alloc (.cells #[.slice ra es.length rc] 54)=w1 at *;have B0:=hid_ b0;have B1:=hid_ b1;go_wp2_with fail
 refine HST.out.mono ?_;rintro e w3 ⟨ho,hx3⟩;have HX3:=hid_ hx3;obtain ⟨e1,e2,ho1,ho2,ho⟩:=ho;have HO1:=hid_ ho1;have HO2:=hid_ ho2;clear c0 c1 c2 c3 c4 d0 d1 d2 d3 d4 hx3 ho1 ho2 HST b0 b1;obtain ⟨E,hE⟩:∃E,stE e1 e2 (samF c.p c.m c.ml d.p d.m d.ml) c.n d.n tl sl (c.p.toNat ^ c.m.toNat)=E:=⟨_,rfl⟩;rw [hE] at ho;have HE:=hid_ hE;rcases ho with ⟨h0,ptr,rfl⟩ | ⟨h0,w2,A,b,x0,pn,mn,nn,hp,hm,hnn,rfl,hx2,hg,hx01,hx02,hA,hx23,hpr,h11,hf11⟩
 ·have hb0:(E !=0)=true:=by simpa using h0
  have H0:=hid_ h0;clear h0 hE;go_wp2_with fail
  go_ret;refine ⟨⟨e1,e2,HO1.out,HO2.out,?_⟩,(HX.out.trans HX3.out).alloc _⟩;rw [HE.out];unfold ckE;rw [if_pos H0.out];rfl
 ·subst h0;obtain ⟨k1,k2,k3,k4,k5,k6,k7,k8,k9⟩:=stE_ok hE;subst k1;have ho2:=HO2.out rfl;subst k2;obtain ⟨kl1,kr1⟩:=codO_rows HO1.out;obtain ⟨kl2,kr2⟩:=codO_rows ho2;obtain ⟨-,kn1,kn2⟩:=codO_fld HO1.out;obtain ⟨SB,hSB⟩:∃B,w3.heap.size=B:=⟨_,rfl⟩;have hxw2:=HX.out.trans hx2;have b0:=HX3.out.cell B0.out;have b1:=HX3.out.cell B1.out;have r0:=HX3.out.cell HBM.out;have HK:=hid_ (show c.n=d.n∧tl.length=sl.length∧(tl.length:Int)≤c.n∧rngB tl c.n=true from ⟨k4,k5,k6,k7⟩);have HPM:=hid_ (show c.p=pn∧c.m=mn∧c.n=nn from ⟨hp,hm,hnn⟩);clear HBM hp hm hnn k3 k4 k5 k6 k7 k8 k9 hE;go_upto_region 7 with fail
  have f1:=e_al w3 (.cells #[.pointer (some ⟨A,0,none⟩)] 96);have f2:=e_al (w3.alloc (.cells #[.pointer (some ⟨A,0,none⟩)] 96)) (.cells #[.int .i64 0] 3);have f3:=e_al ((w3.alloc (.cells #[.pointer (some ⟨A,0,none⟩)] 96)).alloc (.cells #[.int .i64 0] 3)) (.cells #[folV (SB + 1) (B + 1 + 1 + 1) SB (SB + 1 + 1)] 105);have sb0:(w3.alloc (.cells #[.pointer (some ⟨A,0,none⟩)] 96)).cell? ⟨SB,0,none⟩=some (.pointer (some ⟨A,0,none⟩)):=alloc1_cell _ _ _ hSB;have hs4:(w3.alloc (.cells #[.pointer (some ⟨A,0,none⟩)] 96)).heap.size=SB + 1:=by simp [hSB]
  have ab0:((w3.alloc (.cells #[.pointer (some ⟨A,0,none⟩)] 96)).alloc (.cells #[.int .i64 0] 3)).cell? ⟨SB + 1,0,none⟩=some (.int .i64 0):=alloc1_cell _ _ _ hs4;have af0:((w3.alloc (.cells #[.pointer (some ⟨A,0,none⟩)] 96)).alloc (.cells #[.int .i64 0] 3)).frozen? ⟨SB + 1,0,none⟩=false:=alloc1_frz _ _ _ hs4;have hs5:((w3.alloc (.cells #[.pointer (some ⟨A,0,none⟩)] 96)).alloc (.cells #[.int .i64 0] 3)).heap.size=SB + 1 + 1:=by simp [hSB]
  have fb0:(((w3.alloc (.cells #[.pointer (some ⟨A,0,none⟩)] 96)).alloc (.cells #[.int .i64 0] 3)).alloc (.cells #[folV (SB + 1) (B + 1 + 1 + 1) SB (SB + 1 + 1)] 105)).cell? ⟨SB + 1 + 1,0,none⟩=some (folV (SB + 1) (B + 1 + 1 + 1) SB (SB + 1 + 1)):=alloc1_cell _ _ _ hs5;have hxS:=hx23.trans f1;have HENV:=hid_ (show CkE pn mn c.ml c.rows d.rows nn A b x0 (B + 1 + 1 + 1) SB (.slice x1 c.rows.length y1) (.slice x2 d.rows.length y2) (.slice ra es.length rc) es (w3.alloc (.cells #[.pointer (some ⟨A,0,none⟩)] 96)) from
   { pr:=hpr.ex f1,gf:=hg.ex hxS,m1:=(HC.out.g.ex hxw2).ex hxS,m2:=(HD.out.g.ex hxw2).ex hxS,x1:=hx01,x2:=hx02,n64:=by have:=HPM.out.2.2;omega,r1:=fun r hr=> by have:=kr1 r hr;have:=HPM.out.2.2;omega,r2:=fun r hr=> by have:=kr2 r hr;have:=HPM.out.2.2;have:=HK.out.1;omega,k1:=kl1,k2:=kl2,rb:=f1.cell r0,sb:=sb0,rs:=(HR.out.ex hxw2).ex hxS })
  have HCS:=hid_ (show CSt (w3.alloc (.cells #[.pointer (some ⟨A,0,none⟩)] 96)) (SB + 1) (SB + 1 + 1) (folV (SB + 1) (B + 1 + 1 + 1) SB (SB + 1 + 1)) es.length 0 (((w3.alloc (.cells #[.pointer (some ⟨A,0,none⟩)] 96)).alloc (.cells #[.int .i64 0] 3)).alloc (.cells #[folV (SB + 1) (B + 1 + 1 + 1) SB (SB + 1 + 1)] 105)) from
   { ex:=f2.trans f3,c:=f3.cell ab0,f:=f3.frz ab0 af0,fb:=fb0,ne:=by omega,lb:=by rw [hs4];omega,le:=Nat.zero_le _ })
  have HP:=hid_ (fun (v:Value) (l:List Int) (h:ISl w v l)=> show PrS (DM1 (SB + 1)) (((w3.alloc (.cells #[.pointer (some ⟨A,0,none⟩)] 96)).alloc (.cells #[.int .i64 0] 3)).alloc (.cells #[folV (SB + 1) (B + 1 + 1 + 1) SB (SB + 1 + 1)] 105)) v l from by
   refine ⟨h.ex (((hxw2.trans hx23).trans f1).trans (f2.trans f3)),fun hl X hX hd=> ?_⟩;have h2:=h.ex (hxw2.trans hx23);obtain ⟨a,cap,rfl,-,-,h5⟩:=h2.open;obtain ⟨b',o,rfl,h6⟩:=h5 (List.length_pos_iff.2 hl);injection hX with hX;have hX:b'=X:=hX;have:=World.block_lt_of_cell? _ _ (h6 0 _ (get_getD (List.length_pos_iff.2 hl)));have hd:X=SB + 1:=hd;simp only at this;omega)
  have b0:=(f1.trans (f2.trans f3)).cell b0;have b1:=(f1.trans (f2.trans f3)).cell b1;have r0:=(f1.trans (f2.trans f3)).cell r0;have HFO:=hid_ (follow_any HENV.out (nn - tl.length) 0 _ tl sl (.slice ta tl.length tc) (.slice sa sl.length sc) (by have:=HK.out.2.2.1;have:=HPM.out.2.2;omega) HK.out.2.1.symm (by have:=HK.out.2.2.2;rw [HPM.out.2.2] at this;exact this) (fun h=> absurd rfl h) HCS.out (HP.out _ _ HT.out) (HP.out _ _ HS.out));have hR:flF pn mn c.ml c.rows d.rows nn es (nn - tl.length) 0 tl sl=flS c d es tl sl:=by
   unfold flS;rw [HPM.out.1,HPM.out.2.1,HPM.out.2.2];rfl
  rw [hR] at HFO;have fb1:=hid_ fb0;unfold folV at b0 b1 r0 fb0 HFO HCS f3;have HW3:=hid_ (hxw2.trans hxS);have r0w:=HENV.out.rb;clear hxS hxw2 hs4 hs5 sb0 ab0 af0 f1 f2 HP hx23 hpr hg hx01 hx02 hA h11 hf11 hx2 kl1 kl2 kr1 kr2 kn1 kn2 hR;generalize ((w3.alloc (.cells #[.pointer (some ⟨A,0,none⟩)] 96)).alloc (.cells #[.int .i64 0] 3)).alloc (.cells #[.func (.func 70) #[] #[.pointer (some ⟨SB + 1,0,none⟩),.pointer (some ⟨B + 1 + 1 + 1,0,none⟩),.pointer (some ⟨SB,0,none⟩),.pointer (some ⟨SB + 1 + 1,0,none⟩)]] 105)=w6 at *;obtain ⟨R,hR⟩:∃R,flS c d es tl sl=R:=⟨_,rfl⟩;rw [hR] at HFO;have HRE:=hid_ hR
  try simp only [hSB]
  clear hR;have hle7:R.1≤es.length∨True:=Or.inr trivial;clear hle7;go_wp2_with (go_at_call 70;refine HFO.out.mono ?_;rintro e7 w7 ⟨rfl,hs7,-⟩;have HS7:=hid_ hs7;have a7:=hs7.c;have r7:=hs7.ex.cell r0w;have hl7:=hs7.le;clear hs7)
  all_goals
   go_ret;refine ⟨⟨0,0,HO1.out,fun _=> ho2,?_⟩,HW3.out.trans HS7.out.ex⟩;rw [HE.out,HRE.out];unfold ckE
   simp_all
end
section
open Go.RowKit
section
variable {p m:Nat} {ml:List Int} {mv:Value}
theorem rImage_any (w:World) (hf:FSh p m ml) (hF:IsF p m (lw ml)) (hmv:ISl w mv ml) (N:Nat) (hN:N≤64) (pl sl x:List Int) (pv sv xv:Value) (hp:ISl w pv pl) (hs:ISl w sv sl) (hx:ISl w xv x) (fr:Nat) (hfr:fr < m) (hpl:pl.length=N) (hsl:sl.length=N) (hxl:x.length=N) (hr:rngB pl N=true) (hxe:∀i,i < N→∃z:Nat,x.getD i 0=z∧z < p ^ m):
  Calls Tryz.prog 51 #[.agg #[.int .i64 p,.int .i64 m,mv],.agg #[pv,sv,.int .i64 fr],xv] w fun r w'=> ∃g,r= .returned (.slice (some ⟨g,0,none⟩) N N)∧Own w' w.heap.size 3 g N (iv (imgF p m ml pl sl fr x N))∧Ex w w':=by
 obtain ⟨a0,a1,a2,ea⟩:=boxF_facts w p m mv;obtain ⟨b0,b1,b2,eb⟩:=boxMo_facts (w.alloc (.cells #[.int .i64 p,.int .i64 m,mv] 24)) pv sv fr;have asz:(w.alloc (.cells #[.int .i64 p,.int .i64 m,mv] 24)).heap.size=w.heap.size + 1:=by simp
 rw [asz] at b0 b1 b2;replace a0:=eb.cell a0;replace a1:=eb.cell a1;replace a2:=eb.cell a2;have p2:=hf.p2;have m1:=hf.m1;have m8:=hf.m8;have HFR:=hid_ (fun (w1:World) (h1:Ex w w1) (y:Nat) (hy:y < p ^ m)=> rFrob_any w1 hf hF (hmv.ex h1) y hy fr (by omega));have HMU:=hid_ (fun (w1:World) (h1:Ex w w1) (y z:Int)=> rMul_any w1 hf (hmv.ex h1) y z);obtain ⟨pa,pc,rfl,_,q2,p3⟩:=hp.open;obtain ⟨sa,sc,rfl,_,s2,s3⟩:=hs.open;obtain ⟨xa,xc,rfl,_,x2,x3⟩:=hx.open;unfold maxLen at q2 s2 x2;rw [hpl] at p3;rw [hsl] at s3;rw [hxl] at x3;rw [hpl,hsl,hxl];rw [hpl,hsl] at b0 b1 eb b2 a0 a1 a2;have P3:=hid_ p3;have S3:=hid_ s3;have X3:=hid_ x3;have HRG:=hid_ (fun i (hi:i < N)=> rngB_at hr (i:=i) (by omega));have HGP:=hid_ (fun i (hi:i < N)=> get_getD (l:=pl) (i:=i) (by omega));have HGS:=hid_ (fun i (hi:i < N)=> get_getD (l:=sl) (i:=i) (by omega));have HGX:=hid_ (fun i (hi:i < N)=> get_getD (l:=x) (i:=i) (by omega));have HXE:=hid_ hxe;have HEB:=hid_ (ea.trans eb);obtain ⟨ma,mc,rfl,-,-,-⟩:=hmv.open;clear hf hF hmv hp hs hx p3 s3 x3 ea eb asz hpl hsl hxl hr hxe;go_enter Tryz.func51,Tryz.ntmps51
 go_wp2_with (at_make;refine wpList_make_arr _ rfl _ _ 22 rfl 3 (.int .i64 0) 8 Tryz.underlying22 infoInt rfl _ N rfl rfl rfl (by omega) (by unfold maxLen;omega) ?_)
 obtain ⟨B,hB⟩:∃B,w.heap.size=B:=⟨_,rfl⟩;rw [hB] at a0 a1 a2 b0 b1 b2
 try simp only [hB]
 have HBW:=hid_ hB;have hsz:((w.alloc (.cells #[.int .i64 p,.int .i64 m,.slice ma ml.length mc] 24)).alloc (.cells #[.slice pa N pc,.slice sa N sc,.int .i64 fr] 26)).heap.size=B + 1 + 1:=by simp [hB]
 clear hB;generalize (w.alloc (.cells #[.int .i64 p,.int .i64 m,.slice ma ml.length mc] 24)).alloc (.cells #[.slice pa N pc,.slice sa N sc,.int .i64 fr] 26)=w1 at *;intro w3 hown hx3;have B0:=hid_ b0;have B1:=hid_ b1;have B2:=hid_ b2;have A0:=hid_ a0;have A1:=hid_ a1;have A2:=hid_ a2;obtain ⟨M,hM⟩:∃M,B + 1=M:=⟨_,rfl⟩;rw [hM] at B0 B1 B2 hsz
 try simp only [hM]
 have HMM:=hid_ hM;obtain ⟨g,hgg⟩:∃g,M + 1=g:=⟨_,rfl⟩;have HO3:=hid_ (show Own w3 g 3 g N (iv (plc (piF pl) (vF p m ml sl fr x) 0)) from by rw [←hgg,←hM];exact hown)
 try simp only [hgg]
 have HX3:=hid_ hx3;have HGE:=hid_ (show w1.heap.size=g from by rw [←hgg,←hsz]);clear hown hx3 b0 b1 b2 a0 a1 a2 hgg hsz hM;go_wp2_with fail
 go_loopw [8] (fun i' wr=> ∃(i:Nat),i≤N∧i'= .int .i64 i∧Hid (Own wr g 3 g N (iv (plc (piF pl) (vF p m ml sl fr x) i)))∧Hid (Ex w1 wr)) (fun i' _=> N - (intOf i').toNat)
 case atStart=> exact ⟨0,by omega,rfl,HO3,HX3⟩
 case round=>
  clear HO3;obtain ⟨i,hi,rfl,hown,hex⟩:=hrel;by_cases hin:i < N
  ·obtain ⟨pb,po,rfl,hpc⟩:=P3.out (by omega);obtain ⟨sb,so,rfl,hsc⟩:=S3.out (by omega);obtain ⟨xb,xo,rfl,hxc⟩:=X3.out (by omega);have hpr:=HRG.out i hin;have EXW:=hid_ (HEB.out.trans hex.out);obtain ⟨y,hy⟩:∃y,piF pl i=y:=⟨_,rfl⟩;have hyp:pl.getD i 0=(y:Int):=by rw [←hy];unfold piF;omega
   have hyN:y < N:=by omega
   have hgp:=HGP.out i hin;rw [hyp] at hgp;have CPW:=hid_ (hpc i _ hgp);have cp:=EXW.out.cell CPW.out;obtain ⟨s,hs⟩:∃s,sl.getD i 0=s:=⟨_,rfl⟩;have hgs:=HGS.out i hin;rw [hs] at hgs;have CSW:=hid_ (hsc i _ hgs);have cs:=EXW.out.cell CSW.out;obtain ⟨z,hz,hzl⟩:=HXE.out i hin;have hgx:=HGX.out i hin;rw [hz] at hgx;have CXW:=hid_ (hxc i _ hgx);have cx:=EXW.out.cell CXW.out;have i1:(0:Int)≤(i:Int):=by omega
   have i2:(i:Int) < (N:Int):=by omega
   have i3:(0:Int)≤(y:Int):=by omega
   have i4:(y:Int) < (N:Int):=by omega
   have HFW:=hid_ (fun (w5:World) (h5:Ex wr w5)=> HFR.out w5 (EXW.out.trans h5) z hzl);obtain ⟨t,ht⟩:∃t,frb p m (lw ml) z fr=t:=⟨_,rfl⟩;have htl:t < p ^ m:=by rw [←ht];exact frb_lt p2 m1 hzl _
   rw [ht] at HFW;have HMW:=hid_ (fun (w5:World) (h5:Ex wr w5)=> by
    have:=HMU.out w5 (EXW.out.trans h5) s (t:Int);rw [kin_of htl] at this;exact this)
   obtain ⟨u,hu⟩:∃u,kmul p m (lw ml) (kin (p ^ m) s) t=u:=⟨_,rfl⟩;rw [hu] at HMW;have HVE:=hid_ (show upd (plc (piF pl) (vF p m ml sl fr x) i) y (u:Int)=plc (piF pl) (vF p m ml sl fr x) (i + 1) from by
    show _=upd (plc (piF pl) (vF p m ml sl fr x) i) (piF pl i) (vF p m ml sl fr x i)
    rw [hy]
    congr 1
    unfold vF;rw [hs,hz,kin_of hzl,ht,hu])
   have h0:=hex.out.cell A0.out;have h1:=hex.out.cell A1.out;have h2:=hex.out.cell A2.out;have d0:=hex.out.cell B0.out;have d1:=hex.out.cell B1.out;have d2:=hex.out.cell B2.out;have HOW:=hid_ hown.out;have HEX:=hid_ hex.out;have HXS:=hid_ (fun (w5:World) (h5:Ex wr w5)=> (HOW.out.ex h5).exSet (a:=w1) (Nat.le_of_eq HGE.out) (HEX.out.trans h5) y (.int .i64 (u:Int)));have HOS:=hid_ (fun (w5:World) (h5:Ex wr w5)=> show Own (w5.setCell ⟨g,y,none⟩ (.int .i64 (u:Int))) g 3 g N (iv (plc (piF pl) (vF p m ml sl fr x) (i + 1))) from by
    rw [←HVE.out,←iv_upd];exact (HOW.out.ex h5).set y _)
   have CP:=hid_ cp;have CS:=hid_ cs;have CX:=hid_ cx;have HYN:=hid_ hyN;clear hpr hy hyp hgp hs hgs hz hgx ht htl hu hpc hsc hxc hown hex hzl;go_wp2_with fail
   have CA0:=hid_ h0;have CA1:=hid_ h1;have CA2:=hid_ h2;have CB0:=hid_ d0;have CB1:=hid_ d1;have CB2:=hid_ d2;have HALL:=hid_ (fun (w5:World) (h5:Ex wr w5)=> (⟨h5.cell CP.out,h5.cell CS.out,h5.cell CX.out,h5.cell CA0.out,h5.cell CA1.out,h5.cell CA2.out,h5.cell CB0.out,h5.cell CB1.out,h5.cell CB2.out⟩:w5.cell? ⟨pb,po + i,none⟩=some (.int .i64 (y:Int))∧w5.cell? ⟨sb,so + i,none⟩=some (.int .i64 s)∧w5.cell? ⟨xb,xo + i,none⟩=some (.int .i64 (z:Int))∧w5.cell? ⟨B,0,none⟩=some (.int .i64 (p:Int))∧w5.cell? ⟨B,1,none⟩=some (.int .i64 (m:Int))∧w5.cell? ⟨B,2,none⟩=some (.slice ma ml.length mc)∧w5.cell? ⟨M,0,none⟩=some (.slice (some ⟨pb,po,none⟩) N pc)∧w5.cell? ⟨M,1,none⟩=some (.slice (some ⟨sb,so,none⟩) N sc)∧w5.cell? ⟨M,2,none⟩=some (.int .i64 (fr:Int))));have HALS:=hid_ (fun (w5:World) (h5:Ex wr w5)=> (⟨(HEB.out.trans (HXS.out w5 h5)).cell CPW.out,(HEB.out.trans (HXS.out w5 h5)).cell CSW.out,(HEB.out.trans (HXS.out w5 h5)).cell CXW.out,(HXS.out w5 h5).cell A0.out,(HXS.out w5 h5).cell A1.out,(HXS.out w5 h5).cell A2.out,(HXS.out w5 h5).cell B0.out,(HXS.out w5 h5).cell B1.out,(HXS.out w5 h5).cell B2.out⟩:(w5.setCell ⟨g,y,none⟩ (.int .i64 (u:Int))).cell? ⟨pb,po + i,none⟩=some (.int .i64 (y:Int))∧(w5.setCell ⟨g,y,none⟩ (.int .i64 (u:Int))).cell? ⟨sb,so + i,none⟩=some (.int .i64 s)∧(w5.setCell ⟨g,y,none⟩ (.int .i64 (u:Int))).cell? ⟨xb,xo + i,none⟩=some (.int .i64 (z:Int))∧(w5.setCell ⟨g,y,none⟩ (.int .i64 (u:Int))).cell? ⟨B,0,none⟩=some (.int .i64 (p:Int))∧(w5.setCell ⟨g,y,none⟩ (.int .i64 (u:Int))).cell? ⟨B,1,none⟩=some (.int .i64 (m:Int))∧(w5.setCell ⟨g,y,none⟩ (.int .i64 (u:Int))).cell? ⟨B,2,none⟩=some (.slice ma ml.length mc)∧(w5.setCell ⟨g,y,none⟩ (.int .i64 (u:Int))).cell? ⟨M,0,none⟩=some (.slice (some ⟨pb,po,none⟩) N pc)∧(w5.setCell ⟨g,y,none⟩ (.int .i64 (u:Int))).cell? ⟨M,1,none⟩=some (.slice (some ⟨sb,so,none⟩) N sc)∧(w5.setCell ⟨g,y,none⟩ (.int .i64 (u:Int))).cell? ⟨M,2,none⟩=some (.int .i64 (fr:Int))));clear h0 h1 h2 d0 d1 d2 cp cs cx;have G0:Ex wr wr.drew:=(Ex.refl wr).drew
   go_region_held3 (fun w'=> w'.cell? ⟨pb,po + i,none⟩=some (.int .i64 (y:Int))∧w'.cell? ⟨sb,so + i,none⟩=some (.int .i64 s)∧w'.cell? ⟨xb,xo + i,none⟩=some (.int .i64 (z:Int))∧w'.cell? ⟨B,0,none⟩=some (.int .i64 (p:Int))∧w'.cell? ⟨B,1,none⟩=some (.int .i64 (m:Int))∧w'.cell? ⟨B,2,none⟩=some (.slice ma ml.length mc)∧w'.cell? ⟨M,0,none⟩=some (.slice (some ⟨pb,po,none⟩) N pc)∧w'.cell? ⟨M,1,none⟩=some (.slice (some ⟨sb,so,none⟩) N sc)∧w'.cell? ⟨M,2,none⟩=some (.int .i64 (fr:Int)))
    (first | with_reducible exact HALL.out _ G0 | with_reducible exact HALL.out _ X5 | with_reducible exact HALL.out _ X6 | with_reducible exact HALS.out _ X6)
    (first | (go_at_call 54;(with_reducible refine (HFW.out _ G0).mono ?_);rintro e w5 ⟨rfl,h5⟩;have X5:=G0.trans h5;clear h5) | (go_at_call 60;(with_reducible refine (HMW.out _ X5).mono ?_);rintro e w6 ⟨rfl,h6⟩;have X6:=X5.trans h6;clear h6;have co6:=(HOW.out.ex X6).cell HYN.out;have cf6:=(HOW.out.ex X6).frz y))
   go_wp2_with fail
   go_roundw
   case rel=> first | exact ⟨i + 1,by omega,by go_num,hid_ (HOS.out _ X6),hid_ (HXS.out _ X6)⟩ | ((repeat apply Exists.intro);exact ⟨⟨i + 1,by omega,by go_num,hid_ (HOS.out _ X6),hid_ (HXS.out _ X6)⟩,rfl⟩)
   case measure=> simp [intOf];omega
  ·obtain rfl:i=N:=by omega
   go_wp2_with fail
   go_ret;exact ⟨g,rfl,hown.out.mono (by have:=HGE.out;have:=HBW.out;have:=HMM.out;have:=HEB.out.size;omega),HEB.out.trans hex.out⟩
end
end
end Go.Proofs.YtgdmlmhpineibaaGreat
