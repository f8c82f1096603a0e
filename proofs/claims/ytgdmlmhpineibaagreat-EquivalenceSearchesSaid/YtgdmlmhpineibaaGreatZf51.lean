/- Walk of codewrightref31.search, the body (printed by gen_src.py). -/
import Derived.Deep.CutRange
import Derived.Test.YtgdmlmhpineibaaGreatZf10
import Derived.Test.YtgdmlmhpineibaaGreatZf34
import Derived.Test.YtgdmlmhpineibaaGreatZf46
import Derived.Test.YtgdmlmhpineibaaGreatZf50
namespace Go.Proofs.YtgdmlmhpineibaaGreat
set_option linter.unusedVariables false
set_option linter.unusedSimpArgs false
set_option maxRecDepth 100000
set_option maxHeartbeats 16000000
open Go.RowKit
structure ScJ (w0 wr:World) (lv:Value) (R:(Nat × List Nd) × Int) (cA dA xv ptr x12:Value) (i:Int) (v qt qs:Value) (e:Int) (C:Nat) (L:Nat→Bool) (V:Nat→Value) (w':World):Prop where
 v0:L 0=true→V 0=cA
 v1:L 1=true→V 1=dA
 v2:L 2=true→V 2=xv
 v3:L 3=true→V 3= .int .i64 i
 v4:L 4=true→V 4=ptr
 v5:L 5=true→V 5=x12
 v6:L 6=true→V 6=lv
 ex:L 7=false→Ex wr w'
 v7:L 7=true→V 7= .tuple #[v,.agg #[qt,qs],.int .i64 e]∧SrV w0 wr lv R v qt qs e w'
 v8:L 8=true→V 8= .tuple #[v,.agg #[qt,qs],.int .i64 e]
 v9:L 9=true→V 9=v
 v10:L 10=true→V 10= .agg #[qt,qs]
 v11:L 11=true→V 11= .int .i64 e
 v12:L 12=true→V 12= .pointer (some ⟨C,0,none⟩)∧wr.heap.size≤C∧(L 14=false→w'.heap[C]?=some (.cells #[.slice none 0 0,.slice none 0 0] 49))
 v13:L 13=true→V 13=v
 v14:L 14=true→w'.cell? ⟨C,0,none⟩=some qt∧w'.cell? ⟨C,1,none⟩=some qs
 v15:L 15=true→V 15= .int .i64 e
def ScE (w0 wr:World) (lv:Value) (R:(Nat × List Nd) × Int) (cA dA xv ptr x12:Value) (i:Int) (L:Nat→Bool) (V:Nat→Value) (w':World):Prop:=∃v qt qs e C,ScJ w0 wr lv R cA dA xv ptr x12 i v qt qs e C L V w'
theorem ScJ.gr {w0 wr w':World} {lv:Value} {R:(Nat × List Nd) × Int} {cA dA xv ptr x12:Value} {i:Int} {v qt qs:Value} {e:Int} {C:Nat} {L:Nat→Bool} {V:Nat→Value} (h:ScJ w0 wr lv R cA dA xv ptr x12 i v qt qs e C L V w'):wr.grownBy w' lv.ownBlock:=by
 cases h7:L 7 with
 | false=> exact grown_ex (h.ex h7) _
 | true=> exact (h.v7 h7).2.2.1
theorem rSrc_body {p m n:Nat} {ml:List Int} {l1 l2:List (List Int)} (w0 w:World) (hx0:Ex w0 w) (hf:FSh p m ml) (hF:IsF p m (lw ml)) (hn:n≤64) (h1:∀r∈l1,r.length=n∧entS (p ^ m) r=0) (h2:∀r∈l2,r.length=n∧entS (p ^ m) r=0) (k1:l1.length≤256) (k2:l2.length≤256)
  (m1 m2 v1 v2:Value) (hm1:ISl w0 m1 ml) (hv1:MSl w0 v1 l1) (hm2:ISl w0 m2 ml) (hv2:MSl w0 v2 l2) (tl sl:List Int) (tv sv:Value) (ht:ISl w tv tl) (hs:ISl w sv sl) (hsl:sl.length=tl.length) (K:Nat) (hK:tl.length=K) (htn:K≤n) (hrg:rngB tl n=true)
  (lv:Value) (L:List Nd) (mvs:List Value) (hr:RGr w0 w lv L mvs) (hL:L.length≤65536) (hat:tl≠ []→Aprt tv lv) (has:sl≠ []→Aprt sv lv) (first:Bool) (hfi:first=true↔L= []) (hne:L≠ []→tl≠ [])
  (G:Nat × List Nd→List Int→List Int→(Nat × List Nd) × Int)
  (hG:K < n→∀x∈exL (p ^ m) tl sl n,∀(w':World) (L':List Nd) (mvs':List Value) (lv' x1 x2:Value),Ex w0 w'→L'≠ []→L'.length≤65536→RGr w0 w' lv' L' mvs'→ISl w' x1 x.1→ISl w' x2 x.2→Aprt x1 lv'→Aprt x2 lv'→Calls Tryz.prog 68 #[.agg #[.int .i64 p,.int .i64 m,m1,.int .i64 n,v1],.agg #[.int .i64 p,.int .i64 m,m2,.int .i64 n,v2],.agg #[x1,x2],.bool false,lv'] w' fun r w''=> SrO w0 w' lv' (G (L'.length,L') x.1 x.2) r w''):
  Calls Tryz.prog 68 #[.agg #[.int .i64 p,.int .i64 m,m1,.int .i64 n,v1],.agg #[.int .i64 p,.int .i64 m,m2,.int .i64 n,v2],.agg #[tv,sv],.bool first,lv] w fun r w'=> SrO w0 w lv (srB p m ml l1 l2 n (L.length,L) tl sl (foX G (exL (p ^ m) tl sl n) (srS p m ml l1 l2 (L.length,L) tl sl))) r w':=by
 obtain ⟨c0,c1,c2,c3,c4,ea⟩:=boxC_facts w p m m1 n v1;obtain ⟨d0,d1,d2,d3,d4,eb⟩:=boxC_facts (w.alloc (.cells #[.int .i64 p,.int .i64 m,m1,.int .i64 n,v1] 47)) p m m2 n v2;have asz:(w.alloc (.cells #[.int .i64 p,.int .i64 m,m1,.int .i64 n,v1] 47)).heap.size=w.heap.size + 1:=by simp
 have bsz:((w.alloc (.cells #[.int .i64 p,.int .i64 m,m1,.int .i64 n,v1] 47)).alloc (.cells #[.int .i64 p,.int .i64 m,m2,.int .i64 n,v2] 47)).heap.size=w.heap.size + 1 + 1:=by simp
 obtain ⟨b0,b1,ec,csz⟩:=boxP_facts ((w.alloc (.cells #[.int .i64 p,.int .i64 m,m1,.int .i64 n,v1] 47)).alloc (.cells #[.int .i64 p,.int .i64 m,m2,.int .i64 n,v2] 47)) tv sv;have ed:=e_al (((w.alloc (.cells #[.int .i64 p,.int .i64 m,m1,.int .i64 n,v1] 47)).alloc (.cells #[.int .i64 p,.int .i64 m,m2,.int .i64 n,v2] 47)).alloc (.cells #[tv,sv] 49)) (.cells #[.slice none 0 0,.slice none 0 0] 49);have hrb:((((w.alloc (.cells #[.int .i64 p,.int .i64 m,m1,.int .i64 n,v1] 47)).alloc (.cells #[.int .i64 p,.int .i64 m,m2,.int .i64 n,v2] 47)).alloc (.cells #[tv,sv] 49)).alloc (.cells #[.slice none 0 0,.slice none 0 0] 49)).heap[w.heap.size + 1 + 1 + 1]?=some (.cells #[.slice none 0 0,.slice none 0 0] 49):=heap_at (by rw [csz,bsz]);have dsz:((((w.alloc (.cells #[.int .i64 p,.int .i64 m,m1,.int .i64 n,v1] 47)).alloc (.cells #[.int .i64 p,.int .i64 m,m2,.int .i64 n,v2] 47)).alloc (.cells #[tv,sv] 49)).alloc (.cells #[.slice none 0 0,.slice none 0 0] 49)).heap.size=w.heap.size + 1 + 1 + 1 + 1:=by simp
 rw [asz] at d0 d1 d2 d3 d4;rw [bsz] at b0 b1;replace c0:=(eb.trans (ec.trans ed)).cell c0;replace c1:=(eb.trans (ec.trans ed)).cell c1;replace c2:=(eb.trans (ec.trans ed)).cell c2;replace c3:=(eb.trans (ec.trans ed)).cell c3;replace c4:=(eb.trans (ec.trans ed)).cell c4;replace d0:=(ec.trans ed).cell d0;replace d1:=(ec.trans ed).cell d1;replace d2:=(ec.trans ed).cell d2;replace d3:=(ec.trans ed).cell d3;replace d4:=(ec.trans ed).cell d4;replace b0:=ed.cell b0;replace b1:=ed.cell b1;have HX:=hid_ (ea.trans (eb.trans (ec.trans ed)));have hwi:=fun (w':World) (h:Ex w w')=> rWit_any w' hf hF hn h1 h2 k1 k2 m1 m2 v1 v2 (hm1.ex (hx0.trans h)) (hv1.ex (hx0.trans h)) (hm2.ex (hx0.trans h)) (hv2.ex (hx0.trans h)) tl sl tv sv (ht.ex h) (hs.ex h) hsl K hK htn hrg;have hex:=fun (w':World) (h:Ex w0 w') (h3:ISl w' tv tl) (h4:ISl w' sv sl)=> rExtG_any w' hf hn m1 (hm1.ex h) tl sl tv sv h3 h4 hsl (by omega);have HWV:=hid_ (witL_len k1 k2 (witI p m ml l1 l2 tl sl));have HWS:=hid_ (show (witI p m ml l1 l2 tl sl).1=0∨(witI p m ml l1 l2 tl sl).1=1∨(witI p m ml l1 l2 tl sl).1=-1 from by
  unfold witI;simp only;split
  ·exact .inl rfl
  ·split
   ·exact .inr (.inl rfl)
   ·exact .inr (.inr rfl))
 have hxl:=exL_length (q:=p ^ m) tl sl hf.q n;obtain ⟨x1,y1,rfl,-,z1,-⟩:=hv1.open;obtain ⟨x2,y2,rfl,-,z2,-⟩:=hv2.open;obtain ⟨x3,y3,rfl,-,z3,-⟩:=hm1.open;obtain ⟨x4,y4,rfl,-,z4,-⟩:=hm2.open;obtain ⟨ta,tc,rfl,-,t2,t3⟩:=ht.open;obtain ⟨sa,sc,rfl,-,s2,s3⟩:=hs.open;obtain ⟨la,lc,rfl⟩:=own_shape hr.own;unfold maxLen at t2 s2 z1 z2 z3 z4;obtain ⟨B,hB⟩:∃B,w.heap.size=B:=⟨_,rfl⟩;rw [hB] at c0 c1 c2 c3 c4 d0 d1 d2 d3 d4 b0 b1 hrb dsz;obtain ⟨KS,hKS⟩:∃k,sl.length=k:=⟨_,rfl⟩;obtain ⟨N,hN⟩:∃k,L.length=k:=⟨_,rfl⟩;rw [hKS] at c0 c1 c2 c3 c4 d0 d1 d2 d3 d4 b0 b1 hwi hex HX hrb dsz has hs ⊢;rw [hK] at c0 c1 c2 c3 c4 d0 d1 d2 d3 d4 b0 b1 HX hrb dsz hwi hex ht hat ⊢;rw [hN] at hr hat has hL ⊢;obtain ⟨RR,hRR⟩:∃R,srB p m ml l1 l2 n (N,L) tl sl (foX G (exL (p ^ m) tl sl n) (srS p m ml l1 l2 (N,L) tl sl))=R:=⟨_,rfl⟩;rw [hRR];have HRR:=hid_ hRR;have HWI:=hid_ hwi;have HEX:=hid_ hex;have HG:=hid_ hG;have HT:=hid_ ht;have HS:=hid_ hs;have HAT:=hid_ hat
 have HAS:=hid_ has;have HKS:=hid_ (show KS=K from by omega);have HKK:=hid_ hK;have HKSS:=hid_ hKS;have HKN:=hid_ htn;have HNN:=hid_ hN;have HNE:=hid_ hne;have HFI:=hid_ hfi;have HR:=hid_ hr;have HN16:=hid_ hL;have HX0:=hid_ hx0;have HXL:=hid_ hxl;have T3:=hid_ t3;have S3:=hid_ s3;have HBW:=hid_ hB;have HN64:=hid_ hn;clear hf hF h1 h2 hm1 hv1 hm2 hv2 ht hs hsl hK htn hrg ea eb ec ed asz bsz csz hRR hwi hex hG hat has hKS hN hne hfi hr hL hx0 hxl t3 s3 k1 k2 hn;go_enter Tryz.func68,Tryz.ntmps68
 go_upto_region 1 with fail
 try simp only [hB]
 clear hB;generalize (((w.alloc (.cells #[.int .i64 p,.int .i64 m,.slice x3 ml.length y3,.int .i64 n,.slice x1 l1.length y1] 47)).alloc (.cells #[.int .i64 p,.int .i64 m,.slice x4 ml.length y4,.int .i64 n,.slice x2 l2.length y2] 47)).alloc (.cells #[.slice ta K tc,.slice sa KS sc] 49)).alloc (.cells #[.slice none 0 0,.slice none 0 0] 49)=w1 at *;have HALL:=hid_ (fun w' (h:Ex w1 w')=> (⟨h.cell c0,h.cell c1,h.cell c2,h.cell c3,h.cell c4,h.cell d0,h.cell d1,h.cell d2,h.cell d3,h.cell d4,h.cell b0,h.cell b1⟩:w'.cell? ⟨B,0,none⟩=some (.int .i64 (p:Int))∧w'.cell? ⟨B,1,none⟩=some (.int .i64 (m:Int))∧w'.cell? ⟨B,2,none⟩=some (.slice x3 ml.length y3)∧w'.cell? ⟨B,3,none⟩=some (.int .i64 (n:Int))∧w'.cell? ⟨B,4,none⟩=some (.slice x1 l1.length y1)∧w'.cell? ⟨B + 1,0,none⟩=some (.int .i64 (p:Int))∧w'.cell? ⟨B + 1,1,none⟩=some (.int .i64 (m:Int))∧w'.cell? ⟨B + 1,2,none⟩=some (.slice x4 ml.length y4)∧w'.cell? ⟨B + 1,3,none⟩=some (.int .i64 (n:Int))∧w'.cell? ⟨B + 1,4,none⟩=some (.slice x2 l2.length y2)∧w'.cell? ⟨B + 1 + 1,0,none⟩=some (.slice ta K tc)∧w'.cell? ⟨B + 1 + 1,1,none⟩=some (.slice sa KS sc)));have HRB:=hid_ hrb;have HLB:=hid_ (show ∀X,Value.ownBlock (.slice la N lc)=some X→X < B from fun X hX=> by have:=(HR.out.own.lt X hX).2;have:=HBW.out;omega);have HW1S:=hid_ (show w1.heap.size=B + 1 + 1 + 1 + 1 from dsz);have HB0:=hid_ (show w0.heap.size≤B from by have:=HX0.out.size;have:=HBW.out;omega);clear hrb dsz;by_cases h64:N=65536
 ·have k1:((N:Int)==65536)=true:=by simp;omega
  have HRE:=hid_ (show RR=((N,L),8) from by rw [←HRR.out];unfold srB;rw [if_pos h64]);clear h64;have r0:w1.cell? ⟨B + 1 + 1 + 1,0,none⟩=some (.slice none 0 0):=by have:=HRB.out;unfold World.cell?;simp [this]
  have r1:w1.cell? ⟨B + 1 + 1 + 1,1,none⟩=some (.slice none 0 0):=by have:=HRB.out;unfold World.cell?;simp [this]
  have rf0:w1.frozen? ⟨B + 1 + 1 + 1,0,none⟩=false:=by have:=HRB.out;unfold World.frozen?;simp [this]
  have rf1:w1.frozen? ⟨B + 1 + 1 + 1,1,none⟩=false:=by have:=HRB.out;unfold World.frozen?;simp [this]
  have HFN:=hid_ (show SrV w0 w (.slice la N lc) RR (.slice none 0 0) (.slice ta K tc) (.slice sa KS sc) 8 w1 from
   ⟨HX0.out.trans HX.out,grown_ex HX.out _,⟨_,_,_,rfl⟩,⟨_,_,_,rfl⟩,.inr (.inr ⟨by rw [HRE.out],rfl⟩)⟩)
  have HFS:=hid_ (HFN.out.fin HRB.out (by have:=HBW.out;omega) (by have:=HB0.out;omega) (.slice ta K tc) (.slice sa KS sc));go_upto_region 2 with fail
  go_region
  all_goals go_wp2_with fail
  all_goals trace_state
  all_goals refine bodyPost_ret (v:= .tuple #[.slice none 0 0,.agg #[.slice ta K tc,.slice sa KS sc],.int .i64 8]) (by simp [results,Tryz.results68,go_sem,r0,r1]) rfl ⟨_,_,_,_,rfl,HFS.out.later ((Ex.refl _).drew)⟩
 have k1:((N:Int)==65536)=false:=by simp;omega
 have H64:=hid_ h64;clear h64;obtain ⟨XB,hXB⟩:∃X,w1.heap.size=X:=⟨_,rfl⟩;have HXB:=hid_ (show XB=B + 1 + 1 + 1 + 1 from by have:=HW1S.out;omega);obtain ⟨T,hT⟩:∃T,lastB first tl=T:=⟨_,rfl⟩;obtain ⟨U,hU⟩:∃T,lastB first sl=T:=⟨_,rfl⟩;go_upto_if 25 with fail
 try simp only [hXB]
 have hb2:(w1.alloc (.cells #[.int .i64 0,.int .i64 0,.int .i64 0,.slice none 0 0] 78)).heap[XB]?=some (.cells #[.int .i64 0,.int .i64 0,.int .i64 0,.slice none 0 0] 78):=heap_at hXB;have HX2:=hid_ (e_al w1 (.cells #[.int .i64 0,.int .i64 0,.int .i64 0,.slice none 0 0] 78));have HXBS:=hid_ hXB;clear hXB c0 c1 c2 c3 c4 d0 d1 d2 d3 d4 b0 b1;generalize w1.alloc (.cells #[.int .i64 0,.int .i64 0,.int .i64 0,.slice none 0 0] 78)=w2 at *;obtain ⟨⟨q0,q1,q2,q3⟩,qf0,qf1,qf2,qf3⟩:=box4_use hb2
 go_cut [] from 26 to 43 (fun wx=> Hid (wx.heap[XB]?=some (.cells #[.int .i64 T,.int .i64 U,.int .i64 0,.slice none 0 0] 78))∧Hid (Ex w1 wx))
 case first=>
  have HB2:=hid_ hb2;clear hb2
  cases first with
  | true=>
   have HTU:=hid_ (show T=0∧U=0 from by rw [←hT,←hU];exact ⟨rfl,rfl⟩);clear hT hU;go_wp2_with fail
   go_meet
   exact ⟨hid_ (by rw [HTU.out.1,HTU.out.2];exact HB2.out),hid_ HX2.out⟩
  | false=>
   have htne:=HNE.out (fun h=> by have:=HFI.out.2 h;cases this);have hlen:0 < K:=by have:=List.length_pos_iff.2 htne;have:=HKK.out;omega
   obtain ⟨z,hz1⟩:∃z,K=z + 1:=⟨K - 1,by omega⟩;have HTU:=hid_ (show tl.getD z 0=T∧sl.getD z 0=U from by
    rw [←hT,←hU];unfold lastB;rw [if_neg (by decide),if_neg (by decide),HKK.out,HKSS.out,HKS.out,hz1];exact ⟨rfl,rfl⟩)
   obtain ⟨tb,to_,rfl,htc⟩:=T3.out (by have:=HKK.out;omega);obtain ⟨sb,so,rfl,hsc⟩:=S3.out (by have:=HKSS.out;have:=HKS.out;omega);have cX:=HX2.out.cell (HX.out.cell (htc z _ (get_getD (by have:=HKK.out;omega))));have cY:=HX2.out.cell (HX.out.cell (hsc z _ (get_getD (by have:=HKSS.out;have:=HKS.out;omega))));rw [HTU.out.1] at cX;rw [HTU.out.2] at cY;have hz64:z≤63:=by have:=HKN.out;have:=HN64.out;omega
   have i6:wrap64 ((K:Int) - 1)=(z:Int):=by rw [show (K:Int) - 1=(z:Int) from by omega];exact w64 (by omega) (by omega)
   have i7:IntKind.i64.wrap ((K:Int) - 1)=(z:Int):=by rw [show (K:Int) - 1=(z:Int) from by omega];exact IntWalk.i64_in _ (by omega)
   have k1:(0:Int)≤(z:Int):=by omega
   have k2:(z:Int) < (K:Int):=by omega
   have k4:(z:Int) < (KS:Int):=by have:=HKS.out;omega
   obtain ⟨-,-,-,-,-,-,-,-,-,-,b0,b1⟩:=HALL.out _ HX2.out;have HS1:=hid_ (show ((w2.setCell ⟨XB,0,none⟩ (.int .i64 T)).setCell ⟨XB,1,none⟩ (.int .i64 U)).heap[XB]?=some (.cells #[.int .i64 T,.int .i64 U,.int .i64 0,.slice none 0 0] 78) from heap_setq (heap_setq HB2.out));have HS2:=hid_ (show Ex w1 ((w2.setCell ⟨XB,0,none⟩ (.int .i64 T)).setCell ⟨XB,1,none⟩ (.int .i64 U)) from (HX2.out.setCell (p:=⟨XB,0,none⟩) (by have:=HXBS.out;show _≤XB;omega) _).setCell (p:=⟨XB,1,none⟩) (by have:=HXBS.out;show _≤XB;omega) _);have hXBv:=HXB.out;have htb:XB≠tb:=by have h5:tb < w.heap.size:=World.block_lt_of_cell? _ _ (htc z _ (get_getD (by have:=HKK.out;omega)));have:=HBW.out;omega
   have hsb:XB≠sb:=by have h5:sb < w.heap.size:=World.block_lt_of_cell? _ _ (hsc z _ (get_getD (by have:=HKSS.out;have:=HKS.out;omega)));have:=HBW.out;omega
   have hbb:XB≠B + 1 + 1:=by omega
   have y0:(w2.setCell ⟨XB,0,none⟩ (.int .i64 T)).cell? ⟨B + 1 + 1,0,none⟩=some (.slice (some ⟨tb,to_,none⟩) K tc):=by rw [cell_setCell_ne hbb];exact b0
   have y1':(w2.setCell ⟨XB,0,none⟩ (.int .i64 T)).cell? ⟨B + 1 + 1,1,none⟩=some (.slice (some ⟨sb,so,none⟩) KS sc):=by rw [cell_setCell_ne hbb];exact b1
   have y3':(w2.setCell ⟨XB,0,none⟩ (.int .i64 T)).cell? ⟨sb,so + z,none⟩=some (.int .i64 U):=by rw [cell_setCell_ne hsb];exact cY
   have y4':(w2.setCell ⟨XB,0,none⟩ (.int .i64 T)).cell? ⟨XB,1,none⟩=some (.int .i64 0):=by rw [cell_set_off (by decide)];exact q1
   have y5:(w2.setCell ⟨XB,0,none⟩ (.int .i64 T)).frozen? ⟨XB,1,none⟩=false:=by rw [efrz_set];exact qf1
   clear hT hU htne htc hsc hlen hz1 hXBv htb hsb hbb;go_wp2_with fail
   go_meet
   exact ⟨HS1,HS2⟩
 case rest=>
  obtain ⟨hb3,hx3⟩:=hcut;have HX3:=hid_ hx3.out;have HB3:=hid_ hb3.out;clear hb3 hx3 hb2 q0 q1 q2 q3 qf0 qf1 qf2 qf3;generalize wc=w3 at *;have HTT:=hid_ hT;have HUU:=hid_ hU;clear hT hU;obtain ⟨c0,c1,c2,c3,c4,d0,d1,d2,d3,d4,b0,b1⟩:=HALL.out w3 HX3.out;go_wp2_with fail
  refine (HWI.out w3 (HX.out.trans HX3.out)).mono ?_;rintro e w4 ⟨mv,rfl,homv,hx4⟩;obtain ⟨SD,hSD⟩:∃S,(witI p m ml l1 l2 tl sl).1=S:=⟨_,rfl⟩;obtain ⟨MS,hMS⟩:∃S,witL l1.length l2.length (witI p m ml l1 l2 tl sl)=S:=⟨_,rfl⟩;rw [hMS] at homv HWV;rw [hSD] at HWS ⊢;have HX4:=hid_ (HX3.out.trans hx4);have hb4:=heap_ex hx4 HB3.out;have HB4:=hid_ hb4;have HRR2:=hid_ (show RR=if 0≤SD then ((N + 1,L ++ [⟨tl,sl,SD,MS⟩]),0) else if K=n then ((N + 1,L ++ [⟨tl,sl,SD,MS⟩]),18) else foX G (exL (p ^ m) tl sl n) (N + 1,L ++ [⟨tl,sl,SD,MS⟩]) from by
   rw [←HRR.out];unfold srB srS;rw [if_neg H64.out,hSD,hMS,HKK.out])
  obtain ⟨ma,mc,rfl⟩:=own_shape homv;have HMF:=hid_ (show ∀X,Value.ownBlock (.slice ma MS.length mc)=some X→XB < X from fun X hX=> by
   have h5:=(homv.lt X hX).1;have h6:XB < w3.heap.size:=(Array.getElem?_eq_some_iff.1 HB3.out).1;omega)
  have HOM:=hid_ (ownsRow_le homv (show w0.heap.size≤w3.heap.size from by have h5:=HX0.out.size;have h6:=HX.out.size;have h7:=HX3.out.size;omega));obtain ⟨⟨-,-,q2,q3⟩,-,-,qf2,qf3⟩:=box4_use hb4;have HR4:=hid_ (HR.out.later (HX.out.trans HX4.out));clear homv hx4 hSD hMS hb4 HWI HRR c0 c1 c2 c3 c4 d0 d1 d2 d3 d4 b0 b1;go_upto_region 8 with fail
  have hb5:((w4.setCell ⟨XB,2,none⟩ (.int .i64 SD)).setCell ⟨XB,3,none⟩ (.slice ma MS.length mc)).heap[XB]?=some (.cells #[.int .i64 T,.int .i64 U,.int .i64 SD,.slice ma MS.length mc] 78):=heap_setq (heap_setq HB4.out);have HX5:=hid_ (show Ex w1 ((w4.setCell ⟨XB,2,none⟩ (.int .i64 SD)).setCell ⟨XB,3,none⟩ (.slice ma MS.length mc)) from (HX4.out.setCell (p:=⟨XB,2,none⟩) (by have:=HXBS.out;show _≤XB;omega) _).setCell (p:=⟨XB,3,none⟩) (by have:=HXBS.out;show _≤XB;omega) _);have hnl:Value.ownBlock (.slice la N lc)≠some XB:=fun e=> by have:=HLB.out XB e;have:=HXB.out;omega
  have hnm:Value.ownBlock (.slice ma MS.length mc)≠some XB:=fun e=> by have:=HMF.out XB e;omega
  have hw0x:w0.heap.size≤XB:=by have:=HB0.out;have:=HXB.out;omega
  have HR5:=hid_ ((HR4.out.set HB4.out hnl (by decide) hw0x 2 (.int .i64 SD)).set (heap_setq HB4.out) hnl (by decide) hw0x 3 (.slice ma MS.length mc));have hm4:=ownsRow_ex HOM.out (Ex.refl _);have HM5:=hid_ (ownsRow_setCell_ne (a:=⟨XB,3,none⟩) (ownsRow_setCell_ne (a:=⟨XB,2,none⟩) hm4 hnm (.int .i64 SD)) hnm (.slice ma MS.length mc));clear hnl hnm hm4 q2 q3 qf2 qf3;generalize (w4.setCell ⟨XB,2,none⟩ (.int .i64 SD)).setCell ⟨XB,3,none⟩ (.slice ma MS.length mc)=w5 at *;obtain ⟨⟨q0,q1,q2,q3⟩,-⟩:=box4_use hb5;have hown5:=HR5.out.own;rw [HNN.out] at hown5;have HOW:=hid_ hown5;have hN65:N≤65535:=by have:=H64.out;have:=HN16.out;omega
  have HSZ:=hid_ (show w0.heap.size≤w5.heap.size from by have h5:=HX0.out.size;have h6:=HX.out.size;have h7:=HX5.out.size;omega);have HB5:=hid_ hb5;clear hown5 hb5;go_wp2_with (at_builtin;refine wpList_append1 _ rfl _ _ 52 rfl w0.heap.size 78 (.agg #[.int .i64 0,.int .i64 0,.int .i64 0,.slice none 0 0]) 4 48 Tryz.underlying52 infoRf rfl (by decide) _ N _ rfl HOW.out [.int .i64 T,.int .i64 U,.int .i64 SD,.slice ma MS.length mc] 78 _ rfl (by simp) rfl (by simp [Value.oneCell']) (by unfold maxLen;omega) (by omega) HSZ.out ?_)
  intro v6 w6 happ;have HCE:=hid_ (show (if L= [] then (⟨0,0,SD,MS⟩:Rf) else ndR ⟨tl,sl,SD,MS⟩).cells (.slice ma MS.length mc)= [.int .i64 T,.int .i64 U,.int .i64 SD,.slice ma MS.length mc] from by
   by_cases hL:L= []
   ·rw [if_pos hL,←HTT.out,←HUU.out,HFI.out.2 hL];rfl
   ·have hf:first=false:=by
     cases first with
     | false=> rfl
     | true=> exact absurd (HFI.out.1 rfl) hL
    rw [if_neg hL,←HTT.out,←HUU.out,hf];rfl)
  have hg6:RGr w0 w6 v6 (L ++ [⟨tl,sl,SD,MS⟩]) (mvs ++ [.slice ma MS.length mc]):=HR5.out.app (x:=⟨tl,sl,SD,MS⟩) HM5.out (aprt_new (fun X hX=> Nat.le_of_lt (HMF.out X hX)) fun X hX=> by have:=HLB.out X hX;have:=HXB.out;omega) (by rw [HCE.out,HNN.out];exact happ);have HG6:=hid_ hg6;have HGW:=hid_ (show w.grownBy w6 (Value.ownBlock (.slice la N lc)) from by
   obtain ⟨o,hg⟩:=happ.gr;exact (grown_ex (HX.out.trans HX5.out) _).trans ((grown_ex (e_al w5 o) _).trans hg))
  have HX06:=hid_ hg6.ex;have HVA:=hid_ (show v6.ownBlock=Value.ownBlock (.slice la N lc)∨v6.ownBlock=some (w5.heap.size + 1) from happ.at_);obtain ⟨va,vc,hv6⟩:=own_shape happ.own;subst hv6;have HVN:=hid_ (show ∀X,B≤X→X < w5.heap.size→some X≠Value.ownBlock (.slice va (N + 1) vc) from fun X h5 h6 e=> by
   rcases HVA.out with h7 | h7
   ·have:=HLB.out X (by rw [←h7,←e]);omega
   ·rw [h7] at e;injection e with e;omega)
  have HLN:=hid_ (show ∀X,B≤X→some X≠Value.ownBlock (.slice la N lc) from fun X h5 e=> by have:=HLB.out X e.symm;omega);have HCC:=hid_ (show ∀(w':World) (A:Addr) (u:Value),w6.grownBy w' (Value.ownBlock (.slice va (N + 1) vc))→B≤A.block→w5.cell? A=some u→w'.cell? A=some u from fun w' A u hg hA hc=> hg.cell (happ.cell hc (HLN.out _ hA)) (HVN.out _ hA (World.block_lt_of_cell? _ _ hc)));have HAL:=hid_ (show ∀w',w6.grownBy w' (Value.ownBlock (.slice va (N + 1) vc))→w'.cell? ⟨B,0,none⟩=some (.int .i64 (p:Int))∧w'.cell? ⟨B,1,none⟩=some (.int .i64 (m:Int))∧w'.cell? ⟨B,2,none⟩=some (.slice x3 ml.length y3)∧w'.cell? ⟨B,3,none⟩=some (.int .i64 (n:Int))∧w'.cell? ⟨B,4,none⟩=some (.slice x1 l1.length y1)∧w'.cell? ⟨B + 1,0,none⟩=some (.int .i64 (p:Int))∧w'.cell? ⟨B + 1,1,none⟩=some (.int .i64 (m:Int))∧w'.cell? ⟨B + 1,2,none⟩=some (.slice x4 ml.length y4)∧w'.cell? ⟨B + 1,3,none⟩=some (.int .i64 (n:Int))∧w'.cell? ⟨B + 1,4,none⟩=some (.slice x2 l2.length y2)∧w'.cell? ⟨B + 1 + 1,0,none⟩=some (.slice ta K tc)∧w'.cell? ⟨B + 1 + 1,1,none⟩=some (.slice sa KS sc) from fun w' hg=> by
   obtain ⟨c0,c1,c2,c3,c4,d0,d1,d2,d3,d4,b0,b1⟩:=HALL.out w5 HX5.out;exact ⟨HCC.out w' _ _ hg (by show B≤B;omega) c0,HCC.out w' _ _ hg (by show B≤B;omega) c1,HCC.out w' _ _ hg (by show B≤B;omega) c2,HCC.out w' _ _ hg (by show B≤B;omega) c3,HCC.out w' _ _ hg (by show B≤B;omega) c4,HCC.out w' _ _ hg (by show B≤B + 1;omega) d0,HCC.out w' _ _ hg (by show B≤B + 1;omega) d1,HCC.out w' _ _ hg (by show B≤B + 1;omega) d2,HCC.out w' _ _ hg (by show B≤B + 1;omega) d3,HCC.out w' _ _ hg (by show B≤B + 1;omega) d4,HCC.out w' _ _ hg (by show B≤B + 1 + 1;omega) b0,HCC.out w' _ _ hg (by show B≤B + 1 + 1;omega) b1⟩)
  have HRBC:=hid_ (show ∀w',w6.grownBy w' (Value.ownBlock (.slice va (N + 1) vc))→w'.heap[B + 1 + 1 + 1]?=some (.cells #[.slice none 0 0,.slice none 0 0] 49) from fun w' hg=> by
   have hb:=heap_ex HX5.out HRB.out;have hlt:B + 1 + 1 + 1 < w5.heap.size:=(Array.getElem?_eq_some_iff.1 hb).1;obtain ⟨o,hg5⟩:=happ.gr;have h56:w5.grownBy w6 (Value.ownBlock (.slice la N lc)):=(grown_ex (e_al w5 o) _).trans hg5;rw [hg.block _ (by have:=h56.size;omega) (HVN.out _ (by omega) hlt),h56.block _ hlt (HLN.out _ (by omega))];exact hb)
  have HT6:=hid_ (isl_kept HT.out HGW.out HAT.out);have HS6:=hid_ (isl_kept HS.out HGW.out HAS.out);have g66:w6.grownBy w6 (Value.ownBlock (.slice va (N + 1) vc)):=grown_ex (Ex.refl w6) _;have hx2:=HCC.out w6 ⟨XB,2,none⟩ _ g66 (by have:=HXB.out;show B≤XB;omega) q2;obtain ⟨c0,c1,c2,c3,c4,d0,d1,d2,d3,d4,b0,b1⟩:=HAL.out w6 g66;obtain ⟨r0,r1,rf0,rf1⟩:=box2_use (HRBC.out w6 g66);have HLL:=hid_ (show (L ++ [(⟨tl,sl,SD,MS⟩:Nd)]).length=N + 1 from by rw [List.length_append,HNN.out];rfl);have HVO:=hid_ (show Value.ownBlock (.slice va (N + 1) vc)=Value.ownBlock (.slice la N lc)∨∀X,Value.ownBlock (.slice va (N + 1) vc)=some X→w.heap.size≤X from HVA.out.imp id fun h X hX=> by
   rw [h] at hX;injection hX with hX;have h5:=HX.out.size;have h6:=HX5.out.size;omega)
  clear happ q0 q1 q2 q3 hg6;by_cases hsd:SD=-1
  rotate_left
  ·have a1:(SD !=-1)=true:=by simpa using hsd
   have hpos:0≤SD:=by have:=HWS.out;omega
   have HRE:=hid_ (show RR=((N + 1,L ++ [⟨tl,sl,SD,MS⟩]),0) from by rw [HRR2.out,if_pos hpos]);have HFS:=hid_ ((show SrV w0 w (.slice la N lc) RR (.slice va (N + 1) vc) (.slice ta K tc) (.slice sa KS sc) 0 w6 from
    ⟨HX06.out,HGW.out,⟨_,_,_,rfl⟩,⟨_,_,_,rfl⟩,.inl ⟨by rw [HRE.out],rfl,by rw [HRE.out];exact HLL.out.symm,by rw [HRE.out];show (L ++ [_]).length≤_;rw [HLL.out];omega,by rw [HRE.out];simp,⟨_,by rw [HRE.out];exact HG6.out⟩,HVO.out⟩⟩).fin (HRBC.out w6 g66) (by have:=HBW.out;omega) (by have:=HB0.out;omega) (.slice ta K tc) (.slice sa KS sc))
   clear hsd hpos;go_upto_region 10 with fail
   go_region
   all_goals go_wp2_with fail
   all_goals refine bodyPost_ret (v:= .tuple #[.slice va (N + 1) vc,.agg #[.slice ta K tc,.slice sa KS sc],.int .i64 0]) (by simp [results,Tryz.results68,go_sem,r0,r1]) rfl ⟨_,_,_,_,rfl,HFS.out.later ((Ex.refl _).drew)⟩
  subst hsd;have HRR3:=hid_ (show RR=if K=n then ((N + 1,L ++ [⟨tl,sl,-1,MS⟩]),18) else foX G (exL (p ^ m) tl sl n) (N + 1,L ++ [⟨tl,sl,-1,MS⟩]) from by rw [HRR2.out,if_neg (by decide)]);by_cases hkn:K=n
  ·subst hkn;have HRE:=hid_ (show RR=((N + 1,L ++ [⟨tl,sl,-1,MS⟩]),18) from by rw [HRR3.out,if_pos rfl]);have HFS:=hid_ ((show SrV w0 w (.slice la N lc) RR (.slice none 0 0) (.slice ta K tc) (.slice sa KS sc) 11 w6 from
    ⟨HX06.out,HGW.out,⟨_,_,_,rfl⟩,⟨_,_,_,rfl⟩,.inr (.inl ⟨by rw [HRE.out],rfl,by rw [HRE.out,lastN_app];exact HT6.out,by rw [HRE.out,lastN_app];exact HS6.out⟩)⟩).fin (HRBC.out w6 g66) (by have:=HBW.out;omega) (by have:=HB0.out;omega) (.slice ta K tc) (.slice sa KS sc))
   go_upto_region 12 with fail
   go_region
   all_goals go_wp2_with fail
   all_goals refine bodyPost_ret (v:= .tuple #[.slice none 0 0,.agg #[.slice ta K tc,.slice sa KS sc],.int .i64 11]) (by simp [results,Tryz.results68,go_sem,r0,r1]) rfl ⟨_,_,_,_,rfl,HFS.out.later ((Ex.refl _).drew)⟩
  have b1:((K:Int)==(n:Int))=false:=by simp;omega
  have HKLT:=hid_ (show K < n from by have:=HKN.out;omega);have HRR4:=hid_ (show RR=foX G (exL (p ^ m) tl sl n) (N + 1,L ++ [⟨tl,sl,-1,MS⟩]) from by rw [HRR3.out,if_neg hkn]);clear hkn HRR3;go_wp2_with fail
  refine (HEX.out w6 HX06.out HT6.out HS6.out).mono ?_;rintro e w7 ⟨xv,cs,w8,rfl,hpg,hx68,hx67⟩;have HGM:=hid_ (fun x (hx:x∈exL (p ^ m) tl sl n)=> HG.out HKLT.out x hx);obtain ⟨XS,hXS⟩:∃X,exL (p ^ m) tl sl n=X:=⟨_,rfl⟩;rw [hXS] at hpg HGM HRR4 HXL;have HNX:=hid_ (NxR.of hpg fun X hX=> by have h5:=(HG6.out.own.lt X hX).2;have h6:=hx68.size;omega);obtain ⟨xa,xc,rfl⟩:=own_shape hpg.own;obtain ⟨M,hM⟩:∃M,XS.length=M:=⟨_,rfl⟩;have HMM:=hid_ hM;have hM16:M≤16384:=by have h5:=HXL.out;have h6:=HN64.out;omega
  rw [hM] at HNX ⊢;have HG7:=hid_ (HG6.out.later hx67);have HX7:=hid_ hx67;obtain ⟨S1,hS1⟩:∃S,(N + 1,L ++ [(⟨tl,sl,-1,MS⟩:Nd)])=S:=⟨_,rfl⟩;have HS1:=hid_ hS1;rw [hS1] at HRR4;have HST:=hid_ (show (L ++ [(⟨tl,sl,-1,MS⟩:Nd)])≠ []∧(L ++ [(⟨tl,sl,-1,MS⟩:Nd)]).length≤65536∧foX G (XS.take 0) S1=(((L ++ [(⟨tl,sl,-1,MS⟩:Nd)]).length,L ++ [⟨tl,sl,-1,MS⟩]),0) from ⟨by simp,by rw [HLL.out];omega,by rw [HLL.out,hS1];rfl⟩);have HFR0:=hid_ (show w6.grownBy w7 (Value.ownBlock (.slice va (N + 1) vc))∧(Value.ownBlock (.slice va (N + 1) vc)=Value.ownBlock (.slice va (N + 1) vc)∨∀X,Value.ownBlock (.slice va (N + 1) vc)=some X→w6.heap.size≤X) from ⟨grown_ex hx67 _,.inl rfl⟩);have HGT:=hid_ (show ∀w',w6.grownBy w' (Value.ownBlock (.slice va (N + 1) vc))→w.grownBy w' (Value.ownBlock (.slice la N lc)) from fun w' hg=> HGW.out.andThen hg fun j hj=> by
   rcases HVO.out with h5 | h5
   ·right;rw [←h5];exact hj
   ·left;exact h5 j hj)
  have HW6:=hid_ HGW.out.size;clear hXS hM hS1 hpg hx68 hx67 c0 c1 c2 c3 c4 d0 d1 d2 d3 d4 b0 b1 r0 r1 rf0 rf1 hx2 g66 HEX HG;go_wp2_with fail
  go_loopw [4,15] (fun lv' i' wr=> ∃(i:Nat) (Li:List Nd) (mi:List Value),i≤M∧i'= .int .i64 i∧Hid (RGr w0 wr lv' Li mi)∧Hid (Li≠ []∧Li.length≤65536∧foX G (XS.take i) S1=((Li.length,Li),0))∧Hid (NxR w8 wr (.slice xa M xc) XS cs lv')∧Hid (w6.grownBy wr (Value.ownBlock (.slice va (N + 1) vc))∧(lv'.ownBlock=Value.ownBlock (.slice va (N + 1) vc)∨∀X,lv'.ownBlock=some X→w6.heap.size≤X))) (fun _ i' _=> M - (intOf i').toNat)
  case atStart=> exact ⟨0,_,_,by omega,rfl,HG7,HST,HNX,hid_ ⟨HFR0.out.1,.inl rfl⟩⟩
  case round=>
   clear HG7 HST HNX HFR0;obtain ⟨i,Li,mi,hi,rfl,hgr,hst,hnx,hfr⟩:=hrel;obtain ⟨pa,pc,hqv⟩:=own_shape hgr.out.own;subst hqv;obtain ⟨Ln,hLn⟩:∃k,Li.length=k:=⟨_,rfl⟩;rw [hLn] at hgr hst hnx hfr ⊢;have HFR:=hid_ (show ∀w',wr.grownBy w' (Value.ownBlock (.slice pa Ln pc))→w6.grownBy w' (Value.ownBlock (.slice va (N + 1) vc)) from fun w' hg=> hfr.out.1.andThen hg fun j hj=> by
    rcases hfr.out.2 with h5 | h5
    ·right;rw [←h5];exact hj
    ·left;exact h5 j hj)
   have HLnn:=hid_ hLn;have HPB:=hid_ (show Value.ownBlock (.slice pa Ln pc)=Value.ownBlock (.slice la N lc)∨∀X,Value.ownBlock (.slice pa Ln pc)=some X→w.heap.size≤X from by
    rcases hfr.out.2 with h5 | h5
    ·rw [h5];exact HVO.out
    ·exact .inr fun X hX=> Nat.le_trans HW6.out (h5 X hX))
   have HGI:=hid_ hgr.out;have HSI:=hid_ hst.out;have HNI:=hid_ hnx.out;have HFI2:=hid_ hfr.out;clear hgr hst hnx hfr hLn;obtain ⟨r0,r1,rf0,rf1⟩:=box2_use (HRBC.out wr HFI2.out.1);obtain ⟨c0,c1,c2,c3,c4,d0,d1,d2,d3,d4,b0,b1⟩:=HAL.out wr HFI2.out.1;by_cases hlt:i < M
   rotate_left
   ·obtain hiM:i=M:=by omega
    have HRE:=hid_ (show RR=((Ln,Li),0) from by rw [HRR4.out,←HSI.out.2.2,hiM,←HMM.out,List.take_length]);have HFS:=hid_ ((show SrV w0 w (.slice la N lc) RR (.slice pa Ln pc) (.slice ta K tc) (.slice sa KS sc) 0 wr from
     ⟨HGI.out.ex,HGT.out _ HFI2.out.1,⟨_,_,_,rfl⟩,⟨_,_,_,rfl⟩,.inl ⟨by rw [HRE.out],rfl,by rw [HRE.out];exact HLnn.out.symm,by rw [HRE.out];show Li.length≤_;rw [HLnn.out];exact HSI.out.2.1,by rw [HRE.out];exact HSI.out.1,⟨_,by rw [HRE.out];exact HGI.out⟩,HPB.out⟩⟩).fin (HRBC.out wr HFI2.out.1) (by have:=HBW.out;omega) (by have:=HB0.out;omega) (.slice ta K tc) (.slice sa KS sc))
    have i2:¬(i:Int) < (M:Int):=by omega
    clear hlt hiM;go_upto_region 21 with fail
    go_region
    all_goals go_wp2_with fail
    all_goals refine bodyPost_ret (v:= .tuple #[.slice pa Ln pc,.agg #[.slice ta K tc,.slice sa KS sc],.int .i64 0]) (by simp [results,Tryz.results68,go_sem,r0,r1]) rfl ⟨_,_,_,_,rfl,HFS.out.later ((Ex.refl _).drew)⟩
   have hiX:i < XS.length:=by rw [HMM.out];exact hlt
   obtain ⟨xb,xcap,u1,u2,hxv,hc1,hc2,hi1,hi2,ha1,ha2,hxne⟩:=HNI.out.get hiX;injection hxv with hxv z5 z6;clear z5 z6;subst hxv;obtain ⟨x,hx⟩:∃x,XS[i]=x:=⟨_,rfl⟩;rw [hx] at hi1 hi2;have HXM:=hid_ (show x∈XS from hx ▸ List.getElem_mem hiX);have HXI:=hid_ (show XS[i]'hiX=x from hx);obtain ⟨ua,uc,rfl,-,-,-⟩:=hi1.open;obtain ⟨wa,wc',rfl,-,-,-⟩:=hi2.open;obtain ⟨UL,hUL⟩:∃k,x.1.length=k:=⟨_,rfl⟩;obtain ⟨WL,hWL⟩:∃k,x.2.length=k:=⟨_,rfl⟩;rw [hUL] at hi1 hc1 ha1;rw [hWL] at hi2 hc2 ha2;obtain ⟨R,hR⟩:∃R,G (Li.length,Li) x.1 x.2=R:=⟨_,rfl⟩;have HRG:=hid_ hR;have HGC:=hid_ (fun (w':World) (h:Ex wr w')=> HGM.out x HXM.out w' Li mi (.slice pa Ln pc) (.slice ua UL uc) (.slice wa WL wc') (HGI.out.ex.trans h) HSI.out.1 (by have:=HSI.out.2.1;rw [←HLnn.out] at this;exact this) (HGI.out.later h) (hi1.ex h) (hi2.ex h) ha1 ha2);rw [hR] at HGC;have HXC:=hid_ (show ∀w',wr.grownBy w' (Value.ownBlock (.slice pa Ln pc))→w'.cell? ⟨xb,i * 2,none⟩=some (.slice ua UL uc)∧w'.cell? ⟨xb,i * 2 + 1,none⟩=some (.slice wa WL wc') from fun w' hg=> ⟨hg.cell hc1 hxne,hg.cell hc2 hxne⟩);have HPL:=hid_ (show ∀X,Value.ownBlock (.slice pa Ln pc)=some X→X < wr.heap.size from fun X hX=> (HGI.out.own.lt X hX).2);have i1:(0:Int)≤(i:Int):=by omega
   have i2:(i:Int) < (M:Int):=by omega
   clear hR hUL hWL hx hc1 hc2 hi1 hi2 ha1 ha2 hxne;go_upto_region 17 with fail
   clear c0 c1 c2 c3 c4 d0 d1 d2 d3 d4 b0 b1 r0 r1 rf0 rf1;refine wp_region_invL (ScE w0 wr (.slice pa Ln pc) R (.agg #[.int .i64 (p:Int),.int .i64 (m:Int),.slice x3 ml.length y3,.int .i64 (n:Int),.slice x1 l1.length y1]) (.agg #[.int .i64 (p:Int),.int .i64 (m:Int),.slice x4 ml.length y4,.int .i64 (n:Int),.slice x2 l2.length y2]) (.slice (some ⟨xb,0,none⟩) M xc) (.pointer (some ⟨xb,i * 2,none⟩)) (.agg #[.slice ua UL uc,.slice wa WL wc']) (i:Int)) (by kernel_rfl) (by kernel_rfl) (by kernel_rfl) ?_ ?_ ?_
   ·exact ⟨undef,undef,undef,0,0,⟨fun h=> (by cases h),fun h=> (by cases h),fun h=> (by cases h),fun h=> (by cases h),fun h=> (by cases h),fun h=> (by cases h),fun h=> (by cases h),fun _=> (Ex.refl wr).drew,fun h=> (by cases h),fun h=> (by cases h),fun h=> (by cases h),fun h=> (by cases h),fun h=> (by cases h),fun h=> (by cases h),fun h=> (by cases h),fun h=> (by cases h),fun h=> (by cases h)⟩⟩
   ·refine ⟨fun L V a w' hf hj hi hd hcl Kc hK=> ?_,fun L V a w' hf hj hi hd hcl Kc hK=> ?_,fun L V a w' hf hj hi hd hcl Kc hK=> ?_,fun L V a w' hf hj hi hd hcl Kc hK=> ?_,fun L V a w' hf hj hi hd hcl Kc hK=> ?_,fun L V a w' hf hj hi hd hcl Kc hK=> ?_,fun L V a w' hf hj hi hd hcl Kc hK=> ?_,fun L V a w' hf hj hi hd hcl Kc hK=> ?_,fun L V a w' hf hj hi hd hcl Kc hK=> ?_,fun L V a w' hf hj hi hd hcl Kc hK=> ?_,fun L V a w' hf hj hi hd hcl Kc hK=> ?_,fun L V a w' hf hj hi hd hcl Kc hK=> ?_,fun L V a w' hf hj hi hd hcl Kc hK=> ?_,fun L V a w' hf hj hi hd hcl Kc hK=> ?_,fun L V a w' hf hj hi hd hcl Kc hK=> ?_,fun L V a w' hf hj hi hd hcl Kc hK=> ?_,trivial⟩
    ·obtain ⟨v,qt,qs,e,C,hj⟩:=hj;have e5:a.tmps[5]?=some (.pointer (some ⟨B,0,none⟩)):=hf.out_ 5 (by kernel_rfl);obtain ⟨c0,c1,c2,c3,c4,d0,d1,d2,d3,d4,b0,b1⟩:=HAL.out w' (HFR.out w' hj.gr);clear hf hcl hd;go_simp;exact hK _ _ ⟨_,_,_,_,_, { hj with v0:=fun _=> rfl }⟩
    ·obtain ⟨v,qt,qs,e,C,hj⟩:=hj;have e6:a.tmps[6]?=some (.pointer (some ⟨B + 1,0,none⟩)):=hf.out_ 6 (by kernel_rfl);obtain ⟨c0,c1,c2,c3,c4,d0,d1,d2,d3,d4,b0,b1⟩:=HAL.out w' (HFR.out w' hj.gr);clear hf hcl hd;go_simp;exact hK _ _ ⟨_,_,_,_,_, { hj with v1:=fun _=> rfl }⟩
    ·obtain ⟨v,qt,qs,e,C,hj⟩:=hj;have e14:a.tmps[14]?=some (.slice (some ⟨xb,0,none⟩) M xc):=hf.out_ 14 (by kernel_rfl);clear hf hcl hd;go_simp;exact hK _ _ ⟨_,_,_,_,_, { hj with v2:=fun _=> rfl }⟩
    ·obtain ⟨v,qt,qs,e,C,hj⟩:=hj;have e15:a.tmps[15]?=some (.int .i64 (i:Int)):=hf.out_ 15 (by kernel_rfl);clear hf hcl hd;go_simp;exact hK _ _ ⟨_,_,_,_,_, { hj with v3:=fun _=> rfl }⟩
    ·obtain ⟨v,qt,qs,e,C,hj⟩:=hj;have d2:L 2=true:=hd ⟨2,.data⟩ (by simp) rfl;have e84:=hf.in_ 2 84 d2 rfl rfl;rw [hj.v2 d2] at e84;have d3:L 3=true:=hd ⟨3,.data⟩ (by simp) rfl;have e85:=hf.in_ 3 85 d3 rfl rfl;rw [hj.v3 d3] at e85;clear hf hcl hd;go_simp;exact hK _ _ ⟨_,_,_,_,_, { hj with v4:=fun _=> rfl }⟩
    ·obtain ⟨v,qt,qs,e,C,hj⟩:=hj;have d4:L 4=true:=hd ⟨4,.data⟩ (by simp) rfl;have e86:=hf.in_ 4 86 d4 rfl rfl;rw [hj.v4 d4] at e86;obtain ⟨g1,g2⟩:=HXC.out w' hj.gr;clear hf hcl hd;go_simp;exact hK _ _ ⟨_,_,_,_,_, { hj with v5:=fun _=> rfl }⟩
    ·obtain ⟨v,qt,qs,e,C,hj⟩:=hj;have e4:a.tmps[4]?=some (.slice pa Ln pc):=hf.out_ 4 (by kernel_rfl);clear hf hcl hd;go_simp;exact hK _ _ ⟨_,_,_,_,_, { hj with v6:=fun _=> rfl }⟩
    ·obtain ⟨v,qt,qs,e,C,hj⟩:=hj;have d0:L 0=true:=hd ⟨0,.data⟩ (by simp) rfl;have e82:=hf.in_ 0 82 d0 rfl rfl;rw [hj.v0 d0] at e82;have d1:L 1=true:=hd ⟨1,.data⟩ (by simp) rfl;have e83:=hf.in_ 1 83 d1 rfl rfl;rw [hj.v1 d1] at e83;have d5:L 5=true:=hd ⟨5,.data⟩ (by simp) rfl;have e87:=hf.in_ 5 87 d5 rfl rfl;rw [hj.v5 d5] at e87;have d6:L 6=true:=hd ⟨6,.data⟩ (by simp) rfl;have e88:=hf.in_ 6 88 d6 rfl rfl;rw [hj.v6 d6] at e88;have h8:L 8=false:=bool_no fun h=> absurd (hi.symm.trans (hcl 8 _ h rfl ⟨7,.data⟩ (by simp) rfl)) (by decide);have h9:L 9=false:=bool_no fun h=> absurd (h8.symm.trans (hcl 9 _ h rfl ⟨8,.data⟩ (by simp) rfl)) (by decide);have h10:L 10=false:=bool_no fun h=> absurd (h8.symm.trans (hcl 10 _ h rfl ⟨8,.data⟩ (by simp) rfl)) (by decide);have h11:L 11=false:=bool_no fun h=> absurd (h8.symm.trans (hcl 11 _ h rfl ⟨8,.data⟩ (by simp) rfl)) (by decide);have h13:L 13=false:=bool_no fun h=> absurd (h9.symm.trans (hcl 13 _ h rfl ⟨9,.data⟩ (by simp) rfl)) (by decide);have h14:L 14=false:=bool_no fun h=> absurd (h10.symm.trans (hcl 14 _ h rfl ⟨10,.data⟩ (by simp) rfl)) (by decide);have h15:L 15=false:=bool_no fun h=> absurd (h11.symm.trans (hcl 15 _ h rfl ⟨11,.data⟩ (by simp) rfl)) (by decide);have hx:=hj.ex hi;have hc:=HGC.out w' hx;clear hf hcl hd;go_simp;refine hc.mono ?_;rintro r w2 ⟨v2,qt2,qs2,e2,rfl,hsv⟩
     try go_simp
     have hb12:L 12=true→L 14=false→w2.heap[C]?=some (.cells #[.slice none 0 0,.slice none 0 0] 49):=fun h h14=> by
      have hb:=(hj.v12 h).2.2 h14;have hlt:=(Array.getElem?_eq_some_iff.1 hb).1;rw [hsv.2.1.block C hlt (fun e=> by have:=HPL.out C e.symm;have:=(hj.v12 h).2.1;omega)];exact hb
     exact hK _ _ ⟨v2,qt2,qs2,e2,C, { v0:=hj.v0,v1:=hj.v1,v2:=hj.v2,v3:=hj.v3,v4:=hj.v4,v5:=hj.v5,v6:=hj.v6,ex:=fun h=> (by cases h),v7:=fun _=> ⟨rfl,hsv.from hx⟩,v8:=fun h=> absurd ((show L 8=true from h).symm.trans h8) (by decide),v9:=fun h=> absurd ((show L 9=true from h).symm.trans h9) (by decide),v10:=fun h=> absurd ((show L 10=true from h).symm.trans h10) (by decide),v11:=fun h=> absurd ((show L 11=true from h).symm.trans h11) (by decide),v12:=fun h=> ⟨(hj.v12 h).1,(hj.v12 h).2.1,hb12 h⟩,v13:=fun h=> absurd ((show L 13=true from h).symm.trans h13) (by decide),v14:=fun h=> absurd ((show L 14=true from h).symm.trans h14) (by decide),v15:=fun h=> absurd ((show L 15=true from h).symm.trans h15) (by decide) }⟩
    ·obtain ⟨v,qt,qs,e,C,hj⟩:=hj;have d7:L 7=true:=hd ⟨7,.data⟩ (by simp) rfl;have e89:=hf.in_ 7 89 d7 rfl rfl;rw [(hj.v7 d7).1] at e89;clear hf hcl hd;go_simp;exact hK _ _ ⟨_,_,_,_,_, { hj with v8:=fun _=> rfl }⟩
    ·obtain ⟨v,qt,qs,e,C,hj⟩:=hj;have d8:L 8=true:=hd ⟨8,.data⟩ (by simp) rfl;have e81:=hf.in_ 8 81 d8 rfl rfl;rw [hj.v8 d8] at e81;clear hf hcl hd;go_simp;exact hK _ _ ⟨_,_,_,_,_, { hj with v9:=fun _=> rfl }⟩
    ·obtain ⟨v,qt,qs,e,C,hj⟩:=hj;have d8:L 8=true:=hd ⟨8,.data⟩ (by simp) rfl;have e81:=hf.in_ 8 81 d8 rfl rfl;rw [hj.v8 d8] at e81;clear hf hcl hd;go_simp;exact hK _ _ ⟨_,_,_,_,_, { hj with v10:=fun _=> rfl }⟩
    ·obtain ⟨v,qt,qs,e,C,hj⟩:=hj;have d8:L 8=true:=hd ⟨8,.data⟩ (by simp) rfl;have e81:=hf.in_ 8 81 d8 rfl rfl;rw [hj.v8 d8] at e81;clear hf hcl hd;go_simp;exact hK _ _ ⟨_,_,_,_,_, { hj with v11:=fun _=> rfl }⟩
    ·obtain ⟨v,qt,qs,e,C,hj⟩:=hj;have h14:L 14=false:=bool_no fun h=> absurd (hi.symm.trans (hcl 14 _ h rfl ⟨12,.data⟩ (by simp) rfl)) (by decide);clear hf hcl hd;go_simp;exact hK _ _ ⟨v,qt,qs,e,w'.heap.size, { hj with ex:=fun h=> (hj.ex h).alloc _,v7:=fun h=> ⟨(hj.v7 h).1,(hj.v7 h).2.later (e_al _ _)⟩,v12:=fun _=> ⟨rfl,hj.gr.size,fun _=> heap_at rfl⟩,v14:=fun h=> absurd ((show L 14=true from h).symm.trans h14) (by decide) }⟩
    ·obtain ⟨v,qt,qs,e,C,hj⟩:=hj;have d9:L 9=true:=hd ⟨9,.data⟩ (by simp) rfl;have e90:=hf.in_ 9 90 d9 rfl rfl;rw [hj.v9 d9] at e90;clear hf hcl hd;go_simp;exact hK _ _ ⟨_,_,_,_,_, { hj with v13:=fun _=> rfl }⟩
    ·obtain ⟨v,qt,qs,e,C,hj⟩:=hj;have d10:L 10=true:=hd ⟨10,.data⟩ (by simp) rfl;have d12:L 12=true:=hd ⟨12,.data⟩ (by simp) rfl;have d8:L 8=true:=hcl 10 _ d10 rfl ⟨8,.data⟩ (by simp) rfl;have d7:L 7=true:=hcl 8 _ d8 rfl ⟨7,.data⟩ (by simp) rfl;have e17:=hf.in_ 12 17 d12 rfl rfl;rw [(hj.v12 d12).1] at e17;have e91:=hf.in_ 10 91 d10 rfl rfl;rw [hj.v10 d10] at e91;have hb:=(hj.v12 d12).2.2 hi;obtain ⟨q0,q1,qf0,qf1⟩:=box2_use hb;have hsv:=(hj.v7 d7).2;obtain ⟨⟨qa1,qn1,qc1,hq1⟩,⟨qa2,qn2,qc2,hq2⟩⟩:=And.intro hsv.2.2.1 hsv.2.2.2.1;subst hq1 hq2;have HS1:=hid_ (hsv.fin hb (hj.v12 d12).2.1 (by have:=(hj.v12 d12).2.1;have:=HGI.out.ex.size;omega) (.slice qa1 qn1 qc1) (.slice qa2 qn2 qc2));have HS2:=hid_ (box2_set (x:= .slice qa1 qn1 qc1) (y:= .slice qa2 qn2 qc2) hb);have HJ:=hid_ hj;have D7:=hid_ d7;clear hj hsv hb d7 d8 d10 d12;clear hf hcl hd;go_simp;exact hK undef _ ⟨_,_,_,_,C, { v0:=HJ.out.v0,v1:=HJ.out.v1,v2:=HJ.out.v2,v3:=HJ.out.v3,v4:=HJ.out.v4,v5:=HJ.out.v5,v6:=HJ.out.v6,ex:=fun h=> absurd ((show L 7=false from h).symm.trans D7.out) (by decide),v7:=fun h=> ⟨(HJ.out.v7 h).1,HS1.out⟩,v8:=HJ.out.v8,v9:=HJ.out.v9,v10:=HJ.out.v10,v11:=HJ.out.v11,v12:=fun h=> ⟨(HJ.out.v12 h).1,(HJ.out.v12 h).2.1,fun h=> (by cases h)⟩,v13:=HJ.out.v13,v14:=fun _=> HS2.out,v15:=HJ.out.v15 }⟩
    ·obtain ⟨v,qt,qs,e,C,hj⟩:=hj;have d11:L 11=true:=hd ⟨11,.data⟩ (by simp) rfl;have e92:=hf.in_ 11 92 d11 rfl rfl;rw [hj.v11 d11] at e92;clear hf hcl hd;go_simp;exact hK _ _ ⟨_,_,_,_,_, { hj with v15:=fun _=> rfl }⟩
   ·intro L V w9 hall hj;obtain ⟨v,qt,qs,e,C,hj⟩:=hj;have s13:=hj.v13 (hall 13 (by decide));have s12:=(hj.v12 (hall 12 (by decide))).1;have s15:=hj.v15 (hall 15 (by decide));obtain ⟨cq0,cq1⟩:=hj.v14 (hall 14 (by decide));have HSV:=hid_ (hj.v7 (hall 7 (by decide))).2;have HCW:=hid_ (hj.v12 (hall 12 (by decide))).2.1;clear hj hall;simp only [putK,Act.put,List.setIfInBounds_toArray,List.set_cons_zero,List.set_cons_succ];rw [s12,s13,s15];clear s12 s13 s15;have HF9:=hid_ (HFR.out w9 HSV.out.2.1);obtain ⟨⟨qa1,qn1,qc1,hq1⟩,⟨qa2,qn2,qc2,hq2⟩⟩:=And.intro HSV.out.2.2.1 HSV.out.2.2.2.1;subst hq1 hq2;by_cases he:e=0
    ·subst he;obtain ⟨s1,s3,s4,s5,s6⟩:R.2=0∧R.1.1=R.1.2.length∧R.1.2.length≤65536∧R.1.2≠ []∧((∃mvs,RGr w0 w9 v R.1.2 mvs)∧(v.ownBlock=Value.ownBlock (.slice pa Ln pc)∨∀B,v.ownBlock=some B→wr.heap.size≤B)):=by
      rcases HSV.out.2.2.2.2 with ⟨a1,a2,a3,a4,a5,a6,a7⟩ | ⟨a1,a2,_⟩ | ⟨a1,a2⟩
      ·exact ⟨a1,a3,a4,a5,a6,a7⟩
      ·cases a2
      ·cases a2
     obtain ⟨⟨mv9,g9⟩,at9⟩:=s6;have HREL:=hid_ (show R.1.2≠ []∧R.1.2.length≤65536∧foX G (XS.take (i + 1)) S1=((R.1.2.length,R.1.2),0) from ⟨s5,s4,by
      have hs:=foX_snoc G (XS.take i) x S1 _ (by have:=HSI.out.2.2;rw [←HLnn.out] at this;exact this);rw [HRG.out] at hs;rw [List.take_add_one,List.getElem?_eq_getElem hiX,HXI.out];show foX G (XS.take i ++ [x]) S1=_
      rw [hs,←s3,←s1]⟩)
     have HG9:=hid_ g9;have HN9:=hid_ (HNI.out.kept HSV.out.2.1 at9);have HA9:=hid_ (show w6.grownBy w9 (Value.ownBlock (.slice va (N + 1) vc))∧(v.ownBlock=Value.ownBlock (.slice va (N + 1) vc)∨∀X,v.ownBlock=some X→w6.heap.size≤X) from ⟨HF9.out,by
      rcases at9 with h5 | h5
      ·rw [h5];exact HFI2.out.2
      ·exact .inr fun X hX=> Nat.le_trans HFI2.out.1.size (h5 X hX)⟩)
     obtain ⟨Lj,hLj⟩:∃k,R.1.2=k:=⟨_,rfl⟩;rw [hLj] at HREL HG9;clear hLj g9 at9 s1 s3 s4 s5 cq0 cq1;go_wp2_with fail
     go_roundw
     case rel=> first | exact ⟨i + 1,Lj,mv9,by omega,by go_num,HG9,HREL,HN9,HA9⟩ | ((repeat apply Exists.intro);exact ⟨⟨i + 1,Lj,mv9,by omega,by go_num,HG9,HREL,HN9,HA9⟩,rfl⟩)
     case measure=> simp [intOf];omega
    ·have a1:(e !=0)=true:=by simpa using he
     have HRE:=hid_ (show RR=R from by
      have h0:(G (Li.length,Li) (XS[i]'hiX).1 (XS[i]'hiX).2).2≠0:=by
       rw [HXI.out,HRG.out];rcases HSV.out.2.2.2.2 with ⟨a1,a2,_⟩ | ⟨a1,a2,_⟩ | ⟨a1,a2⟩
       ·exact absurd a2 he
       ·rw [a1];decide
       ·rw [a1];decide
      have hh:=foX_hit G XS hiX S1 (Li.length,Li) (by have:=HSI.out.2.2;rw [←HLnn.out] at this;exact this) h0;rw [HRR4.out,hh,HXI.out,HRG.out])
     have HFS:=hid_ ((show SrV w0 w (.slice la N lc) RR (.slice none 0 0) (.slice qa1 qn1 qc1) (.slice qa2 qn2 qc2) e w9 from
      ⟨HSV.out.1,HGT.out _ HF9.out,⟨_,_,_,rfl⟩,⟨_,_,_,rfl⟩,by
       rw [HRE.out];rcases HSV.out.2.2.2.2 with ⟨a1,a2,_⟩ | h5 | h5
       ·exact absurd a2 he
       ·exact .inr (.inl h5)
       ·exact .inr (.inr h5)⟩).fin (HRBC.out w9 HF9.out) (by have:=HBW.out;omega) (by have:=HB0.out;omega) (.slice qa1 qn1 qc1) (.slice qa2 qn2 qc2))
     obtain ⟨r0,r1,rf0,rf1⟩:=box2_use (HRBC.out w9 HF9.out);clear he;go_upto_region 19 with fail
     go_region
     all_goals go_wp2_with fail
     all_goals refine bodyPost_ret (v:= .tuple #[.slice none 0 0,.agg #[.slice qa1 qn1 qc1,.slice qa2 qn2 qc2],.int .i64 e]) (by simp [results,Tryz.results68,go_sem,r0,r1]) rfl ⟨_,_,_,_,rfl,HFS.out.later ((Ex.refl _).drew)⟩
end Go.Proofs.YtgdmlmhpineibaaGreat
