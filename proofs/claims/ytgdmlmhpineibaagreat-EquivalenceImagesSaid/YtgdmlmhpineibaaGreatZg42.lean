/- Walk of equivalence.CheckRefutation: the closure. -/
import Derived.Test.YtgdmlmhpineibaaGreatZg41
namespace Go.Proofs.YtgdmlmhpineibaaGreat
set_option linter.unusedVariables false
set_option linter.unusedSimpArgs false
set_option maxRecDepth 100000
set_option maxHeartbeats 8000000
open Go.RowKit
def dRf:Rf:=⟨0,0,0, []⟩
def lastA (k:Nat) (l:List Int):Int:=if k=0 then 0 else l.getD (l.length - 1) 0
section
variable (p m:Nat) (ml:List Int) (l1 l2:List (List Int)) (n:Nat) (es:List Rf)
def flB (k:Nat) (tl sl:List Int) (X:Nat × Int):Nat × Int:=
 if k=es.length then (k,13) else
 if (es.getD k dRf).tp≠lastA k tl∨(es.getD k dRf).sc≠lastA k sl then (k + 1,13) else
 if (es.getD k dRf).side=-1∧(es.getD k dRf).msg.length=0∧tl.length < n then X else
 if ((es.getD k dRf).side=0∨(es.getD k dRf).side=1)∧shwB p m ml l1 l2 tl sl (es.getD k dRf).side (es.getD k dRf).msg=true then (k + 1,0) else (k + 1,13)
def flF:Nat→Nat→List Int→List Int→Nat × Int
 | 0,k,tl,sl=> flB p m ml l1 l2 n es k tl sl (k + 1,13)
 | d + 1,k,tl,sl=> flB p m ml l1 l2 n es k tl sl (rnJ (flF d) (p ^ m) tl sl n (k + 1))
end
def DM1 (AB:Nat):World→Nat→Prop:=fun _ X=> X=AB
structure CSt (wS:World) (AB FB:Nat) (fv:Value) (N:Nat) (k:Nat) (w:World):Prop where
 ex:Ex wS w
 c:w.cell? ⟨AB,0,none⟩=some (.int .i64 k)
 f:w.frozen? ⟨AB,0,none⟩=false
 fb:w.cell? ⟨FB,0,none⟩=some fv
 ne:AB≠FB
 lb:wS.heap.size≤AB
 le:k≤N
section
variable {wS w w':World} {AB FB N k:Nat} {fv:Value}
theorem CSt.stt:Stt (CSt wS AB FB fv N) (DM1 AB) where
 ex:=fun s w w' h hx=> ⟨h.ex.trans hx,hx.cell h.c,hx.frz h.c h.f,hx.cell h.fb,h.ne,h.lb,h.le⟩
 lt:=fun s w B h hd=> by rw [show B=AB from hd];exact World.block_lt_of_cell? _ _ h.c
 dx:=fun s w w' B h hx hd=> hd
theorem CSt.next (h:CSt wS AB FB fv N k w) (hk:k < N):CSt wS AB FB fv N (k + 1) (w.setCell ⟨AB,0,none⟩ (.int .i64 ((k:Int) + 1)))∧Keeps (DM1 AB) w (w.setCell ⟨AB,0,none⟩ (.int .i64 ((k:Int) + 1))):=
 ⟨⟨h.ex.setCell (p:=⟨AB,0,none⟩) h.lb _,by rw [World.cell?_setCell_same _ _ _ h.c];simp,by rw [efrz_set];exact h.f,by rw [cell_setCell_ne h.ne];exact h.fb,h.ne,h.lb,hk⟩,keeps_set rfl fun X h=> h⟩
end
theorem rsl_open {w:World} {v:Value} {es:List Rf} (h:RSl w v es):∃a cap,v= .slice a es.length cap∧cap≤maxLen∧es.length≤cap∧(0 < es.length→∃b o,a=some ⟨b,o,none⟩∧∀i,i < es.length→∃mv,w.cell? ⟨b,o + i * 4,none⟩=some (.int .i64 (es.getD i dRf).tp)∧w.cell? ⟨b,o + i * 4 + 1,none⟩=some (.int .i64 (es.getD i dRf).sc)∧w.cell? ⟨b,o + i * 4 + 2,none⟩=some (.int .i64 (es.getD i dRf).side)∧w.cell? ⟨b,o + i * 4 + 3,none⟩=some mv∧ISl w mv (es.getD i dRf).msg):=by
 obtain ⟨mvs,h1,⟨h2,a,cap,h3,h4,h5,h6⟩,h7⟩:=h;refine ⟨a,cap,h3,h5,h4,fun hn=> ?_⟩;obtain ⟨b,o,h8,h9⟩:=h6 hn;refine ⟨b,o,h8,fun i hi=> ?_⟩;have key:∀(es:List Rf) (mvs:List Value),mvs.length=es.length→∀i,i < es.length→∀j,j < 4→(rfC es mvs)[i * 4 + j]?=(((es.getD i dRf).cells (mvs.getD i undef)))[j]?:=fun es=> by
  induction es with
  | nil=> intro mvs _ i hi;simp at hi
  | cons e es ih=>
   intro mvs hm i hi j hj
   cases mvs with
   | nil=> simp at hm
   | cons u mvs=>
    show (e.cells u ++ rfC es mvs)[i * 4 + j]?=_
    cases i with
    | zero=> rw [List.getElem?_append_left (by simp [Rf.cells];omega)];simp
    | succ i=>
     rw [List.getElem?_append_right (by simp [Rf.cells];omega)];have:=ih mvs (by simpa using hm) i (by simpa using hi) j hj;rw [show (i + 1) * 4 + j - (e.cells u).length=i * 4 + j from by simp [Rf.cells];omega,this];simp
 have hmv:mvs[i]?=some (mvs.getD i undef):=by
  rw [List.getD_eq_getElem?_getD,List.getElem?_eq_getElem (by omega)];rfl
 have hes:es[i]?=some (es.getD i dRf):=by
  rw [List.getD_eq_getElem?_getD,List.getElem?_eq_getElem hi];rfl
 refine ⟨mvs.getD i undef,?_,?_,?_,?_,h7 i _ _ hes hmv⟩
 ·have:=h9 (i * 4 + 0) _ (key es mvs h1 i hi 0 (by omega));exact this
 ·have:=h9 (i * 4 + 1) _ (key es mvs h1 i hi 1 (by omega));rw [←Nat.add_assoc] at this;exact this
 ·have:=h9 (i * 4 + 2) _ (key es mvs h1 i hi 2 (by omega));rw [←Nat.add_assoc] at this;exact this
 ·have:=h9 (i * 4 + 3) _ (key es mvs h1 i hi 3 (by omega));rw [←Nat.add_assoc] at this;exact this
structure CkE (p m:Nat) (ml:List Int) (l1 l2:List (List Int)) (n A b x0 RB SB:Nat) (v1 v2 ev:Value) (es:List Rf) (wS:World):Prop where
 pr:PrAt wS A b n v1 v2
 gf:GFat wS b p m ml x0
 m1:MSl wS v1 l1
 m2:MSl wS v2 l2
 x1:1≤x0
 x2:x0 < p ^ m
 n64:n≤64
 r1:∀r∈l1,r.length=n
 r2:∀r∈l2,r.length=n
 k1:l1.length≤256
 k2:l2.length≤256
 rb:wS.cell? ⟨RB,0,none⟩=some ev
 sb:wS.cell? ⟨SB,0,none⟩=some (.pointer (some ⟨A,0,none⟩))
 rs:RSl wS ev es
theorem follow_body {p m:Nat} {ml:List Int} {l1 l2:List (List Int)} {n A b x0 RB SB AB FB:Nat} {v1 v2 ev:Value} {es:List Rf} {wS:World} (H:CkE p m ml l1 l2 n A b x0 RB SB v1 v2 ev es wS) (fv:Value)
  (k:Nat) (w:World) (tl sl:List Int) (tv sv:Value) (X:Nat × Int) (htn:tl.length≤n) (hsl:sl.length=tl.length) (hrg:rngB tl n=true) (hne:k≠0→tl≠ []) (hs:CSt wS AB FB fv es.length k w) (ht:PrS (DM1 AB) w tv tl) (hsv:PrS (DM1 AB) w sv sl)
  (hX:tl.length < n→∀w',CSt wS AB FB fv es.length (k + 1) w'→PrS (DM1 AB) w' tv tl→PrS (DM1 AB) w' sv sl→Calls Tryz.prog 71 #[.pointer (some ⟨A,0,none⟩),.agg #[tv,sv],fv] w' fun r w''=> r= .returned (.int .i64 X.2)∧CSt wS AB FB fv es.length X.1 w''∧Keeps (DM1 AB) w' w''):
  Calls Tryz.prog 70 #[.agg #[tv,sv],.pointer (some ⟨AB,0,none⟩),.pointer (some ⟨RB,0,none⟩),.pointer (some ⟨SB,0,none⟩),.pointer (some ⟨FB,0,none⟩)] w fun r w'=> r= .returned (.int .i64 (flB p m ml l1 l2 n es k tl sl X).2)∧CSt wS AB FB fv es.length (flB p m ml l1 l2 n es k tl sl X).1 w'∧Keeps (DM1 AB) w w':=by
 obtain ⟨b0,b1,e1,hz1⟩:=boxP_facts w tv sv;have HS1:=hid_ (CSt.stt.ex _ _ _ hs e1);have HK1:=hid_ (CSt.stt.keeps hs e1);have HT1:=hid_ (ht.keep HK1.out);have HV1:=hid_ (hsv.keep HK1.out);obtain ⟨ea,ec,rfl,hec,hle,hcells⟩:=rsl_open H.rs;unfold maxLen at hec;obtain ⟨ta,tc,rfl,-,t2,t3⟩:=ht.1.open;obtain ⟨sa,sc,rfl,-,s2,s3⟩:=hsv.1.open;unfold maxLen at t2 s2;obtain ⟨B,hB⟩:∃B,w.heap.size=B:=⟨_,rfl⟩;rw [hB] at b0 b1;have HNB:=hid_ (CSt.stt.new hs e1 (B:=B) (by omega));have c0:=HS1.out.c;have r0:=HS1.out.ex.cell H.rb;have HH:=hid_ H;have HX:=hid_ hX;have HC:=hid_ hcells;have HRG:=hid_ hrg;have HNE:=hid_ hne;have HSL:=hid_ hsl;have hkl:=hs.le;obtain ⟨N,hN⟩:∃N,es.length=N:=⟨_,rfl⟩;have HNN:=hid_ hN;obtain ⟨Y,hY⟩:∃Y,flB p m ml l1 l2 n es k tl sl X=Y:=⟨_,rfl⟩;have hYD:=hY;unfold flB at hYD;rw [hN] at hYD hkl r0 HC hle HS1 HX ⊢;rw [hY];have HYD:=hid_ hYD;clear hs ht hsv H hX hrg hne hsl e1 hz1 hcells hY hYD t3 s3;go_enter Tryz.func70,Tryz.ntmps70
 go_upto_region 1 with fail
 try simp only [hB]
 clear hB;generalize w.alloc (.cells #[.slice ta tl.length tc,.slice sa sl.length sc] 49)=w1 at *;by_cases h0:k=N
 ·have hb0:((k:Int)==(N:Int))=true:=by simp;omega
  have hb0':(k==N)=true:=by simp;omega
  have hy:=HYD.out;rw [if_pos h0] at hy;subst hy;clear h0;go_wp2_with fail
  go_ret;exact ⟨rfl,HS1.out,HK1.out⟩
 ·have hb0:((k:Int)==(N:Int))=false:=by simp;omega
  have hb0':(k==N)=false:=by simp;omega
  have hkN:k < N:=by omega
  have hy:=HYD.out;rw [if_neg h0] at hy;have HYD:=hid_ hy;obtain ⟨eb,eo,rfl,hcl⟩:=HC.out (by omega);obtain ⟨mv,q0,q1,q2,q3,hmv⟩:=hcl k (by omega);obtain ⟨e,he⟩:∃e,es.getD k dRf=e:=⟨_,rfl⟩;rw [he] at q0 q1 q2 hmv hy;have HYD:=hid_ hy;replace q0:=HS1.out.ex.cell q0;replace q1:=HS1.out.ex.cell q1;replace q2:=HS1.out.ex.cell q2;replace q3:=HS1.out.ex.cell q3;have HMV:=hid_ hmv;obtain ⟨ma,mc,rfl,-,m2,-⟩:=hmv.open;unfold maxLen at m2;have j1:(0:Int)≤(k:Int):=by omega
  have j2:(k:Int) < (N:Int):=by omega
  clear h0 hy hmv hcl he;have hnc:=hid_ (show True from trivial);go_upto_region 4 with fail
  obtain ⟨XB,hXB⟩:∃B,w1.heap.size=B:=⟨_,rfl⟩;have e2:=e_al w1 (.cells #[.int .i64 e.tp,.int .i64 e.sc,.int .i64 e.side,.slice ma e.msg.length mc] 78);have y0:(w1.alloc (.cells #[.int .i64 e.tp,.int .i64 e.sc,.int .i64 e.side,.slice ma e.msg.length mc] 78)).cell? ⟨XB,0,none⟩=some (.int .i64 e.tp):=by rw [←hXB];simp
  have y1:(w1.alloc (.cells #[.int .i64 e.tp,.int .i64 e.sc,.int .i64 e.side,.slice ma e.msg.length mc] 78)).cell? ⟨XB,1,none⟩=some (.int .i64 e.sc):=by rw [←hXB];simp
  have y2:(w1.alloc (.cells #[.int .i64 e.tp,.int .i64 e.sc,.int .i64 e.side,.slice ma e.msg.length mc] 78)).cell? ⟨XB,2,none⟩=some (.int .i64 e.side):=by rw [←hXB];simp
  have y3:(w1.alloc (.cells #[.int .i64 e.tp,.int .i64 e.sc,.int .i64 e.side,.slice ma e.msg.length mc] 78)).cell? ⟨XB,3,none⟩=some (.slice ma e.msg.length mc):=by rw [←hXB];simp
  have HNX:=hid_ (CSt.stt.new HS1.out e2 (B:=XB) (by omega));have HS2:=hid_ (CSt.stt.ex _ _ _ HS1.out e2);have HK2:=hid_ (CSt.stt.keeps HS1.out e2);have HNB2:=hid_ (fun hd=> HNB.out (CSt.stt.dx _ _ _ _ HS1.out e2 hd));have HT2:=hid_ (HT1.out.keep HK2.out);have HV2:=hid_ (HV1.out.keep HK2.out);replace b0:=e2.cell b0;replace b1:=e2.cell b1;replace c0:=e2.cell c0;clear r0 q0 q1 q2 q3
  try simp only [hXB]
  clear hXB e2;generalize w1.alloc (.cells #[.int .i64 e.tp,.int .i64 e.sc,.int .i64 e.side,.slice ma e.msg.length mc] 78)=w2 at *;obtain ⟨T,hT⟩:∃T,lastA k tl=T:=⟨_,rfl⟩;obtain ⟨U,hU⟩:∃T,lastA k sl=T:=⟨_,rfl⟩;have hy:=HYD.out;rw [hT,hU] at hy;have HYD:=hid_ hy;have Y0:=hid_ y0;have Y1:=hid_ y1;have Y2:=hid_ y2;have Y3:=hid_ y3;have B0:=hid_ b0;have B1:=hid_ b1;clear hy;go_upto_if 25 with fail
  go_cut [8,9] from 24 to 37 (fun s8 s9 wx=> s8= .int .i64 T∧s9= .int .i64 U∧Hid (Ex w2 wx))
  case first=>
   by_cases hk0:k=0
   ·have hb1:decide ((k:Int) > 0)=false:=by simp;omega
    have hb1':decide ((0:Int) < (k:Int))=false:=by simp;omega
    have hb1'':decide (0 < k)=false:=by simp;omega
    have hkp:¬0 < k:=by omega
    have HTU:=hid_ (show T=0∧U=0 from by rw [←hT,←hU];unfold lastA;rw [if_pos hk0,if_pos hk0];exact ⟨rfl,rfl⟩);clear hT hU hk0;go_wp2_with fail
    go_meet
    exact ⟨by rw [HTU.out.1],by rw [HTU.out.2],hid_ (Ex.refl _)⟩
   ·have hb1:decide ((k:Int) > 0)=true:=by simp;omega
    have hb1':decide ((0:Int) < (k:Int))=true:=by simp;omega
    have hb1'':decide (0 < k)=true:=by simp;omega
    have hkp:0 < k:=by omega
    have htne:=HNE.out hk0;have hlen:0 < tl.length:=List.length_pos_iff.2 htne;obtain ⟨z,hz1⟩:∃z,tl.length=z + 1:=⟨tl.length - 1,by omega⟩;have hz2:sl.length=z + 1:=by rw [HSL.out,hz1]
    have HTU:=hid_ (show tl.getD z 0=T∧sl.getD z 0=U from by
     rw [←hT,←hU];unfold lastA;rw [if_neg hk0,if_neg hk0,hz1,hz2];exact ⟨rfl,rfl⟩)
    obtain ⟨_,_,hta,-,-,t3⟩:=HT2.out.1.open;injection hta with hta1 hta2 hta3;subst hta1;obtain ⟨_,_,hsa,-,-,s3⟩:=HV2.out.1.open;injection hsa with hsa1 hsa2 hsa3;subst hsa1;obtain ⟨tb,to_,rfl,htc⟩:=t3 hlen;obtain ⟨sb,so,rfl,hsc⟩:=s3 (by omega);have cX:=htc z T (by rw [←HTU.out.1];exact get_getD (by omega));have cY:=hsc z U (by rw [←HTU.out.2];exact get_getD (by omega));have hz64:z≤63:=by have:=HH.out.n64;omega
    have HI6:=hid_ (show wrap64 ((tl.length:Int) - 1)=(z:Int) from by rw [show (tl.length:Int) - 1=(z:Int) from by omega];exact w64 (by omega) (by omega));have HI7:=hid_ (show IntKind.i64.wrap ((tl.length:Int) - 1)=(z:Int) from by rw [show (tl.length:Int) - 1=(z:Int) from by omega];exact IntWalk.i64_in _ (by omega));have k1:(0:Int)≤(z:Int):=by omega
    have k2:(z:Int) < (tl.length:Int):=by omega
    have k4:(z:Int) < (sl.length:Int):=by omega
    clear hT hU hk0 htne htc hsc hta2 hta3 hsa2 hsa3 hlen hz1 hz2 t3 s3 y0 y1 y2 y3;go_wp2_with fail
    have i6:=HI6.out;have i7:=HI7.out;have HCC:=hid_ (show w2.cell? ⟨B,0,none⟩=some (.slice (some ⟨tb,to_,none⟩) tl.length tc)∧w2.cell? ⟨B,1,none⟩=some (.slice (some ⟨sb,so,none⟩) sl.length sc)∧w2.cell? ⟨tb,to_ + z,none⟩=some (.int .i64 T)∧w2.cell? ⟨sb,so + z,none⟩=some (.int .i64 U) from ⟨b0,b1,cX,cY⟩)
    go_region_held3 (fun w'=> w'.cell? ⟨B,0,none⟩=some (.slice (some ⟨tb,to_,none⟩) tl.length tc)∧w'.cell? ⟨B,1,none⟩=some (.slice (some ⟨sb,so,none⟩) sl.length sc)∧w'.cell? ⟨tb,to_ + z,none⟩=some (.int .i64 T)∧w'.cell? ⟨sb,so + z,none⟩=some (.int .i64 U)) (exact HCC.out) (fail)
    clear i6 i7;go_wp2_with fail
    go_meet
    exact ⟨rfl,rfl,hid_ ((Ex.refl _).drew)⟩
  case rest=>
   obtain ⟨rfl,rfl,hx⟩:=hcut;have HXC:=hid_ hx.out;have HSC:=hid_ (CSt.stt.ex _ _ _ HS2.out HXC.out);have HKC:=hid_ (CSt.stt.keeps HS2.out HXC.out);clear hx y0 y1 y2 y3 b0 b1 c0 hT hU;obtain ⟨hsd,hkd⟩:=HSC.out.next hkN;have HSD:=hid_ hsd;have HKD:=hid_ hkd;have c0:=HSC.out.c;have f0:=HSC.out.f;have HNX2:=hid_ (fun hd=> HNX.out (CSt.stt.dx _ _ _ _ HS2.out HXC.out hd));have HNB3:=hid_ (fun hd=> HNB2.out (CSt.stt.dx _ _ _ _ HS2.out HXC.out hd));have y0:=HKD.out.cell HNX2.out (HXC.out.cell Y0.out);have y1:=HKD.out.cell HNX2.out (HXC.out.cell Y1.out);have y2:=HKD.out.cell HNX2.out (HXC.out.cell Y2.out);have y3:=HKD.out.cell HNX2.out (HXC.out.cell Y3.out);have b0:=HKD.out.cell HNB3.out (HXC.out.cell B0.out);have b1:=HKD.out.cell HNB3.out (HXC.out.cell B1.out);have HTD:=hid_ ((HT2.out.keep HKC.out).keep HKD.out);have HVD:=hid_ ((HV2.out.keep HKC.out).keep HKD.out);have HKA:=hid_ (HK1.out.trans (HK2.out.trans (HKC.out.trans HKD.out)));have s0:=HSD.out.ex.cell HH.out.sb;have a4:=HSD.out.ex.cell HH.out.pr.c4;have fb:=HSD.out.fb;have hkm:(k:Int) + 1≤9223372036854775807:=by omega
   clear hsd hkd HKC HNX HNX2 HNB HNB2 HNB3 Y0 Y1 Y2 Y3 B0 B1 HT1 HV1 HT2 HV2 HS1 HK1 HK2 HKD;obtain ⟨wD,hwD⟩:∃wD,wc.setCell ⟨AB,0,none⟩ (.int .i64 ((k:Int) + 1))=wD:=⟨_,rfl⟩;rw [hwD] at HSD y0 y1 y2 y3 b0 b1 HTD HVD HKA s0 a4 fb;go_upto_region 9 with fail
   try simp only [hwD]
   clear hwD c0 f0;by_cases h1:e.tp=T∧e.sc=U
   ·obtain ⟨h1a,h1b⟩:=h1;have n1:(e.tp !=T)=false:=by simp [h1a]
    have n2:(e.sc !=U)=false:=by simp [h1b]
    have hy:=HYD.out;rw [if_neg (by simp [h1a,h1b])] at hy;have HYD:=hid_ hy;clear h1a h1b hy;obtain ⟨Lm,hLm⟩:∃L,e.msg.length=L:=⟨_,rfl⟩;have HLm:=hid_ hLm;have hy:=HYD.out;rw [hLm] at y3 hy;have HYD:=hid_ hy;simp only [hLm];clear hLm hy;obtain ⟨Q,hQ⟩:∃Q,decide (e.side=-1∧Lm=0∧tl.length < n)=Q:=⟨_,rfl⟩;have HQ:=hid_ hQ;have HCC:=hid_ (show wD.cell? ⟨XB,2,none⟩=some (.int .i64 e.side)∧wD.cell? ⟨XB,3,none⟩=some (.slice ma Lm mc)∧wD.cell? ⟨B,0,none⟩=some (.slice ta tl.length tc)∧wD.cell? ⟨SB,0,none⟩=some (.pointer (some ⟨A,0,none⟩))∧wD.cell? ⟨A,4,none⟩=some (.int .i64 n) from ⟨y2,y3,b0,s0,a4⟩);clear hQ;go_upto_region 11 with fail
    go_cut [51] from 52 to 93 (fun s51 wx=> s51= .bool Q∧Hid (Ex wD wx))
    case first=>
     clear y0 y1 y2 y3 b0 b1 s0 a4 fb;by_cases hA:e.side=-1
     ·have a1:(e.side==-1)=true:=by simpa using hA
      by_cases hBm:Lm=0
      ·have a2:((Lm:Int)==0)=true:=by simp;omega
       have a2':(Lm==0)=true:=by simpa using hBm
       by_cases hCm:tl.length < n
       ·have a3:decide ((tl.length:Int) < (n:Int))=true:=by simp;omega
        have a3':decide (tl.length < n)=true:=by simpa using hCm
        have HQT:=hid_ (show Q=true from by rw [←HQ.out];exact decide_eq_true ⟨hA,hBm,hCm⟩);clear hA hBm;obtain ⟨y2,y3,b0,s0,a4⟩:=HCC.out
        go_quiet (fail)
        go_wp2_with fail
        go_meet
        exact ⟨by rw [HQT.out],hid_ ((Ex.refl _).drewN _)⟩
       ·have a3:decide ((tl.length:Int) < (n:Int))=false:=by simp;omega
        have a3':decide (tl.length < n)=false:=by simpa using hCm
        have HQT:=hid_ (show Q=false from by rw [←HQ.out];exact decide_eq_false fun h=> hCm h.2.2);clear hA hBm;obtain ⟨y2,y3,b0,s0,a4⟩:=HCC.out
        go_quiet (fail)
        go_wp2_with fail
        go_meet
        exact ⟨by rw [HQT.out],hid_ ((Ex.refl _).drewN _)⟩
      ·have a2:((Lm:Int)==0)=false:=by simp;omega
       have a2':(Lm==0)=false:=by simpa using hBm
       have HQT:=hid_ (show Q=false from by rw [←HQ.out];exact decide_eq_false fun h=> hBm h.2.1);clear hA;obtain ⟨y2,y3,b0,s0,a4⟩:=HCC.out
       go_quiet (fail)
       go_wp2_with fail
       go_meet
       exact ⟨by rw [HQT.out],hid_ ((Ex.refl _).drewN _)⟩
     ·have a1:(e.side==-1)=false:=by simpa using hA
      have HQT:=hid_ (show Q=false from by rw [←HQ.out];exact decide_eq_false fun h=> hA h.1);clear hA;obtain ⟨y2,y3,b0,s0,a4⟩:=HCC.out
      go_quiet (fail)
      go_wp2_with fail
      go_meet
      exact ⟨by rw [HQT.out],hid_ ((Ex.refl _).drewN _)⟩
    case rest=>
     obtain ⟨rfl,hx⟩:=hcut;have HXE:=hid_ hx.out;have HSE:=hid_ (CSt.stt.ex _ _ _ HSD.out HXE.out);have HKE:=hid_ (CSt.stt.keeps HSD.out HXE.out);have HTE:=hid_ (HTD.out.keep HKE.out);have HVE:=hid_ (HVD.out.keep HKE.out);have HKF:=hid_ (HKA.out.trans HKE.out);have y2':=HXE.out.cell HCC.out.1;have y3':=HXE.out.cell HCC.out.2.1;have b0':=HXE.out.cell HCC.out.2.2.1;have b1':=HXE.out.cell b1;have s0':=HXE.out.cell HCC.out.2.2.2.1;have fb':=HXE.out.cell fb;clear hx y0 y1 y2 y3 b0 b1 s0 a4 fb HCC HSD HTD HVD HKA HKE;have hy:=HYD.out
     cases Q with
     | true=>
      have hq:=of_decide_eq_true HQ.out;rw [if_pos hq] at hy;subst hy;have HXX:=hid_ (HX.out hq.2.2 _ HSE.out HTE.out HVE.out);clear hq HX;go_wp2_with (go_at_call 71;refine HXX.out.mono ?_;rintro e9 w9 ⟨rfl,h9,h9k⟩;have H9:=hid_ h9;have H9K:=hid_ h9k;clear h9 h9k)
      go_ret;exact ⟨rfl,H9.out,HKF.out.trans H9K.out⟩
     | false=>
      have hq:=of_decide_eq_false HQ.out;rw [if_neg hq] at hy;have HYD:=hid_ hy;clear hq hy HX;have hxs:=HSE.out.ex;have HSHC:=hid_ (shows_any wc (HH.out.gf.ex hxs) HH.out.x1 HH.out.x2 A n HH.out.n64 v1 v2 (HH.out.pr.ex hxs) l1 l2 (HH.out.m1.ex hxs) (HH.out.m2.ex hxs) HH.out.r1 HH.out.r2 HH.out.k1 HH.out.k2 tl sl _ _ HTE.out.1 HVE.out.1 HSL.out htn HRG.out e.side e.msg _ (HMV.out.ex hxs));rw [HLm.out] at HSHC;obtain ⟨W,hW⟩:∃W,shwB p m ml l1 l2 tl sl e.side e.msg=W:=⟨_,rfl⟩;rw [hW] at HSHC;have hy:=HYD.out;rw [hW] at hy;have HYD:=hid_ hy;clear hW hy hxs;by_cases hs0:e.side=0
      ·have a1:(e.side==0)=true:=by simpa using hs0
       have hy:=HYD.out;have HS0:=hid_ hs0;clear hs0
       cases W with
       | true=>
        rw [if_pos ⟨.inl HS0.out,rfl⟩] at hy;subst hy;go_wp2_with (go_at_call 72;refine HSHC.out.mono ?_;rintro e9 w9 ⟨rfl,hx9⟩;have HX9:=hid_ hx9;clear hx9)
        go_ret;exact ⟨rfl,CSt.stt.ex _ _ _ HSE.out HX9.out,HKF.out.trans (CSt.stt.keeps HSE.out HX9.out)⟩
       | false=>
        rw [if_neg (by simp)] at hy;subst hy;go_wp2_with (go_at_call 72;refine HSHC.out.mono ?_;rintro e9 w9 ⟨rfl,hx9⟩;have HX9:=hid_ hx9;clear hx9)
        go_ret;exact ⟨rfl,CSt.stt.ex _ _ _ HSE.out HX9.out,HKF.out.trans (CSt.stt.keeps HSE.out HX9.out)⟩
      ·have a1:(e.side==0)=false:=by simpa using hs0
       by_cases hs1:e.side=1
       ·have a2:(e.side==1)=true:=by simpa using hs1
        have hy:=HYD.out;have HS1':=hid_ hs1;clear hs0 hs1
        cases W with
        | true=>
         rw [if_pos ⟨.inr HS1'.out,rfl⟩] at hy;subst hy;go_wp2_with (go_at_call 72;refine HSHC.out.mono ?_;rintro e9 w9 ⟨rfl,hx9⟩;have HX9:=hid_ hx9;clear hx9)
         go_ret;exact ⟨rfl,CSt.stt.ex _ _ _ HSE.out HX9.out,HKF.out.trans (CSt.stt.keeps HSE.out HX9.out)⟩
        | false=>
         rw [if_neg (by simp)] at hy;subst hy;go_wp2_with (go_at_call 72;refine HSHC.out.mono ?_;rintro e9 w9 ⟨rfl,hx9⟩;have HX9:=hid_ hx9;clear hx9)
         go_ret;exact ⟨rfl,CSt.stt.ex _ _ _ HSE.out HX9.out,HKF.out.trans (CSt.stt.keeps HSE.out HX9.out)⟩
       ·have a2:(e.side==1)=false:=by simpa using hs1
        have hy:=HYD.out;rw [if_neg (by
         rintro ⟨h | h,_⟩
         ·exact hs0 h
         ·exact hs1 h)] at hy
        subst hy;clear hs0 hs1;go_wp2_with fail
        go_ret;exact ⟨rfl,HSE.out,HKF.out⟩
   ·have hy:=HYD.out;rw [if_pos (by
     by_cases h:e.tp=T
     ·exact .inr fun h2=> h1 ⟨h,h2⟩
     ·exact .inl h)] at hy
    subst hy;by_cases h1a:e.tp=T
    ·have n1:(e.tp !=T)=false:=by simp [h1a]
     have n2:(e.sc !=U)=true:=by simp;exact fun h2=> h1 ⟨h1a,h2⟩
     clear h1 h1a;go_wp2_with fail
     go_ret;exact ⟨rfl,HSD.out,HKA.out⟩
    ·have n1:(e.tp !=T)=true:=by simpa using h1a
     clear h1 h1a;go_wp2_with fail
     go_ret;exact ⟨rfl,HSD.out,HKA.out⟩
def folV (AB RB SB FB:Nat):Value:= .func (.func 70) #[] #[.pointer (some ⟨AB,0,none⟩),.pointer (some ⟨RB,0,none⟩),.pointer (some ⟨SB,0,none⟩),.pointer (some ⟨FB,0,none⟩)]
theorem follow_any {p m:Nat} {ml:List Int} {l1 l2:List (List Int)} {n A b x0 RB SB AB FB:Nat} {v1 v2 ev:Value} {es:List Rf} {wS:World} (H:CkE p m ml l1 l2 n A b x0 RB SB v1 v2 ev es wS):
  ∀(d k:Nat) (w:World) (tl sl:List Int) (tv sv:Value),tl.length + d=n→sl.length=tl.length→rngB tl n=true→(k≠0→tl≠ [])→CSt wS AB FB (folV AB RB SB FB) es.length k w→PrS (DM1 AB) w tv tl→PrS (DM1 AB) w sv sl→
  Calls Tryz.prog 70 #[.agg #[tv,sv],.pointer (some ⟨AB,0,none⟩),.pointer (some ⟨RB,0,none⟩),.pointer (some ⟨SB,0,none⟩),.pointer (some ⟨FB,0,none⟩)] w fun r w'=> r= .returned (.int .i64 (flF p m ml l1 l2 n es d k tl sl).2)∧CSt wS AB FB (folV AB RB SB FB) es.length (flF p m ml l1 l2 n es d k tl sl).1 w'∧Keeps (DM1 AB) w w':=by
 intro d
 induction d with
 | zero=>
  intro k w tl sl tv sv hd hsl hrg hne hs ht hsv;show Calls _ _ _ _ fun r w'=> r= .returned (.int .i64 (flB p m ml l1 l2 n es k tl sl (k + 1,13)).2)∧CSt wS AB FB (folV AB RB SB FB) es.length (flB p m ml l1 l2 n es k tl sl (k + 1,13)).1 w'∧Keeps (DM1 AB) w w'
  exact follow_body H (folV AB RB SB FB) k w tl sl tv sv _ (by omega) hsl hrg hne hs ht hsv fun h=> absurd hd (by omega)
 | succ d ih=>
  intro k w tl sl tv sv hd hsl hrg hne hs ht hsv;show Calls _ _ _ _ fun r w'=> r= .returned (.int .i64 (flB p m ml l1 l2 n es k tl sl (rnJ (flF p m ml l1 l2 n es d) (p ^ m) tl sl n (k + 1))).2)∧CSt wS AB FB (folV AB RB SB FB) es.length (flB p m ml l1 l2 n es k tl sl (rnJ (flF p m ml l1 l2 n es d) (p ^ m) tl sl n (k + 1))).1 w'∧Keeps (DM1 AB) w w'
  refine follow_body H (folV AB RB SB FB) k w tl sl tv sv _ (by omega) hsl hrg hne hs ht hsv fun hn w' hb ht' hs'=> ?_;have hq:=H.gf.sh.q;have hq2:=H.gf.sh.p2;have hN64:=H.n64;exact ext_fol CSt.stt (flF p m ml l1 l2 n es d) w' A b n (p ^ m) (Nat.pow_pos (by omega)) hq H.n64 _ _ _ _ tl sl tv sv (fun s1 w1 h1=> ⟨h1.ex.cell H.pr.c0,h1.ex.cell H.pr.c4,Order_any w1 (H.gf.ex h1.ex)⟩) (fun s1 w1 j c tv' sv' h1 hj hc hc1 hcq ht1 hs1=> ih s1 w1 (tl ++ [(j:Int)]) (sl ++ [(c:Int)]) tv' sv' (by rw [List.length_append];simp;omega) (by simp [hsl]) (rngB_snoc hrg hj) (fun _=> by simp) h1 ht1 hs1) (by omega) (by omega) _ hb ht' hs'
end Go.Proofs.YtgdmlmhpineibaaGreat
