/- Walk of codewrightref31.Small. -/
import Derived.Deep.CutRange
import Derived.Test.YtgdmlmhpineibaaGreatZg16
import Derived.Test.YtgdmlmhpineibaaGreatZg17
import Derived.Test.YtgdmlmhpineibaaGreatZg19
import Derived.Test.YtgdmlmhpineibaaGreatZg23
import Derived.Test.YtgdmlmhpineibaaGreatZg24
import Derived.Test.YtgdmlmhpineibaaGreatZg28
import Derived.Test.YtgdmlmhpineibaaGreatZg38
import Derived.Test.YtgdmlmhpineibaaGreatZg41
import Derived.Test.YtgdmlmhpineibaaGreatZg46
import Derived.Test.YtgdmlmhpineibaaGreatZg49
import Derived.Test.YtgdmlmhpineibaaGreatZg50
namespace Go.Proofs.YtgdmlmhpineibaaGreat
set_option linter.unusedVariables false
set_option linter.unusedSimpArgs false
set_option maxRecDepth 100000
set_option maxHeartbeats 8000000
section
open Go.RowKit
end
section
open Go.RowKit
theorem CanonicalS_any (w:World) (p m:Int) (ml:List Int) (mv:Value) (hmv:ISl w mv ml) (cols:Int) (rows:List (List Int)) (v:Value) (hv:MSl w v rows) (h0:canE p m ml cols rows=0→1≤cols):
  Calls Tryz.prog 121 #[.agg #[.int .i64 p,.int .i64 m,mv],.agg #[.int .i64 cols,v]] w fun r w'=> (CanR p m ml cols rows w.heap.size r w'∧∀(a b pv:Value) (e:Int),r= .returned (.tuple #[.agg #[a,b],pv,.int .i64 e])→canE p m ml cols rows=0→∀B,pv.ownBlock=some B→w.heap.size≤B)∧Ex w w':=by
 have HO:=hid_ (fun w' B h1 h2 h3 h4=> open1_any p m ml mv w' h1 cols rows v h2 B h3 h4);obtain ⟨g0,g1,g2,e0,gsz⟩:=box_facts w p m mv;have HMV:=hid_ hmv;have HV:=hid_ hv;have H0:=hid_ h0;obtain ⟨za,zc,rfl,z1,z2,z3⟩:=hv.open;clear z1 z3;unfold maxLen at z2;obtain ⟨xb,hxb⟩:∃xb,w.heap.size=xb:=⟨_,rfl⟩;rw [hxb] at g0 g1 g2 gsz;clear hmv hv h0;go_enter Tryz.func121,Tryz.ntmps121
 go_wp2_with fail
 generalize w.alloc (.cells #[.int .i64 p,.int .i64 m,mv] 24)=wA at *;obtain ⟨a0,a1,ea⟩:=boxM_facts wA cols (.slice za rows.length zc);have asz:(wA.alloc (.cells #[.int .i64 cols,.slice za rows.length zc] 113)).heap.size=xb + 1 + 1:=by simp [gsz]
 rw [gsz] at a0 a1;generalize wA.alloc (.cells #[.int .i64 cols,.slice za rows.length zc] 113)=wB at *;obtain ⟨q0,q1,eb⟩:=boxM_facts wB 0 (.slice none 0 0);have qf:(wB.alloc (.cells #[.int .i64 0,.slice none 0 0] 113)).frozen? ⟨xb + 1 + 1,1,none⟩=false:=by rw [←asz];simp
 have qf0:(wB.alloc (.cells #[.int .i64 0,.slice none 0 0] 113)).frozen? ⟨xb + 1 + 1,0,none⟩=false:=by rw [←asz];simp
 have bsz:(wB.alloc (.cells #[.int .i64 0,.slice none 0 0] 113)).heap.size=xb + 1 + 1 + 1:=by simp [asz]
 rw [asz] at q0 q1;generalize wB.alloc (.cells #[.int .i64 0,.slice none 0 0] 113)=wC at *;obtain ⟨l0,l1,ec⟩:=boxM_facts wC cols (.slice za rows.length zc);rw [bsz] at l0 l1;generalize wC.alloc (.cells #[.int .i64 cols,.slice za rows.length zc] 113)=wD at *;have eD:Ex w wD:=((e0.trans ea).trans eb).trans ec;have A0:=hid_ ((eb.trans ec).cell a0);have A1:=hid_ ((eb.trans ec).cell a1);have Q0:=hid_ (ec.cell q0);have Q1:=hid_ (ec.cell q1);have QF:=hid_ (ec.frz q1 qf);have QF0:=hid_ (ec.frz q0 qf0);have HXD:=hid_ eD;refine (HO.out wD (xb + 1 + 1 + 1) (HMV.out.ex eD) (HV.out.ex eD) l0 l1).mono ?_;clear g0 g1 g2 e0 gsz ea asz a0 a1 eb bsz q0 q1 qf qf0 l0 l1 ec eD HO;rintro e w2 ⟨ho,hx2⟩;have HX2:=hid_ (HXD.out.trans hx2);have QF:=hid_ (hx2.frz Q1.out QF.out);have QF0:=hid_ (hx2.frz Q0.out QF0.out);have c0:=hx2.cell A0.out;have c1:=hx2.cell A1.out;have Q0:=hid_ (hx2.cell Q0.out);have Q1:=hid_ (hx2.cell Q1.out);have A0:=hid_ c0;clear hx2 A1;have HEE:=hid_ (fun (i:Value) (j:Value)=> ((HX2.out).setCell (p:=⟨xb + 1 + 1,0,none⟩) (by show w.heap.size≤xb + 1 + 1;omega) i).setCell (p:=⟨xb + 1 + 1,1,none⟩) (by show w.heap.size≤xb + 1 + 1;omega) j);rcases ho with ⟨pn,mn,x0,b,rfl,rfl,hg,hx01,hx02,⟨hmk,rfl⟩ | ⟨hno,rfl⟩⟩ | ⟨hno,rfl⟩
 ·have hch:chkS pn mn ml=0:=(chk_iff _ _ _).2 ⟨pn,mn,rfl,rfl,hg.sh,hg.pr,hg.isF hx01 hx02⟩;have hce:canE pn mn ml cols rows=0:=by
   unfold canE;rw [if_neg (by simp [hch]),Int.toNat_natCast,Int.toNat_natCast];exact hmk
  have hc1:=H0.out hce;obtain ⟨s1,s2,s3,s4⟩:=mchk_shape hmk;obtain ⟨N,rfl⟩:∃N:Nat,cols=N:=⟨cols.toNat,by omega⟩;have HCE:=hid_ hce;have HFB:=hid_ ((chk_iff _ _ _).1 hch);have HMK:=hid_ hmk;have HCN:=hid_ (canon_any2 w2 hg hx01 hx02 N rows.length rows _ (HV.out.ex HX2.out) rfl s3 (by omega) (by omega) fun i r h=> by
   have:=s4 r (List.mem_of_getElem? h);exact ⟨by omega,this.2⟩)
  have HS3:=hid_ s3;clear hg hch hce hc1 s1 s2 s3 s4 hmk hx01 hx02;go_wp2_with (go_at_call 125;refine HCN.out.mono ?_;rintro e w8 ⟨piv2,pv2,rv2,a2,rfl,hel2,hrv2,hpv2,hx8,g8,blk8,cap8,rfl,hem8,hpb8⟩;have a0n:=hx8.cell A0.out;have q0:=hx8.cell Q0.out;have qf0:=hx8.frz Q0.out QF0.out;have q1:=hx8.cell Q1.out;have qf1:=hx8.frz Q1.out QF.out;have HEL2:=hid_ hel2;have HEM8:=hid_ hem8;have HX8:=hid_ hx8;have HPV8:=hid_ hpv2;have HPB:=hid_ hpb8;obtain ⟨pa,pc,rfl,-,-,-⟩:=hpv2.open;clear hel2 hem8 hx8 hpb8 hrv2 hpv2)
  have hbl:xb + 1 + 1 < w2.heap.size:=World.block_lt_of_cell? _ _ Q0.out;have hp2:=(elo_rows HEL2.out).1;have HMS:=hid_ (((HEM8.out.low (A:=⟨xb + 1 + 1,0,none⟩) hbl (.int .i64 N)).low (A:=⟨xb + 1 + 1,1,none⟩) hbl (.slice (some ⟨g8,0,none⟩) piv2.length piv2.length)).msl hp2 HS3.out);have HEM9:=hid_ ((HEM8.out.low (A:=⟨xb + 1 + 1,0,none⟩) hbl (.int .i64 N)).low (A:=⟨xb + 1 + 1,1,none⟩) hbl (.slice (some ⟨g8,0,none⟩) piv2.length piv2.length));have HPN:=hid_ (fun B h=> show B≠xb + 1 + 1 from by have:=HPB.out B h;omega);have HEX:=hid_ ((((HX2.out).trans HX8.out).setCell (p:=⟨xb + 1 + 1,0,none⟩) (by show w.heap.size≤xb + 1 + 1;omega) (.int .i64 N)).setCell (p:=⟨xb + 1 + 1,1,none⟩) (by show w.heap.size≤xb + 1 + 1;omega) (.slice (some ⟨g8,0,none⟩) piv2.length piv2.length));exact bodyPost_ret (v:= .tuple #[.agg #[.int .i64 N,.slice (some ⟨g8,0,none⟩) piv2.length piv2.length],.slice pa (pI piv2).length pc,.int .i64 0]) (by simp [results,Tryz.results121,go_sem,q0,q1]) rfl ⟨⟨.inl ⟨HCE.out,pn,mn,N,piv2,a2,_,_,rfl,rfl,rfl,HFB.out,HMK.out,rfl,HEL2.out,HMS.out,Sl.other (Sl.other HPV8.out (fun B h=> HPN.out B h) _) (fun B h=> HPN.out B h) _,g8,blk8,cap8,_,HX2.out.size,rfl,HEM9.out⟩,fun a b pv e h _ B hB=> by
   injection h with h;injection h with h;have h2:=congrArg (fun l:Array Value=> l.getD 1 undef) h;have h3:Value.slice pa (pI piv2).length pc=pv:=h2;rw [←h3] at hB;have h5:=HPB.out B hB;have h6:=HX2.out.size;omega⟩,HEX.out⟩
 ·have hch:chkS pn mn ml=0:=(chk_iff _ _ _).2 ⟨pn,mn,rfl,rfl,hg.sh,hg.pr,hg.isF hx01 hx02⟩;have hce:canE pn mn ml cols rows=mchkS (pn ^ mn) cols rows:=by
   unfold canE;rw [if_neg (by simp [hch]),Int.toNat_natCast,Int.toNat_natCast]
  have HCE:=hid_ hce;clear hg hch hce hx01 hx02 HMV HV H0;obtain ⟨E,hE⟩:∃E,mchkS (pn ^ mn) cols rows=E:=⟨_,rfl⟩;rw [hE] at HCE hno ⊢;have hb:(E !=0)=true:=by simpa using hno
  have HNO:=hid_ hno;have q0:=Q0.out;have q1:=Q1.out;have qf0:=QF0.out;have qf1:=QF.out;clear hE hno;go_wp2_with fail
  exact bodyPost_ret (v:= .tuple #[.agg #[.int .i64 0,.slice none 0 0],.slice none 0 0,.int .i64 E]) (by simp [results,Tryz.results121,go_sem,q0,q1]) rfl ⟨⟨.inr ⟨by rw [HCE.out];exact HNO.out,by rw [HCE.out]⟩,fun a b pv e h h0=> by rw [HCE.out] at h0;exact absurd h0 HNO.out⟩,HEE.out _ _⟩
 ·have hce:canE p m ml cols rows=1:=by
   unfold canE;rw [if_pos (fun h=> hno ((chk_iff _ _ _).1 h))]
  have HCE:=hid_ hce;clear hno hce HMV HV H0;have q0:=Q0.out;have q1:=Q1.out;have qf0:=QF0.out;have qf1:=QF.out;go_wp2_with fail
  exact bodyPost_ret (v:= .tuple #[.agg #[.int .i64 0,.slice none 0 0],.slice none 0 0,.int .i64 1]) (by simp [results,Tryz.results121,go_sem,q0,q1]) rfl ⟨⟨.inr ⟨by rw [HCE.out];decide,by rw [HCE.out]⟩,fun a b pv e h h0=> by rw [HCE.out] at h0;cases h0⟩,HEE.out _ _⟩
end
section
open Go.RowKit
theorem heap_xx {w w':World} {B:Nat} {o:Obj} (h:Ex w w') (hb:w.heap[B]?=some o):w'.heap[B]?=some o:=by
 have hlt:B < w.heap.size:=(Array.getElem?_eq_some_iff.1 hb).1;rw [h.block B hlt];exact hb
theorem heap_new' {w:World} {B:Nat} {o:Obj} (hb:w.heap.size=B):(w.alloc o).heap[B]?=some o:=by
 subst hb;show (w.heap.push o)[w.heap.size]?=some o
 exact Array.getElem?_push_size
theorem isl_agree {w:World} {v:Value} {l:List Int} {B:Nat} (h:ISl w v l) (ho:l≠ []→∀X,v.ownBlock=some X→X≠B):∀w':World,(∀X,X≠B→w'.heap[X]?=w.heap[X]?)→ISl w' v l:=fun w' hw=> by
 obtain ⟨h1,b,cap,h2,h3,h4,h5⟩:=h;refine ⟨h1,b,cap,h2,h3,h4,fun hn=> ?_⟩;obtain ⟨X,o,h6,h7⟩:=h5 hn;have hX:=ho (List.length_pos_iff.1 hn) X (by rw [h2,h6];rfl);exact ⟨X,o,h6,fun j x hx=> by rw [World.cell?_of_block (w:=w) (w':=w') (a:=⟨X,o + j,none⟩) (hw X hX)];exact h7 j x hx⟩
theorem isl_off {w:World} {v:Value} {l:List Int} {B:Nat} {t:TypeId} (h:ISl w v l) (hb:w.heap[B]?=some (.cells #[.pointer none,.int .i64 0,.slice none 0 0,.slice none 0 0] t)) (hl:l.length≠1∨∀x∈l,x≠0):l≠ []→∀X,v.ownBlock=some X→X≠B:=fun hne X hX e=> by
 subst e;obtain ⟨_,b,cap,h2,_,_,h5⟩:=h;have hpos:=List.length_pos_iff.2 hne;obtain ⟨Y,o,h6,h7⟩:=h5 hpos;rw [h2,h6] at hX;injection hX with hX;have hX:Y=X:=hX;subst hX;have hc:∀k,w.cell? ⟨Y,k,none⟩=(#[Value.pointer none,.int .i64 0,.slice none 0 0,.slice none 0 0]:Array Value)[k]?:=fun k=> by unfold World.cell?;rw [hb];rfl
 have hg:∀j (hj:j < l.length),(#[Value.pointer none,.int .i64 0,.slice none 0 0,.slice none 0 0]:Array Value)[o + j]?=some (.int .i64 (l[j]'hj)):=fun j hj=> by
  rw [←hc];exact h7 j _ (by unfold ints;rw [List.getElem?_map,List.getElem?_eq_getElem hj];rfl)
 have h0:=hg 0 hpos;have ho:o=1∧l[0]=0:=by
  rcases o with _ | _ | _ | _ | o
  ·simp at h0
  ·simp at h0;exact ⟨rfl,h0.symm⟩
  ·simp at h0
  ·simp at h0
  ·simp at h0
 obtain ⟨rfl,hz⟩:=ho;rcases hl with hl | hl
 ·have h1:=hg 1 (by omega);simp at h1
 ·exact hl _ (List.getElem_mem hpos) hz
theorem GFat.boxed {w w':World} {b p m x B:Nat} {ml:List Int} {t:TypeId} (h:GFat w b p m ml x) (hb:w.heap[B]?=some (.cells #[.pointer none,.int .i64 0,.slice none 0 0,.slice none 0 0] t)) (hw:∀X,X≠B→w'.heap[X]?=w.heap[X]?):GFat w' b p m ml x:=by
 obtain ⟨a1,a2,a3,c0,c1,⟨v2,c2,s2⟩,c3,⟨v4,c4,s4⟩,⟨v5,f,c5,s5,hf⟩⟩:=h;have hne:b≠B:=fun e=> by
  subst e;have:w.cell? ⟨b,0,none⟩=some (.pointer none):=by unfold World.cell?;simp [hb]
  rw [this] at c0;cases c0
 have hc:∀k u,w.cell? ⟨b,k,none⟩=some u→w'.cell? ⟨b,k,none⟩=some u:=fun k u hu=> by
  rw [World.cell?_of_block (w:=w) (w':=w') (a:=⟨b,k,none⟩) (hw b hne)];exact hu
 have hq:=one_lt_q (m:=m) a1.p2 a1.m1;refine ⟨a1,a2,a3,hc _ _ c0,hc _ _ c1,⟨v2,hc _ _ c2,isl_agree s2 (isl_off s2 hb ?_) _ hw⟩,hc _ _ c3,⟨v4,hc _ _ c4,isl_agree s4 (isl_off s4 hb ?_) _ hw⟩,⟨v5,f,hc _ _ c5,isl_agree s5 (isl_off s5 hb ?_) _ hw,hf⟩⟩
 ·left;rw [a1.len];split <;> omega
 ·by_cases h2:p ^ m - 1=1
  ·right;intro y hy;unfold il at hy;rw [List.mem_map] at hy;obtain ⟨k,hk,rfl⟩:=hy;have hk0:k=0:=by have:=List.mem_range.1 hk;omega
   subst hk0;show ((kpw p m (lw ml) x 0:Nat):Int)≠0
   unfold kpw;decide
  ·left;rw [il_length];exact h2
 ·left;rw [il_length];omega
theorem agree4 {w:World} {B X:Nat} {a b c d:Value} (h:X≠B):((((w.setCell ⟨B,0,none⟩ a).setCell ⟨B,1,none⟩ b).setCell ⟨B,2,none⟩ c).setCell ⟨B,3,none⟩ d).heap[X]?=w.heap[X]?:=by
 rw [Below.heap_setCell _ ⟨B,3,none⟩ d X h,Below.heap_setCell _ ⟨B,2,none⟩ c X h,Below.heap_setCell _ ⟨B,1,none⟩ b X h,Below.heap_setCell _ ⟨B,0,none⟩ a X h]
theorem spaceOpenS_any (w:World) (p m N:Nat) (ml:List Int) (mv:Value) (hmv:ISl w mv ml) (rows:List (List Int)) (v:Value) (hv:MSl w v rows) (hN1:1≤N) (hok:∀e,SpcO p m ml N rows e→e=0):
  Calls Tryz.prog 132 #[.agg #[.int .i64 p,.int .i64 m,mv],.agg #[.int .i64 N,v]] w fun r w'=> (∃(b x:Nat) (piv:List Nat) (a':Nat→Nat→Int) (a2:Option Addr) (n2 k2:Nat),r= .returned (.tuple #[.agg #[.pointer (some ⟨b,0,none⟩),.int .i64 N,v,.slice a2 n2 k2],.int .i64 0])∧FldB p m ml∧ElO p m ml N rows.length (rowsF rows) a' piv∧rowsL N piv.length a'=rows∧GFat w' b p m ml x∧ISl w' (.slice a2 n2 k2) (pI piv))∧Ex w w':=by
 have h0:canE (p:Int) (m:Int) ml (N:Int) rows=0→(1:Int)≤(N:Int):=fun _=> by omega
 obtain ⟨g0,g1,g2,e0,gsz⟩:=box_facts w p m mv;have HCN:=hid_ (fun (w':World) (h:Ex w w')=> CanonicalS_any w' p m ml mv (hmv.ex h) N rows v (hv.ex h) h0);have HNW:=hid_ (fun (w':World) (h:Ex w w')=> New_any p m ml mv w' (hmv.ex h));have HOK:=hid_ hok;have HV:=hid_ hv;obtain ⟨za,zc,rfl,z1,z2,z3⟩:=hv.open;clear z1 z3;unfold maxLen at z2;obtain ⟨ma,mc,rfl,-,m2,-⟩:=hmv.open;unfold maxLen at m2;obtain ⟨xb,hxb⟩:∃xb,w.heap.size=xb:=⟨_,rfl⟩;rw [hxb] at g0 g1 g2 gsz;clear hmv hv h0 hok;go_enter Tryz.func132,Tryz.ntmps132
 go_wp2_with fail
 generalize w.alloc (.cells #[.int .i64 p,.int .i64 m,.slice ma ml.length mc] 24)=wA at *;obtain ⟨a0,a1,ea⟩:=boxM2_facts wA N (.slice za rows.length zc);have asz:(wA.alloc (.cells #[.int .i64 N,.slice za rows.length zc] 113)).heap.size=xb + 1 + 1:=by simp [gsz]
 rw [gsz] at a0 a1;generalize wA.alloc (.cells #[.int .i64 N,.slice za rows.length zc] 113)=wB at *;have bq:=BxV.new wB;rw [asz] at bq;have eb:Ex wB _:=(Ex.refl wB).alloc (.cells #[.pointer none,.int .i64 0,.slice none 0 0,.slice none 0 0] 166);have A0:=hid_ (eb.cell a0);have A1:=hid_ (eb.cell a1);have G0:=hid_ ((ea.trans eb).cell g0);have G1:=hid_ ((ea.trans eb).cell g1);have G2:=hid_ ((ea.trans eb).cell g2);have BQ:=hid_ bq;have HBH:=hid_ (show (wB.alloc (.cells #[.pointer none,.int .i64 0,.slice none 0 0,.slice none 0 0] 166)).heap[xb + 1 + 1]?=some (.cells #[.pointer none,.int .i64 0,.slice none 0 0,.slice none 0 0] 166) from heap_new' asz);have HCSZ:=hid_ (show (wB.alloc (.cells #[.pointer none,.int .i64 0,.slice none 0 0,.slice none 0 0] 166)).heap.size=xb + 1 + 1 + 1 from by simp [asz]);have HE:=hid_ ((e0.trans ea).trans eb);generalize wB.alloc (.cells #[.pointer none,.int .i64 0,.slice none 0 0,.slice none 0 0] 166)=wC at *;refine (HCN.out wC HE.out).mono ?_;clear g0 g1 g2 a0 a1 bq e0 ea eb asz gsz;rintro e w2 ⟨⟨hc,hpn⟩,hx2⟩;have HCS:=hid_ (show wC.heap.size=xb + 1 + 1 + 1 from HCSZ.out);have HBB:=hid_ (heap_xx hx2 HBH.out);have HX2:=hid_ (HE.out.trans hx2);have BQ2:=hid_ (BQ.out.ex hx2);have A0:=hid_ (hx2.cell A0.out);have A1:=hid_ (hx2.cell A1.out);have G0:=hid_ (hx2.cell G0.out);have G1:=hid_ (hx2.cell G1.out);have G2:=hid_ (hx2.cell G2.out);have HXB:=hid_ (show w.heap.size≤xb + 1 + 1 from by omega);clear hx2 BQ HE HCN;rcases hc with ⟨hce,pn,mn,N',piv,a',rv,pv,ep,em,en,hfb,hmk,rfl,hel,hrv,hpv,-⟩ | ⟨hce,rfl⟩
 ·obtain rfl:pn=p:=by omega
  obtain rfl:mn=m:=by omega
  obtain rfl:N'=N:=by omega
  have HRV:=hid_ hrv;have HPF:=hid_ (hpn _ _ _ _ rfl hce);have HEL:=hid_ hel;have HPV:=hid_ hpv;have HSP:=hid_ (fun e (h:e=if rowsL N' piv.length a'=rows then 0 else 5)=> HOK.out e (show SpcO pn mn ml N' rows e from .inr ⟨hce,pn,mn,N',piv,a',rfl,rfl,rfl,hfb,hmk,hel,h⟩));have HFB:=hid_ hfb;obtain ⟨ra,rc,rfl,-,r2,-⟩:=hrv.open;obtain ⟨pa,pc,rfl,-,p2,-⟩:=hpv.open;unfold maxLen at r2 p2;obtain ⟨L,hL⟩:∃L,rowsL N' piv.length a'=L:=⟨_,rfl⟩;obtain ⟨PL,hPL⟩:∃PL,pI piv=PL:=⟨_,rfl⟩;have HLL:=hid_ hL;rw [hL] at HRV HSP ⊢;rw [hPL] at HPF HPV ⊢;have HPLL:=hid_ hPL;clear hce hfb hmk hel hrv hpv hL hPL hpn ep em en;have HX3:=hid_ ((Ex.refl w2).alloc (.cells #[.int .i64 N',.slice ra L.length rc] 113));have l0:(w2.alloc (.cells #[.int .i64 N',.slice ra L.length rc] 113)).cell? ⟨w2.heap.size,1,none⟩=some (.slice ra L.length rc):=by simp
  have a1':=HX3.out.cell A1.out;have HEQ:=hid_ (EqualFunc_any (w2.alloc (.cells #[.int .i64 N',.slice ra L.length rc] 113)) L rows _ _ (HRV.out.ex HX3.out) (HV.out.ex (HX2.out.trans HX3.out)));by_cases hLR:L=rows
  ·rw [decide_eq_true hLR] at HEQ;have HLR:=hid_ hLR;clear hLR;go_wp2_with fail
   refine HEQ.out.mono ?_;rintro e w3 ⟨rfl,n3,hw3⟩;have hx3:Ex (w2.alloc (.cells #[.int .i64 N',.slice ra L.length rc] 113)) w3:=by rw [hw3];exact (Ex.refl _).drewN n3
   have HX23:=hid_ (HX3.out.trans hx3);have g0:=HX23.out.cell G0.out;have g1:=HX23.out.cell G1.out;have g2:=HX23.out.cell G2.out;clear hx3 hw3 l0 a1';go_wp2_with fail
   refine (HNW.out w3 (HX2.out.trans HX23.out)).mono ?_;rintro e w4 ⟨hno,hx4⟩;rcases hno with ⟨pn',mn',x,b,e1,e2,rfl,hg,-,-⟩ | ⟨hno,_⟩
   ·have X4:=hid_ (HX23.out.trans hx4);have a0:=X4.out.cell A0.out;have a1:=X4.out.cell A1.out;obtain ⟨q0,q1,q2,q3,qf0,qf1,qf2,qf3⟩:=BQ2.out.ex X4.out;obtain rfl:pn'=pn:=by omega
    obtain rfl:mn'=mn:=by omega
    have hbx:=heap_xx X4.out HBB.out;have HGF:=hid_ (fun (w':World) (h:∀X,X≠xb + 1 + 1→w'.heap[X]?=w4.heap[X]?)=> hg.boxed hbx h);have HPI:=hid_ (isl_agree (HPV.out.ex X4.out) (B:=xb + 1 + 1) (fun _ X hX=> by have h5:=HPF.out X hX;have h6:=HCS.out;omega));clear e1 e2 hg hx4 g0 g1 g2 hbx;go_wp2_with fail
    refine bodyPost_ret (v:= .tuple #[.agg #[.pointer (some ⟨b,0,none⟩),.int .i64 N',.slice za rows.length zc,.slice pa PL.length pc],.int .i64 0]) (by simp [results,Tryz.results132,go_sem,q0,q1,q2,q3]) rfl ⟨⟨b,x,piv,a',pa,PL.length,pc,rfl,HFB.out,HEL.out,by rw [HLL.out];exact HLR.out,HGF.out _ (fun X hX=> agree4 hX),by rw [HPLL.out];exact HPI.out _ (fun X hX=> agree4 hX)⟩,set4_ex (HX2.out.trans X4.out) HXB.out _ _ _ _⟩
   ·exact absurd HFB.out hno
  ·exact absurd (HSP.out 5 (by rw [if_neg hLR])) (by decide)
 ·have:=HOK.out _ (show SpcO p m ml N rows (canE p m ml N rows) from .inl ⟨hce,rfl⟩);exact absurd this hce
end
section
open Go.RowKit
section
variable {b p m x0:Nat} {ml:List Int}
theorem lst1_any (w:World) (B:Nat) (hg:GFat w b p m ml x0) (x:Int) (c0:w.cell? ⟨B,0,none⟩=some (.pointer (some ⟨b,0,none⟩))):
  Calls Tryz.prog 129 #[.int .i64 x,.pointer (some ⟨B,0,none⟩)] w fun r w'=> r= .returned (.bool (!isB (p ^ m) x))∧Ex w w':=by
 have HI:=hid_ (Is_any w hg x);obtain ⟨z,hz⟩:∃z,isB (p ^ m) x=z:=⟨_,rfl⟩;rw [hz] at HI ⊢;clear hg hz;go_enter Tryz.func129,Tryz.ntmps129
 go_wp2_with (go_at_call 49;refine HI.out.mono ?_;rintro e w1 ⟨rfl,n1,rfl⟩)
 go_ret;exact ⟨rfl,(Ex.refl w).drewN _⟩
theorem spw1_any (w:World) (B:Nat) (hg:GFat w b p m ml x0) (x:Int) (c0:w.cell? ⟨B,0,none⟩=some (.pointer (some ⟨b,0,none⟩))):
  Calls Tryz.prog 163 #[.int .i64 x,.pointer (some ⟨B,0,none⟩)] w fun r w'=> r= .returned (.bool (!isB (p ^ m) x))∧Ex w w':=by
 have HI:=hid_ (Is_any w hg x);obtain ⟨z,hz⟩:∃z,isB (p ^ m) x=z:=⟨_,rfl⟩;rw [hz] at HI ⊢;clear hg hz;go_enter Tryz.func163,Tryz.ntmps163
 go_wp2_with (go_at_call 49;refine HI.out.mono ?_;rintro e w1 ⟨rfl,n1,rfl⟩)
 go_ret;exact ⟨rfl,(Ex.refl w).drewN _⟩
end
theorem zro1_any (w:World) (x:Int):Calls Tryz.prog 182 #[.int .i64 x] w fun r w'=> r= .returned (.bool (x !=0))∧Ex w w':=by
 go_enter Tryz.func182,Tryz.ntmps182
 go_wp2_with fail
 go_ret;exact ⟨rfl,Ex.refl w⟩
theorem zero_any (w:World) (l:List Int) (v:Value) (hl:ISl w v l):
  Calls Tryz.prog 165 #[v] w fun r w'=> r= .returned (.bool (!(l.any fun x=> x !=0)))∧Ex w w':=by
 have hc:=ContainsFunc_zro w v l.length (ints l) hl (fun j=> l.getD j 0 !=0) fun w1 i u hx hu=> by
  obtain ⟨y,_,rfl,hx2⟩:=ints_at hu;rw [hx2];exact zro1_any w1 y
 rw [any_getD l fun y=> y !=0] at hc;have HC:=hid_ hc;obtain ⟨a,c,rfl,-,-,-⟩:=hl.open;obtain ⟨Z,hZ⟩:∃Z,(l.any fun x=> x !=0)=Z:=⟨_,rfl⟩;rw [hZ] at HC ⊢;clear hl hc hZ;go_enter Tryz.func165,Tryz.ntmps165
 go_wp2_with (go_at_call 47;refine HC.out.mono ?_;rintro e w1 ⟨rfl,hx⟩;have HX:=hid_ hx;clear hx)
 go_ret;exact ⟨rfl,HX.out⟩
def lisE (q:Nat) (l:List Int) (n:Int):Int:=if (l.length:Int)≠n then 4 else if (l.any fun y=> !isB q y)=true then 2 else 0
theorem list_any (w:World) (p m:Nat) (ml:List Int) (mv:Value) (hmv:ISl w mv ml) (hF:FldB p m ml) (l:List Int) (v:Value) (hl:ISl w v l) (n:Int):
  Calls Tryz.prog 83 #[.agg #[.int .i64 p,.int .i64 m,mv],v,.int .i64 n] w fun r w'=> r= .returned (.int .i64 (lisE (p ^ m) l n))∧Ex w w':=by
 obtain ⟨a0,a1,a2,ea,-⟩:=box_facts w p m mv;have HNW:=hid_ (New_any p m ml mv _ (hmv.ex ea));have HL:=hid_ (hl.ex ea);have HE:=hid_ ea;have HFB:=hid_ hF;obtain ⟨ma,mc,rfl,-,m2,-⟩:=hmv.open;obtain ⟨la,lc,rfl,l1,l2,-⟩:=hl.open;unfold maxLen at m2 l2;obtain ⟨W,hW⟩:∃W,lisE (p ^ m) l n=W:=⟨_,rfl⟩;have HW:=hid_ hW;rw [hW];clear hmv hl hF ea hW;go_enter Tryz.func83,Tryz.ntmps83
 go_upto_region 1 with fail
 obtain ⟨q,hq⟩:∃q,w.heap.size=q:=⟨_,rfl⟩;rw [hq] at a0 a1 a2
 try simp only [hq]
 clear hq;generalize w.alloc (.cells #[.int .i64 p,.int .i64 m,.slice ma ml.length mc] 24)=w1 at *;by_cases h1:(l.length:Int)=n
 rotate_left
 ·have k1:((l.length:Int) !=n)=true:=by simpa using h1
  have HR:=hid_ (show W=4 from by rw [←HW.out];unfold lisE;rw [if_pos h1]);clear h1;go_wp2_with fail
  go_ret;exact ⟨ret_int HR.out.symm,HE.out⟩
 have k1:((l.length:Int) !=n)=false:=by simp [h1]
 have HH1:=hid_ h1;clear h1;go_wp2_with fail
 refine HNW.out.mono ?_;rintro e w2 ⟨hno,hx2⟩;rcases hno with ⟨pn',mn',x,b,e1,e2,rfl,hg,-,-⟩ | ⟨hno,_⟩
 ·obtain rfl:pn'=p:=by omega
  obtain rfl:mn'=m:=by omega
  have ec:Ex w2 (w2.alloc (.cells #[.pointer (some ⟨b,0,none⟩)] 79)):=(Ex.refl _).alloc _;have c0:(w2.alloc (.cells #[.pointer (some ⟨b,0,none⟩)] 79)).cell? ⟨w2.heap.size,0,none⟩=some (.pointer (some ⟨b,0,none⟩)):=by simp
  have HX3:=hid_ (HE.out.trans (hx2.trans ec));have hg3:=hg.ex ec;have hl3:=HL.out.ex (hx2.trans ec);obtain ⟨B,hB⟩:∃B,w2.heap.size=B:=⟨_,rfl⟩;rw [hB] at c0;have hc:=ContainsFunc_lst (w2.alloc (.cells #[.pointer (some ⟨b,0,none⟩)] 79)) (.pointer (some ⟨B,0,none⟩)) _ l.length (ints l) hl3 (fun j=> !isB (pn' ^ mn') (l.getD j 0)) fun w1 i u hx hu=> by
   obtain ⟨y,_,rfl,hx2⟩:=ints_at hu;rw [hx2];exact lst1_any w1 B (hg3.ex hx) y (hx.cell c0)
  rw [any_getD l fun y=> !isB (pn' ^ mn') y] at hc;have HC:=hid_ hc;obtain ⟨y,hy⟩:∃y,(l.any fun y=> !isB (pn' ^ mn') y)=y:=⟨_,rfl⟩;rw [hy] at HC;have HR:=hid_ (show W=if y=true then 2 else 0 from by rw [←HW.out];unfold lisE;rw [if_neg (fun h=> h HH1.out),hy]);clear hc hy hg hg3 hl3 hx2 ec e1 e2 a0 a1 a2
  cases y with
  | true=>
   go_wp2_with (go_at_call 47;(try simp only [hB]);refine HC.out.mono ?_;rintro e w4 ⟨rfl,hx4⟩;have HX4:=hid_ (HX3.out.trans hx4);clear hx4)
   go_wp2_with fail
   go_ret;exact ⟨ret_int (by rw [HR.out];rfl),HX4.out⟩
  | false=>
   go_wp2_with (go_at_call 47;(try simp only [hB]);refine HC.out.mono ?_;rintro e w4 ⟨rfl,hx4⟩;have HX4:=hid_ (HX3.out.trans hx4);clear hx4)
   go_wp2_with fail
   go_ret;exact ⟨ret_int (by rw [HR.out];rfl),HX4.out⟩
 ·exact absurd HFB.out hno
theorem boxW_facts (w:World) (a b c d:Value):(w.alloc (.cells #[a,b,c,d] 166)).cell? ⟨w.heap.size,0,none⟩=some a∧(w.alloc (.cells #[a,b,c,d] 166)).cell? ⟨w.heap.size,1,none⟩=some b∧(w.alloc (.cells #[a,b,c,d] 166)).cell? ⟨w.heap.size,2,none⟩=some c∧(w.alloc (.cells #[a,b,c,d] 166)).cell? ⟨w.heap.size,3,none⟩=some d∧Ex w (w.alloc (.cells #[a,b,c,d] 166)):=
 ⟨by simp,by simp,by simp,by simp,(Ex.refl _).alloc _⟩
def wrdV (q N:Nat) (l:List Int):Int:=if l.length≠N then 3 else if (l.any fun y=> !isB q y)=true then 2 else 0
theorem viewWord_any {p m b x0:Nat} {ml:List Int} (w:World) (hg:GFat w b p m ml x0) (N:Nat) (rv:Value) (a2:Option Addr) (n2 k2:Nat) (rows:List (List Int)) (hr:MSl w rv rows) (l:List Int) (v:Value) (hl:ISl w v l):
  Calls Tryz.prog 133 #[.agg #[.pointer (some ⟨b,0,none⟩),.int .i64 N,rv,.slice a2 n2 k2],v] w fun r w'=> r= .returned (.int .i64 (wrdV (p ^ m) N l))∧Ex w w':=by
 obtain ⟨za,zc,rfl,-,-,-⟩:=hr.open;obtain ⟨b0,b1,b2,b3,eb⟩:=boxW_facts w (.pointer (some ⟨b,0,none⟩)) (.int .i64 N) (.slice za rows.length zc) (.slice a2 n2 k2);obtain ⟨B,hB⟩:∃B,w.heap.size=B:=⟨_,rfl⟩;rw [hB] at b0 b1 b2 b3;have hc:=ContainsFunc_spw (w.alloc (.cells #[.pointer (some ⟨b,0,none⟩),.int .i64 N,.slice za rows.length zc,.slice a2 n2 k2] 166)) (.pointer (some ⟨B,0,none⟩)) v l.length (ints l) (hl.ex eb) (fun j=> !isB (p ^ m) (l.getD j 0)) fun w1 i u hx hu=> by
  obtain ⟨y,_,rfl,hx2⟩:=ints_at hu;rw [hx2];exact spw1_any w1 B (hg.ex (eb.trans hx)) y (hx.cell b0)
 rw [any_getD l fun y=> !isB (p ^ m) y] at hc;have HC:=hid_ hc;have HE:=hid_ eb;obtain ⟨la,lc,rfl,l1,l2,-⟩:=hl.open;unfold maxLen at l2;obtain ⟨W,hW⟩:∃W,wrdV (p ^ m) N l=W:=⟨_,rfl⟩;have HW:=hid_ hW;obtain ⟨y,hy⟩:∃y,(l.any fun y=> !isB (p ^ m) y)=y:=⟨_,rfl⟩;rw [hy] at HC;have HR:=hid_ (show W=if l.length≠N then 3 else if y=true then 2 else 0 from by rw [←HW.out];unfold wrdV;rw [hy]);rw [hW];clear hl hr hc hg eb hW hy HW;go_enter Tryz.func133,Tryz.ntmps133
 go_upto_region 1 with fail
 try simp only [hB]
 clear hB;generalize w.alloc (.cells #[.pointer (some ⟨b,0,none⟩),.int .i64 N,.slice za rows.length zc,.slice a2 n2 k2] 166)=w1 at *;by_cases h1:l.length=N
 rotate_left
 ·have k1:((l.length:Int) !=(N:Int))=true:=by simp;omega
  have HQ:=hid_ (show W=3 from by rw [HR.out,if_pos h1]);clear h1;go_wp2_with fail
  go_ret;exact ⟨ret_int HQ.out.symm,HE.out⟩
 have k1:((l.length:Int) !=(N:Int))=false:=by simp;omega
 have HQ:=hid_ (show W=if y=true then 2 else 0 from by rw [HR.out,if_neg (fun h=> h h1)]);clear h1
 cases y with
 | true=>
  go_wp2_with (go_at_call 47;refine HC.out.mono ?_;rintro e w4 ⟨rfl,hx4⟩;have HX4:=hid_ (HE.out.trans hx4);clear hx4)
  go_wp2_with fail
  go_ret;exact ⟨ret_int (by rw [HQ.out];rfl),HX4.out⟩
 | false=>
  go_wp2_with (go_at_call 47;refine HC.out.mono ?_;rintro e w4 ⟨rfl,hx4⟩;have HX4:=hid_ (HE.out.trans hx4);clear hx4)
  go_wp2_with fail
  go_ret;exact ⟨ret_int (by rw [HQ.out];rfl),HX4.out⟩
end
section
open Go.RowKit
end
section
open Go.RowKit
end
section
open Go.RowKit
end
section
section
variable {p m:Nat} {ml:List Int} {N k:Nat} {a:Nat→Nat→Int} {piv:List Nat} {c:Nat} {f:Nat→Int}
end
end
section
open Go.RowKit
end
section
open Go.RowKit
section
variable {p m:Nat} {ml:List Int}
theorem elO_cl {N R:Nat} {a a':Nat→Nat→Int} {piv:List Nat} (hp:2≤p) (h:ElO p m ml N R a a' piv) (f:Nat→Int):Cl p m ml N piv.length a' f↔Cl p m ml N R a f:=by
 obtain ⟨c,hc,hP,hend,hS⟩:=h;have hsol:∀x,Sol p m ml N piv.length a' x↔Sol p m ml N R a x:=fun x=> by
  rw [←hS x];exact ⟨fun h i hi=> by
   by_cases hip:i < piv.length
   ·exact h i hip
   ·refine dt_zero hp fun j hj=> ?_;rcases hend with h1 | h1
    ·omega
    ·exact hP.tail i j (by omega) hi (by omega),fun h i hi=> h i (by have:=hP.le;omega)⟩
 exact ⟨fun hcl x hx=> hcl x ((hsol x).2 hx),fun hcl x hx=> hcl x ((hsol x).1 hx)⟩
variable {l1 l2:List (List Int)} {n:Nat} {tl sc:List Int}
end
end
section
open Go.RowKit
section
variable {p m:Nat} {ml pl sl sl':List Int} {fr N:Nat}
theorem bck_add {fr:Nat} (hm:1≤m) (hfr:fr < m):(bckN m fr + fr) % m=0:=by
 unfold bckN;by_cases h:fr=0
 ·subst h;simp
 ·have e:(m - fr) % m=m - fr:=Nat.mod_eq_of_lt (by omega);rw [e,Nat.sub_add_cancel (by omega)];simp
theorem frb_bck {low:Vc} (hp:2≤p) (hm:1≤m) (hF:IsF p m low) {fr:Nat} (hfr:fr < m) {x:Nat} (hx:x < p ^ m):frb p m low (frb p m low x (bckN m fr)) fr=x:=by
 rw [frb_add,←frb_mod hp hm hF hx,bck_add hm hfr];rfl
def pulB (p m:Nat) (ml pl sl:List Int) (fr:Nat) (x:Nat→Int) (i:Nat):Int:=((frb p m (lw ml) (kmul p m (lw ml) (kin (p ^ m) (sl.getD i 0)) (kin (p ^ m) (x (piF pl i)))) (bckN m fr):Nat):Int)
theorem pulB_frb (h:MonOK p m ml pl sl fr N) (x:Nat→Int) (i:Nat):frb p m (lw ml) (kin (p ^ m) (pulB p m ml pl sl fr x i)) fr=kmul p m (lw ml) (kin (p ^ m) (sl.getD i 0)) (kin (p ^ m) (x (piF pl i))):=by
 have hk:=kmul_lt (m:=m) (low:=lw ml) (show 1≤p by have:=h.hp;omega) (kin (p ^ m) (sl.getD i 0)) (kin (p ^ m) (x (piF pl i)));unfold pulB;rw [kin_of (frb_lt h.hp h.hm hk _),frb_bck h.hp h.hm h.hF h.frm hk]
theorem frb_zero_iff {low:Vc} (hp:2≤p) (hm:1≤m) (hF:IsF p m low) {z:Nat} (hz:z < p ^ m) (k:Nat):frb p m low z k=0↔z=0:=by
 constructor
 ·intro h;apply Classical.byContradiction;intro hne;have:=frb_pos hp hm hF (x:=z) (by omega) hz k;omega
 ·intro h;rw [h];exact frb_zero hp hm k
theorem dt_img (h:MonOK p m ml pl sl fr N) (hpr:prB p=true) (t:List Int) (x:Nat→Int):dt p m ml N (imgF p m ml pl sl fr t N) x=frb p m (lw ml) (dt p m ml N (fun j=> t.getD j 0) (pulB p m ml pl sl fr x)) fr:=by
 have hp1:1≤p:=by have:=h.hp;omega
 unfold imgF;rw [dt_plc hp1 h.inj,dt_ks,dt_ks,frb_ks h.hp h.hm hpr];refine ks_congr N fun i hi=> ?_;have hk:∀a b,kmul p m (lw ml) a b < p ^ m:=fun a b=> kmul_lt hp1 a b;rw [frb_mul h.hp h.hm,pulB_frb h];unfold vF;rw [kin_of (hk _ _),←kmul_assoc hp1,kmul_comm (kin (p ^ m) (sl.getD i 0))]
theorem rowsF_imLg {l1:List (List Int)} {i j:Nat} (hi:i < l1.length) (hj:j < N):rowsF (imL p m ml pl sl fr N l1 l1.length) i j=imgF p m ml pl sl fr (l1.getD i []) N j:=by
 have e:(imL p m ml pl sl fr N l1 l1.length).getD i []=il N (imgF p m ml pl sl fr (l1.getD i []) N):=by
  unfold imL;rw [List.getD_eq_getElem?_getD,List.getElem?_map,List.getElem?_take_of_lt hi,List.getElem?_eq_getElem hi,List.getD_eq_getElem?_getD,List.getElem?_eq_getElem hi];rfl
 show ((imL p m ml pl sl fr N l1 l1.length).getD i []).getD j 0=_
 rw [e,eil_getD hj]
theorem sol_img (h:MonOK p m ml pl sl fr N) (hpr:prB p=true) {l1:List (List Int)} (x:Nat→Int):Sol p m ml N (imL p m ml pl sl fr N l1 l1.length).length (rowsF (imL p m ml pl sl fr N l1 l1.length)) x↔Sol p m ml N l1.length (rowsF l1) (pulB p m ml pl sl fr x):=by
 rw [imL_len (Nat.le_refl _)];have e:∀i,i < l1.length→dt p m ml N (rowsF (imL p m ml pl sl fr N l1 l1.length) i) x=frb p m (lw ml) (dt p m ml N (rowsF l1 i) (pulB p m ml pl sl fr x)) fr:=fun i hi=> by
  rw [dt_congr (fun j hj=> rowsF_imLg hi hj) fun _ _=> rfl,dt_img h hpr];rfl
 constructor
 ·intro hs i hi;have:=hs i hi;rw [e i hi] at this;exact (frb_zero_iff h.hp h.hm h.hF (dt_lt h.hp _ _) fr).1 this
 ·intro hs i hi;rw [e i hi];exact (frb_zero_iff h.hp h.hm h.hF (dt_lt h.hp _ _) fr).2 (hs i hi)
theorem cl_sol {R R':Nat} {a a':Nat→Nat→Int} (h:∀x,Sol p m ml N R a x↔Sol p m ml N R' a' x) (f:Nat→Int):Cl p m ml N R a f↔Cl p m ml N R' a' f:=
 ⟨fun hc x hx=> hc x ((h x).2 hx),fun hc x hx=> hc x ((h x).1 hx)⟩
end
end
end Go.Proofs.YtgdmlmhpineibaaGreat
