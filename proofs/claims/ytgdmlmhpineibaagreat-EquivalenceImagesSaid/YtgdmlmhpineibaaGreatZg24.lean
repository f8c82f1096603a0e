/- Walk of matrix.Canonical. -/
import Derived.BigQuiet
import Derived.Test.YtgdmlmhpineibaaGreatZg23
namespace Go.Proofs.YtgdmlmhpineibaaGreat
set_option linter.unusedVariables false
set_option linter.unusedSimpArgs false
set_option maxRecDepth 100000
set_option maxHeartbeats 8000000
section
open Go.RowKit
def canE (p m:Int) (ml:List Int) (cols:Int) (rows:List (List Int)):Int:=if chkS p m ml≠0 then 1 else mchkS (p.toNat ^ m.toNat) cols rows
def CanR (p m:Int) (ml:List Int) (cols:Int) (rows:List (List Int)) (b0:Nat) (r:Ending) (w':World):Prop:=
 (canE p m ml cols rows=0∧∃(pn mn N:Nat) (piv:List Nat) (a':Nat→Nat→Int) (rv pv:Value),p=pn∧m=mn∧cols=N∧FldB p m ml∧mchkS (pn ^ mn) N rows=0∧r= .returned (.tuple #[.agg #[.int .i64 N,rv],pv,.int .i64 0])∧ElO pn mn ml N rows.length (rowsF rows) a' piv∧MSl w' rv (rowsL N piv.length a')∧ISl w' pv (pI piv)∧∃g blk cap base,b0≤base∧rv= .slice (some ⟨g,0,none⟩) piv.length piv.length∧EM w' base g rows.length N blk cap a' [])∨
 (canE p m ml cols rows≠0∧r= .returned (.tuple #[.agg #[.int .i64 0,.slice none 0 0],.slice none 0 0,.int .i64 (canE p m ml cols rows)]))
theorem Canonical_any (w:World) (p m:Int) (ml:List Int) (mv:Value) (hmv:ISl w mv ml) (cols:Int) (rows:List (List Int)) (v:Value) (hv:MSl w v rows) (h0:canE p m ml cols rows=0→1≤cols):
  Calls Tryz.prog 121 #[.agg #[.int .i64 p,.int .i64 m,mv],.agg #[.int .i64 cols,v]] w fun r w'=> CanR p m ml cols rows w.heap.size r w'∧Ex w w':=by
 have HO:=hid_ (fun w' B h1 h2 h3 h4=> open1_any p m ml mv w' h1 cols rows v h2 B h3 h4);obtain ⟨g0,g1,g2,e0,gsz⟩:=box_facts w p m mv;have HMV:=hid_ hmv;have HV:=hid_ hv;have H0:=hid_ h0;obtain ⟨za,zc,rfl,z1,z2,z3⟩:=hv.open;clear z1 z3;unfold maxLen at z2;obtain ⟨xb,hxb⟩:∃xb,w.heap.size=xb:=⟨_,rfl⟩;rw [hxb] at g0 g1 g2 gsz;clear hmv hv h0;go_enter Tryz.func121,Tryz.ntmps121
 go_wp2_with fail
 generalize w.alloc (.cells #[.int .i64 p,.int .i64 m,mv] 24)=wA at *;obtain ⟨a0,a1,ea⟩:=boxM_facts wA cols (.slice za rows.length zc);have asz:(wA.alloc (.cells #[.int .i64 cols,.slice za rows.length zc] 113)).heap.size=xb + 1 + 1:=by simp [gsz]
 rw [gsz] at a0 a1;generalize wA.alloc (.cells #[.int .i64 cols,.slice za rows.length zc] 113)=wB at *;obtain ⟨q0,q1,eb⟩:=boxM_facts wB 0 (.slice none 0 0);have qf:(wB.alloc (.cells #[.int .i64 0,.slice none 0 0] 113)).frozen? ⟨xb + 1 + 1,1,none⟩=false:=by rw [←asz];simp
 have qf0:(wB.alloc (.cells #[.int .i64 0,.slice none 0 0] 113)).frozen? ⟨xb + 1 + 1,0,none⟩=false:=by rw [←asz];simp
 have bsz:(wB.alloc (.cells #[.int .i64 0,.slice none 0 0] 113)).heap.size=xb + 1 + 1 + 1:=by simp [asz]
 rw [asz] at q0 q1;generalize wB.alloc (.cells #[.int .i64 0,.slice none 0 0] 113)=wC at *;obtain ⟨l0,l1,ec⟩:=boxM_facts wC cols (.slice za rows.length zc);rw [bsz] at l0 l1;generalize wC.alloc (.cells #[.int .i64 cols,.slice za rows.length zc] 113)=wD at *;have eD:Ex w wD:=((e0.trans ea).trans eb).trans ec;have A0:=hid_ ((eb.trans ec).cell a0);have A1:=hid_ ((eb.trans ec).cell a1);have Q0:=hid_ (ec.cell q0);have Q1:=hid_ (ec.cell q1);have QF:=hid_ (ec.frz q1 qf);have QF0:=hid_ (ec.frz q0 qf0);have HXD:=hid_ eD;refine (HO.out wD (xb + 1 + 1 + 1) (HMV.out.ex eD) (HV.out.ex eD) l0 l1).mono ?_;clear g0 g1 g2 e0 gsz ea asz a0 a1 eb bsz q0 q1 qf qf0 l0 l1 ec eD HO;rintro e w2 ⟨ho,hx2⟩;have HX2:=hid_ (HXD.out.trans hx2);have QF:=hid_ (hx2.frz Q1.out QF.out);have QF0:=hid_ (hx2.frz Q0.out QF0.out);have c0:=hx2.cell A0.out;have c1:=hx2.cell A1.out;have Q0:=hid_ (hx2.cell Q0.out);have Q1:=hid_ (hx2.cell Q1.out);have A0:=hid_ c0;clear hx2 A1;have HEE:=hid_ (fun (i:Value) (j:Value)=> ((HX2.out).setCell (p:=⟨xb + 1 + 1,0,none⟩) (by show w.heap.size≤xb + 1 + 1;omega) i).setCell (p:=⟨xb + 1 + 1,1,none⟩) (by show w.heap.size≤xb + 1 + 1;omega) j);rcases ho with ⟨pn,mn,x0,b,rfl,rfl,hg,hx01,hx02,⟨hmk,rfl⟩ | ⟨hno,rfl⟩⟩ | ⟨hno,rfl⟩
 ·have hch:chkS pn mn ml=0:=(chk_iff _ _ _).2 ⟨pn,mn,rfl,rfl,hg.sh,hg.pr,hg.isF hx01 hx02⟩;have hce:canE pn mn ml cols rows=0:=by
   unfold canE;rw [if_neg (by simp [hch]),Int.toNat_natCast,Int.toNat_natCast];exact hmk
  have hc1:=H0.out hce;obtain ⟨s1,s2,s3,s4⟩:=mchk_shape hmk;obtain ⟨N,rfl⟩:∃N:Nat,cols=N:=⟨cols.toNat,by omega⟩;have HCE:=hid_ hce;have HFB:=hid_ ((chk_iff _ _ _).1 hch);have HMK:=hid_ hmk;have HCN:=hid_ (canon_any2 w2 hg hx01 hx02 N rows.length rows _ (HV.out.ex HX2.out) rfl s3 (by omega) (by omega) fun i r h=> by
   have:=s4 r (List.mem_of_getElem? h);exact ⟨by omega,this.2⟩)
  have HS3:=hid_ s3;clear hg hch hce hc1 s1 s2 s3 s4 hmk hx01 hx02;go_wp2_with (go_at_call 125;refine HCN.out.mono ?_;rintro e w8 ⟨piv2,pv2,rv2,a2,rfl,hel2,hrv2,hpv2,hx8,g8,blk8,cap8,rfl,hem8,hpb8⟩;have a0n:=hx8.cell A0.out;have q0:=hx8.cell Q0.out;have qf0:=hx8.frz Q0.out QF0.out;have q1:=hx8.cell Q1.out;have qf1:=hx8.frz Q1.out QF.out;have HEL2:=hid_ hel2;have HEM8:=hid_ hem8;have HX8:=hid_ hx8;have HPV8:=hid_ hpv2;have HPB:=hid_ hpb8;obtain ⟨pa,pc,rfl,-,-,-⟩:=hpv2.open;clear hel2 hem8 hx8 hpb8 hrv2 hpv2)
  have hbl:xb + 1 + 1 < w2.heap.size:=World.block_lt_of_cell? _ _ Q0.out;have hp2:=(elo_rows HEL2.out).1;have HMS:=hid_ (((HEM8.out.low (A:=⟨xb + 1 + 1,0,none⟩) hbl (.int .i64 N)).low (A:=⟨xb + 1 + 1,1,none⟩) hbl (.slice (some ⟨g8,0,none⟩) piv2.length piv2.length)).msl hp2 HS3.out);have HEM9:=hid_ ((HEM8.out.low (A:=⟨xb + 1 + 1,0,none⟩) hbl (.int .i64 N)).low (A:=⟨xb + 1 + 1,1,none⟩) hbl (.slice (some ⟨g8,0,none⟩) piv2.length piv2.length));have HPN:=hid_ (fun B h=> show B≠xb + 1 + 1 from by have:=HPB.out B h;omega);have HEX:=hid_ ((((HX2.out).trans HX8.out).setCell (p:=⟨xb + 1 + 1,0,none⟩) (by show w.heap.size≤xb + 1 + 1;omega) (.int .i64 N)).setCell (p:=⟨xb + 1 + 1,1,none⟩) (by show w.heap.size≤xb + 1 + 1;omega) (.slice (some ⟨g8,0,none⟩) piv2.length piv2.length));exact bodyPost_ret (v:= .tuple #[.agg #[.int .i64 N,.slice (some ⟨g8,0,none⟩) piv2.length piv2.length],.slice pa (pI piv2).length pc,.int .i64 0]) (by simp [results,Tryz.results121,go_sem,q0,q1]) rfl ⟨.inl ⟨HCE.out,pn,mn,N,piv2,a2,_,_,rfl,rfl,rfl,HFB.out,HMK.out,rfl,HEL2.out,HMS.out,Sl.other (Sl.other HPV8.out (fun B h=> HPN.out B h) _) (fun B h=> HPN.out B h) _,g8,blk8,cap8,_,HX2.out.size,rfl,HEM9.out⟩,HEX.out⟩
 ·have hch:chkS pn mn ml=0:=(chk_iff _ _ _).2 ⟨pn,mn,rfl,rfl,hg.sh,hg.pr,hg.isF hx01 hx02⟩;have hce:canE pn mn ml cols rows=mchkS (pn ^ mn) cols rows:=by
   unfold canE;rw [if_neg (by simp [hch]),Int.toNat_natCast,Int.toNat_natCast]
  have HCE:=hid_ hce;clear hg hch hce hx01 hx02 HMV HV H0;obtain ⟨E,hE⟩:∃E,mchkS (pn ^ mn) cols rows=E:=⟨_,rfl⟩;rw [hE] at HCE hno ⊢;have hb:(E !=0)=true:=by simpa using hno
  have HNO:=hid_ hno;have q0:=Q0.out;have q1:=Q1.out;have qf0:=QF0.out;have qf1:=QF.out;clear hE hno;go_wp2_with fail
  exact bodyPost_ret (v:= .tuple #[.agg #[.int .i64 0,.slice none 0 0],.slice none 0 0,.int .i64 E]) (by simp [results,Tryz.results121,go_sem,q0,q1]) rfl ⟨.inr ⟨by rw [HCE.out];exact HNO.out,by rw [HCE.out]⟩,HEE.out _ _⟩
 ·have hce:canE p m ml cols rows=1:=by
   unfold canE;rw [if_pos (fun h=> hno ((chk_iff _ _ _).1 h))]
  have HCE:=hid_ hce;clear hno hce HMV HV H0;have q0:=Q0.out;have q1:=Q1.out;have qf0:=QF0.out;have qf1:=QF.out;go_wp2_with fail
  exact bodyPost_ret (v:= .tuple #[.agg #[.int .i64 0,.slice none 0 0],.slice none 0 0,.int .i64 1]) (by simp [results,Tryz.results121,go_sem,q0,q1]) rfl ⟨.inr ⟨by rw [HCE.out];decide,by rw [HCE.out]⟩,HEE.out _ _⟩
end
section
open Go.RowKit
theorem CloneE_any (w:World) (l:List Int) (v:Value) (hl:ISl w v l) (hn2:l.length≤1000):
  Calls Tryz.prog 66 #[v] w fun r w'=> ∃v',r= .returned v'∧ISl w' v' l∧(∀B,v'.ownBlock=some B→w.heap.size≤B)∧Ex w w':=by
 have HL:=hid_ hl;obtain ⟨a,cap,rfl,s1,s2,s3⟩:=hl.open;have hmi:∀u∈ints l,u.oneCell'=true:=by
  intro u hu;obtain ⟨z,_,rfl⟩:=List.mem_map.1 hu;rfl
 have HON:=hid_ hmi;clear hl hmi
 cases a with
 | none=>
  have h0:l= []:=by
   cases l with
   | nil=> rfl
   | cons x t=> obtain ⟨_,_,h,_⟩:=s3 (by simp);cases h
  subst h0;have hnil:=fun w'=> run_eql_slice_nil (P:=Tryz.prog) w' 22 3 none 0 cap Tryz.underlying22;simp only [Option.isNone] at hnil;clear s1 s2 s3;go_enter Tryz.func66,Tryz.ntmps66
  go_wp2_with fail
  go_ret;exact ⟨_,rfl,isl_nil _,by simp [Value.ownBlock],Ex.refl _⟩
 | some ad=>
  have hnil:=fun w'=> run_eql_slice_nil (P:=Tryz.prog) w' 22 3 (some ad) l.length cap Tryz.underlying22;simp only [Option.isNone] at hnil;clear s3;go_enter Tryz.func66,Tryz.ntmps66
  go_wp2_with (at_builtin;refine wpList_append_sl _ rfl _ _ 22 rfl w.heap.size 3 (.int .i64 0) 1 8 Tryz.underlying22 infoInt rfl (by decide) _ 0 [] rfl (own_lit0 w 3) (.slice (some ad) l.length cap) l.length (ints l) rfl (HL.out.ex ((Ex.refl w).alloc _)) HON.out (by unfold maxLen;omega) (by omega) (by simp) ?_)
  intro v1 w1 hown1 hg1 ha1;have hx1:Ex w w1:=Ex.grown ((Ex.refl w).alloc _) (own_lit0 w 3) (Nat.le_refl _) hg1;have HI:=hid_ (show ISl w1 v1 l from Sl.own hown1);have HB:=hid_ (fun B (e:v1.ownBlock=some B)=> (hown1.lt B e).1);have HX:=hid_ hx1;clear hown1 hg1 ha1 hx1 hnil;go_wp2_with fail
  go_ret;exact ⟨_,rfl,HI.out,HB.out,HX.out⟩
def lenE (n:Int):Int:=if n < 1∨64 < n then 4 else 0
theorem length_any (w:World) (n:Int):Calls Tryz.prog 119 #[.int .i64 n] w fun r w'=> r= .returned (.int .i64 (lenE n))∧w'=w:=by
 unfold lenE;go_enter Tryz.func119,Tryz.ntmps119
 by_cases h1:n < 1
 ·have b1:decide (n < 1)=true:=by simpa using h1
  rw [if_pos (.inl h1)];go_wp2_with fail
  go_ret;exact ⟨rfl,rfl⟩
 ·have b1:decide (n < 1)=false:=by simpa using h1
  by_cases h2:64 < n
  ·have b2:decide (64 < n)=true:=by simpa using h2
   rw [if_pos (.inr h2)];go_wp2_with fail
   go_ret;exact ⟨rfl,rfl⟩
  ·have b2:decide (64 < n)=false:=by simpa using h2
   rw [if_neg (by omega)];go_wp2_with fail
   go_ret;exact ⟨rfl,rfl⟩
theorem boxC_facts (w:World) (p m:Int) (mv:Value) (n:Int) (gv:Value):(w.alloc (.cells #[.int .i64 p,.int .i64 m,mv,.int .i64 n,gv] 47)).cell? ⟨w.heap.size,0,none⟩=some (.int .i64 p)∧(w.alloc (.cells #[.int .i64 p,.int .i64 m,mv,.int .i64 n,gv] 47)).cell? ⟨w.heap.size,1,none⟩=some (.int .i64 m)∧(w.alloc (.cells #[.int .i64 p,.int .i64 m,mv,.int .i64 n,gv] 47)).cell? ⟨w.heap.size,2,none⟩=some mv∧(w.alloc (.cells #[.int .i64 p,.int .i64 m,mv,.int .i64 n,gv] 47)).cell? ⟨w.heap.size,3,none⟩=some (.int .i64 n)∧(w.alloc (.cells #[.int .i64 p,.int .i64 m,mv,.int .i64 n,gv] 47)).cell? ⟨w.heap.size,4,none⟩=some gv∧Ex w (w.alloc (.cells #[.int .i64 p,.int .i64 m,mv,.int .i64 n,gv] 47)):=
 ⟨by simp,by simp,by simp,by simp,by simp,(Ex.refl _).alloc _⟩
theorem gen_any (w:World) (p m:Int) (mv:Value) (n:Int) (rows:List (List Int)) (gv:Value) (hg:MSl w gv rows):
  Calls Tryz.prog 80 #[.agg #[.int .i64 p,.int .i64 m,mv,.int .i64 n,gv]] w fun r w'=> r= .returned (.agg #[.int .i64 n,gv])∧Ex w w':=by
 obtain ⟨a0,a1,a2,a3,a4,ea⟩:=boxC_facts w p m mv n gv;obtain ⟨za,zc,rfl,z1,z2,z3⟩:=hg.open;clear z3;unfold maxLen at z2;go_enter Tryz.func80,Tryz.ntmps80
 go_wp2_with fail
 exact bodyPost_ret (v:= .agg #[.int .i64 n,.slice za rows.length zc]) (by simp [results,Tryz.results80,go_sem]) rfl ⟨rfl,ea.trans ((Ex.refl _).alloc _)⟩
theorem own_any (w:World) (p m:Int) (ml:List Int) (mv:Value) (hmv:ISl w mv ml) (hn:ml.length≤1000):
  Calls Tryz.prog 127 #[.agg #[.int .i64 p,.int .i64 m,mv]] w fun r w'=> ∃v',r= .returned (.agg #[.int .i64 p,.int .i64 m,v'])∧ISl w' v' ml∧(∀B,v'.ownBlock=some B→w.heap.size≤B)∧Ex w w':=by
 obtain ⟨a0,a1,a2,e0,asz⟩:=box_facts w p m mv;obtain ⟨q0,q1,q2,eb,bsz⟩:=box_facts (w.alloc (.cells #[.int .i64 p,.int .i64 m,mv] 24)) 0 0 (.slice none 0 0);have af:(w.alloc (.cells #[.int .i64 p,.int .i64 m,mv] 24)).frozen? ⟨w.heap.size,2,none⟩=false:=by simp
 have qf:((w.alloc (.cells #[.int .i64 p,.int .i64 m,mv] 24)).alloc (.cells #[.int .i64 0,.int .i64 0,.slice none 0 0] 24)).frozen? ⟨(w.alloc (.cells #[.int .i64 p,.int .i64 m,mv] 24)).heap.size,0,none⟩=false∧((w.alloc (.cells #[.int .i64 p,.int .i64 m,mv] 24)).alloc (.cells #[.int .i64 0,.int .i64 0,.slice none 0 0] 24)).frozen? ⟨(w.alloc (.cells #[.int .i64 p,.int .i64 m,mv] 24)).heap.size,1,none⟩=false∧((w.alloc (.cells #[.int .i64 p,.int .i64 m,mv] 24)).alloc (.cells #[.int .i64 0,.int .i64 0,.slice none 0 0] 24)).frozen? ⟨(w.alloc (.cells #[.int .i64 p,.int .i64 m,mv] 24)).heap.size,2,none⟩=false:=⟨by simp,by simp,by simp⟩;replace af:=eb.frz a2 af;replace a0:=eb.cell a0;replace a1:=eb.cell a1;replace a2:=eb.cell a2;rw [asz] at q0 q1 q2 qf bsz;have HE:=hid_ (e0.trans eb);have HMV:=hid_ (hmv.ex HE.out);obtain ⟨ma,mc,rfl,m1',m2,m3⟩:=hmv.open;unfold maxLen at m2;clear hmv m3 e0 eb asz;go_enter Tryz.func127,Tryz.ntmps127
 go_wp2_with fail
 obtain ⟨xb,hxb⟩:∃xb,w.heap.size=xb:=⟨_,rfl⟩;rw [hxb] at a0 a1 a2 q0 q1 q2 qf bsz af
 try simp only [hxb]
 generalize (w.alloc (.cells #[.int .i64 p,.int .i64 m,.slice ma ml.length mc] 24)).alloc (.cells #[.int .i64 0,.int .i64 0,.slice none 0 0] 24)=w1 at *;have HXB:=hid_ hxb;obtain ⟨qf0,qf1,qf2⟩:=qf;clear hxb;refine (CloneE_any w1 ml _ HMV.out hn).mono ?_;rintro e w2 ⟨v',rfl,hv',hb',hx⟩;have HV:=hid_ hv';have HB:=hid_ (fun B e=> show xb + 1 + 1≤B from by have:=hb' B e;omega);have HX:=hid_ hx;obtain ⟨va,vc,rfl,-,-,-⟩:=hv'.open;have a0':=hx.cell a0;have a1':=hx.cell a1;have af':=hx.frz a2 af;have a2':=hx.cell a2;have q0':=hx.cell q0;have q1':=hx.cell q1;have q2':=hx.cell q2;have qf0':=hx.frz q0 qf0;have qf1':=hx.frz q1 qf1;have qf2':=hx.frz q2 qf2;clear a0 a1 a2 af q0 q1 q2 qf0 qf1 qf2 hv' hb' hx;go_wp2_with fail
 have hne:∀B,(Value.slice va ml.length vc).ownBlock=some B→B≠xb∧B≠xb + 1:=fun B e=> by have:=HB.out B e;omega
 have hw:w.heap.size=xb:=HXB.out;exact bodyPost_ret (v:= .agg #[.int .i64 p,.int .i64 m,.slice va ml.length vc]) (by simp [results,Tryz.results127,go_sem,q0',q1',q2']) rfl ⟨_,rfl,Sl.other (Sl.other (Sl.other (Sl.other HV.out (fun B h=> (hne B h).1) _) (fun B h=> (hne B h).2) _) (fun B h=> (hne B h).2) _) (fun B h=> (hne B h).2) _,fun B e=> by have:=HB.out B e;omega,
  ((((HE.out.trans HX.out).setCell (p:=⟨xb,2,none⟩) (by show w.heap.size≤xb;omega) _).setCell (p:=⟨xb + 1,0,none⟩) (by show w.heap.size≤xb + 1;omega) _).setCell (p:=⟨xb + 1,1,none⟩) (by show w.heap.size≤xb + 1;omega) _).setCell (p:=⟨xb + 1,2,none⟩) (by show w.heap.size≤xb + 1;omega) _⟩
end
section
open Go.RowKit
theorem Equal_any (w:World) (l k:List Int) (v u:Value) (hl:ISl w v l) (hk:ISl w u k):
  Calls Tryz.prog 162 #[v,u] w fun r w'=> r= .returned (.bool (decide (l=k)))∧∃n,w'=w.drewN n:=by
 obtain ⟨a,cap,rfl,s1,s2,s3⟩:=hl.open;obtain ⟨c,cc,rfl,t1,t2,t3⟩:=hk.open;have S3:=hid_ s3;have T3:=hid_ t3;unfold maxLen at s2 t2;clear hl hk s3 t3;by_cases hlk:l.length=k.length
 ·have hb:((l.length:Int) !=(k.length:Int))=false:=by simp;omega
  have HLK:=hid_ hlk;clear hlk;go_enter Tryz.func162,Tryz.ntmps162
  go_wp2_with fail
  go_loopw [13] (fun i' wr=> ∃i n:Nat,i≤l.length∧i'= .int .i64 i∧wr=w.drewN n∧Hid (∀j,j < i→l[j]?=k[j]?)) (fun i' _=> l.length - (intOf i').toNat)
  case atStart=> exact ⟨0,0,by omega,rfl,rfl,hid_ (fun j hj=> by omega)⟩
  case round=>
   obtain ⟨i,n,hi,rfl,rfl,hall⟩:=hrel;by_cases hlt:i < l.length
   ·obtain ⟨x,hx⟩:∃x,l[i]?=some x:=⟨_,List.getElem?_eq_getElem hlt⟩;have hik:i < k.length:=by have:=HLK.out;omega
    obtain ⟨y,hy⟩:∃y,k[i]?=some y:=⟨_,List.getElem?_eq_getElem hik⟩;obtain ⟨b,o,rfl,hc⟩:=S3.out (by omega);obtain ⟨b2,o2,rfl,hc2⟩:=T3.out (by omega);have c1:=((Ex.refl w).drewN n).cell (hc i x hx);have c2:=((Ex.refl w).drewN n).cell (hc2 i y hy);have i1:(0:Int)≤(i:Int):=by omega
    have i2:(i:Int) < (l.length:Int):=by omega
    have i3:(i:Int) < (k.length:Int):=by omega
    obtain ⟨W,hW⟩:∃W,w.drewN n=W:=⟨_,rfl⟩;rw [hW] at c1 c2 ⊢;have HWE:=hid_ hW;clear hW;by_cases hxy:x=y
    ·have HA:=hid_ (show ∀j,j < i + 1→l[j]?=k[j]? from fun j hj=> by
      by_cases e:j=i
      ·subst e;rw [hx,hy,hxy]
      ·exact hall.out j (by omega))
     have hbb:(x !=y)=false:=by simpa using hxy
     clear hc hc2 hx hy hxy;go_wp2_with fail
     go_quiet (fail)
     go_wp2_with fail
     go_roundw
     case rel=> exact ⟨i + 1,_,by omega,by go_num,by rw [←HWE.out,World.drewN_drewN],HA⟩
     case measure=> simp [intOf];omega
    ·have HN:=hid_ (show ¬l=k from fun e=> hxy (by rw [e,hy] at hx;injection hx with hx;exact hx.symm));have hbb:(x !=y)=true:=by simpa using hxy
     clear hc hc2 hx hy hxy;go_wp2_with fail
     go_quiet (fail)
     go_wp2_with fail
     go_ret;exact ⟨ret_bool (decide_eq_false HN.out).symm,_,by rw [←HWE.out,World.drewN_drewN]⟩
   ·obtain rfl:i=l.length:=by omega
    have HE:=hid_ (eq_of_get HLK.out hall.out);go_wp2_with fail
    go_ret;exact ⟨ret_bool (decide_eq_true HE.out).symm,n,rfl⟩
 ·have hb:((l.length:Int) !=(k.length:Int))=true:=by simp;omega
  have HN:=hid_ (show ¬l=k from fun e=> hlk (by rw [e]));clear hlk;go_enter Tryz.func162,Tryz.ntmps162
  go_wp2_with fail
  go_ret;exact ⟨ret_bool (decide_eq_false HN.out).symm,0,rfl⟩
theorem EqualFunc_any (w:World) (l k:List (List Int)) (v u:Value) (hl:MSl w v l) (hk:MSl w u k):
  Calls Tryz.prog 161 #[v,u,.func (.func 162) #[] #[]] w fun r w'=> r= .returned (.bool (decide (l=k)))∧∃n,w'=w.drewN n:=by
 obtain ⟨a,cap,rfl,s1,s2,s3⟩:=hl.open;obtain ⟨c,cc,rfl,t1,t2,t3⟩:=hk.open;have S3:=hid_ s3;have T3:=hid_ t3;unfold maxLen at s2 t2;clear hl hk s3 t3;by_cases hlk:l.length=k.length
 ·have hb:((l.length:Int) !=(k.length:Int))=false:=by simp;omega
  have HLK:=hid_ hlk;clear hlk;go_enter Tryz.func161,Tryz.ntmps161
  go_wp2_with fail
  go_loopw [17] (fun i' wr=> ∃i n:Nat,i≤l.length∧i'= .int .i64 i∧wr=w.drewN n∧Hid (∀j,j < i→l[j]?=k[j]?)) (fun i' _=> l.length - (intOf i').toNat)
  case atStart=> exact ⟨0,0,by omega,rfl,rfl,hid_ (fun j hj=> by omega)⟩
  case round=>
   obtain ⟨i,n,hi,rfl,rfl,hall⟩:=hrel;by_cases hlt:i < l.length
   ·obtain ⟨x,hx⟩:∃x,l[i]?=some x:=⟨_,List.getElem?_eq_getElem hlt⟩;have hik:i < k.length:=by have:=HLK.out;omega
    obtain ⟨y,hy⟩:∃y,k[i]?=some y:=⟨_,List.getElem?_eq_getElem hik⟩;obtain ⟨b,o,rfl,hc⟩:=S3.out (by omega);obtain ⟨b2,o2,rfl,hc2⟩:=T3.out (by omega);obtain ⟨u1,e1,hu1⟩:=hc i x hx;obtain ⟨u2,e2,hu2⟩:=hc2 i y hy;have c1:=((Ex.refl w).drewN n).cell e1;have c2:=((Ex.refl w).drewN n).cell e2;have hv1:=hu1.ex ((Ex.refl w).drewN n);have hv2:=hu2.ex ((Ex.refl w).drewN n);have i1:(0:Int)≤(i:Int):=by omega
    have i2:(i:Int) < (l.length:Int):=by omega
    have i3:(i:Int) < (k.length:Int):=by omega
    obtain ⟨W,hW⟩:∃W,w.drewN n=W:=⟨_,rfl⟩;rw [hW] at c1 c2 hv1 hv2 ⊢;have HWE:=hid_ hW;have HSI:=hid_ (Equal_any W x y u1 u2 hv1 hv2);obtain ⟨ua,uc,rfl,_,_,_⟩:=hv1.open;obtain ⟨va,vc,rfl,_,_,_⟩:=hv2.open;by_cases hxy:x=y
    ·have HA:=hid_ (show ∀j,j < i + 1→l[j]?=k[j]? from fun j hj=> by
      by_cases e:j=i
      ·subst e;rw [hx,hy,hxy]
      ·exact hall.out j (by omega))
     rw [decide_eq_true hxy] at HSI;clear hc hc2 hx hy hxy hW hu1 hu2 e1 e2 hv1 hv2;go_wp2_with (go_at_call 162;refine HSI.out.mono ?_;rintro e w5 ⟨rfl,n5,rfl⟩)
     go_roundw
     case rel=> exact ⟨i + 1,_,by omega,by go_num,by rw [←HWE.out,World.drewN_drewN],HA⟩
     case measure=> simp [intOf];omega
    ·have HN:=hid_ (show ¬l=k from fun e=> hxy (by rw [e,hy] at hx;injection hx with hx;exact hx.symm));rw [decide_eq_false hxy] at HSI;clear hc hc2 hx hy hxy hW hu1 hu2 e1 e2 hv1 hv2;go_wp2_with (go_at_call 162;refine HSI.out.mono ?_;rintro e w5 ⟨rfl,n5,rfl⟩)
     go_ret;exact ⟨ret_bool (decide_eq_false HN.out).symm,_,by rw [←HWE.out,World.drewN_drewN]⟩
   ·obtain rfl:i=l.length:=by omega
    have HE:=hid_ (rows_eq_of_get HLK.out hall.out);go_wp2_with fail
    go_ret;exact ⟨ret_bool (decide_eq_true HE.out).symm,n,rfl⟩
 ·have hb:((l.length:Int) !=(k.length:Int))=true:=by simp;omega
  have HN:=hid_ (show ¬l=k from fun e=> hlk (by rw [e]));clear hlk;go_enter Tryz.func161,Tryz.ntmps161
  go_wp2_with fail
  go_ret;exact ⟨ret_bool (decide_eq_false HN.out).symm,0,rfl⟩
theorem boxM2_facts (w:World) (c:Int) (v:Value):(w.alloc (.cells #[.int .i64 c,v] 113)).cell? ⟨w.heap.size,0,none⟩=some (.int .i64 c)∧(w.alloc (.cells #[.int .i64 c,v] 113)).cell? ⟨w.heap.size,1,none⟩=some v∧Ex w (w.alloc (.cells #[.int .i64 c,v] 113)):=⟨by simp,by simp,(Ex.refl _).alloc _⟩
def SpcO (p m:Int) (ml:List Int) (cols:Int) (rows:List (List Int)) (e:Int):Prop:=
 (canE p m ml cols rows≠0∧e=canE p m ml cols rows)∨
 (canE p m ml cols rows=0∧∃(pn mn N:Nat) (piv:List Nat) (a':Nat→Nat→Int),p=pn∧m=mn∧cols=N∧FldB p m ml∧mchkS (pn ^ mn) N rows=0∧ElO pn mn ml N rows.length (rowsF rows) a' piv∧e=if rowsL N piv.length a'=rows then 0 else 5)
structure BxV (w:World) (b:Nat):Prop where
 c0:w.cell? ⟨b,0,none⟩=some (.pointer none)
 c1:w.cell? ⟨b,1,none⟩=some (.int .i64 0)
 c2:w.cell? ⟨b,2,none⟩=some (.slice none 0 0)
 c3:w.cell? ⟨b,3,none⟩=some (.slice none 0 0)
 f0:w.frozen? ⟨b,0,none⟩=false
 f1:w.frozen? ⟨b,1,none⟩=false
 f2:w.frozen? ⟨b,2,none⟩=false
 f3:w.frozen? ⟨b,3,none⟩=false
theorem BxV.new (w:World):BxV (w.alloc (.cells #[.pointer none,.int .i64 0,.slice none 0 0,.slice none 0 0] 166)) w.heap.size:=⟨by simp,by simp,by simp,by simp,by simp,by simp,by simp,by simp⟩
theorem BxV.ex {w w':World} {b:Nat} (h:BxV w b) (hx:Ex w w'):BxV w' b:=⟨hx.cell h.c0,hx.cell h.c1,hx.cell h.c2,hx.cell h.c3,hx.frz h.c0 h.f0,hx.frz h.c1 h.f1,hx.frz h.c2 h.f2,hx.frz h.c3 h.f3⟩
theorem set4_ex {w0 w:World} {q:Nat} (hx:Ex w0 w) (hq:w0.heap.size≤q) (u v z y:Value):Ex w0 ((((w.setCell ⟨q,0,none⟩ u).setCell ⟨q,1,none⟩ v).setCell ⟨q,2,none⟩ z).setCell ⟨q,3,none⟩ y):=
 (((hx.setCell (p:=⟨q,0,none⟩) hq _).setCell (p:=⟨q,1,none⟩) hq _).setCell (p:=⟨q,2,none⟩) hq _).setCell (p:=⟨q,3,none⟩) hq _
theorem spaceOpen_any (w:World) (p m:Int) (ml:List Int) (mv:Value) (hmv:ISl w mv ml) (cols:Int) (rows:List (List Int)) (v:Value) (hv:MSl w v rows) (h0:canE p m ml cols rows=0→1≤cols):
  Calls Tryz.prog 132 #[.agg #[.int .i64 p,.int .i64 m,mv],.agg #[.int .i64 cols,v]] w fun r w'=> (∃(g:Option Addr) (c:Int) (a1 a2:Option Addr) (n1 k1 n2 k2:Nat) (e:Int),r= .returned (.tuple #[.agg #[.pointer g,.int .i64 c,.slice a1 n1 k1,.slice a2 n2 k2],.int .i64 e])∧SpcO p m ml cols rows e)∧Ex w w':=by
 obtain ⟨g0,g1,g2,e0,gsz⟩:=box_facts w p m mv;have HCN:=hid_ (fun (w':World) (h:Ex w w')=> Canonical_any w' p m ml mv (hmv.ex h) cols rows v (hv.ex h) h0);have HNW:=hid_ (fun (w':World) (h:Ex w w')=> New_any p m ml mv w' (hmv.ex h));have HV:=hid_ hv;obtain ⟨za,zc,rfl,z1,z2,z3⟩:=hv.open;clear z1 z3;unfold maxLen at z2;obtain ⟨ma,mc,rfl,-,m2,-⟩:=hmv.open;unfold maxLen at m2;obtain ⟨xb,hxb⟩:∃xb,w.heap.size=xb:=⟨_,rfl⟩;rw [hxb] at g0 g1 g2 gsz;clear hmv hv h0;go_enter Tryz.func132,Tryz.ntmps132
 go_wp2_with fail
 generalize w.alloc (.cells #[.int .i64 p,.int .i64 m,.slice ma ml.length mc] 24)=wA at *;obtain ⟨a0,a1,ea⟩:=boxM2_facts wA cols (.slice za rows.length zc);have asz:(wA.alloc (.cells #[.int .i64 cols,.slice za rows.length zc] 113)).heap.size=xb + 1 + 1:=by simp [gsz]
 rw [gsz] at a0 a1;generalize wA.alloc (.cells #[.int .i64 cols,.slice za rows.length zc] 113)=wB at *;have bq:=BxV.new wB;rw [asz] at bq;have eb:Ex wB _:=(Ex.refl wB).alloc (.cells #[.pointer none,.int .i64 0,.slice none 0 0,.slice none 0 0] 166);have A0:=hid_ (eb.cell a0);have A1:=hid_ (eb.cell a1);have G0:=hid_ ((ea.trans eb).cell g0);have G1:=hid_ ((ea.trans eb).cell g1);have G2:=hid_ ((ea.trans eb).cell g2);have BQ:=hid_ bq;have HE:=hid_ ((e0.trans ea).trans eb);generalize wB.alloc (.cells #[.pointer none,.int .i64 0,.slice none 0 0,.slice none 0 0] 166)=wC at *;refine (HCN.out wC HE.out).mono ?_;clear g0 g1 g2 a0 a1 bq e0 ea eb asz gsz;rintro e w2 ⟨hc,hx2⟩;have HX2:=hid_ (HE.out.trans hx2);have BQ2:=hid_ (BQ.out.ex hx2);have A0:=hid_ (hx2.cell A0.out);have A1:=hid_ (hx2.cell A1.out);have G0:=hid_ (hx2.cell G0.out);have G1:=hid_ (hx2.cell G1.out);have G2:=hid_ (hx2.cell G2.out);have HXB:=hid_ (show w.heap.size≤xb + 1 + 1 from by omega);clear hx2 BQ HE HCN;rcases hc with ⟨hce,pn,mn,N,piv,a',rv,pv,rfl,rfl,rfl,hfb,hmk,rfl,hel,hrv,hpv,-⟩ | ⟨hce,rfl⟩
 ·have HRV:=hid_ hrv;have HSP:=hid_ (fun e (h:e=if rowsL N piv.length a'=rows then 0 else 5)=> show SpcO pn mn ml N rows e from .inr ⟨hce,pn,mn,N,piv,a',rfl,rfl,rfl,hfb,hmk,hel,h⟩);have HFB:=hid_ hfb;obtain ⟨ra,rc,rfl,-,r2,-⟩:=hrv.open;obtain ⟨pa,pc,rfl,-,p2,-⟩:=hpv.open;unfold maxLen at r2 p2;obtain ⟨L,hL⟩:∃L,rowsL N piv.length a'=L:=⟨_,rfl⟩;obtain ⟨PL,hPL⟩:∃PL,pI piv=PL:=⟨_,rfl⟩;rw [hL] at HRV HSP ⊢;rw [hPL];clear hce hfb hmk hel hrv hpv hL hPL;have HX3:=hid_ ((Ex.refl w2).alloc (.cells #[.int .i64 N,.slice ra L.length rc] 113));have l0:(w2.alloc (.cells #[.int .i64 N,.slice ra L.length rc] 113)).cell? ⟨w2.heap.size,1,none⟩=some (.slice ra L.length rc):=by simp
  have a1':=HX3.out.cell A1.out;have HEQ:=hid_ (EqualFunc_any (w2.alloc (.cells #[.int .i64 N,.slice ra L.length rc] 113)) L rows _ _ (HRV.out.ex HX3.out) (HV.out.ex (HX2.out.trans HX3.out)));by_cases hLR:L=rows
  ·rw [decide_eq_true hLR] at HEQ;have HSP2:=hid_ (HSP.out 0 (by rw [if_pos hLR]));clear hLR;go_wp2_with fail
   refine HEQ.out.mono ?_;rintro e w3 ⟨rfl,n3,hw3⟩;have hx3:Ex (w2.alloc (.cells #[.int .i64 N,.slice ra L.length rc] 113)) w3:=by rw [hw3];exact (Ex.refl _).drewN n3
   have HX23:=hid_ (HX3.out.trans hx3);have g0:=HX23.out.cell G0.out;have g1:=HX23.out.cell G1.out;have g2:=HX23.out.cell G2.out;clear hx3 hw3 l0 a1';go_wp2_with fail
   refine (HNW.out w3 (HX2.out.trans HX23.out)).mono ?_;rintro e w4 ⟨hno,hx4⟩;rcases hno with ⟨pn',mn',x,b,e1,e2,rfl,hg,-,-⟩ | ⟨hno,_⟩
   ·have X4:=hid_ (HX23.out.trans hx4);have a0:=X4.out.cell A0.out;have a1:=X4.out.cell A1.out;obtain ⟨q0,q1,q2,q3,qf0,qf1,qf2,qf3⟩:=BQ2.out.ex X4.out;clear e1 e2 hg hx4 g0 g1 g2;go_wp2_with fail
    exact bodyPost_ret (v:= .tuple #[.agg #[.pointer (some ⟨b,0,none⟩),.int .i64 N,.slice za rows.length zc,.slice pa PL.length pc],.int .i64 0]) (by simp [results,Tryz.results132,go_sem,q0,q1,q2,q3]) rfl ⟨⟨_,_,_,_,_,_,_,_,_,rfl,HSP2.out⟩,set4_ex (HX2.out.trans X4.out) HXB.out _ _ _ _⟩
   ·exact absurd HFB.out hno
  ·rw [decide_eq_false hLR] at HEQ;have HSP2:=hid_ (HSP.out 5 (by rw [if_neg hLR]));clear hLR;go_wp2_with fail
   refine HEQ.out.mono ?_;rintro e w3 ⟨rfl,n3,hw3⟩;have hx3:Ex (w2.alloc (.cells #[.int .i64 N,.slice ra L.length rc] 113)) w3:=by rw [hw3];exact (Ex.refl _).drewN n3
   have HX23:=hid_ (HX3.out.trans hx3);obtain ⟨q0,q1,q2,q3,qf0,qf1,qf2,qf3⟩:=BQ2.out.ex HX23.out;clear hx3 hw3 l0 a1';go_wp2_with fail
   exact bodyPost_ret (v:= .tuple #[.agg #[.pointer none,.int .i64 0,.slice none 0 0,.slice none 0 0],.int .i64 5]) (by simp [results,Tryz.results132,go_sem,q0,q1,q2,q3]) rfl ⟨⟨_,_,_,_,_,_,_,_,_,rfl,HSP2.out⟩,set4_ex (HX2.out.trans HX23.out) HXB.out _ _ _ _⟩
 ·have HSP:=hid_ (show SpcO p m ml cols rows (canE p m ml cols rows) from .inl ⟨hce,rfl⟩);obtain ⟨E,hE⟩:∃E,canE p m ml cols rows=E:=⟨_,rfl⟩;rw [hE] at HSP hce ⊢;have hb:(E !=0)=true:=by simpa using hce
  obtain ⟨q0,q1,q2,q3,qf0,qf1,qf2,qf3⟩:=BQ2.out.ex ((Ex.refl w2).alloc (.cells #[.int .i64 0,.slice none 0 0] 113));have HXL:=hid_ (HX2.out.alloc (.cells #[.int .i64 0,.slice none 0 0] 113));clear hE hce;go_wp2_with fail
  exact bodyPost_ret (v:= .tuple #[.agg #[.pointer none,.int .i64 0,.slice none 0 0,.slice none 0 0],.int .i64 E]) (by simp [results,Tryz.results132,go_sem,q0,q1,q2,q3]) rfl ⟨⟨_,_,_,_,_,_,_,_,_,rfl,HSP.out⟩,set4_ex HXL.out HXB.out _ _ _ _⟩
end
end Go.Proofs.YtgdmlmhpineibaaGreat
