/- Plain: what Apply hands back as a map of codes; the end of EquivalenceSound. -/
import Derived.Test.YtgdmlmhpineibaaGreatZf26
import Derived.Test.YtgdmlmhpineibaaGreatZf34
import Derived.Test.YtgdmlmhpineibaaGreatZf40
import Derived.Test.YtgdmlmhpineibaaGreatZf41
import Derived.Test.YtgdmlmhpineibaaGreatZf42
import Derived.Test.YtgdmlmhpineibaaGreatZf43
import Derived.Test.YtgdmlmhpineibaaGreatZf47
namespace Go.Proofs.YtgdmlmhpineibaaGreat
set_option linter.unusedVariables false
set_option linter.unusedSimpArgs false
set_option maxRecDepth 100000
set_option maxHeartbeats 4000000
section
open Go.RowKit
theorem codO_two {p m n:Int} {ml:List Int} {rows:List (List Int)} (h:CodO p m ml n rows 0):∃pn mn N:Nat,p=pn∧m=mn∧n=N∧FSh pn mn ml∧IsF pn mn (lw ml)∧1≤N∧N≤64∧rows.length≤256∧∀r∈rows,r.length=N∧entS (pn ^ mn) r=0:=by
 obtain ⟨hF,hn1,hn2⟩:=codO_fld h;rcases h with ⟨_,h⟩ | ⟨_,h1,h2⟩ | ⟨h1,h2,h3⟩
 ·cases h
 ·exact absurd h2.symm h1
 ·rcases h3 with ⟨h3,h4⟩ | ⟨_,pn,mn,N,piv,a',rfl,rfl,rfl,_,hm,_⟩
  ·exact absurd h4.symm h3
  ·obtain ⟨p1,m1,e1,e2,hsh,_,hI⟩:=hF;obtain rfl:pn=p1:=by omega
   obtain rfl:mn=m1:=by omega
   obtain ⟨_,_,s3,s4⟩:=mchk_shape hm;exact ⟨pn,mn,N,rfl,rfl,rfl,hsh,hI,by omega,by omega,s3,fun r hr=> ⟨by have:=(s4 r hr).1;omega,(s4 r hr).2⟩⟩
end
section
open Go.RowKit
def smK (N q:Nat):Nat→Nat × Nat
 | 0=> (1,1)
 | i + 1=> ((smK N q i).1 * ((N - i) * max 1 (q - 1)),(smK N q i).2 + (smK N q i).1 * ((N - i) * max 1 (q - 1)))
def SmlP (n:Int) (q:Nat):Prop:=(n < 1∨7 < n→n < 1∨64 < n)∧(1≤n→n≤7→∀i,i≤n.toNat→(smK n.toNat q i).2≤3000)
section
variable {p m:Nat} {ml:List Int} {n:Nat} {l1 l2:List (List Int)} {pl sl:List Int}
end
theorem ordS_nat {p m:Nat} {ml:List Int} (h:FSh p m ml):ordS p m=((p ^ m:Nat):Int):=by
 unfold ordS;have h1:((p:Int) ^ (m:Int).toNat)=((p ^ m:Nat):Int):=by simp
 have h2:=h.p2;have h3:=h.m1;have h4:=h.m8;have h5:=h.q;rw [h1,if_pos (by omega)]
end
section
open Go.RowKit
theorem rChk12_any (w:World) (p m:Int) (ml:List Int) (mv:Value) (hmv:ISl w mv ml) (n:Int) (rows:List (List Int)) (v:Value) (hv:MSl w v rows):
  Calls Tryz.prog 40 #[.agg #[.int .i64 p,.int .i64 m,mv,.int .i64 n,v]] w fun r w'=> (∃e:Int,r= .returned (.int .i64 e)∧CodO p m ml n rows e)∧Ex w w':=by
 obtain ⟨a0,a1,a2,a3,a4,ea⟩:=boxC_facts w p m mv n v;have HFC:=hid_ (fun (w':World) (h:Ex w w')=> rCheck_any p m ml mv w' (hmv.ex h));have HSC:=hid_ (fun (w':World) (h:Ex w w')=> rChk10_any p m ml mv w' (hmv.ex h) n rows v (hv.ex h));obtain ⟨za,zc,rfl,-,z2,-⟩:=hv.open;unfold maxLen at z2;obtain ⟨ma,mc,rfl,-,m2,-⟩:=hmv.open;unfold maxLen at m2;have HE:=hid_ ea;obtain ⟨F,hF⟩:∃F,chkS p m ml=F:=⟨_,rfl⟩;have hF1:F=0∨F=1:=by
  rw [←hF];unfold chkS;split <;> omega
 have HCO:=hid_ (show ∀e,((F≠0∧e=1)∨(F=0∧lenE n≠0∧e=lenE n)∨(F=0∧lenE n=0∧SpcO p m ml n rows e))→CodO p m ml n rows e from fun e h=> by unfold CodO;rw [hF];exact h);rw [hF] at HFC;clear hmv hv ea hF;go_enter Tryz.func40,Tryz.ntmps40
 go_wp2_with fail
 obtain ⟨xb,hxb⟩:∃xb,w.heap.size=xb:=⟨_,rfl⟩;rw [hxb] at a0 a1 a2 a3 a4
 try simp only [hxb]
 clear hxb;generalize w.alloc (.cells #[.int .i64 p,.int .i64 m,.slice ma ml.length mc,.int .i64 n,.slice za rows.length zc] 47)=w1 at *;refine (HFC.out w1 HE.out).mono ?_;rintro e w2 ⟨rfl,hx2⟩;have A0:=hid_ (hx2.cell a0);have A1:=hid_ (hx2.cell a1);have A2:=hid_ (hx2.cell a2);have A3:=hid_ (hx2.cell a3);have A4:=hid_ (hx2.cell a4);have HX2:=hid_ (HE.out.trans hx2);clear a0 a1 a2 a3 a4 hx2 HFC HE;rcases hF1 with h1 | h1
 ·subst h1;have a3:=A3.out;by_cases h2:n < 1
  ·have HR:=hid_ (HCO.out 4 (.inr (.inl ⟨rfl,by unfold lenE;rw [if_pos (.inl h2)];decide,by unfold lenE;rw [if_pos (.inl h2)]⟩)));clear HSC HCO;go_wp2_with fail
   go_ret;exact ⟨⟨_,rfl,HR.out⟩,HX2.out⟩
  ·by_cases h3:64 < n
   ·have HR:=hid_ (HCO.out 4 (.inr (.inl ⟨rfl,by unfold lenE;rw [if_pos (.inr h3)];decide,by unfold lenE;rw [if_pos (.inr h3)]⟩)));clear HSC HCO;have b1:decide (n < 1)=false:=by simp;omega
    go_wp2_with fail
    go_ret;exact ⟨⟨_,rfl,HR.out⟩,HX2.out⟩
   ·have HCO2:=hid_ (fun e h=> HCO.out e (.inr (.inr ⟨rfl,by unfold lenE;rw [if_neg (by omega)],h⟩)));have b1:decide (n < 1)=false:=by simp;omega
    have b2:decide (64 < n)=false:=by simp;omega
    have a0:=A0.out;have a1:=A1.out;have a2:=A2.out;have a4:=A4.out;clear HCO;go_wp2_with fail
    refine (HSC.out w2 HX2.out).mono ?_;rintro e w3 ⟨⟨e,rfl,he⟩,hx3⟩;have HR:=hid_ (HCO2.out e he);have HX3:=hid_ (HX2.out.trans hx3);clear he hx3;go_wp2_with fail
    go_ret;exact ⟨⟨_,rfl,HR.out⟩,HX3.out⟩
 ·subst h1;have HR:=hid_ (HCO.out 1 (.inl ⟨by decide,rfl⟩));clear HSC HCO;go_wp2_with fail
  go_ret;exact ⟨⟨_,rfl,HR.out⟩,HX2.out⟩
end
section
open Go.RowKit
def FitO (p m:Int) (ml:List Int) (n:Int) (rows:List (List Int)) (p' m':Int) (ml':List Int) (n':Int) (rows':List (List Int)) (e:Int):Prop:=
 (CodO p m ml n rows e∧e≠0)∨(CodO p m ml n rows 0∧CodO p' m' ml' n' rows' e∧e≠0)∨
 (CodO p m ml n rows 0∧CodO p' m' ml' n' rows' 0∧e=if samF p m ml p' m' ml'=true∧n=n' then 0 else 10)
theorem rFit_any (w:World) (p m:Int) (ml:List Int) (mv:Value) (hmv:ISl w mv ml) (n:Int) (rows:List (List Int)) (v:Value) (hv:MSl w v rows)
  (p' m':Int) (ml':List Int) (mv':Value) (hmv':ISl w mv' ml') (n':Int) (rows':List (List Int)) (v':Value) (hv':MSl w v' rows'):
  Calls Tryz.prog 105 #[.agg #[.int .i64 p,.int .i64 m,mv,.int .i64 n,v],.agg #[.int .i64 p',.int .i64 m',mv',.int .i64 n',v']] w fun r w'=> (∃e:Int,r= .returned (.int .i64 e)∧FitO p m ml n rows p' m' ml' n' rows' e)∧Ex w w':=by
 obtain ⟨a0,a1,a2,a3,a4,ea⟩:=boxC_facts w p m mv n v;have HC1:=hid_ (fun (w':World) (h:Ex w w')=> rChk12_any w' p m ml mv (hmv.ex h) n rows v (hv.ex h));have HC2:=hid_ (fun (w':World) (h:Ex w w')=> rChk12_any w' p' m' ml' mv' (hmv'.ex h) n' rows' v' (hv'.ex h));have HSM:=hid_ (fun (w':World) (h:Ex w w')=> rFSame_any w' p m ml mv (hmv.ex h) p' m' ml' mv' (hmv'.ex h));obtain ⟨za,zc,rfl,-,-,-⟩:=hv.open;obtain ⟨ma,mc,rfl,-,-,-⟩:=hmv.open;obtain ⟨za',zc',rfl,-,-,-⟩:=hv'.open;obtain ⟨ma',mc',rfl,-,-,-⟩:=hmv'.open;have HF0:=hid_ (fun e=> show (FitO p m ml n rows p' m' ml' n' rows' e↔_) from Iff.rfl);obtain ⟨S,hS⟩:∃S,samF p m ml p' m' ml'=S:=⟨_,rfl⟩;have HF:=hid_ (show ∀e,((CodO p m ml n rows e∧e≠0)∨(CodO p m ml n rows 0∧CodO p' m' ml' n' rows' e∧e≠0)∨
  (CodO p m ml n rows 0∧CodO p' m' ml' n' rows' 0∧e=if S=true∧n=n' then 0 else 10))→FitO p m ml n rows p' m' ml' n' rows' e from fun e h=> by unfold FitO;rw [hS];exact h)
 rw [hS] at HSM;clear hmv hv hmv' hv' HF0 hS;obtain ⟨xb,hxb⟩:∃xb,w.heap.size=xb:=⟨_,rfl⟩;have asz:(w.alloc (.cells #[.int .i64 p,.int .i64 m,.slice ma ml.length mc,.int .i64 n,.slice za rows.length zc] 47)).heap.size=xb + 1:=by simp [hxb]
 rw [hxb] at a0 a1 a2 a3 a4;go_enter Tryz.func105,Tryz.ntmps105
 go_wp2_with fail
 try simp only [hxb]
 have HXB:=hid_ hxb;clear hxb;generalize w.alloc (.cells #[.int .i64 p,.int .i64 m,.slice ma ml.length mc,.int .i64 n,.slice za rows.length zc] 47)=wA at *;obtain ⟨b0,b1,b2,b3,b4,eb⟩:=boxC_facts wA p' m' (.slice ma' ml'.length mc') n' (.slice za' rows'.length zc');rw [asz] at b0 b1 b2 b3 b4
 try simp only [asz]
 generalize wA.alloc (.cells #[.int .i64 p',.int .i64 m',.slice ma' ml'.length mc',.int .i64 n',.slice za' rows'.length zc'] 47)=wB at *;have HE:=hid_ (ea.trans eb);have HA:=hid_ (And.intro (eb.cell a0) (And.intro (eb.cell a1) (And.intro (eb.cell a2) (And.intro (eb.cell a3) (eb.cell a4)))));have HB:=hid_ (And.intro b0 (And.intro b1 (And.intro b2 (And.intro b3 b4))));clear a0 a1 a2 a3 a4 b0 b1 b2 b3 b4 ea eb asz;refine (HC1.out wB HE.out).mono ?_;rintro e w2 ⟨⟨e,rfl,he⟩,hx2⟩;have HO1:=hid_ he;have HX2:=hid_ (HE.out.trans hx2);obtain ⟨a0,a1,a2,a3,a4⟩:=HA.out;obtain ⟨b0,b1,b2,b3,b4⟩:=HB.out;have a0:=hx2.cell a0;have a1:=hx2.cell a1;have a2:=hx2.cell a2;have a3:=hx2.cell a3;have a4:=hx2.cell a4;have b0:=hx2.cell b0;have b1:=hx2.cell b1;have b2:=hx2.cell b2;have b3:=hx2.cell b3;have b4:=hx2.cell b4;have HA:=hid_ (And.intro a0 (And.intro a1 (And.intro a2 (And.intro a3 a4))));have HB:=hid_ (And.intro b0 (And.intro b1 (And.intro b2 (And.intro b3 b4))));clear he hx2 HC1 HE;by_cases h1:e=0
 ·subst h1;clear a0 a1 a2 a3 a4;go_wp2_with fail
  refine (HC2.out w2 HX2.out).mono ?_;rintro e w3 ⟨⟨e,rfl,he⟩,hx3⟩;have HO2:=hid_ he;have HX3:=hid_ (HX2.out.trans hx3);obtain ⟨a0,a1,a2,a3,a4⟩:=HA.out;have a0:=hx3.cell a0;have a1:=hx3.cell a1;have a2:=hx3.cell a2;have a3:=hx3.cell a3;have b0:=hx3.cell b0;have b1:=hx3.cell b1;have b2:=hx3.cell b2;have b3:=hx3.cell b3;have HN:=hid_ (And.intro a3 b3);clear he hx3 HC2 b4 a4 HA HB a3 b3;by_cases h2:e=0
  ·subst h2;have HR:=hid_ (fun e he=> HF.out e (.inr (.inr ⟨HO1.out,HO2.out,he⟩)));clear HF HO1 HO2;go_wp2_with fail
   refine (HSM.out w3 HX3.out).mono ?_;rintro e w4 ⟨rfl,hx4⟩;have a3:=hx4.cell HN.out.1;have b3:=hx4.cell HN.out.2;have HX4:=hid_ (HX3.out.trans hx4);clear hx4 HSM;cases S
   ·have HR2:=hid_ (HR.out 10 (by simp));clear HR a0 a1 a2 b0 b1 b2;go_wp2_with fail
    go_ret;exact ⟨⟨_,rfl,HR2.out⟩,HX4.out⟩
   ·by_cases hn:n=n'
    ·have HR2:=hid_ (HR.out 0 (by simp [hn]));subst hn;have kb:(n !=n)=false:=by simp
     clear HR a0 a1 a2 b0 b1 b2;go_wp2_with fail
     go_ret;exact ⟨⟨_,rfl,HR2.out⟩,HX4.out⟩
    ·have HR2:=hid_ (HR.out 10 (by simp [hn]));have kb:(n !=n')=true:=by simpa using hn
     clear HR a0 a1 a2 b0 b1 b2;go_wp2_with fail
     go_ret;exact ⟨⟨_,rfl,HR2.out⟩,HX4.out⟩
  ·have HR:=hid_ (HF.out e (.inr (.inl ⟨HO1.out,HO2.out,h2⟩)));have kb:(e==0)=false:=by simpa using h2
   clear HF HO1 HO2 HSM a0 a1 a2 b0 b1 b2;go_wp2_with fail
   go_ret;exact ⟨⟨_,rfl,HR.out⟩,HX3.out⟩
 ·have HR:=hid_ (HF.out e (.inl ⟨HO1.out,h1⟩));have kb:(e==0)=false:=by simpa using h1
  clear HF HO1 HSM HC2 a0 a1 a2 a3 a4 b0 b1 b2 b3 b4;go_wp2_with fail
  go_ret;exact ⟨⟨_,rfl,HR.out⟩,HX2.out⟩
end
section
open Go.RowKit
section
variable {p m:Nat} {ml:List Int}
theorem unitL_get {i R k:Nat} (hk:k < R):(unitL i R).getD k 0=if k=i then 1 else 0:=by
 unfold unitL;rw [eil_getD hk];by_cases e:k=i
 ·subst e;rw [upd_same,if_pos rfl]
 ·rw [upd_ne _ _ e,if_neg e]
theorem cmbK_unit (hp:2≤p) (hm:1≤m) {R i:Nat} (hi:i < R) (rows:List (List Int)) {N:Nat} (hr:EntR p m N (rowsF rows i)) (j:Nat) (hj:j < N):∀k,k≤R→cmbK p m ml (unitL i R) rows k j=if k≤i then 0 else rowsF rows i j
 | 0,_=> by rw [if_pos (Nat.zero_le _)];rfl
 | k + 1,hk=> by
  have hq0:0 < p ^ m:=Nat.pow_pos (by omega);have ih:=cmbK_unit hp hm hi rows hr j hj k (by omega);obtain ⟨r1,r2⟩:=hr j hj;rw [cmbK_succ hp,unitL_get (by omega)];unfold addF;rw [ih];by_cases e:k=i
  ·subst e;have t1:(if k=k then (1:Int) else 0)=1:=if_pos rfl;have t2:(if k≤k then (0:Int) else rowsF rows k j)=0:=if_pos (Nat.le_refl _);have t3:(if k + 1≤k then (0:Int) else rowsF rows k j)=rowsF rows k j:=if_neg (by omega);rw [t1,t2,t3];split
   ·rename_i h0;rw [h0]
   ·rw [kin_zero,kin_one hp hm,kmul_comm,kmul_one hp hm (kin_lt hq0 _),kadd_comm,kadd_zero (by omega) (kin_lt hq0 _),kin_code r1 r2]
  ·rw [if_neg e];have e2:(if k + 1≤i then (0:Int) else rowsF rows i j)=if k≤i then 0 else rowsF rows i j:=by
    by_cases h:k≤i
    ·rw [if_pos h,if_pos (by omega)]
    ·rw [if_neg h,if_neg (by omega)]
   rw [e2];split
   ·rfl
   ·rw [kin_zero,kmul_zero (by omega)];by_cases h:k≤i
    ·rw [if_pos h,kin_zero,kadd_zero (by omega) hq0];rfl
    ·rw [if_neg h,kadd_zero (by omega) (kin_lt hq0 _),kin_code r1 r2]
variable {l1 l2:List (List Int)} {n:Nat} {tl sc:List Int}
theorem Two.wit_cases (h:Two p m ml n l1 l2) (hr:rngB tl n=true):
  (∃i:Nat,i < l1.length∧witI p m ml l1 l2 tl sc=(0,(i:Int))∧¬Cl p m ml tl.length l2.length (fun i=> seF tl (rowsF l2 i)) (mpF p m ml sc (rowsF l1 i)))∨
  (∃i:Nat,i < l2.length∧witI p m ml l1 l2 tl sc=(1,(i:Int))∧¬Cl p m ml tl.length l1.length (fun i=> mpF p m ml sc (rowsF l1 i)) (seF tl (rowsF l2 i)))∨
  witI p m ml l1 l2 tl sc=(-1,-1):=by
 have key0:=fun j=> (h.spR (tl:=tl) hr).red_iff h.hp h.hm (mpF_rng (m:=m) (ml:=ml) h.hp sc (rowsF l1 j) tl.length);have key1:=fun j (hj:j < l2.length)=> (h.spL (ml:=ml) tl.length sc).red_iff h.hp h.hm (seF_rng (m:=m) hr (rowsF_rng' h.h2 hj));unfold witI;simp only;split
 ·rename_i h0;left;obtain ⟨a1,a2,-⟩:=fstI_at h0;refine ⟨_,a1,congrArg (Prod.mk 0) (Int.toNat_of_nonneg h0).symm,fun hc=> ?_⟩;have:=(key0 _).2 hc;have h3:=of_decide_eq_true a2;exact absurd this (Int.not_lt.2 h3)
 ·split
  ·rename_i h0;right;left;obtain ⟨a1,a2,-⟩:=fstI_at h0;refine ⟨_,a1,congrArg (Prod.mk 1) (Int.toNat_of_nonneg h0).symm,fun hc=> ?_⟩;have:=(key1 _ a1).2 hc;have h3:=of_decide_eq_true a2;exact absurd this (Int.not_lt.2 h3)
  ·exact .inr (.inr rfl)
theorem lis_unit (hf:FSh p m ml) {i R:Nat} (hi:i < R):lisG p m (unitL i R) R=0:=by
 rw [lis_iff hf];rintro (h | h)
 ·unfold unitL at h;rw [il_length] at h;exact h rfl
 ·rw [List.any_eq_true] at h;obtain ⟨x,hx,h⟩:=h;obtain ⟨k,hk,rfl⟩:=List.getElem_of_mem hx;have hk':k < R:=by unfold unitL at hk;rw [il_length] at hk;exact hk
  have e:(unitL i R)[k]=if k=i then 1 else 0:=by
   rw [←unitL_get hk',List.getD_eq_getElem?_getD,List.getElem?_eq_getElem hk];rfl
  rw [e] at h;have hq:(1:Int) < ((p ^ m:Nat):Int):=by exact_mod_cast one_lt_q (m:=m) hf.p2 hf.m1
  have b1:isB (p ^ m) 1=true:=decide_eq_true ⟨by omega,hq⟩;have b0:isB (p ^ m) 0=true:=decide_eq_true ⟨by omega,by omega⟩;split at h
  ·rw [b1] at h;cases h
  ·rw [b0] at h;cases h
theorem Two.wit_shw (h:Two p m ml n l1 l2) (hf:FSh p m ml) (hr:rngB tl n=true) (hw:0≤(witI p m ml l1 l2 tl sc).1):
  ((witI p m ml l1 l2 tl sc).1=0∨(witI p m ml l1 l2 tl sc).1=1)∧shwB p m ml l1 l2 tl sc (witI p m ml l1 l2 tl sc).1 (witL l1.length l2.length (witI p m ml l1 l2 tl sc))=true:=by
 rcases h.wit_cases (sc:=sc) hr with ⟨i,hi,e,hn⟩ | ⟨i,hi,e,hn⟩ | e
 ·rw [e];refine ⟨.inl rfl,?_⟩;rw [show witL l1.length l2.length (0,(i:Int))=unitL i l1.length from rfl];rw [h.shw0 hf hr];refine ⟨lis_unit hf hi,fun hc=> hn ?_⟩;refine (Cl.congr fun j hj=> ?_).1 hc;show ((kmul p m (lw ml) _ (kin (p ^ m) _):Nat):Int)=((kmul p m (lw ml) _ (kin (p ^ m) _):Nat):Int)
  by_cases hjn:j < n
  ·rw [cmbK_unit h.hp h.hm hi l1 (rowsF_rng' h.h1 hi) j hjn _ (Nat.le_refl _),if_neg (by omega)]
  ·have hz:∀k,cmbK p m ml (unitL i l1.length) l1 k j=0:=fun k=> by
    induction k with
    | zero=> rfl
    | succ k ih=>
     rw [cmbK_succ h.hp];unfold addF;have h0:rowsF l1 k j=0:=by
      unfold rowsF;by_cases hk:k < l1.length
      ·have h5:=(h.h1 _ (List.getElem_mem hk)).1;rw [List.getD_eq_getElem?_getD (l:=l1),List.getElem?_eq_getElem hk];show (l1[k]).getD j 0=0
       rw [List.getD_eq_getElem?_getD,List.getElem?_eq_none (by omega)];rfl
      ·rw [List.getD_eq_getElem?_getD (l:=l1),List.getElem?_eq_none (by omega)];rfl
     rw [if_pos h0,ih]
   have h0:rowsF l1 i j=0:=by
    unfold rowsF;have h5:=(h.h1 _ (List.getElem_mem hi)).1;rw [List.getD_eq_getElem?_getD (l:=l1),List.getElem?_eq_getElem hi];show (l1[i]).getD j 0=0
    rw [List.getD_eq_getElem?_getD,List.getElem?_eq_none (by omega)];rfl
   rw [hz,h0]
 ·rw [e];refine ⟨.inr rfl,?_⟩;rw [show witL l1.length l2.length (1,(i:Int))=unitL i l2.length from rfl];rw [h.shw1 hf hr];refine ⟨lis_unit hf hi,fun hc=> hn ?_⟩;refine (Cl.congr fun j hj=> ?_).1 hc;show cmbK p m ml _ l2 _ (tl.getD j 0).toNat=rowsF l2 i (tl.getD j 0).toNat
  have hjn:(tl.getD j 0).toNat < n:=by
   have h5:=List.all_eq_true.1 (show (tl.all fun x=> decide (0≤x∧x < (n:Int)))=true from hr) (tl.getD j 0) (by
    rw [List.getD_eq_getElem?_getD,List.getElem?_eq_getElem hj];exact List.getElem_mem _)
   have h6:=of_decide_eq_true h5;omega
  rw [cmbK_unit h.hp h.hm hi l2 (rowsF_rng' h.h2 hi) _ hjn _ (Nat.le_refl _),if_neg (by omega)]
 ·rw [e] at hw;exact absurd hw (by decide)
theorem rfOf_pre {L L':List Nd} (h:L <+:L'):rfOf L <+:rfOf L':=by
 obtain ⟨M,rfl⟩:=h
 cases L with
 | nil=> exact List.nil_prefix
 | cons x t=> exact ⟨M.map ndR,by simp [rfOf]⟩
theorem pre_get {A B:List Rf} {e:Rf} (h:A ++ [e] <+:B):A.length < B.length∧B.getD A.length dRf=e:=by
 obtain ⟨M,rfl⟩:=h;refine ⟨by simp,?_⟩;rw [List.getD_eq_getElem?_getD,List.append_assoc,List.getElem?_append_right (Nat.le_refl _)];simp
def SrC (p m:Nat) (ml:List Int) (l1 l2:List (List Int)) (n:Nat) (L:List Nd) (R:(Nat × List Nd) × Int) (F:List Rf→Nat × Int):Prop:=
 R.1.1=R.1.2.length∧L <+:R.1.2∧(R.2=0→∀es,rfOf R.1.2 <+:es→F es=(R.1.2.length,0))
theorem src_list {d:Nat} (ih:∀(L:List Nd) (tl sc:List Int),tl.length + d=n→sc.length=tl.length→rngB tl n=true→(L≠ []→tl≠ [])→SrC p m ml l1 l2 n L (srF p m ml l1 l2 n d (L.length,L) tl sc) (fun es=> flF p m ml l1 l2 n es d L.length tl sc)):
  ∀(xs:List (List Int × List Int)) (L:List Nd),L≠ []→(∀x∈xs,x.1.length + d=n∧x.2.length=x.1.length∧rngB x.1 n=true∧x.1≠ [])→SrC p m ml l1 l2 n L (foX (srF p m ml l1 l2 n d) xs (L.length,L)) (fun es=> foX (flF p m ml l1 l2 n es d) xs L.length)
 | [],L,hL,hx=> ⟨rfl,List.prefix_rfl,fun _ es _=> rfl⟩
 | x :: xs,L,hL,hx=> by
  obtain ⟨a1,a2,a3,a4⟩:=hx x List.mem_cons_self;obtain ⟨h1,h2,h3⟩:=ih L x.1 x.2 a1 a2 a3 (fun _=> a4);unfold SrC;rw [foX_cons];by_cases h0:(srF p m ml l1 l2 n d (L.length,L) x.1 x.2).2≠0
  ·rw [if_pos h0];exact ⟨h1,h2,fun h=> absurd h h0⟩
  ·rw [if_neg h0];have h0':=Classical.not_not.1 h0;obtain ⟨s,hs⟩:∃s,(srF p m ml l1 l2 n d (L.length,L) x.1 x.2).1.2=s:=⟨_,rfl⟩;have e:(srF p m ml l1 l2 n d (L.length,L) x.1 x.2).1=(s.length,s):=by rw [←hs,←h1]
   rw [e];rw [hs] at h2 h3;have hne:s≠ []:=fun e0=> by rw [e0] at h2;exact hL (List.prefix_nil.1 h2)
   obtain ⟨b1,b2,b3⟩:=src_list ih xs s hne (fun y hy=> hx y (List.mem_cons_of_mem _ hy));refine ⟨b1,h2.trans b2,fun hz es hes=> ?_⟩;have h5:=h3 h0' es ((rfOf_pre b2).trans hes);simp only at h5 ⊢;rw [foX_cons,h5,if_neg (by simp)];exact b3 hz es hes
theorem Two.src_ok (hT:Two p m ml n l1 l2) (hf:FSh p m ml):∀(d:Nat) (L:List Nd) (tl sc:List Int),tl.length + d=n→sc.length=tl.length→rngB tl n=true→(L≠ []→tl≠ [])→
  SrC p m ml l1 l2 n L (srF p m ml l1 l2 n d (L.length,L) tl sc) (fun es=> flF p m ml l1 l2 n es d L.length tl sc):=by
 intro d
 induction d with
 | zero=>
  intro L tl sc h1 h2 h3 h4;exact body hT hf (d:=0) (X:=(srS p m ml l1 l2 (L.length,L) tl sc,0)) (Y:=fun es=> (L.length + 1,13)) h1 h2 h3 h4 (srF_zero ..) (fun es=> rfl) (fun h=> absurd h (by omega))
 | succ d ih=>
  intro L tl sc h1 h2 h3 h4;exact body hT hf (d:=d + 1) (X:=rnJ (srF p m ml l1 l2 n d) (p ^ m) tl sc n (srS p m ml l1 l2 (L.length,L) tl sc)) (Y:=fun es=> rnJ (flF p m ml l1 l2 n es d) (p ^ m) tl sc n (L.length + 1)) h1 h2 h3 h4 (srF_succ ..) (fun es=> rfl) (fun hlt=> by
   have e:srS p m ml l1 l2 (L.length,L) tl sc=((srS p m ml l1 l2 (L.length,L) tl sc).2.length,(srS p m ml l1 l2 (L.length,L) tl sc).2):=by
    unfold srS;simp
   have hl:(srS p m ml l1 l2 (L.length,L) tl sc).2.length=L.length + 1:=by unfold srS;simp
   rw [rnJ_foX,e];simp only [rnJ_foX];have:=src_list ih (exL (p ^ m) tl sc n) (srS p m ml l1 l2 (L.length,L) tl sc).2 (by unfold srS;simp) (fun x hx=> by
    obtain ⟨q1,q2⟩:=exL_len x hx;refine ⟨by omega,by omega,exL_rng9 h3 x hx,fun h0=> by rw [h0] at q1;simp at q1⟩)
   rw [hl] at this ⊢;exact this)
where
 exL_rng9 {q:Nat} {tl sl:List Int} (h:rngB tl n=true):∀x∈exL q tl sl n,rngB x.1 n=true:=fun x hx=> by
  unfold exL exJ at hx;rw [List.mem_flatMap] at hx;obtain ⟨j,hj,hx⟩:=hx;have hjn:=List.mem_range.1 hj;split at hx
  ·cases hx
  ·rw [List.mem_map] at hx;obtain ⟨c,-,rfl⟩:=hx;unfold rngB at h ⊢;rw [List.all_append,h];simp;omega
 body (hT:Two p m ml n l1 l2) (hf:FSh p m ml) {d:Nat} {L:List Nd} {tl sc:List Int} {X:(Nat × List Nd) × Int} {Y:List Rf→Nat × Int} (h1:tl.length + d=n) (h2:sc.length=tl.length) (h3:rngB tl n=true) (h4:L≠ []→tl≠ [])
   (hS:srF p m ml l1 l2 n d (L.length,L) tl sc=srB p m ml l1 l2 n (L.length,L) tl sc X) (hF:∀es,flF p m ml l1 l2 n es d L.length tl sc=flB p m ml l1 l2 n es L.length tl sc (Y es))
   (hX:0 < d→SrC p m ml l1 l2 n (srS p m ml l1 l2 (L.length,L) tl sc).2 X Y):SrC p m ml l1 l2 n L (srF p m ml l1 l2 n d (L.length,L) tl sc) (fun es=> flF p m ml l1 l2 n es d L.length tl sc):=by
  obtain ⟨x,hx⟩:∃x:Nd,(⟨tl,sc,(witI p m ml l1 l2 tl sc).1,witL l1.length l2.length (witI p m ml l1 l2 tl sc)⟩:Nd)=x:=⟨_,rfl⟩;have hs2:(srS p m ml l1 l2 (L.length,L) tl sc).2=L ++ [x]:=by rw [←hx];rfl
  have hs1:srS p m ml l1 l2 (L.length,L) tl sc=(L.length + 1,L ++ [x]):=by rw [←hx];rfl
  have hent:∀es,rfOf (L ++ [x]) <+:es→L.length < es.length∧(es.getD L.length dRf).tp=lastA L.length tl∧(es.getD L.length dRf).sc=lastA L.length sc∧(es.getD L.length dRf).side=(witI p m ml l1 l2 tl sc).1∧(es.getD L.length dRf).msg=witL l1.length l2.length (witI p m ml l1 l2 tl sc):=fun es hes=> by
   rw [rfOf_snoc] at hes;obtain ⟨g1,g2⟩:=pre_get hes;rw [rfOf_len] at g1 g2;rw [g2];refine ⟨g1,?_⟩;unfold lastA;by_cases hL:L= []
   ·rw [if_pos hL,if_pos (by rw [hL];rfl),if_pos (by rw [hL];rfl),←hx];exact ⟨rfl,rfl,rfl,rfl⟩
   ·have hz:L.length≠0:=fun e=> hL (List.length_eq_zero_iff.1 e);rw [if_neg hL,if_neg hz,if_neg hz,←hx];exact ⟨rfl,rfl,rfl,rfl⟩
  unfold SrC;rw [hS];unfold srB;by_cases g1:(L.length,L).1=65536
  ·rw [if_pos g1];exact ⟨rfl,List.prefix_rfl,fun h=> absurd (show (8:Int)=0 from h) (by decide)⟩
  rw [if_neg g1];by_cases g2:0≤(witI p m ml l1 l2 tl sc).1
  ·rw [if_pos g2,hs1];refine ⟨by simp,List.prefix_append _ _,fun _ es hes=> ?_⟩;obtain ⟨e1,e2,e3,e4,e5⟩:=hent es hes;obtain ⟨w1,w2⟩:=hT.wit_shw (sc:=sc) hf h3 g2;simp only;rw [hF];unfold flB;rw [if_neg (by omega),if_neg (by rw [e2,e3];rintro (h | h) <;> exact h rfl),if_neg (by rw [e4];rintro ⟨h,-⟩;omega),if_pos (by rw [e4,e5];exact ⟨w1,w2⟩)];simp
  rw [if_neg g2];have hm1:witI p m ml l1 l2 tl sc=(-1,-1):=by
   rcases hT.wit_cases (sc:=sc) h3 with ⟨i,_,e,_⟩ | ⟨i,_,e,_⟩ | e
   ·rw [e] at g2;exact absurd (show (0:Int)≤0 by omega) g2
   ·rw [e] at g2;exact absurd (show (0:Int)≤1 by omega) g2
   ·exact e
  by_cases g3:tl.length=n
  ·rw [if_pos g3,hs1];exact ⟨by simp,List.prefix_append _ _,fun h=> absurd (show (18:Int)=0 from h) (by decide)⟩
  rw [if_neg g3];obtain ⟨b1,b2,b3⟩:=hX (by omega);rw [hs2] at b2;refine ⟨b1,(List.prefix_append _ _).trans b2,fun hz es hes=> ?_⟩;obtain ⟨e1,e2,e3,e4,e5⟩:=hent es ((rfOf_pre b2).trans hes);simp only;rw [hF];unfold flB;rw [if_neg (by omega),if_neg (by rw [e2,e3];rintro (h | h) <;> exact h rfl),if_pos (by rw [e4,e5,hm1];exact ⟨rfl,rfl,by omega⟩)];exact b3 hz es hes
end
end
end Go.Proofs.YtgdmlmhpineibaaGreat
