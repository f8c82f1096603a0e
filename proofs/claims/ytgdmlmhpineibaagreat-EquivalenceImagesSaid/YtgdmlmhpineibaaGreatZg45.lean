/- Plain: the rows of a Code value are determined; the examples of chapter 31, computed. -/
import Derived.BigQuiet
import Derived.Lib.SmallJoins
import Derived.Deep.Matrix
import Derived.Deep.Slices
import Derived.OpenShut
import Derived.ProofKit
import Derived.ChangeOld
import Derived.Test.YtgdmlmhpineibaaGreatZg23
import Derived.Test.YtgdmlmhpineibaaGreatZg28
import Derived.Test.YtgdmlmhpineibaaGreatZg32
import Derived.Test.YtgdmlmhpineibaaGreatZg40
import Derived.Test.YtgdmlmhpineibaaGreatZg42
import Derived.Test.YtgdmlmhpineibaaGreatZg44
namespace Go.Proofs.YtgdmlmhpineibaaGreat
set_option linter.unusedVariables false
set_option linter.unusedSimpArgs false
set_option maxRecDepth 100000
set_option maxHeartbeats 4000000
section
open Go.RowKit
theorem elO_uniq {p m:Nat} {ml:List Int} {N R R2:Nat} {a b a1 a2:Nat→Nat→Int} {piv1 piv2:List Nat} (hp:2≤p) (hm:1≤m) (hab:∀x,Sol p m ml N R a x↔Sol p m ml N R2 b x) (h1:ElO p m ml N R a a1 piv1) (h2:ElO p m ml N R2 b a2 piv2):rowsL N piv1.length a1=rowsL N piv2.length a2∧piv1=piv2:=by
 obtain ⟨c1,x1,y1,z1,s1⟩:=h1;obtain ⟨c2,x2,y2,z2,s2⟩:=h2;obtain ⟨e1,e2⟩:=rr_uniq (ml:=ml) hp hm ⟨c1,x1,y1,z1⟩ ⟨c2,x2,y2,z2⟩ fun x=> ((s1 x).trans (hab x)).trans (s2 x).symm;subst e1;refine ⟨List.map_congr_left fun i hi=> List.map_congr_left fun j hj=> e2 i (List.mem_range.1 hi) j (List.mem_range.1 hj),rfl⟩
theorem elO_self {p m:Nat} {ml:List Int} {N R:Nat} {a:Nat→Nat→Int} {piv:List Nat} {c:Nat} (h:PV p m R N a piv c) (hc:c≤N) (hr:piv.length=R):ElO p m ml N R a a piv:=⟨c,hc,h,.inl hr,fun x=> Iff.rfl⟩
theorem codO_uniq {p m n:Int} {ml:List Int} {rows:List (List Int)} {e e':Int} (h:CodO p m ml n rows e) (h':CodO p m ml n rows e'):e=e':=by
 rcases h with ⟨a,rfl⟩ | ⟨a,b,rfl⟩ | ⟨a,b,h⟩ <;> rcases h' with ⟨a',rfl⟩ | ⟨a',b',rfl⟩ | ⟨a',b',h'⟩ <;> first | rfl | contradiction | skip
 rcases h with ⟨c,rfl⟩ | ⟨c,pn,mn,N,piv,a1,rfl,rfl,rfl,hF,_,hE,rfl⟩ <;> rcases h' with ⟨c',rfl⟩ | ⟨c',pn',mn',N',piv',a1',e1,e2,e3,hF',_,hE',rfl⟩ <;> first | rfl | contradiction | skip
 obtain rfl:pn'=pn:=by omega
 obtain rfl:mn'=mn:=by omega
 obtain rfl:N'=N:=by omega
 obtain ⟨p1,m1,e1,e2,hsh,_⟩:=hF;obtain rfl:p1=pn':=by omega
 obtain rfl:m1=mn':=by omega
 rw [(elO_uniq hsh.p2 hsh.m1 (fun _=> Iff.rfl) hE hE').1]
theorem pv_one {p m N q:Nat} {r:List Int} (hq:q < N) (h0:∀j,j < N→0≤r.getD j 0∧r.getD j 0 < ((p ^ m:Nat):Int)) (h1:r.getD q 0=1) (h2:∀k,k < q→r.getD k 0=0):PV p m 1 N (rowsF [r]) [q] (q + 1) where
 le:=by simp
 rng:=fun i hi j hj=> by
  obtain rfl:i=0:=by omega
  exact h0 j hj
 lt:=fun j q' h=> by
  rcases j with _ | j
  ·simp at h;omega
  ·simp at h
 one:=fun j q' h=> by
  rcases j with _ | j
  ·simp at h;subst h;exact h1
  ·simp at h
 zer:=fun j q' i h hi hne=> by
  rcases j with _ | j
  ·omega
  ·simp at h
 tail:=fun i j h hi _=> by simp at h;omega
 lead:=fun j q' k h hk=> by
  rcases j with _ | j
  ·simp at h;subst h;exact h2 k hk
  ·simp at h
 asc:=fun i j q' r' hij h h'=> by
  rcases j with _ | j
  ·omega
  ·simp at h'
theorem il_row {N:Nat} {r:List Int} (h:r.length=N):il N (rowsF [r] 0)=r:=by
 subst h;refine List.ext_getElem? fun j=> ?_;by_cases hj:j < r.length
 ·rw [il_get hj,List.getElem?_eq_getElem hj];show some (r.getD j 0)=_
  rw [List.getD_eq_getElem?_getD,List.getElem?_eq_getElem hj];rfl
 ·rw [List.getElem?_eq_none (by rw [il_len];omega),List.getElem?_eq_none (by omega)]
theorem codO_one {p m N q:Nat} {ml:List Int} {r:List Int} {e:Int} (hF:FldB p m ml) (hc:canE p m ml N [r]=0) (hl:lenE N=0) (hk:mchkS (p ^ m) N [r]=0) (hr:r.length=N) (hv:PV p m 1 N (rowsF [r]) [q] (q + 1)) (hq:q < N) (h:CodO p m ml N [r] e):e=0:=by
 have hck:chkS p m ml=0:=by
  apply Classical.byContradiction;intro h;unfold canE at hc;rw [if_pos h] at hc;cases hc
 refine codO_uniq h (.inr (.inr ⟨hck,hl,.inr ⟨hc,p,m,N, [q],rowsF [r],rfl,rfl,rfl,hF,hk,elO_self hv (by omega) rfl,?_⟩⟩));rw [if_pos];show [il N (rowsF [r] 0)]= [r]
 rw [il_row hr]
def eC:CdV:=⟨2,1, [],3, [[1,1,0]]⟩
def eD:CdV:=⟨2,1, [],3, [[0,1,1]]⟩
theorem e21:FldB 2 1 []:=⟨2,1,rfl,rfl,⟨by omega,by omega,by omega,by decide,rfl,by intro x hx;cases hx⟩,by decide,(field_iff (p:=2) (m:=1) (ml:= []) ⟨by omega,by omega,by omega,by decide,rfl,by intro x hx;cases hx⟩ (by decide)).2 (.inl rfl)⟩
theorem eC_pv:PV 2 1 1 3 (rowsF [[1,1,0]]) [0] 1:=pv_one (by omega) (by decide) rfl (by decide)
theorem eD_pv:PV 2 1 1 3 (rowsF [[0,1,1]]) [1] 2:=pv_one (by omega) (by decide) rfl (by decide)
theorem eC_cod {e:Int} (h:CodO 2 1 [] 3 [[1,1,0]] e):e=0:=codO_one (p:=2) (m:=1) (N:=3) e21 (by decide +kernel) (by decide +kernel) (by decide +kernel) rfl eC_pv (by omega) h
theorem eD_cod {e:Int} (h:CodO 2 1 [] 3 [[0,1,1]] e):e=0:=codO_one (p:=2) (m:=1) (N:=3) e21 (by decide +kernel) (by decide +kernel) (by decide +kernel) rfl eD_pv (by omega) h
def rfT (x:Rf):Int × Int × Int × List Int:=(x.tp,x.sc,x.side,x.msg)
theorem rfT_inj {l l':List Rf} (h:l.map rfT=l'.map rfT):l=l':=by
 induction l generalizing l' with
 | nil=> cases l' with
  | nil=> rfl
  | cons y t=> simp at h
 | cons x s ih=> cases l' with
  | nil=> simp at h
  | cons y t=>
   rw [List.map_cons,List.map_cons] at h;injection h with h1 h2;rw [ih h2];cases x;cases y
   simp only [rfT,Prod.mk.injEq] at h1;obtain ⟨rfl,rfl,rfl,rfl⟩:=h1;rfl
theorem e_st0:stE 0 0 (samF eC.p eC.m eC.ml eD.p eD.m eD.ml) eC.n eD.n [] [] (eC.p.toNat ^ eC.m.toNat)=0:=by decide +kernel
theorem e_st1:stE 0 0 (samF eC.p eC.m eC.ml eD.p eD.m eD.ml) eC.n eD.n [0] [1] (eC.p.toNat ^ eC.m.toNat)=0:=by decide +kernel
theorem e_st2:stE 0 0 (samF eC.p eC.m eC.ml eC.p eC.m eC.ml) eC.n eC.n [0] [1] (eC.p.toNat ^ eC.m.toNat)=0:=by decide +kernel
theorem e_find:fndE 0 (fndS eC eD [] [])=0∧(fndM 0 (fndS eC eD [] [])).perm= [1,2,0]∧(fndM 0 (fndS eC eD [] [])).scale= [1,1,1]∧(fndM 0 (fndS eC eD [] [])).frob=0:=by decide +kernel
theorem e_find1:fndE 0 (fndS eC eD [0] [1])=11:=by decide +kernel
theorem e_ref:rftE 0 (fndS eC eD [0] [1])=0:=by decide +kernel
theorem e_refL:rftL 0 (fndS eC eD [0] [1])= [⟨0,0,0, [1]⟩]:=rfT_inj (by decide +kernel)
theorem e_ref1:rftE 0 (fndS eC eD [] [])=11:=by decide +kernel
theorem e_wrd:wrdE 3 1 [] [1,0] [2,1] 0 [1,2]=0∧wrdL 3 1 [] [1,0] [2,1] 0 [1,2]= [2,2]:=by decide +kernel
theorem e_inv:monS 3 1 [] 2 [1,0] [2,1] 0=0∧(invM 3 1 [] [1,0] [2,1] 0).perm= [1,0]∧(invM 3 1 [] [1,0] [2,1] 0).scale= [1,2]∧(invM 3 1 [] [1,0] [2,1] 0).frob=0:=by decide +kernel
theorem e_cmp:cmpE 3 1 [] [1,0] [2,1] 0 [1,0] [1,2] 0=0∧(cmpM 3 1 [] [1,0] [2,1] 0 [1,0] [1,2] 0).perm= [0,1]∧(cmpM 3 1 [] [1,0] [2,1] 0 [1,0] [1,2] 0).scale= [1,1]∧(cmpM 3 1 [] [1,0] [2,1] 0 [1,0] [1,2] 0).frob=0:=by decide +kernel
theorem e_app:monS 2 1 [] 3 [1,2,0] [1,1,1] 0=0∧imA 2 1 [] [1,2,0] [1,1,1] 0 3 [[1,1,0]]= [[0,1,1]]:=by decide +kernel
theorem e_chk:ckE 0 (flS eC eD [⟨0,0,0, [1]⟩] [0] [1]) [⟨0,0,0, [1]⟩]=0:=by decide +kernel
theorem e_chk1:ckE 0 (flS eC eC [⟨0,0,0, [1]⟩] [0] [1]) [⟨0,0,0, [1]⟩]=13:=by decide +kernel
end
section
open Go.RowKit
theorem SameMap_any (w:World) (pl sl ql tl:List Int) (pv sv qv tv:Value) (hp:ISl w pv pl) (hs:ISl w sv sl) (hq:ISl w qv ql) (ht:ISl w tv tl) (fr fs:Int):
  Calls Tryz.prog 20 #[.agg #[pv,sv,.int .i64 fr],.agg #[qv,tv,.int .i64 fs]] w fun r w'=> r= .returned (.bool (decide (fr=fs∧pl=ql∧sl=tl)))∧Ex w w':=by
 obtain ⟨a0,a1,a2,ea⟩:=boxMo_facts w pv sv fr;obtain ⟨b0,b1,b2,eb⟩:=boxMo_facts (w.alloc (.cells #[pv,sv,.int .i64 fr] 26)) qv tv fs;have asz:(w.alloc (.cells #[pv,sv,.int .i64 fr] 26)).heap.size=w.heap.size + 1:=by simp
 rw [asz] at b0 b1 b2;replace a0:=eb.cell a0;replace a1:=eb.cell a1;replace a2:=eb.cell a2;have HX:=hid_ (ea.trans eb);have HP:=hid_ hp;have HS:=hid_ hs;have HQ:=hid_ hq;have HT:=hid_ ht;obtain ⟨pa,pc,rfl,-,q1,-⟩:=hp.open;obtain ⟨sa,sc,rfl,-,q2,-⟩:=hs.open;obtain ⟨qa,qc,rfl,-,q3,-⟩:=hq.open;obtain ⟨ta,tc,rfl,-,q4,-⟩:=ht.open;unfold maxLen at q1 q2 q3 q4;obtain ⟨B,hB⟩:∃B,w.heap.size=B:=⟨_,rfl⟩;rw [hB] at a0 a1 a2 b0 b1 b2;clear hp hs hq ht ea eb asz;go_enter Tryz.func20,Tryz.ntmps20
 go_upto_region 1 with fail
 try simp only [hB]
 clear hB;generalize (w.alloc (.cells #[.slice pa pl.length pc,.slice sa sl.length sc,.int .i64 fr] 26)).alloc (.cells #[.slice qa ql.length qc,.slice ta tl.length tc,.int .i64 fs] 26)=w1 at *;have HALL:=hid_ (fun w' (h:Ex w1 w')=> (⟨h.cell a0,h.cell a1,h.cell b0,h.cell b1⟩:_∧_∧_∧_));have HPQ:=hid_ (SameInts_any w1 pl ql _ _ (HP.out.ex HX.out) (HQ.out.ex HX.out));have HST:=hid_ (fun (w2:World) (h:Ex w1 w2)=> SameInts_any w2 sl tl _ _ (HS.out.ex (HX.out.trans h)) (HT.out.ex (HX.out.trans h)));by_cases h1:fr=fs
 ·have k1:(fr==fs)=true:=by simpa using h1
  by_cases h2:pl=ql
  ·have HPQ2:=hid_ HPQ.out;rw [show decide (pl=ql)=true from by simpa using h2] at HPQ2;have H12:=hid_ (And.intro h1 h2);clear h1 h2 HPQ;go_wp2_with fail
   refine HPQ2.out.mono ?_;rintro e w2 ⟨rfl,n2,rfl⟩;have HX2:=hid_ ((Ex.refl w1).drewN n2);clear a0 a1 b0 b1;obtain ⟨a0,a1,b0,b1⟩:=HALL.out _ HX2.out;have HST2:=hid_ (HST.out _ HX2.out);obtain ⟨D,hD⟩:∃D,decide (sl=tl)=D:=⟨_,rfl⟩;rw [hD] at HST2;have HD:=hid_ hD;clear hD;go_wp2_with fail
   refine HST2.out.mono ?_;rintro e w3 ⟨rfl,n3,rfl⟩;have HX3:=hid_ ((Ex.refl w1).drewN (n2 + n3));go_wp2_with fail
   go_ret;refine ⟨?_,HX.out.trans HX3.out⟩;have:=HD.out;have:=H12.out.1;have:=H12.out.2
   simp_all
  ·have HPQ2:=hid_ HPQ.out;rw [show decide (pl=ql)=false from by simpa using h2] at HPQ2;have H2:=hid_ h2;clear h2 HPQ;go_wp2_with fail
   refine HPQ2.out.mono ?_;rintro e w2 ⟨rfl,n2,rfl⟩;have HX2:=hid_ ((Ex.refl w1).drewN n2);go_wp2_with fail
   go_ret;refine ⟨?_,HX.out.trans HX2.out⟩;have:=H2.out
   simp_all
 ·have k1:(fr==fs)=false:=by simpa using h1
  have H1:=hid_ h1;clear h1;go_wp2_with fail
  go_ret;refine ⟨?_,HX.out⟩;have:=H1.out
  simp_all
end
section
open Go.RowKit
theorem rFSame_any (w:World) (p m:Int) (ml:List Int) (mv:Value) (hmv:ISl w mv ml) (p' m':Int) (ml':List Int) (mv':Value) (hmv':ISl w mv' ml'):
  Calls Tryz.prog 76 #[.agg #[.int .i64 p,.int .i64 m,mv],.agg #[.int .i64 p',.int .i64 m',mv']] w fun r w'=> r= .returned (.bool (samF p m ml p' m' ml'))∧Ex w w':=by
 obtain ⟨a0,a1,a2,ea,-⟩:=box_facts w p m mv;obtain ⟨b0,b1,b2,eb,-⟩:=box_facts (w.alloc (.cells #[.int .i64 p,.int .i64 m,mv] 24)) p' m' mv';replace a0:=eb.cell a0;replace a1:=eb.cell a1;replace a2:=eb.cell a2;have hsz:(w.alloc (.cells #[.int .i64 p,.int .i64 m,mv] 24)).heap.size=w.heap.size + 1:=by simp
 rw [hsz] at b0 b1 b2;have HE:=hid_ (ea.trans eb);obtain ⟨ma,mc,rfl,m1',m2,m3⟩:=hmv.open;obtain ⟨na,nc,rfl,-,n2,n3⟩:=hmv'.open;unfold maxLen at m2 n2;obtain ⟨R,hR⟩:∃R,samF p m ml p' m' ml'=R:=⟨_,rfl⟩;rw [hR];have M3:=hid_ m3;have N3:=hid_ n3;have HR:=hid_ hR;clear hmv hmv' hsz ea eb m3 n3 hR;go_enter Tryz.func76,Tryz.ntmps76
 by_cases h1:p=p'
 ·have b1':(p !=p')=false:=by simpa using h1
  by_cases h2:m=m'
  ·have b2':(m !=m')=false:=by simpa using h2
   by_cases h3:ml.length=ml'.length
   ·have b3:((ml.length:Int) !=(ml'.length:Int))=false:=by simp;omega
    subst h1;subst h2;have hn:∃n,ml.length=n:=⟨_,rfl⟩;have HRB:=hid_ (show R=true↔ml=ml' from by rw [←HR.out,samF_iff];simp);have H3:=hid_ h3;rw [←h3] at a0 a1 a2 b0 b1 b2 HE ⊢;clear h3 b3 hn;go_wp2_with fail
    generalize (w.alloc (.cells #[.int .i64 p,.int .i64 m,.slice ma ml.length mc] 24)).alloc (.cells #[.int .i64 p,.int .i64 m,.slice na ml.length nc] 24)=w1 at *;have A2:=hid_ a2;have B2:=hid_ b2
    go_loopw [5] (fun i' wr=> ∃(i:Nat),i≤ml.length∧i'= .int .i64 i∧(∀j,j < i→ml.getD j 0=ml'.getD j 0)∧Hid (Ex w1 wr)) (fun i' _=> ml.length - (intOf i').toNat)
    case atStart=> exact ⟨0,by omega,rfl,fun j hj=> by omega,hid_ (Ex.refl _)⟩
    case round=>
     obtain ⟨i,hi,rfl,hall,hex⟩:=hrel;have HAL:=hid_ hall;clear hall a0 a1 b0 b1;by_cases hin:i < ml.length
     ·obtain ⟨mb,mo,rfl,hmc⟩:=M3.out (by omega);obtain ⟨nb,no,rfl,hnc⟩:=N3.out (by have:=H3.out;omega);have c1:=hex.out.cell (HE.out.cell (hmc i _ (show ml[i]?=some (ml.getD i 0) from by rw [List.getD_eq_getElem?_getD,List.getElem?_eq_getElem hin];rfl)));have c2:=hex.out.cell (HE.out.cell (hnc i _ (show ml'[i]?=some (ml'.getD i 0) from by rw [List.getD_eq_getElem?_getD,List.getElem?_eq_getElem (by have:=H3.out;omega)];rfl)));have f2:=hex.out.cell A2.out;have g2:=hex.out.cell B2.out;have j1:(0:Int)≤(i:Int):=by omega
      have j2:(i:Int) < (ml.length:Int):=by omega
      have hmm:m2=m2:=rfl;obtain ⟨x,hx⟩:∃x,ml.getD i 0=x:=⟨_,rfl⟩;obtain ⟨y,hy⟩:∃y,ml'.getD i 0=y:=⟨_,rfl⟩;rw [hx] at c1;rw [hy] at c2;have HXY:=hid_ (show x=ml.getD i 0∧y=ml'.getD i 0 from ⟨hx.symm,hy.symm⟩);clear hx hy hmc hnc a2 b2 hmm;by_cases hxy:x=y
      ·have HA2:=hid_ (show ∀j,j < i + 1→ml.getD j 0=ml'.getD j 0 from fun j hj=> by
        by_cases e:j=i
        ·subst e;rw [←HXY.out.1,←HXY.out.2,hxy]
        ·exact HAL.out j (by omega))
       have bb:(x !=y)=false:=by simp [hxy]
       have hyx:y=x:=hxy.symm;subst hyx;clear hxy;go_upto_region 6 with fail
       go_quiet (fail)
       go_wp2_with fail
       go_roundw
       case rel=> exact ⟨i + 1,by omega,by go_num,HA2.out,hid_ (hex.out.drewN _)⟩
       case measure=> simp [intOf];omega
      ·have bb:(x !=y)=true:=by simpa using hxy
       have hr:R=false:=Bool.eq_false_iff.2 fun h=> hxy (by rw [HXY.out.1,HXY.out.2,HRB.out.1 h]);subst hr;have hyx:¬y=x:=fun h=> hxy h.symm;go_upto_region 6 with fail
       go_quiet (fail)
       go_wp2_with fail
       go_ret;exact ⟨rfl,HE.out.trans (hex.out.drewN _)⟩
     ·obtain rfl:i=ml.length:=by omega
      have f2:=hex.out.cell A2.out;have hr:R=true:=HRB.out.2 (List.ext_getElem? fun j=> by
       by_cases hj:j < ml.length
       ·have:=HAL.out j hj;rw [List.getElem?_eq_getElem hj,List.getElem?_eq_getElem (by have:=H3.out;omega)];rw [List.getD_eq_getElem?_getD,List.getElem?_eq_getElem hj,List.getD_eq_getElem?_getD,List.getElem?_eq_getElem (by have:=H3.out;omega)] at this;simpa using this
       ·rw [List.getElem?_eq_none (by omega),List.getElem?_eq_none (by have:=H3.out;omega)])
      subst hr;go_wp2_with fail
      go_ret;exact ⟨rfl,HE.out.trans hex.out⟩
   ·have b3:((ml.length:Int) !=(ml'.length:Int))=true:=by simp;omega
    have hr:R=false:=by
     rw [←HR.out];exact Bool.eq_false_iff.2 fun h=> h3 (by rw [(samF_iff.1 h).2.2])
    subst hr;have h3':¬((ml.length:Int)=(ml'.length:Int)):=by omega
    clear h3 h1 h2;go_wp2_with fail
    go_ret;exact ⟨rfl,HE.out⟩
  ·have b2':(m !=m')=true:=by simpa using h2
   have hr:R=false:=by
    rw [←HR.out];exact Bool.eq_false_iff.2 fun h=> h2 (samF_iff.1 h).2.1
   subst hr;clear h1 h2;go_wp2_with fail
   go_ret;exact ⟨rfl,HE.out⟩
 ·have b1':(p !=p')=true:=by simpa using h1
  have hr:R=false:=by
   rw [←HR.out];exact Bool.eq_false_iff.2 fun h=> h1 (samF_iff.1 h).1
  subst hr;clear h1;go_wp2_with fail
  go_ret;exact ⟨rfl,HE.out⟩
end
section
open Go.RowKit
def MakO (p m:Nat) (ml:List Int) (N:Nat) (rows:List (List Int)) (b0:Nat) (r:Ending) (w':World):Prop:=
 ∃(piv:List Nat) (a':Nat→Nat→Int) (rv v':Value),r= .returned (.agg #[.int .i64 p,.int .i64 m,v',.int .i64 N,rv])∧ElO p m ml N rows.length (rowsF rows) a' piv∧ISl w' v' ml∧(∀B,v'.ownBlock=some B→b0≤B)∧MSlF b0 w' rv (rowsL N piv.length a')
theorem MSlF.set5 {b0:Nat} {w:World} {v:Value} {rows:List (List Int)} (h:MSlF b0 w v rows) {q:Nat} (hq:q < b0) (a b c d e:Value):MSlF b0 (set5 w q a b c d e) v rows:=
 ((((h.low (A:=⟨q,0,none⟩) hq a).low (A:=⟨q,1,none⟩) hq b).low (A:=⟨q,2,none⟩) hq c).low (A:=⟨q,3,none⟩) hq d).low (A:=⟨q,4,none⟩) hq e
theorem rMake_any {p m:Nat} {ml:List Int} {mv:Value} (w:World) (hf:FSh p m ml) (hF:IsF p m (lw ml)) (hmv:ISl w mv ml) (N:Nat) (hN:N≤256) (rows:List (List Int)) (hR:rows.length≤256) (hrows:∀r∈rows,r.length=N∧entS (p ^ m) r=0) (v:Value) (hv:MSl w v rows):
  Calls Tryz.prog 82 #[.agg #[.int .i64 p,.int .i64 m,mv],v,.int .i64 N] w fun r w'=> MakO p m ml N rows w.heap.size r w'∧Ex w w':=by
 obtain ⟨g0,g1,g2,e0,gsz⟩:=box_facts w p m mv;have hln:ml.length≤1000:=by have h:=hf.len;have h8:=hf.m8;rw [h];split <;> omega
 have HCN:=hid_ (fun (w':World) (h:Ex w w')=> rCanonF_any w' hf hF (hmv.ex h) N rows.length hN hR (rowsF rows) (rowsF_rng hrows) v (by rw [rowsL_rowsF fun r hr=> (hrows r hr).1];exact hv.ex h));have HFD:=hid_ (fun (w':World) (h:Ex w w')=> rField12_any w' p m ml mv (hmv.ex h) hln);obtain ⟨za,zc,rfl,-,z2,-⟩:=hv.open;unfold maxLen at z2;obtain ⟨ma,mc,rfl,-,m2,-⟩:=hmv.open;unfold maxLen at m2;obtain ⟨xb,hxb⟩:∃xb,w.heap.size=xb:=⟨_,rfl⟩;rw [hxb] at g0 g1 g2 gsz;clear hmv hv hf hF hrows;go_enter Tryz.func82,Tryz.ntmps82
 go_wp2_with fail
 generalize w.alloc (.cells #[.int .i64 p,.int .i64 m,.slice ma ml.length mc] 24)=wA at *;have bq:=BxC.new wA;rw [gsz] at bq;have eb:Ex wA _:=(Ex.refl wA).alloc (.cells #[.int .i64 0,.int .i64 0,.slice none 0 0,.int .i64 0,.slice none 0 0] 47);have G0:=hid_ (eb.cell g0);have G1:=hid_ (eb.cell g1);have G2:=hid_ (eb.cell g2);have BQ:=hid_ bq;have HE:=hid_ (e0.trans eb);have csz:(wA.alloc (.cells #[.int .i64 0,.int .i64 0,.slice none 0 0,.int .i64 0,.slice none 0 0] 47)).heap.size=xb + 1 + 1:=by simp [gsz]
 generalize wA.alloc (.cells #[.int .i64 0,.int .i64 0,.slice none 0 0,.int .i64 0,.slice none 0 0] 47)=wC at *;have CSZ:=hid_ csz;have HXB:=hid_ hxb;refine (HCN.out wC HE.out).mono ?_;clear g0 g1 g2 bq e0 eb gsz csz hxb;rintro e w2 ⟨piv,pv,rv,a',rfl,hel,hms,hpv,hx2,hmf⟩;have HX2:=hid_ (HE.out.trans hx2);have HC2:=hid_ hx2;have BQ2:=hid_ (BQ.out.ex hx2);have HEL:=hid_ hel;have HMF:=hid_ hmf;have g0:=hx2.cell G0.out;have g1:=hx2.cell G1.out;have g2:=hx2.cell G2.out;obtain ⟨ra,rc,rfl,-,-,-⟩:=hms.open;obtain ⟨pa,pc,rfl,-,-,-⟩:=hpv.open;obtain ⟨L,hL⟩:∃L,rowsL N piv.length a'=L:=⟨_,rfl⟩;rw [hL] at HMF ⊢;have HLE:=hid_ hL;clear hx2 hel hms hpv hmf BQ HE HCN hL;go_wp2_with fail
 refine (HFD.out _ HX2.out).mono ?_;rintro e w3 ⟨⟨v',rfl,hv',hb'⟩,hx3⟩;obtain ⟨va,vc,rfl,-,-,-⟩:=hv'.open;have HX3:=hid_ (HX2.out.trans hx3);have HVV:=hid_ hv';have hw:=HXB.out;have hc:=CSZ.out;have hs2:=HC2.out.size;have HBV:=hid_ (show ∀B,(Value.slice va ml.length vc).ownBlock=some B→wC.heap.size≤B from fun B h=> by have:=hb' B h;omega);have HM3:=hid_ (HMF.out.ex hx3);obtain ⟨q0,q1,q2,q3,q4,qf0,qf1,qf2,qf3,qf4⟩:=BQ2.out.ex hx3;clear hx3 hv' hb' hs2 g0 g1 g2;go_wp2_with fail
 exact bodyPost_ret (v:= .agg #[.int .i64 p,.int .i64 m,.slice va ml.length vc,.int .i64 N,.slice ra L.length rc]) (by simp [results,Tryz.results82,go_sem,q0,q1,q2,q3,q4]) rfl ⟨⟨piv,a',_,_,rfl,HEL.out,set5_isl HVV.out (fun B h=> by have:=HBV.out B h;omega) _ _ _ _ _,fun B h=> by have:=HBV.out B h;omega,by rw [HLE.out];exact (HM3.out.set5 (by omega) _ _ _ _ _).mono (by omega)⟩,set5_ex HX3.out (by omega) _ _ _ _ _⟩
end
section
open Go.RowKit Go.ChangeShapes Go.WideShapes Go.ChangeAt
section
variable {H:Type} {enc:TypeId × Value→H} {W:World} {held:Bool}
theorem spot_none {x:Addr} {w:World} {u:Value} (h:w.cell? x=some u) (hu:(∃k n,u= .int k n)∨∃a l c,u= .slice a l c):x=⟨x.block,x.off,none⟩:=by
 have hs:x.spot=none:=by
  rcases hs:x.spot with _ | s
  ·rfl
  ·exfalso;simp only [World.cell?,hs] at h;split at h
   ·rcases hu with ⟨k,n,rfl⟩ | ⟨a,l,c,rfl⟩ <;> simp at h
   ·simp at h
 cases x;simp_all
theorem add_off (b o j:Nat):(⟨b,o,none⟩:Addr).add j=⟨b,o + j,none⟩:=by unfold Addr.add;split <;> simp_all
theorem isl_cells {w:World} {a:Option Addr} {len cap:Nat} {zs:List Int} (h1:len≤cap) (h2:cap≤maxLen) (h3:zs.length=cap) (h4:a=none→cap=0) (h5:∀x,a=some x→∀i,i < cap→w.cell? (x.add i)=some (.int .i64 (zs.getD i 0))):
  ISl w (.slice a len cap) (zs.take len):=by
 have hl:(zs.take len).length=len:=by rw [List.length_take];omega
 unfold ISl;rw [hl];refine ⟨by rw [ints_length];omega,a,cap,rfl,h1,h2,fun hn=> ?_⟩;rcases a with _ | x
 ·have:=h4 rfl;omega
 ·have h0:=h5 x rfl 0 (by omega);have hx:=spot_none h0 (.inl ⟨_,_,rfl⟩);have hx0:(x.add 0)=x:=by simp [Addr.add]
  rw [hx0] at hx;refine ⟨x.block,x.off,congrArg some hx,fun j u hu=> ?_⟩;simp only [ints,List.getElem?_map,List.getElem?_take] at hu;split at hu
  ·have h6:=h5 x rfl j (by omega);rw [hx,add_off] at h6;rw [h6];obtain ⟨y,hy,rfl⟩:=Option.map_eq_some_iff.1 hu;rw [List.getD_eq_getElem?_getD,hy];rfl
  ·cases hu
theorem isl_trod {fuel:Nat} {v:Value} {y:DataW H × List MemPlace} (h:DataW.trod enc Tryz.prog W 0 (fun _=> true) held fuel 22 [v]=some y):∃l,ISl W v l:=by
 rcases open_ints Tryz.underlying22 Tryz.underlying3 (by kernel_rfl) h with ⟨hcs,_⟩ | ⟨x,l,c,zs,hcs,_,hl,hm,hz,_,hcell,hwz⟩
 ·simp at hcs;subst hcs;exact ⟨[],Sl.nil W 1⟩
 ·simp at hcs;subst hcs;simp only [if_true] at hz;exact ⟨_,isl_cells hl hm hz (fun h=> by cases h) (fun x' hx i hi=> by injection hx with hx;subst hx;exact hcell i (by omega))⟩
theorem msl_trod {fuel:Nat} {v:Value} {y:DataW H × List MemPlace} (h:DataW.trod enc Tryz.prog W 0 (fun _=> true) held fuel 45 [v]=some y):∃rows,MSl W v rows:=by
 rcases Go.Deep.open_int_rows Tryz.underlying45 Tryz.underlying22 Tryz.underlying3 (by kernel_rfl) (by kernel_rfl) h with ⟨hcs,_⟩ | ⟨x,len,cap,A,L,C,Z,hcs,_,hl,hm,_,hr⟩
 ·simp at hcs;subst hcs;exact ⟨[], [],Sl.nil W 1,fun i r u hr=> by simp at hr⟩
 ·simp at hcs;subst hcs;refine ⟨(List.range len).map fun r=> (Z r).take (L r),(List.range len).map fun r=> .slice (A r) (L r) (C r),?_,fun i r u h1 h2=> ?_⟩
  ·refine ⟨by simp,some x,cap,by simp,by simpa using hl,hm,fun hn=> ?_⟩;simp at hn;have h0:=(hr 0 (by omega)).1;have hx:=spot_none h0 (.inr ⟨_,_,_,rfl⟩);have hx0:(x.add 0)=x:=by simp [Addr.add]
   rw [hx0] at hx;refine ⟨x.block,x.off,congrArg some hx,fun j u hu=> ?_⟩;simp only [List.getElem?_map] at hu;obtain ⟨k,hk,rfl⟩:=Option.map_eq_some_iff.1 hu;have hj:j < len:=by have:=(List.getElem?_eq_some_iff.1 hk).1;simpa using this
   have e:k=j:=by simp [hj] at hk;exact hk.symm
   subst e;have:=(hr k (by omega)).1;rw [hx,add_off] at this;exact this
  ·have hi:i < len:=by have:=(List.getElem?_eq_some_iff.1 h1).1;simpa using this
   simp [hi] at h1 h2;subst h1 h2;obtain ⟨_,a1,a2,a3,_,a4,a5⟩:=hr i (by omega);exact isl_cells a1 a2 a3 a4 (fun x' hx j hj=> (a5 x' hx).2 j hj)
theorem c_int:Tryz.prog.cellsOf 3=1:=by kernel_rfl
theorem c_ints:Tryz.prog.cellsOf 22=1:=by kernel_rfl
theorem c_rows:Tryz.prog.cellsOf 45=1:=by kernel_rfl
theorem c_fld:Tryz.prog.cellsOf 24=3:=by kernel_rfl
theorem c_mon:Tryz.prog.cellsOf 26=3:=by kernel_rfl
theorem fld_cells {fuel:Nat} {c0 c1 c2:Value} {y:DataW H × List MemPlace} (h:DataW.trod enc Tryz.prog W 0 (fun _=> true) held fuel 24 [c0,c1,c2]=some y):
  ∃(P M:Int) (ml:List Int),c0= .int .i64 P∧c1= .int .i64 M∧ISl W c2 ml:=by
 obtain ⟨xs,k,_,_,_,hxl,hf⟩:=DataW.trod_struct Tryz.underlying24 h;have g0:=hf 0 _ rfl;have g1:=hf 1 _ rfl;have g2:=hf 2 _ rfl
 match xs,hxl with
 | [y0,y1,y2],_=>
  simp [c_int,c_ints] at g0 g1 g2;obtain ⟨P,e0,_,_⟩:=DataW.trod_int Tryz.underlying3 g0;obtain ⟨M,e1,_,_⟩:=DataW.trod_int Tryz.underlying3 g1;obtain ⟨l,hl⟩:=isl_trod g2;simp at e0 e1;exact ⟨P,M,l,e0,e1,hl⟩
theorem mon_cells {fuel:Nat} {c0 c1 c2:Value} {y:DataW H × List MemPlace} (h:DataW.trod enc Tryz.prog W 0 (fun _=> true) held fuel 26 [c0,c1,c2]=some y):
  ∃(pl sl:List Int) (fr:Int),ISl W c0 pl∧ISl W c1 sl∧c2= .int .i64 fr:=by
 obtain ⟨xs,k,_,_,_,hxl,hf⟩:=DataW.trod_struct Tryz.underlying26 h;have g0:=hf 0 _ rfl;have g1:=hf 1 _ rfl;have g2:=hf 2 _ rfl
 match xs,hxl with
 | [y0,y1,y2],_=>
  simp [c_int,c_ints] at g0 g1 g2;obtain ⟨P,e0,_,_⟩:=DataW.trod_int Tryz.underlying3 g2;obtain ⟨l,hl⟩:=isl_trod g0;obtain ⟨l',hl'⟩:=isl_trod g1;simp at e0;exact ⟨l,l',P,hl,hl',e0⟩
theorem okWide_agg {r:Reach} {b0:Nat} {t:TypeId} {fs:Array Field} {v:Value} (ht:Tryz.prog.underlying t=some (.struct fs)) (h:Value.okWide Tryz.prog W r b0 t v):∃cs,v= .agg cs∧cs.size=Tryz.prog.cellsOf t:=by
 simp only [Value.okWide,ht] at h;obtain ⟨cs,h1,h2,_⟩:=h;exact ⟨cs,h1,h2⟩
theorem okWide_array {r:Reach} {b0:Nat} {t e:TypeId} {n:Nat} {v:Value} (ht:Tryz.prog.underlying t=some (.array n e)) (h:Value.okWide Tryz.prog W r b0 t v):∃cs,v= .agg cs∧cs.size=Tryz.prog.cellsOf t:=by
 simp only [Value.okWide,ht] at h;obtain ⟨cs,h1,h2,_⟩:=h;exact ⟨cs,h1,h2⟩
theorem open_field {r:Reach} {b0:Nat} {v:Value} {d:DataW H} {p:List MemPlace} (hv:Value.okWide Tryz.prog W r b0 24 v) (h:DataW.Trod enc Tryz.prog W 0 (fun _=> true) held 24 v d p):
  ∃(P M:Int) (mv:Value) (ml:List Int),v= .agg #[.int .i64 P,.int .i64 M,mv]∧ISl W mv ml:=by
 obtain ⟨cs,rfl,hsz⟩:=okWide_agg Tryz.underlying24 hv;obtain ⟨c0,c1,c2,rfl⟩:=Go.Joins.array3 (hsz.trans c_fld);obtain ⟨fuel,hf⟩:=h;obtain ⟨P,M,ml,rfl,rfl,hl⟩:=fld_cells (by simpa [Value.cells] using hf);exact ⟨P,M,_,ml,rfl,hl⟩
theorem open_mon {r:Reach} {b0:Nat} {v:Value} {d:DataW H} {p:List MemPlace} (hv:Value.okWide Tryz.prog W r b0 26 v) (h:DataW.Trod enc Tryz.prog W 0 (fun _=> true) held 26 v d p):
  ∃(pv sv:Value) (pl sl:List Int) (fr:Int),v= .agg #[pv,sv,.int .i64 fr]∧ISl W pv pl∧ISl W sv sl:=by
 obtain ⟨cs,rfl,hsz⟩:=okWide_agg Tryz.underlying26 hv;obtain ⟨c0,c1,c2,rfl⟩:=Go.Joins.array3 (hsz.trans c_mon);obtain ⟨fuel,hf⟩:=h;obtain ⟨pl,sl,fr,h1,h2,rfl⟩:=mon_cells (by simpa [Value.cells] using hf);exact ⟨_,_,pl,sl,fr,rfl,h1,h2⟩
theorem array6 {α:Type} {cs:Array α} (h:cs.size=6):∃c0 c1 c2 c3 c4 c5,cs= #[c0,c1,c2,c3,c4,c5]:=by
 obtain ⟨l⟩:=cs
 match l,h with
 | [c0,c1,c2,c3,c4,c5],_=> exact ⟨c0,c1,c2,c3,c4,c5,rfl⟩
theorem array5 {α:Type} {cs:Array α} (h:cs.size=5):∃c0 c1 c2 c3 c4,cs= #[c0,c1,c2,c3,c4]:=by
 obtain ⟨l⟩:=cs
 match l,h with
 | [c0,c1,c2,c3,c4],_=> exact ⟨c0,c1,c2,c3,c4,rfl⟩
theorem open_mon2 {r:Reach} {b0:Nat} {v:Value} {d:DataW H} {p:List MemPlace} (hv:Value.okWide Tryz.prog W r b0 41 v) (h:DataW.Trod enc Tryz.prog W 0 (fun _=> true) held 41 v d p):
  ∃(pv sv:Value) (pl sl:List Int) (fr:Int) (qv tv:Value) (ql tl:List Int) (fs:Int),v= .agg #[pv,sv,.int .i64 fr,qv,tv,.int .i64 fs]∧ISl W pv pl∧ISl W sv sl∧ISl W qv ql∧ISl W tv tl:=by
 obtain ⟨cs,rfl,hsz⟩:=okWide_array Tryz.underlying41 hv;rw [show Tryz.prog.cellsOf 41=6 by kernel_rfl] at hsz;obtain ⟨c0,c1,c2,c3,c4,c5,rfl⟩:=array6 hsz;obtain ⟨fuel,hf⟩:=h;obtain ⟨xs,m,_,_,_,hl,hi⟩:=DataW.trod_array Tryz.underlying41 hf;have h0:=hi 0 (by omega);have h1:=hi 1 (by omega);rw [c_mon,List.getElem?_eq_getElem (by omega)] at h0 h1;obtain ⟨pl,sl,fr,p1,p2,rfl⟩:=mon_cells (c0:=c0) (c1:=c1) (c2:=c2) (by simpa [Value.cells] using h0);obtain ⟨ql,tl,fs,p3,p4,rfl⟩:=mon_cells (c0:=c3) (c1:=c4) (c2:=c5) (by simpa [Value.cells] using h1);exact ⟨_,_,pl,sl,fr,_,_,ql,tl,fs,rfl,p1,p2,p3,p4⟩
theorem open_list {v:Value} {d:DataW H} {p:List MemPlace} (h:DataW.Trod enc Tryz.prog W 0 (fun _=> true) held 22 v d p) (hv:∃a l c,v= .slice a l c):∃l,ISl W v l:=by
 obtain ⟨fuel,hf⟩:=h;obtain ⟨a,l,c,rfl⟩:=hv;exact isl_trod (by simpa [Value.cells] using hf)
end
end
end Go.Proofs.YtgdmlmhpineibaaGreat
