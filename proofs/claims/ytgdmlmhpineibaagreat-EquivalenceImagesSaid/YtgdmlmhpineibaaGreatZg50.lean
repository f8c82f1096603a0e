/- Plain: what Apply hands back as a map of codes; the end of EquivalenceSound. -/
import Derived.Deep.CutRange
import Derived.Test.YtgdmlmhpineibaaGreatZg26
import Derived.Test.YtgdmlmhpineibaaGreatZg32
import Derived.Test.YtgdmlmhpineibaaGreatZg43
import Derived.Test.YtgdmlmhpineibaaGreatZg45
import Derived.Test.YtgdmlmhpineibaaGreatZg46
import Derived.Test.YtgdmlmhpineibaaGreatZg49
namespace Go.Proofs.YtgdmlmhpineibaaGreat
set_option linter.unusedVariables false
set_option linter.unusedSimpArgs false
set_option maxRecDepth 100000
set_option maxHeartbeats 8000000
section
open Go.RowKit
theorem codO_two {p m n:Int} {ml:List Int} {rows:List (List Int)} (h:CodO p m ml n rows 0):∃pn mn N:Nat,p=pn∧m=mn∧n=N∧FSh pn mn ml∧IsF pn mn (lw ml)∧1≤N∧N≤64∧rows.length≤256∧∀r∈rows,r.length=N∧entS (pn ^ mn) r=0:=by
 obtain ⟨hF,hn1,hn2⟩:=codO_fld h;rcases h with ⟨_,h⟩ | ⟨_,h1,h2⟩ | ⟨h1,h2,h3⟩
 ·cases h
 ·exact absurd h2.symm h1
 ·rcases h3 with ⟨h3,h4⟩ | ⟨_,pn,mn,N,piv,a',rfl,rfl,rfl,_,hm,_⟩
  ·exact absurd h4.symm h3
  ·obtain ⟨p1,m1,e1,e2,hsh,_,hI⟩:=hF;obtain rfl:pn=p1:=by omega
   obtain rfl:mn=m1:=by omega
   obtain ⟨_,_,s3,s4⟩:=mchk_shape hm;exact ⟨pn,mn,N,rfl,rfl,rfl,hsh,hI,by omega,by omega,s3,fun r hr=> ⟨by have:=(s4 r hr).1;omega,(s4 r hr).2⟩⟩
theorem rowsF_rowsL {N k i j:Nat} {a:Nat→Nat→Int} (hi:i < k) (hj:j < N):rowsF (rowsL N k a) i j=a i j:=by
 unfold rowsF;rw [List.getD_eq_getElem?_getD (l:=rowsL N k a),rowsL_get hi];exact eil_getD hj _
theorem elO_sol {p m:Nat} {ml:List Int} {N R:Nat} {a a':Nat→Nat→Int} {piv:List Nat} (hp:2≤p) (h:ElO p m ml N R a a' piv) (x:Nat→Int):Sol p m ml N (rowsL N piv.length a').length (rowsF (rowsL N piv.length a')) x↔Sol p m ml N R a x:=by
 obtain ⟨c,hc,hP,hend,hS⟩:=h;rw [←hS x,rowsL_len];have e:∀i,i < piv.length→dt p m ml N (rowsF (rowsL N piv.length a') i) x=dt p m ml N (a' i) x:=fun i hi=> dt_congr (fun j hj=> rowsF_rowsL hi hj) fun _ _=> rfl;constructor
 ·intro h i hi;by_cases hip:i < piv.length
  ·rw [←e i hip];exact h i hip
  ·refine dt_zero hp fun j hj=> ?_;rcases hend with h1 | h1
   ·omega
   ·exact hP.tail i j (by omega) hi (by omega)
 ·intro h i hi;rw [e i hi];exact h i (by have:=hP.le;omega)
end
section
open Go.RowKit
theorem mchk_of {q N:Nat} {rows:List (List Int)} (hN:N≤256) (hr:rows.length≤256) (h:∀r∈rows,r.length=N∧entS q r=0):mchkS q N rows=0:=by
 unfold mchkS;rw [if_neg (by omega),if_pos (List.all_eq_true.2 fun r hr=> by simp [(h r hr).1]),if_pos (List.all_eq_true.2 fun r hr=> by simp [(h r hr).2])]
theorem imgF_ent {p m:Nat} {ml pl ul:List Int} {fr N:Nat} {x:List Int} (h:MonOK p m ml pl ul fr N):entS (p ^ m) (il N (imgF p m ml pl ul fr x N))=0:=entS_of fun y hy=> by
 obtain ⟨i,hi,rfl⟩:=List.getElem_of_mem hy;rw [il_len] at hi;obtain ⟨z,h1,h2⟩:=img_ent h (x:=x) i hi;rw [List.getD_eq_getElem?_getD,List.getElem?_eq_getElem (by rw [il_len];exact hi)] at h1;have h1':(il N (imgF p m ml pl ul fr x N))[i]'(by rw [il_len];exact hi)=z:=h1;rw [h1'];omega
theorem imL_ok {p m:Nat} {ml pl ul:List Int} {fr N:Nat} {l1:List (List Int)} (h:MonOK p m ml pl ul fr N):∀r∈imL p m ml pl ul fr N l1 l1.length,r.length=N∧entS (p ^ m) r=0:=fun r hr=> by
 unfold imL at hr;obtain ⟨x,_,rfl⟩:=List.mem_map.1 hr;exact ⟨il_len _ _,imgF_ent h⟩
theorem newE_img {p m:Nat} {ml pl ul:List Int} {fr N:Nat} {l1:List (List Int)} (hc:chkS p m ml=0) (hl:l1.length≤256) (h:MonOK p m ml pl ul fr N):newE p m ml N (imL p m ml pl ul fr N l1 l1.length)=0:=by
 have h1:canE p m ml N (imL p m ml pl ul fr N l1 l1.length)=0:=by
  unfold canE;rw [if_neg (fun h=> h hc)];have e:(p:Int).toNat ^ (m:Int).toNat=p ^ m:=by simp
  rw [e];exact mchk_of (by have:=h.n2;omega) (by rw [imL_len (Nat.le_refl _)];exact hl) (imL_ok h)
 unfold newE;rw [if_neg (fun h=> h h1)];unfold lenE;rw [if_neg (by have:=h.n1;have:=h.n2;omega)]
theorem codO_can {p m N:Nat} {ml:List Int} {R:Nat} {a a':Nat→Nat→Int} {piv:List Nat} (hF:FldB p m ml) (hn1:1≤N) (hn2:N≤64) (hR:R≤256) (h:ElO p m ml N R a a' piv):CodO p m ml N (rowsL N piv.length a') 0:=by
 have hc:chkS p m ml=0:=(chk_iff _ _ _).2 hF;have hmk:mchkS (p ^ m) N (rowsL N piv.length a')=0:=mchk_of (by omega) (by rw [rowsL_len];have:=(elo_rows h).1;omega) (elo_rows h).2;have hce:canE p m ml N (rowsL N piv.length a')=0:=by
  unfold canE;rw [if_neg (fun h=> h hc)];have e:(p:Int).toNat ^ (m:Int).toNat=p ^ m:=by simp
  rw [e];exact hmk
 have hl:lenE N=0:=by unfold lenE;rw [if_neg (by omega)]
 have hlen:=(elo_rows h).1;obtain ⟨c,hcN,hP,hend,hS⟩:=h;have hPV:PV p m piv.length N (rowsF (rowsL N piv.length a')) piv c:=by
  have e:∀i j,i < piv.length→j < N→rowsF (rowsL N piv.length a') i j=a' i j:=fun i j hi hj=> rowsF_rowsL hi hj;have hjl:∀j q:Nat,piv[j]?=some q→j < piv.length:=fun j q hq=> (List.getElem?_eq_some_iff.1 hq).1;refine ⟨Nat.le_refl _,fun i hi j hj=> ?_,hP.lt,fun j q hq=> ?_,fun j q i hq hi hne=> ?_,fun i j h1 h2 _=> by omega,fun j q k hq hk=> ?_,hP.asc⟩
  ·rw [e i j hi hj];exact hP.rng i (by omega) j hj
  ·rw [e j q (hjl j q hq) (by have:=hP.lt j q hq;omega)];exact hP.one j q hq
  ·rw [e i q hi (by have:=hP.lt j q hq;omega)];exact hP.zer j q i hq (by omega) hne
  ·rw [e j k (hjl j q hq) (by have:=hP.lt j q hq;omega)];exact hP.lead j q k hq hk
 refine .inr (.inr ⟨hc,hl,.inr ⟨hce,p,m,N,piv,rowsF (rowsL N piv.length a'),rfl,rfl,rfl,hF,hmk,?_,?_⟩⟩)
 ·rw [rowsL_len];exact elO_self hPV hcN rfl
 ·have h5:rowsL N piv.length (rowsF (rowsL N piv.length a'))=rowsL N piv.length a':=by
   have:=rowsL_rowsF (N:=N) (rows:=rowsL N piv.length a') fun r hr=> by
    unfold rowsL at hr;obtain ⟨i,_,rfl⟩:=List.mem_map.1 hr;exact il_len _ _
   rw [rowsL_len] at this;exact this
  rw [if_pos h5]
section
variable {p m:Nat} {ml:List Int} {n:Nat} {l1 l2:List (List Int)} {pl sl:List Int}
end
theorem app_ok {p m N fr:Nat} {ml pl ul:List Int} {rows:List (List Int)} {b0:Nat} {r:Ending} {w':World} (h:AppR p m ml N rows pl ul fr b0 r w') (ho:CodO p m ml N rows 0) (hmon:monS p m ml N pl ul fr=0):
  ∃(piv:List Nat) (a':Nat→Nat→Int) (rv v':Value),r= .returned (.tuple #[.agg #[.int .i64 p,.int .i64 m,v',.int .i64 N,rv],.int .i64 0])∧ElO p m ml N (imL p m ml pl ul fr N rows rows.length).length (rowsF (imL p m ml pl ul fr N rows rows.length)) a' piv∧ISl w' v' ml∧MSl w' rv (rowsL N piv.length a'):=by
 obtain ⟨e1,ho1,h⟩:=h;obtain rfl:=codO_uniq ho1 ho;have him:imA p m ml pl ul fr N rows=imL p m ml pl ul fr N rows rows.length:=by unfold imA;simp
 obtain ⟨p2,m2,N2,f2,j1,j2,j3,j4,hf,hc0,hM⟩:=monOK_of hmon;obtain rfl:p=p2:=by omega
 obtain rfl:m=m2:=by omega
 obtain rfl:N=N2:=by omega
 obtain rfl:fr=f2:=by omega
 rcases h with ⟨h,_⟩ | ⟨_,h,_⟩ | ⟨_,_,h⟩
 ·exact absurd rfl h
 ·exact absurd hmon h
 ·rw [him] at h;rcases h with ⟨h,_⟩ | ⟨_,pn,mn,N',piv,a',rv,v',e1,e2,e3,_,_,hr,hel,hv,hrv,_⟩
  ·exact absurd (newE_img hc0 (codO_rows ho).1 hM) h
  ·obtain rfl:p=pn:=by omega
   obtain rfl:m=mn:=by omega
   obtain rfl:N=N':=by omega
   exact ⟨piv,a',rv,v',hr,hel,hv,hrv⟩
end
section
open Go.RowKit
theorem rChk12_any (w:World) (p m:Int) (ml:List Int) (mv:Value) (hmv:ISl w mv ml) (n:Int) (rows:List (List Int)) (v:Value) (hv:MSl w v rows):
  Calls Tryz.prog 40 #[.agg #[.int .i64 p,.int .i64 m,mv,.int .i64 n,v]] w fun r w'=> (∃e:Int,r= .returned (.int .i64 e)∧CodO p m ml n rows e)∧Ex w w':=by
 obtain ⟨a0,a1,a2,a3,a4,ea⟩:=boxC_facts w p m mv n v;have HFC:=hid_ (fun (w':World) (h:Ex w w')=> rCheck_any p m ml mv w' (hmv.ex h));have HSC:=hid_ (fun (w':World) (h:Ex w w')=> rChk10_any p m ml mv w' (hmv.ex h) n rows v (hv.ex h));obtain ⟨za,zc,rfl,-,z2,-⟩:=hv.open;unfold maxLen at z2;obtain ⟨ma,mc,rfl,-,m2,-⟩:=hmv.open;unfold maxLen at m2;have HE:=hid_ ea;obtain ⟨F,hF⟩:∃F,chkS p m ml=F:=⟨_,rfl⟩;have hF1:F=0∨F=1:=by
  rw [←hF];unfold chkS;split <;> omega
 have HCO:=hid_ (show ∀e,((F≠0∧e=1)∨(F=0∧lenE n≠0∧e=lenE n)∨(F=0∧lenE n=0∧SpcO p m ml n rows e))→CodO p m ml n rows e from fun e h=> by unfold CodO;rw [hF];exact h);rw [hF] at HFC;clear hmv hv ea hF;go_enter Tryz.func40,Tryz.ntmps40
 go_wp2_with fail
 obtain ⟨xb,hxb⟩:∃xb,w.heap.size=xb:=⟨_,rfl⟩;rw [hxb] at a0 a1 a2 a3 a4
 try simp only [hxb]
 clear hxb;generalize w.alloc (.cells #[.int .i64 p,.int .i64 m,.slice ma ml.length mc,.int .i64 n,.slice za rows.length zc] 47)=w1 at *;refine (HFC.out w1 HE.out).mono ?_;rintro e w2 ⟨rfl,hx2⟩;have A0:=hid_ (hx2.cell a0);have A1:=hid_ (hx2.cell a1);have A2:=hid_ (hx2.cell a2);have A3:=hid_ (hx2.cell a3);have A4:=hid_ (hx2.cell a4);have HX2:=hid_ (HE.out.trans hx2);clear a0 a1 a2 a3 a4 hx2 HFC HE;rcases hF1 with h1 | h1
 ·subst h1;have a3:=A3.out;by_cases h2:n < 1
  ·have HR:=hid_ (HCO.out 4 (.inr (.inl ⟨rfl,by unfold lenE;rw [if_pos (.inl h2)];decide,by unfold lenE;rw [if_pos (.inl h2)]⟩)));clear HSC HCO;go_wp2_with fail
   go_ret;exact ⟨⟨_,rfl,HR.out⟩,HX2.out⟩
  ·by_cases h3:64 < n
   ·have HR:=hid_ (HCO.out 4 (.inr (.inl ⟨rfl,by unfold lenE;rw [if_pos (.inr h3)];decide,by unfold lenE;rw [if_pos (.inr h3)]⟩)));clear HSC HCO;have b1:decide (n < 1)=false:=by simp;omega
    go_wp2_with fail
    go_ret;exact ⟨⟨_,rfl,HR.out⟩,HX2.out⟩
   ·have HCO2:=hid_ (fun e h=> HCO.out e (.inr (.inr ⟨rfl,by unfold lenE;rw [if_neg (by omega)],h⟩)));have b1:decide (n < 1)=false:=by simp;omega
    have b2:decide (64 < n)=false:=by simp;omega
    have a0:=A0.out;have a1:=A1.out;have a2:=A2.out;have a4:=A4.out;clear HCO;go_wp2_with fail
    refine (HSC.out w2 HX2.out).mono ?_;rintro e w3 ⟨⟨e,rfl,he⟩,hx3⟩;have HR:=hid_ (HCO2.out e he);have HX3:=hid_ (HX2.out.trans hx3);clear he hx3;go_wp2_with fail
    go_ret;exact ⟨⟨_,rfl,HR.out⟩,HX3.out⟩
 ·subst h1;have HR:=hid_ (HCO.out 1 (.inl ⟨by decide,rfl⟩));clear HSC HCO;go_wp2_with fail
  go_ret;exact ⟨⟨_,rfl,HR.out⟩,HX2.out⟩
end
section
open Go.RowKit
def RApR (p m:Int) (ml:List Int) (n:Int) (rows:List (List Int)) (pl sl:List Int) (fr:Int) (r:Ending) (w':World):Prop:=
 ∃e1:Int,CodO p m ml n rows e1∧
  ((e1≠0∧r= .returned (.tuple #[.agg #[.int .i64 0,.int .i64 0,.slice none 0 0,.int .i64 0,.slice none 0 0],.int .i64 e1]))∨
  (e1=0∧monS p m ml n pl sl fr≠0∧r= .returned (.tuple #[.agg #[.int .i64 0,.int .i64 0,.slice none 0 0,.int .i64 0,.slice none 0 0],.int .i64 (monS p m ml n pl sl fr)]))∨
  (e1=0∧monS p m ml n pl sl fr=0∧∃(pn mn N fn:Nat) (piv:List Nat) (a':Nat→Nat→Int) (rv v':Value),p=pn∧m=mn∧n=N∧fr=fn∧
    r= .returned (.tuple #[.agg #[.int .i64 pn,.int .i64 mn,v',.int .i64 N,rv],.int .i64 0])∧ElO pn mn ml N (imL pn mn ml pl sl fn N rows rows.length).length (rowsF (imL pn mn ml pl sl fn N rows rows.length)) a' piv∧ISl w' v' ml∧MSl w' rv (rowsL N piv.length a')))
theorem rApply_any (w:World) (p m:Int) (ml:List Int) (mv:Value) (hmv:ISl w mv ml) (n:Int) (rows:List (List Int)) (v:Value) (hv:MSl w v rows) (pl sl:List Int) (pv sv:Value) (hp:ISl w pv pl) (hs:ISl w sv sl) (fr:Int):
  Calls Tryz.prog 43 #[.agg #[.int .i64 p,.int .i64 m,mv,.int .i64 n,v],.agg #[pv,sv,.int .i64 fr]] w fun r w'=> RApR p m ml n rows pl sl fr r w'∧Ex w w':=by
 obtain ⟨c0,c1,c2,c3,c4,ea⟩:=boxC_facts w p m mv n v;obtain ⟨b0,b1,b2,eb⟩:=boxMo_facts (w.alloc (.cells #[.int .i64 p,.int .i64 m,mv,.int .i64 n,v] 47)) pv sv fr;have asz:(w.alloc (.cells #[.int .i64 p,.int .i64 m,mv,.int .i64 n,v] 47)).heap.size=w.heap.size + 1:=by simp
 have bsz:((w.alloc (.cells #[.int .i64 p,.int .i64 m,mv,.int .i64 n,v] 47)).alloc (.cells #[pv,sv,.int .i64 fr] 26)).heap.size=w.heap.size + 1 + 1:=by simp
 rw [asz] at b0 b1 b2;replace c0:=eb.cell c0;replace c1:=eb.cell c1;replace c2:=eb.cell c2;replace c3:=eb.cell c3;replace c4:=eb.cell c4;have HX:=hid_ (ea.trans eb);have HM:=hid_ hmv;have HV:=hid_ hv;have HP:=hid_ hp;have HS:=hid_ hs;obtain ⟨va,vc,rfl,-,q1,v3⟩:=hv.open;obtain ⟨ma,mc,rfl,-,q2,-⟩:=hmv.open;obtain ⟨pa,pc,rfl,-,q3,-⟩:=hp.open;obtain ⟨sa,sc,rfl,-,q4,-⟩:=hs.open;unfold maxLen at q1 q2 q3 q4;have V3:=hid_ v3;obtain ⟨B,hB⟩:∃B,w.heap.size=B:=⟨_,rfl⟩;rw [hB] at c0 c1 c2 c3 c4 b0 b1 b2 bsz;clear hmv hv hp hs ea eb asz v3;go_enter Tryz.func43,Tryz.ntmps43
 go_upto_region 1 with fail
 try simp only [hB]
 have HB:=hid_ hB;clear hB;generalize (w.alloc (.cells #[.int .i64 p,.int .i64 m,.slice ma ml.length mc,.int .i64 n,.slice va rows.length vc] 47)).alloc (.cells #[.slice pa pl.length pc,.slice sa sl.length sc,.int .i64 fr] 26)=wB at *;have bq:=BxC.new wB;rw [bsz] at bq;have ec:Ex wB _:=e_al wB (.cells #[.int .i64 0,.int .i64 0,.slice none 0 0,.int .i64 0,.slice none 0 0] 47);have csz:(wB.alloc (.cells #[.int .i64 0,.int .i64 0,.slice none 0 0,.int .i64 0,.slice none 0 0] 47)).heap.size=B + 1 + 1 + 1:=by simp [bsz]
 try simp only [bsz]
 generalize wB.alloc (.cells #[.int .i64 0,.int .i64 0,.slice none 0 0,.int .i64 0,.slice none 0 0] 47)=wC at *;have HALL:=hid_ (fun w' (h:Ex wC w')=> (⟨h.cell (ec.cell c0),h.cell (ec.cell c1),h.cell (ec.cell c2),h.cell (ec.cell c3),h.cell (ec.cell c4),h.cell (ec.cell b0),h.cell (ec.cell b1),h.cell (ec.cell b2)⟩:_∧_∧_∧_∧_∧_∧_∧_));have BQ:=hid_ bq;have HXC:=hid_ (HX.out.trans ec);have CSZ:=hid_ csz;have HCK:=hid_ (rChk12_any wC p m ml _ (HM.out.ex HXC.out) n rows _ (HV.out.ex HXC.out));clear c0 c1 c2 c3 c4 b0 b1 b2 bq ec csz bsz HX;obtain ⟨c0,c1,c2,c3,c4,b0,b1,b2⟩:=HALL.out wC (Ex.refl _);go_wp2_with fail
 refine HCK.out.mono ?_;rintro e w2 ⟨⟨e1,rfl,ho1⟩,hx2⟩;clear c0 c1 c2 c3 c4 b0 b1 b2 HCK;obtain ⟨c0,c1,c2,c3,c4,b0,b1,b2⟩:=HALL.out w2 hx2;have HX2:=hid_ hx2;have HO1:=hid_ ho1;clear hx2 ho1;by_cases h1:e1=0
 ·subst h1;have HOP:=hid_ (rMCheck_any w2 p m ml _ (HM.out.ex (HXC.out.trans HX2.out)) n pl sl _ _ (HP.out.ex (HXC.out.trans HX2.out)) (HS.out.ex (HXC.out.trans HX2.out)) fr);obtain ⟨E,hE⟩:∃E,monS p m ml n pl sl fr=E:=⟨_,rfl⟩;rw [hE] at HOP;have HE:=hid_ hE;clear hE;go_wp2_with fail
  refine HOP.out.mono ?_;rintro e w3 ⟨rfl,hx3⟩;clear c0 c1 c2 c3 c4 b0 b1 b2 HOP;obtain ⟨c0,c1,c2,c3,c4,b0,b1,b2⟩:=HALL.out w3 (HX2.out.trans hx3);have HX3:=hid_ (HX2.out.trans hx3);clear hx3 HX2;by_cases h0:E=0
  ·subst h0;obtain ⟨_,n1,n2,n3,n4,n5,n6,n7,_,_⟩:=mon_ok HE.out;obtain ⟨pn,mn,N,fn,rfl,rfl,rfl,rfl,hsh,hch,hM⟩:=monOK_of HE.out;obtain ⟨p2,m2,N2,i1,i2,i3,_,_,_,_,k256,hrw⟩:=codO_two HO1.out;obtain rfl:pn=p2:=by omega
   obtain rfl:mn=m2:=by omega
   obtain rfl:N=N2:=by omega
   have HRL:=hid_ hrw;have HNN:=hid_ (show 1≤N∧N≤64∧rows.length≤256 from ⟨by omega,by omega,k256⟩);have HIM:=hid_ (fun (w1:World) (h1:Ex w3 w1) (x:List Int) (xv:Value) (hx:ISl w1 xv x) (hxl:x.length=N∧entS (pn ^ mn) x=0)=> rImage_any w1 hsh hM.hF (HM.out.ex ((HXC.out.trans HX3.out).trans h1)) N (by omega) pl sl x _ _ xv (HP.out.ex ((HXC.out.trans HX3.out).trans h1)) (HS.out.ex ((HXC.out.trans HX3.out).trans h1)) hx fn (by omega) (by omega) (by omega) hxl.1 n5 (fun i hi=> by
    have:=entS_rng hxl.2 (x.getD i 0) (by rw [List.getD_eq_getElem?_getD,List.getElem?_eq_getElem (by omega)];exact List.getElem_mem _);exact ⟨(x.getD i 0).toNat,by omega,by omega⟩))
   have HMK:=hid_ (fun (w1:World) (h1:Ex w3 w1) (xv:Value) (hx:MSl w1 xv (imL pn mn ml pl sl fn N rows rows.length))=> rMake_any w1 hsh hM.hF (HM.out.ex ((HXC.out.trans HX3.out).trans h1)) N (by omega) _ (by rw [imL_len (Nat.le_refl _)];exact k256) (imL_ok hM) xv hx);clear n1 n2 n3 n4 n5 n6 n7 hrw hsh hch hM k256 i1 i2 i3;have HBW:=hid_ (show B + 1 + 1 < w3.heap.size from World.block_lt_of_cell? _ _ (BQ.out.ex HX3.out).c0);go_wp2_with fail
   clear c0 c1 c2 c3 c4 b0 b1 b2
   go_loopw [7,8] (fun cv i' wr=> ∃(k:Nat) (vals:List Value),k≤rows.length∧i'= .int .i64 k∧Hid (MRows wr w3.heap.size cv (imL pn mn ml pl sl fn N rows k) vals)∧Hid (Ex w3 wr)) (fun _ i' _=> rows.length - (intOf i').toNat)
   case atStart=> exact ⟨0, [],by omega,rfl,hid_ (by unfold imL;exact MRows.nil _ _),hid_ (Ex.refl _)⟩
   case round=>
    obtain ⟨k,vals,hk,rfl,hm,hxw⟩:=hrel;obtain ⟨qa,qc,hqv⟩:=own_shape hm.out.cvo;subst hqv;obtain ⟨c0,c1,c2,c3,c4,b0,b1,b2⟩:=HALL.out wr (HX3.out.trans hxw.out);have HLN:=hid_ (imL_len (p:=pn) (m:=mn) (ml:=ml) (pl:=pl) (sl:=sl) (fr:=fn) (N:=N) hk);by_cases hkR:k < rows.length
    ·obtain ⟨rb,ro,rfl,hrc⟩:=V3.out (by omega);obtain ⟨uv,huc,hui⟩:=hrc k _ (List.getElem?_eq_getElem hkR);have cu:=((HXC.out.trans HX3.out).trans hxw.out).cell huc;have i1:(0:Int)≤(k:Int):=by omega
     have i2:(k:Int) < (rows.length:Int):=by omega
     obtain ⟨x,hx⟩:∃x,rows[k]=x:=⟨_,rfl⟩;have HXS:=hid_ (imL_succ (p:=pn) (m:=mn) (ml:=ml) (pl:=pl) (sl:=sl) (fr:=fn) (N:=N) hkR);have HXL:=hid_ (show x.length=N∧entS (pn ^ mn) x=0 from hx ▸ HRL.out _ (List.getElem_mem hkR));rw [hx] at HXS hui;have HUI:=hid_ (hui.ex ((HXC.out.trans HX3.out).trans hxw.out));have HMR:=hid_ hm.out;have HK2:=hid_ (show k < 256 from by have:=HNN.out;omega);have HSZ:=hid_ hxw.out.size;obtain ⟨ua,uc,rfl,-,u2,-⟩:=hui.open;unfold maxLen at u2;have HSX:=hid_ (fun (w1:World) (h1:Ex wr w1)=> HIM.out w1 (hxw.out.trans h1) x _ (HUI.out.ex h1) HXL.out);have HXG:=hid_ (show Ex wr wr.drew from (Ex.refl wr).drew);have HCC:=hid_ (fun (w1:World) (h1:Ex wr w1)=> (⟨h1.cell c0,h1.cell c1,h1.cell c2,h1.cell c3,h1.cell c4,h1.cell b0,h1.cell b1,h1.cell b2,h1.cell cu⟩:_∧_∧_∧_∧_∧_∧_∧_∧_));rw [HLN.out];clear hrc huc hui hx hm;go_upto_region 10 with fail
     go_region_law
      ((first
              | (refine step_append_sl (by rfl) _ _ _ (by rfl) w3.heap.size 22 (.slice none 0 0) 1 24 Tryz.underlying45 infoIntsL rfl (by decide) (.slice qa k qc) k vals (by rfl) (by have h:=ownsRow_ex HMR.out.cvo ((HXG.out.trans hx5).trans (e_al w5 (.cells #[.slice (some ⟨g5,0,none⟩) N N] 22)));rw [HLN.out] at h;exact h) _ 1 [.slice (some ⟨g5,0,none⟩) N N] (by rfl) (Sl.own (own_lit1 w5 (.slice (some ⟨g5,0,none⟩) N N) 22)) (by simp [Value.oneCell']) (by unfold maxLen;have:=HK2.out;omega) (by have:=HK2.out;omega) (by have h1:=HSZ.out;have h2:=(HXG.out.trans hx5).size;simp;omega) ?_;intro v8 w8 hown8 hg8 ha8;have HAP:=hid_ (e_appd (by have h:=ownsRow_ex HMR.out.cvo (HXG.out.trans hx5);rw [HLN.out] at h;exact h) hown8 hg8 ha8);obtain ⟨va8,vc8,hv8⟩:=own_shape hown8;subst hv8)
              | (go_simp;refine (HSX.out _ HXG.out).mono ?_;rintro e w5 ⟨g5,rfl,ho5,hx5⟩;go_simp)))
     all_goals
      have hx5':=HXG.out.trans hx5;have HX5:=hid_ hx5';have hm5:=HMR.out.ex hx5';rw [HLN.out] at hm5;have hl5:w5.ownsRow w3.heap.size 3 1 (.slice (some ⟨g5,0,none⟩) N N) (il N (imgF pn mn ml pl sl fn x N)).length (ints (il N (imgF pn mn ml pl sl fn x N))):=by
       rw [il_len,ints_il];exact ownsRow_mono ho5 (by have h1:=HSZ.out;have h2:=HXG.out.size;omega)
      have hal:Aprt (.slice (some ⟨g5,0,none⟩) N N) (.slice qa k qc):=by
       right;show some g5≠_
       intro e;have h0:=HMR.out.cvo;rw [HLN.out] at h0;have h1:=(h0.lt g5 e.symm).2;have h2:=ho5.lt.1;have h3:=HXG.out.size;omega
      have HS8:=hid_ (hm5.app hl5 hal (by rw [HLN.out];exact HAP.out));rw [←HXS.out] at HS8;have HX8:=hid_ (HAP.out.ex (hxw.out.trans hx5') (Nat.le_refl _));have hk2:=HK2.out;clear hm5 hl5 hal hx5' HAP hown8 hg8 ha8 ho5 hx5 HSX;go_wp2_with fail
      go_roundw
      case rel=> first | exact ⟨k + 1,_,by omega,by go_num,HS8,HX8⟩ | ((repeat apply Exists.intro);exact ⟨⟨k + 1,_,by omega,by go_num,HS8,HX8⟩,rfl⟩)
      case measure=> simp [intOf];omega
    ·obtain rfl:k=rows.length:=by omega
     have HMS:=hid_ hm.out.msl;have HXW:=hid_ hxw.out;clear hm;rw [HLN.out] at HMS ⊢;go_wp2_with fail
     refine (HMK.out _ HXW.out _ HMS.out).mono ?_;rintro e w7 ⟨⟨piv,a',rv,v',rfl,hel,hv',hb',hmf⟩,hx7⟩;obtain ⟨xa,xc,rfl,-,-,-⟩:=hv'.open;obtain ⟨ya,yc,rfl,-,-,-⟩:=hmf.msl.open;have X7:=hid_ (HXC.out.trans (HX3.out.trans (HXW.out.trans hx7)));obtain ⟨q0,q1,q2,q3,q4,qf0,qf1,qf2,qf3,qf4⟩:=BQ.out.ex (HX3.out.trans (HXW.out.trans hx7));have hw:=HB.out;have hlt:B + 1 + 1 < wr.heap.size:=by have h1:=HBW.out;have h2:=HXW.out.size;omega
     have HVV:=hid_ (set5_isl (q:=B + 1 + 1) hv' (fun C h=> by have:=hb' C h;omega) (.int .i64 pn) (.int .i64 mn) (.slice xa ml.length xc) (.int .i64 N) (.slice ya (rowsL N piv.length a').length yc));have HMF:=hid_ (hmf.set5 (q:=B + 1 + 1) hlt (.int .i64 pn) (.int .i64 mn) (.slice xa ml.length xc) (.int .i64 N) (.slice ya (rowsL N piv.length a').length yc)).msl;have HEL:=hid_ hel;clear hx7 hv' hb' hmf hel;go_wp2_with fail
     exact bodyPost_ret (v:= .tuple #[.agg #[.int .i64 pn,.int .i64 mn,.slice xa ml.length xc,.int .i64 N,.slice ya (rowsL N piv.length a').length yc],.int .i64 0]) (by simp [results,Tryz.results43,go_sem,q0,q1,q2,q3,q4]) rfl ⟨⟨0,HO1.out,.inr (.inr ⟨rfl,HE.out,pn,mn,N,fn,piv,a',_,_,rfl,rfl,rfl,rfl,rfl,HEL.out,HVV.out,HMF.out⟩)⟩,set5_ex X7.out (by omega) _ _ _ _ _⟩
  ·have k1:(E !=0)=true:=by simpa using h0
   obtain ⟨q0,q1,q2,q3,q4,qf0,qf1,qf2,qf3,qf4⟩:=BQ.out.ex HX3.out;have H0:=hid_ h0;have hw:=HB.out;clear h0;go_wp2_with fail
   exact bodyPost_ret (v:= .tuple #[.agg #[.int .i64 0,.int .i64 0,.slice none 0 0,.int .i64 0,.slice none 0 0],.int .i64 E]) (by simp [results,Tryz.results43,go_sem,q0,q1,q2,q3,q4]) rfl ⟨⟨0,HO1.out,.inr (.inl ⟨rfl,by rw [HE.out];exact H0.out,by rw [HE.out]⟩)⟩,set5_ex (HXC.out.trans HX3.out) (by omega) _ _ _ _ _⟩
 ·have k1:(e1==0)=false:=by simpa using h1
  have k2:(e1 !=0)=true:=by simpa using h1
  obtain ⟨q0,q1,q2,q3,q4,qf0,qf1,qf2,qf3,qf4⟩:=BQ.out.ex HX2.out;have H1:=hid_ h1;have hw:=HB.out;clear h1;go_wp2_with fail
  exact bodyPost_ret (v:= .tuple #[.agg #[.int .i64 0,.int .i64 0,.slice none 0 0,.int .i64 0,.slice none 0 0],.int .i64 e1]) (by simp [results,Tryz.results43,go_sem,q0,q1,q2,q3,q4]) rfl ⟨⟨e1,HO1.out,.inl ⟨H1.out,rfl⟩⟩,set5_ex (HXC.out.trans HX2.out) (by omega) _ _ _ _ _⟩
end
end Go.Proofs.YtgdmlmhpineibaaGreat
