/- Walk of codewrightref12.Same. -/
import Derived.Deep.CutRange
import Derived.Test.YtgdmlmhpineibaaGreatZf18
import Derived.Test.YtgdmlmhpineibaaGreatZf22
import Derived.Test.YtgdmlmhpineibaaGreatZf25
import Derived.Test.YtgdmlmhpineibaaGreatZf35
import Derived.Test.YtgdmlmhpineibaaGreatZf37
import Derived.Test.YtgdmlmhpineibaaGreatZf39
import Derived.Test.YtgdmlmhpineibaaGreatZf41
namespace Go.Proofs.YtgdmlmhpineibaaGreat
set_option linter.unusedVariables false
set_option linter.unusedSimpArgs false
set_option maxRecDepth 100000
set_option maxHeartbeats 8000000
section
open Go.RowKit
def samC (c d:CdV):Bool:=samF c.p c.m c.ml d.p d.m d.ml && (decide (c.n=d.n) && decide (c.rows=d.rows))
theorem samC_iff {c d:CdV}:samC c d=true↔c=d:=by
 obtain ⟨p,m,ml,n,rows⟩:=c;obtain ⟨p',m',ml',n',rows'⟩:=d;simp only [samC,Bool.and_eq_true,decide_eq_true_eq,samF_iff,CdV.mk.injEq];constructor
 ·rintro ⟨⟨h1,h2,h3⟩,h4,h5⟩;exact ⟨h1,h2,h3,h4,h5⟩
 ·rintro ⟨h1,h2,h3,h4,h5⟩;exact ⟨⟨h1,h2,h3⟩,h4,h5⟩
theorem rCSame_any (w:World) (c d:CdV) (m1 m2 v1 v2:Value) (hc:c.at w m1 v1) (hd:d.at w m2 v2):
  Calls Tryz.prog 39 #[c.arg m1 v1,d.arg m2 v2] w fun r w'=> r= .returned (.bool (samC c d))∧Ex w w':=by
 obtain ⟨c0,c1,c2,c3,c4⟩:=boxC5 w c m1 v1;obtain ⟨d0,d1,d2,d3,d4⟩:=boxC5 (w.alloc (c.obj m1 v1)) d m2 v2;have hz1:(w.alloc (c.obj m1 v1)).heap.size=w.heap.size + 1:=by simp
 have e1:=e_al w (c.obj m1 v1);have e2:=e_al (w.alloc (c.obj m1 v1)) (d.obj m2 v2);rw [hz1] at d0 d1 d2 d3 d4;replace c0:=e2.cell c0;replace c1:=e2.cell c1;replace c2:=e2.cell c2;replace c3:=e2.cell c3;replace c4:=e2.cell c4;have hxw:=e1.trans e2;have HSF:=hid_ (rFSame_any _ c.p c.m c.ml m1 ((hc.ex hxw).m) d.p d.m d.ml m2 ((hd.ex hxw).m));have HSR:=hid_ (fun (w':World) (h:Ex ((w.alloc (c.obj m1 v1)).alloc (d.obj m2 v2)) w')=> SameRows_any w' c.rows d.rows v1 v2 ((hc.ex (hxw.trans h)).g) ((hd.ex (hxw.trans h)).g));obtain ⟨x1,y1,rfl,-,z1,-⟩:=hc.g.open;obtain ⟨x2,y2,rfl,-,z2,-⟩:=hd.g.open;obtain ⟨x3,y3,rfl,-,z3,-⟩:=hc.m.open;obtain ⟨x4,y4,rfl,-,z4,-⟩:=hd.m.open;have HX:=hid_ hxw;obtain ⟨p,m,ml,n,rows⟩:=c;obtain ⟨p',m',ml',n',rows'⟩:=d;obtain ⟨B,hB⟩:∃B,w.heap.size=B:=⟨_,rfl⟩;rw [hB] at c0 c1 c2 c3 c4 d0 d1 d2 d3 d4;obtain ⟨F,hF⟩:∃F,samF p m ml p' m' ml'=F:=⟨_,rfl⟩;have HSM:=hid_ (show samC ⟨p,m,ml,n,rows⟩ ⟨p',m',ml',n',rows'⟩=(F && (decide (n=n') && decide (rows=rows'))) from by rw [←hF];rfl);rw [HSM.out];clear HSM;dsimp only [CdV.arg,CdV.obj] at *;rw [hF] at HSF;clear hF;clear hc hd e1 e2 hxw hz1 z1 z2 z3 z4;go_enter Tryz.func39,Tryz.ntmps39
 go_upto_region 1 with fail
 try simp only [hB]
 clear hB;generalize (w.alloc (.cells #[.int .i64 p,.int .i64 m,.slice x3 ml.length y3,.int .i64 n,.slice x1 rows.length y1] 47)).alloc (.cells #[.int .i64 p',.int .i64 m',.slice x4 ml'.length y4,.int .i64 n',.slice x2 rows'.length y2] 47)=wB at *;have HALL:=hid_ (fun w' (h:Ex wB w')=> (⟨h.cell c3,h.cell c4,h.cell d3,h.cell d4⟩:_∧_∧_∧_))
 cases F with
 | false=>
  go_wp2_with fail
  refine HSF.out.mono ?_;rintro e w2 ⟨rfl,hx2⟩;have HX2:=hid_ (HX.out.trans hx2);clear c0 c1 c2 c3 c4 d0 d1 d2 d3 d4 hx2;go_wp2_with fail
  go_ret;exact ⟨rfl,HX2.out⟩
 | true=>
  go_wp2_with fail
  refine HSF.out.mono ?_;rintro e w2 ⟨rfl,hx2⟩;have HX2:=hid_ hx2;clear c0 c1 c2 c3 c4 d0 d1 d2 d3 d4 hx2;obtain ⟨c3,c4,d3,d4⟩:=HALL.out w2 HX2.out;by_cases hn:n=n'
  ·subst hn;have k1:(n==n)=true:=by simp
   have HR:=hid_ (HSR.out w2 HX2.out);obtain ⟨D,hD⟩:∃D,decide (rows=rows')=D:=⟨_,rfl⟩;rw [hD] at HR;have HD:=hid_ hD;clear hD;go_wp2_with fail
   refine HR.out.mono ?_;rintro e w3 ⟨rfl,n3,rfl⟩;have HX3:=hid_ ((Ex.refl w2).drewN n3);go_wp2_with fail
   go_ret;refine ⟨?_,HX.out.trans (HX2.out.trans HX3.out)⟩;have:=HD.out;simp [this]
  ·have k1:(n==n')=false:=by simpa using hn
   have HN:=hid_ hn;clear hn;go_wp2_with fail
   go_ret;refine ⟨?_,HX.out.trans HX2.out⟩;have:=HN.out;simp [this]
end
section
open Go.RowKit
section
variable {p m:Nat} {ml:List Int} {N:Nat}
theorem mpF_rng (hp:2≤p) (sc:List Int) (x:Nat→Int) (N:Nat):EntR p m N (mpF p m ml sc x):=fun j _=> by
 have:=kmul_lt (m:=m) (low:=lw ml) (show 1≤p by omega) (kin (p ^ m) (sc.getD j 0)) (kin (p ^ m) (x j));unfold mpF;omega
theorem seF_rng {tl:List Int} {y:Nat→Int} {n:Nat} (hr:rngB tl n=true) (hy:EntR p m n y):EntR p m tl.length (seF tl y):=fun j hj=> by
 have:=rngB_at hr hj;exact hy _ (by omega)
theorem rowsF_rng' {l:List (List Int)} {n:Nat} (hl:∀r∈l,r.length=n∧entS (p ^ m) r=0) {i:Nat} (hi:i < l.length):EntR p m n (rowsF l i):=fun j hj=> by
 have h1:l.getD i []=l[i]:=by rw [List.getD_eq_getElem?_getD,List.getElem?_eq_getElem hi];rfl
 obtain ⟨h2,h3⟩:=hl _ (List.getElem_mem hi);unfold rowsF;rw [h1];exact entS_rng h3 _ (by rw [List.getD_eq_getElem?_getD,List.getElem?_eq_getElem (by omega)];exact List.getElem_mem _)
structure Two (p m:Nat) (ml:List Int) (n:Nat) (l1 l2:List (List Int)):Prop where
 hp:2≤p
 hm:1≤m
 hF:IsF p m (lw ml)
 h1:∀r∈l1,r.length=n∧entS (p ^ m) r=0
 h2:∀r∈l2,r.length=n∧entS (p ^ m) r=0
variable {l1 l2:List (List Int)} {n:Nat} {tl sc:List Int}
theorem Two.spL (h:Two p m ml n l1 l2) (t:Nat) (sc:List Int):SpOK p m ml t l1.length (fun i=> mpF p m ml sc (rowsF l1 i)) (spn p m ml t (fun i=> mpF p m ml sc (rowsF l1 i)) l1.length):=
 spn_ok h.hp h.hm h.hF (K:=l1.length) (fun i _=> mpF_rng h.hp _ _ _) _ (Nat.le_refl _)
theorem Two.spR (h:Two p m ml n l1 l2) (hr:rngB tl n=true):SpOK p m ml tl.length l2.length (fun i=> seF tl (rowsF l2 i)) (spn p m ml tl.length (fun i=> seF tl (rowsF l2 i)) l2.length):=
 spn_ok h.hp h.hm h.hF (K:=l2.length) (fun i hi=> seF_rng hr (rowsF_rng' h.h2 hi)) _ (Nat.le_refl _)
theorem cmbK_rng (hp:2≤p) (msg:List Int) (rows:List (List Int)):∀i j,0≤cmbK p m ml msg rows i j∧cmbK p m ml msg rows i j < ((p ^ m:Nat):Int)
 | 0,j=> by
  have:0 < p ^ m:=Nat.pow_pos (by omega);show (0:Int)≤0∧(0:Int) < _
  omega
 | i + 1,j=> by
  have:=kadd_lt (m:=m) (show 1≤p by omega) (kin (p ^ m) (cmbK p m ml msg rows i j)) (kmul p m (lw ml) (kin (p ^ m) (msg.getD i 0)) (kin (p ^ m) (rowsF rows i j)));show 0≤((kadd p m _ _:Nat):Int)∧((kadd p m _ _:Nat):Int) < _
  omega
theorem cmbK_succ (hp:2≤p) (msg:List Int) (rows:List (List Int)) (i:Nat):cmbK p m ml msg rows (i + 1)=addF p m ml (cmbK p m ml msg rows i) (kin (p ^ m) (msg.getD i 0)) (rowsF rows i):=by
 funext j;have hq0:0 < p ^ m:=Nat.pow_pos (by omega);obtain ⟨r1,r2⟩:=cmbK_rng (m:=m) (ml:=ml) hp msg rows i j;show ((kadd p m (kin (p ^ m) (cmbK p m ml msg rows i j)) (kmul p m (lw ml) (kin (p ^ m) (msg.getD i 0)) (kin (p ^ m) (rowsF rows i j))):Nat):Int)=_
 unfold addF;split
 ·rename_i h0;rw [h0,kin_zero,kmul_zero_r (by omega),kadd_zero (by omega) (kin_lt hq0 _),kin_code r1 r2]
 ·rfl
end
section
variable {p m:Nat} {ml:List Int} {n:Nat} {l1 l2:List (List Int)} {pl sl:List Int}
end
section
variable {σ:Type} {step:σ→List Int→List Int→σ × Int} {tl sc:List Int}
end
section
variable {p m:Nat} {ml:List Int} {n:Nat} {l1 l2:List (List Int)} {pl sl:List Int}
end
end
section
open Go.RowKit
theorem chk_can {p m:Int} {ml:List Int} {cols:Int} {rows:List (List Int)} {e:Int} (h:ChkOut p m ml cols rows e):canE p m ml cols rows=e:=by
 unfold canE;rcases h with ⟨pn,mn,rfl,rfl,h3,h4⟩ | ⟨h1,h2⟩
 ·rw [if_neg (fun h=> h ((chk_iff _ _ _).2 h3)),h4];rfl
 ·rw [if_pos (fun h=> h1 ((chk_iff _ _ _).1 h)),h2]
theorem rowsL_rowsF {N:Nat} {rows:List (List Int)} (h:∀r∈rows,r.length=N):rowsL N rows.length (rowsF rows)=rows:=by
 apply List.ext_getElem?;intro i;by_cases hi:i < rows.length
 ·rw [rowsL_get hi,List.getElem?_eq_getElem hi,rowsF_il (List.getElem?_eq_getElem hi) (h _ (List.getElem_mem hi))]
 ·rw [List.getElem?_eq_none (by rw [rowsL_len];omega),List.getElem?_eq_none (by omega)]
theorem rowsF_rng {p m N:Nat} {rows:List (List Int)} (h:∀r∈rows,r.length=N∧entS (p ^ m) r=0):Rng p m rows.length N (rowsF rows):=fun i hi j hj=> by
 have hrr:rows[i]?=some rows[i]:=List.getElem?_eq_getElem hi;obtain ⟨h1,h2⟩:=h _ (List.getElem_mem hi);have e:rowsF rows i j=rows[i].getD j 0:=by unfold rowsF;rw [List.getD_eq_getElem?_getD (l:=rows),hrr];rfl
 rw [e];refine entS_rng h2 _ ?_;rw [List.getD_eq_getElem?_getD,List.getElem?_eq_getElem (by omega)];exact List.getElem_mem _
theorem rChk10_any (p m:Int) (ml:List Int) (mv:Value) (w:World) (hmv:ISl w mv ml) (cols:Int) (rows:List (List Int)) (v:Value) (hv:MSl w v rows):
  Calls Tryz.prog 78 #[.agg #[.int .i64 p,.int .i64 m,mv],.agg #[.int .i64 cols,v]] w fun r w'=> (∃e:Int,r= .returned (.int .i64 e)∧SpcO p m ml cols rows e)∧Ex w w':=by
 obtain ⟨g0,g1,g2,e0,gsz⟩:=box_facts w p m mv;have HCH:=hid_ (fun (w':World) (h:Ex w w')=> rChkM_any p m ml mv w' (hmv.ex h) cols rows v (hv.ex h));have HMV:=hid_ hmv;have HV:=hid_ hv;obtain ⟨za,zc,rfl,z1,z2,z3⟩:=hv.open;clear z1 z3;unfold maxLen at z2;obtain ⟨ma,mc,rfl,-,m2,-⟩:=hmv.open;unfold maxLen at m2;obtain ⟨xb,hxb⟩:∃xb,w.heap.size=xb:=⟨_,rfl⟩;rw [hxb] at g0 g1 g2 gsz;clear hmv hv;go_enter Tryz.func78,Tryz.ntmps78
 go_wp2_with fail
 generalize w.alloc (.cells #[.int .i64 p,.int .i64 m,.slice ma ml.length mc] 24)=wA at *;obtain ⟨a0,a1,ea⟩:=boxM2_facts wA cols (.slice za rows.length zc);rw [gsz] at a0 a1;generalize wA.alloc (.cells #[.int .i64 cols,.slice za rows.length zc] 113)=wB at *;have A0:=hid_ a0;have A1:=hid_ a1;have G0:=hid_ (ea.cell g0);have G1:=hid_ (ea.cell g1);have G2:=hid_ (ea.cell g2);have HE:=hid_ (e0.trans ea);clear g0 g1 g2 a0 a1 e0 ea gsz;refine (HCH.out wB HE.out).mono ?_;rintro e w2 ⟨e,rfl,hc,hx2⟩;have HX2:=hid_ (HE.out.trans hx2);have A0:=hid_ (hx2.cell A0.out);have A1:=hid_ (hx2.cell A1.out);have G0:=hid_ (hx2.cell G0.out);have G1:=hid_ (hx2.cell G1.out);have G2:=hid_ (hx2.cell G2.out);clear hx2 HE HCH;have hce:=chk_can hc;by_cases he:e=0
 ·subst he;rcases hc with ⟨pn,mn,rfl,rfl,hfb,hmk⟩ | ⟨_,h⟩
  ·obtain ⟨s1,s2,s3,s4⟩:=mchk_shape hmk.symm;obtain ⟨N,rfl⟩:∃N:Nat,cols=N:=⟨cols.toNat,by omega⟩;have hrows:∀r∈rows,r.length=N∧entS (pn ^ mn) r=0:=fun r hr=> by obtain ⟨h1,h2⟩:=s4 r hr;exact ⟨by omega,h2⟩
   have hsh:FSh pn mn ml∧IsF pn mn (lw ml):=by
    obtain ⟨pn',mn',e1,e2,h3,h4,h5⟩:=hfb;obtain rfl:pn'=pn:=by omega
    obtain rfl:mn'=mn:=by omega
    exact ⟨h3,h5⟩
   have HCN:=hid_ (rCanon_any (mv:= .slice ma ml.length mc) w2 hsh.1 hsh.2 (HMV.out.ex HX2.out) N rows.length (by omega) s3 (rowsF rows) (rowsF_rng hrows) _ (by rw [rowsL_rowsF fun r hr=> (hrows r hr).1];exact HV.out.ex HX2.out));have HSP:=hid_ (fun piv a' e (hel:ElO pn mn ml N rows.length (rowsF rows) a' piv) (h:e=if rowsL N piv.length a'=rows then 0 else 5)=> show SpcO pn mn ml N rows e from .inr ⟨hce,pn,mn,N,piv,a',rfl,rfl,rfl,hfb,hmk.symm,hel,h⟩);have c0:=A0.out;have c1:=A1.out;have c2:=G0.out;have c3:=G1.out;have c4:=G2.out;clear hce hfb hmk s1 s2 s3 s4 hrows hsh;go_wp2_with fail
   refine HCN.out.mono ?_;rintro e w3 ⟨piv,pv,rv,a',rfl,hel,hrv,hpv,hx3⟩;have HX3:=hid_ (HX2.out.trans hx3);have c1:=hx3.cell A1.out;obtain ⟨L,hL⟩:∃L,rowsL N piv.length a'=L:=⟨_,rfl⟩;have HSR:=hid_ (SameRows_any w3 L rows _ _ (by rw [←hL];exact hrv) (HV.out.ex HX3.out));have HS2:=hid_ (fun e=> HSP.out piv a' e hel);rw [hL] at HS2;obtain ⟨ra,rc,hre,-,r2,-⟩:=hrv.open;rw [hL] at hre;subst hre;obtain ⟨pa,pc,rfl,-,p2,-⟩:=hpv.open;clear hel hrv hpv hx3 hL r2 p2 HCN HSP;by_cases hLR:L=rows
   ·rw [decide_eq_true hLR] at HSR;have HSP2:=hid_ (HS2.out 0 (by rw [if_pos hLR]));clear hLR HS2;go_wp2_with (go_at_call 77;refine HSR.out.mono ?_;rintro e w4 ⟨rfl,n3,hw3⟩;subst hw3)
    have HX4:=hid_ (HX3.out.drewN n3);go_wp2_with fail
    go_ret;exact ⟨⟨_,rfl,HSP2.out⟩,HX4.out⟩
   ·rw [decide_eq_false hLR] at HSR;have HSP2:=hid_ (HS2.out 5 (by rw [if_neg hLR]));clear hLR HS2;go_wp2_with (go_at_call 77;refine HSR.out.mono ?_;rintro e w4 ⟨rfl,n3,hw3⟩;subst hw3)
    have HX4:=hid_ (HX3.out.drewN n3);go_wp2_with fail
    go_ret;exact ⟨⟨_,rfl,HSP2.out⟩,HX4.out⟩
  ·exact absurd h (by decide)
 ·have kb:(e !=0)=true:=by simpa using he
  have HSP:=hid_ (show SpcO p m ml cols rows e from .inl ⟨by rw [hce];exact he,hce.symm⟩);clear hc hce;go_wp2_with fail
  go_ret;exact ⟨⟨_,rfl,HSP.out⟩,HX2.out⟩
end
section
open Go.RowKit
def pckF (f s:List Int) (j:Nat):Int:=f.getD (s.getD j 0).toNat 0
theorem rPick_any (w:World) (f s:List Int) (v sv:Value) (hv:ISl w v f) (hs:ISl w sv s) (hl:s.length≤1000) (hin:∀x∈s,0≤x∧x < (f.length:Int)):
  Calls Tryz.prog 149 #[v,sv] w fun r w'=> ∃g,r= .returned (.slice (some ⟨g,0,none⟩) s.length s.length)∧Own w' w.heap.size 3 g s.length (iv (pckF f s))∧Ex w w':=by
 obtain ⟨va,vc,rfl,v1,v2,v3⟩:=hv.open;obtain ⟨sa,sc,rfl,s1,s2,s3⟩:=hs.open;have V3:=hid_ v3;have S3:=hid_ s3;have HIN:=hid_ hin;unfold maxLen at v2 s2;clear hv hs v3 s3 hin;obtain ⟨B,hB⟩:∃B,w.heap.size=B:=⟨_,rfl⟩;go_enter Tryz.func149,Tryz.ntmps149
 go_wp2_with (at_make;refine wpList_make_arr _ rfl _ _ 22 rfl 3 (.int .i64 0) 8 Tryz.underlying22 infoInt rfl _ s.length rfl rfl rfl (by omega) (by unfold maxLen;omega) ?_)
 intro w3 hown hx3
 try simp only [hB] at hown hx3 ⊢
 have HBW:=hid_ hB;clear hB;have HO:=hid_ (show Own w3 B 3 B s.length (iv fun j=> if j < 0 then pckF f s j else 0) from hown.icongr (fun j _=> by simp));have HX:=hid_ hx3;clear hown hx3;go_wp2_with fail
 go_loopw [6] (fun i' wr=> ∃i:Nat,i≤s.length∧i'= .int .i64 i∧Hid (Own wr B 3 B s.length (iv fun j=> if j < i then pckF f s j else 0))∧Hid (Ex w wr)) (fun i' _=> s.length - (intOf i').toNat)
 case atStart=> exact ⟨0,by omega,rfl,HO,HX⟩
 case round=>
  obtain ⟨i,hi,rfl,hO,hX⟩:=hrel;by_cases hik:i < s.length
  ·obtain ⟨sb,so,rfl,hsj⟩:=S3.out (by omega);obtain ⟨h1,h2⟩:=HIN.out (s.getD i 0) (List.mem_of_getElem? (lget_D hik));obtain ⟨c,hc⟩:∃c:Nat,s.getD i 0=c:=⟨(s.getD i 0).toNat,by omega⟩;have hcf:c < f.length:=by omega
   obtain ⟨vb,vo,rfl,hvj⟩:=V3.out (by omega);have cs:=hX.out.cell (hsj i _ (lget_D hik));have cv:=hX.out.cell (hvj c _ (lget_D hcf));rw [hc] at cs;obtain ⟨y,hy⟩:∃y,f.getD c 0=y:=⟨_,rfl⟩;rw [hy] at cv;have HO2:=hid_ (show Own (wr.setCell ⟨B,i,none⟩ (.int .i64 y)) B 3 B s.length (iv fun j=> if j < i + 1 then pckF f s j else 0) from (hO.out.set i (.int .i64 y)).congr (fun j hj=> by
    by_cases e:j=i
    ·subst e;rw [upd_same];show _=Value.int IntKind.i64 (if j < j + 1 then pckF f s j else 0)
     rw [if_pos (by omega)];unfold pckF;rw [hc,←hy];rfl
    ·rw [upd_ne _ _ e];show Value.int IntKind.i64 _=Value.int IntKind.i64 _
     congr 1
     show (if j < i then pckF f s j else 0)=(if j < i + 1 then pckF f s j else 0)
     by_cases e2:j < i
     ·rw [if_pos e2,if_pos (by omega)]
     ·rw [if_neg e2,if_neg (by omega)]))
   have co:=hO.out.cell hik;have fo:=hO.out.frz i;have HXS:=hid_ (hO.out.exSet (show w.heap.size≤B from by rw [HBW.out];exact Nat.le_refl _) hX.out i (.int .i64 y));have i1:(0:Int)≤(i:Int):=by omega
   have i2:(i:Int) < (s.length:Int):=by omega
   have i3:(0:Int)≤(c:Int):=by omega
   have i4:(c:Int) < (f.length:Int):=by omega
   have b1:decide (i < s.length)=true:=by simpa using hik
   clear hO hX HO HX hsj hvj hc hy h1 h2;go_wp2_with fail
   go_roundw
   case rel=> first | exact ⟨i + 1,by omega,by go_num,HO2,HXS⟩ | ((repeat apply Exists.intro);exact ⟨⟨i + 1,by omega,by go_num,HO2,HXS⟩,rfl⟩)
   case measure=> simp [intOf];omega
  ·obtain rfl:i=s.length:=by omega
   have b1:decide (s.length < s.length)=false:=by simp
   have HO4:=hid_ (hO.out.icongr (h:=pckF f s) (fun j hj=> by rw [if_pos hj]));clear hO HO HX;go_wp2_with fail
   go_ret;exact ⟨_,rfl,by rw [HBW.out];exact HO4.out,hX.out⟩
end
section
open Go.RowKit
theorem rKeep_any (w:World) (rows:List (List Int)) (s:List Int) (v sv:Value) (hv:MSl w v rows) (hs:ISl w sv s) (hR:rows.length≤1000) (hl:s.length≤1000) (hin:∀r∈rows,∀x∈s,0≤x∧x < (r.length:Int)):
  Calls Tryz.prog 169 #[v,sv] w fun r w'=> ∃cv vals,r= .returned cv∧MRows w' w.heap.size cv (rows.map fun r=> il s.length (pckF r s)) vals∧Ex w w':=by
 obtain ⟨va,vc,rfl,v1,v2,v3⟩:=hv.open;have HSV:=hid_ hs;obtain ⟨sa,sc,rfl,-,s2,-⟩:=hs.open;unfold maxLen at v2;have V3:=hid_ v3;have HN:=hid_ hin;clear hv v3 hin hs;go_enter Tryz.func169,Tryz.ntmps169
 go_wp2_with fail
 go_loopw [5,6] (fun cv i' wr=> ∃(i:Nat) (M:List (List Int)) (vals:List Value),i≤rows.length∧i'= .int .i64 i∧Hid (M=(rows.map fun r=> il s.length (pckF r s)).take i)∧Hid (MRows wr w.heap.size cv M vals)∧Hid (Ex w wr)) (fun _ i' _=> rows.length - (intOf i').toNat)
 case atStart=> exact ⟨0, [], [],by omega,rfl,hid_ rfl,hid_ (MRows.nil _ _),hid_ (Ex.refl _)⟩
 case round=>
  obtain ⟨i,M,vals,hi,rfl,hM,hm,hx⟩:=hrel;obtain ⟨ca,cc,hcv⟩:=own_shape hm.out.cvo;subst hcv;have HTK:=hid_ (show M.length=i from by rw [hM.out];simp;omega);by_cases hlt:i < rows.length
  ·obtain ⟨zb,zo,rfl,hzc⟩:=V3.out (by omega);obtain ⟨uv,huc,hui⟩:=hzc i _ (List.getElem?_eq_getElem hlt);have cu:=hx.out.cell huc;have hru:=HN.out _ (List.getElem_mem hlt);have HTS:=hid_ (show M ++ [il s.length (pckF rows[i] s)]=(rows.map fun r=> il s.length (pckF r s)).take (i + 1) from by rw [hM.out,List.take_add_one,List.getElem?_map,List.getElem?_eq_getElem hlt];rfl);have i1:(0:Int)≤(i:Int):=by omega
   have i2:(i:Int) < (rows.length:Int):=by omega
   generalize rows[i]=r at *;have HPK:=hid_ (rPick_any wr r s _ _ (hui.ex hx.out) (HSV.out.ex hx.out) hl hru);obtain ⟨ua,uc,rfl,-,u2,-⟩:=hui.open;have HM:=hid_ hm.out;have HX:=hid_ hx.out;have HSZ:=hid_ hx.out.size;have HLN:=hid_ (il_len s.length (pckF r s));obtain ⟨f,hf⟩:∃f,pckF r s=f:=⟨_,rfl⟩;rw [hf] at HPK HTS HLN;clear hzc huc hui hm hx hru u2 hf;go_wp2_with (first
        | (go_at_call 149;refine HPK.out.mono ?_
           rintro e w5 ⟨g5,rfl,ho5,hx5⟩;have HM5:=hid_ (HM.out.ex hx5);have HXX:=hid_ (HX.out.trans hx5);have HL:=hid_ (show w5.ownsRow w.heap.size 3 1 (.slice (some ⟨g5,0,none⟩) s.length s.length) (il s.length f).length (ints (il s.length f)) from by
             rw [HLN.out,ints_il];exact ownsRow_mono ho5 HSZ.out)
           have HAL:=hid_ (show Aprt (.slice (some ⟨g5,0,none⟩) s.length s.length) (.slice ca M.length cc) from by
             right;show some g5≠_
             intro e2;have h1:=(HM.out.cvo.lt g5 e2.symm).2;have h2:=ho5.lt.1;omega)
           clear HM ho5 hx5 HPK cu)
        | (at_builtin;refine wpList_append1 _ rfl _ _ 45 rfl w.heap.size 22 (.slice none 0 0) 1 24 Tryz.underlying45 infoIntsL rfl (by decide) _ M.length _ rfl HM5.out.cvo [.slice (some ⟨g5,0,none⟩) s.length s.length] 22 _ rfl (by simp) rfl (by simp [Value.oneCell']) (by have:=HTK.out;unfold maxLen;omega) (by have:=HTK.out;omega) HXX.out.size ?_))
   intro v2 w6 happ;have HO:=hid_ (HM5.out.app HL.out HAL.out happ);have HE:=hid_ (happ.ex HXX.out (Nat.le_refl _));obtain ⟨va2,vc2,hv2⟩:=own_shape happ.own;subst hv2;clear happ HL HAL HM5;go_wp2_with fail
   go_roundw
   case rel=> first | exact ⟨i + 1,_,_,by omega,by go_num,HTS,HO,HE⟩ | ((repeat apply Exists.intro);exact ⟨⟨i + 1,_,_,by omega,by go_num,HTS,HO,HE⟩,rfl⟩)
   case measure=> simp [intOf];omega
  ·obtain rfl:i=rows.length:=by omega
   have HM:=hid_ (show MRows wr w.heap.size (.slice ca M.length cc) (rows.map fun r=> il s.length (pckF r s)) vals from by have h:=hM.out;rw [List.take_of_length_le (by simp)] at h;have:=hm.out;rw [h] at this ⊢;exact this);have HX:=hid_ hx.out;clear hm hx;go_wp2_with fail
   go_ret;exact ⟨_,_,rfl,HM.out,HX.out⟩
end
section
open Go.RowKit
theorem rowsL_suc9 (N k:Nat) (a:Nat→Nat→Int):rowsL N (k + 1) a=rowsL N k a ++ [il N (a k)]:=by
 unfold rowsL;rw [List.range_succ,List.map_append];rfl
theorem keep_rows {l:List (List Int)} {s:List Int}:(l.map fun r=> il s.length (pckF r s))=rowsL s.length l.length (fun i=> seF s (rowsF l i)):=by
 refine List.ext_getElem? fun i=> ?_;by_cases hi:i < l.length
 ·rw [rowsL_get hi,List.getElem?_map,List.getElem?_eq_getElem hi];show some _=some _
  congr 1
  unfold il;refine List.map_congr_left fun j _=> ?_;unfold pckF seF rowsF;rw [List.getD_eq_getElem?_getD (l:=l),List.getElem?_eq_getElem hi];rfl
 ·rw [List.getElem?_eq_none (by simpa using hi),List.getElem?_eq_none (by rw [rowsL_len];omega)]
def SidO (p m:Nat) (ml tl sl:List Int) (l1 l2:List (List Int)) (K:Nat) (r:Ending) (w':World):Prop:=
 ∃(av bv:Value) (pa pb:List Nat) (aa ab:Nat→Nat→Int),r= .returned (.tuple #[av,bv])∧ElO p m ml K l1.length (fun i=> mpF p m ml sl (rowsF l1 i)) aa pa∧ElO p m ml K l2.length (fun i=> seF tl (rowsF l2 i)) ab pb∧MSl w' av (rowsL K pa.length aa)∧MSl w' bv (rowsL K pb.length ab)
theorem rSides_any {p m n:Nat} {ml:List Int} {l1 l2:List (List Int)} (w:World) (hf:FSh p m ml) (hF:IsF p m (lw ml)) (hn:n≤64) (h1:∀r∈l1,r.length=n∧entS (p ^ m) r=0) (h2:∀r∈l2,r.length=n∧entS (p ^ m) r=0) (k1:l1.length≤256) (k2:l2.length≤256)
  (m1 m2 v1 v2:Value) (hm1:ISl w m1 ml) (hv1:MSl w v1 l1) (hm2:ISl w m2 ml) (hv2:MSl w v2 l2) (tl sl:List Int) (tv sv:Value) (ht:ISl w tv tl) (hs:ISl w sv sl) (hsl:sl.length=tl.length) (K:Nat) (hK:tl.length=K) (htn:K≤n) (hrg:rngB tl n=true):
  Calls Tryz.prog 145 #[.agg #[.int .i64 p,.int .i64 m,m1,.int .i64 n,v1],.agg #[.int .i64 p,.int .i64 m,m2,.int .i64 n,v2],.agg #[tv,sv]] w fun r w'=> SidO p m ml tl sl l1 l2 K r w'∧Ex w w':=by
 obtain ⟨c0,c1,c2,c3,c4,ea⟩:=boxC_facts w p m m1 n v1;obtain ⟨d0,d1,d2,d3,d4,eb⟩:=boxC_facts (w.alloc (.cells #[.int .i64 p,.int .i64 m,m1,.int .i64 n,v1] 47)) p m m2 n v2;have asz:(w.alloc (.cells #[.int .i64 p,.int .i64 m,m1,.int .i64 n,v1] 47)).heap.size=w.heap.size + 1:=by simp
 have bsz:((w.alloc (.cells #[.int .i64 p,.int .i64 m,m1,.int .i64 n,v1] 47)).alloc (.cells #[.int .i64 p,.int .i64 m,m2,.int .i64 n,v2] 47)).heap.size=w.heap.size + 1 + 1:=by simp
 obtain ⟨b0,b1,ec,-⟩:=boxP_facts ((w.alloc (.cells #[.int .i64 p,.int .i64 m,m1,.int .i64 n,v1] 47)).alloc (.cells #[.int .i64 p,.int .i64 m,m2,.int .i64 n,v2] 47)) tv sv;rw [asz] at d0 d1 d2 d3 d4;rw [bsz] at b0 b1;replace c0:=(eb.trans ec).cell c0;replace c1:=(eb.trans ec).cell c1;replace c2:=(eb.trans ec).cell c2;replace c3:=(eb.trans ec).cell c3;replace c4:=(eb.trans ec).cell c4;replace d4:=ec.cell d4;have HX:=hid_ (ea.trans (eb.trans ec));have HMP:=hid_ (fun (w':World) (h:Ex w w') (x:List Int) (xv:Value) (hx:ISl w' xv x) (hxl:x.length=n)=> rMapped_any w' hf (hm1.ex h) tl sl x tv sv xv (ht.ex h) (hs.ex h) hx hsl (by omega) K hK (by omega));have HCA:=hid_ (fun (w':World) (h:Ex w w') (R:Nat) (hR:R≤256) (a:Nat→Nat→Int) (hrng:Rng p m R K a) (v:Value) (hv:MSl w' v (rowsL K R a))=> rCanon_any w' hf hF (hm1.ex h) K R (by omega) hR a hrng v hv);have HKE:=hid_ (fun (w':World) (h:Ex w w')=> rKeep_any w' l2 tl v2 tv (hv2.ex h) (ht.ex h) (by omega) (by omega) fun r hr x hx=> by
  have:=List.all_eq_true.1 (show (tl.all fun x=> decide (0≤x∧x < (n:Int)))=true from hrg) x hx;have h3:=(h2 r hr).1;simp at this;omega)
 have hR1:Rng p m l1.length K (fun i=> mpF p m ml sl (rowsF l1 i)):=fun i _ j hj=> mpF_rng hf.p2 sl (rowsF l1 i) K j hj;have hR2:Rng p m l2.length K (fun i=> seF tl (rowsF l2 i)):=fun i hi j hj=> seF_rng hrg (rowsF_rng' h2 hi) j (by omega);have HR1:=hid_ hR1;have HR2:=hid_ hR2;have HH1:=hid_ h1;have HTL:=hid_ hK;have HKR:=hid_ (show (l2.map fun r=> il K (pckF r tl))=rowsL K l2.length (fun i=> seF tl (rowsF l2 i)) from by rw [←hK];exact keep_rows);obtain ⟨x1,y1,rfl,p1,z1,g1⟩:=hv1.open;obtain ⟨x2,y2,rfl,p2,z2,-⟩:=hv2.open;obtain ⟨x3,y3,rfl,-,z3,-⟩:=hm1.open;obtain ⟨x4,y4,rfl,-,z4,-⟩:=hm2.open;obtain ⟨ta,tc,rfl,t1,t2,-⟩:=ht.open;obtain ⟨sa,sc,rfl,s1,s2,-⟩:=hs.open;unfold maxLen at t2 s2 z1 z2 z3 z4;have V3:=hid_ g1;obtain ⟨B,hB⟩:∃B,w.heap.size=B:=⟨_,rfl⟩;rw [hB] at c0 c1 c2 c3 c4 d4 b0 b1;rw [hK] at c0 c1 c2 c3 c4 d4 b0 b1 HX HMP HKE ⊢;clear hf hF h1 h2 hm1 hv1 hm2 hv2 ht hs hsl hK htn hrg ea eb ec asz bsz d0 d1 d2 d3 hR1 hR2 g1 t1 s1 p1 p2;go_enter Tryz.func145,Tryz.ntmps145
 go_upto_region 1 with fail
 try simp only [hB]
 have HB:=hid_ hB;clear hB;generalize ((w.alloc (.cells #[.int .i64 p,.int .i64 m,.slice x3 ml.length y3,.int .i64 n,.slice x1 l1.length y1] 47)).alloc (.cells #[.int .i64 p,.int .i64 m,.slice x4 ml.length y4,.int .i64 n,.slice x2 l2.length y2] 47)).alloc (.cells #[.slice ta K tc,.slice sa sl.length sc] 49)=w3 at *;have HALL:=hid_ (fun w' (h:Ex w3 w')=> (⟨h.cell c0,h.cell c1,h.cell c2,h.cell c4,h.cell d4,h.cell b0,h.cell b1⟩:_∧_∧_∧_∧_∧_∧_));go_wp2_with fail
 clear c0 c1 c2 c3 c4 d4 b0 b1
 go_loopw [8,9] (fun cv i' wr=> ∃(k:Nat) (vals:List Value),k≤l1.length∧i'= .int .i64 k∧Hid (MRows wr w3.heap.size cv (rowsL K k (fun i=> mpF p m ml sl (rowsF l1 i))) vals)∧Hid (Ex w3 wr)) (fun _ i' _=> l1.length - (intOf i').toNat)
 case atStart=> exact ⟨0, [],by omega,rfl,hid_ (MRows.nil _ _),hid_ (Ex.refl _)⟩
 case round=>
  obtain ⟨k,vals,hk,rfl,hm,hxw⟩:=hrel;obtain ⟨qa,qc,hqv⟩:=own_shape hm.out.cvo;subst hqv;obtain ⟨c0,c1,c2,c4,d4,b0,b1⟩:=HALL.out wr hxw.out;have HLN:=hid_ (rowsL_len K k (fun i=> mpF p m ml sl (rowsF l1 i)));by_cases hkR:k < l1.length
  ·obtain ⟨rb,ro,rfl,hrc⟩:=V3.out (by omega);obtain ⟨uv,huc,hui⟩:=hrc k _ (List.getElem?_eq_getElem hkR);have cu:=(HX.out.trans hxw.out).cell huc;have i1:(0:Int)≤(k:Int):=by omega
   have i2:(k:Int) < (l1.length:Int):=by omega
   obtain ⟨x,hx⟩:∃x,l1[k]=x:=⟨_,rfl⟩;have HXL:=hid_ (show x.length=n∧entS (p ^ m) x=0 from hx ▸ HH1.out _ (List.getElem_mem hkR));have HXF:=hid_ (show (fun j=> x.getD j 0)=rowsF l1 k from by
    funext j;unfold rowsF;rw [List.getD_eq_getElem?_getD (l:=l1),List.getElem?_eq_getElem hkR,←hx];rfl)
   have HXS:=hid_ (rowsL_suc9 K k (fun i=> mpF p m ml sl (rowsF l1 i)));rw [hx] at hui;have HUI:=hid_ (hui.ex (HX.out.trans hxw.out));have HMR:=hid_ hm.out;have HK2:=hid_ (show k < 256 from by omega);have HSZ:=hid_ hxw.out.size;obtain ⟨ua,uc,rfl,-,u2,-⟩:=hui.open;unfold maxLen at u2;have HXG:=hid_ (show Ex wr wr.drew from (Ex.refl wr).drew);have HSX:=hid_ (fun (w1:World) (h1:Ex wr w1)=> HMP.out w1 (HX.out.trans (hxw.out.trans h1)) x _ (HUI.out.ex h1) HXL.out.1);rw [HXF.out] at HSX;have HGE:=hid_ (show w3.heap.size≤wr.heap.size from hxw.out.size);rw [HLN.out];clear hrc huc hui hx hm;go_upto_region 5 with fail
   go_region_law
    ((first
          | (refine step_append_sl (by rfl) _ _ _ (by rfl) w3.heap.size 22 (.slice none 0 0) 1 24 Tryz.underlying45 infoIntsL rfl (by decide) (.slice qa k qc) k vals (by rfl) (by have h:=ownsRow_ex HMR.out.cvo ((HXG.out.trans hx5).trans (e_al w5 (.cells #[.slice (some ⟨g5,0,none⟩) K K] 22)));rw [HLN.out] at h;exact h) _ 1 [.slice (some ⟨g5,0,none⟩) K K] (by rfl) (Sl.own (own_lit1 w5 (.slice (some ⟨g5,0,none⟩) K K) 22)) (by simp [Value.oneCell']) (by unfold maxLen;have:=HK2.out;omega) (by have:=HK2.out;omega) (by have h1:=HSZ.out;have h2:=(HXG.out.trans hx5).size;simp;omega) ?_;intro v8 w8 hown8 hg8 ha8;have HAP:=hid_ (e_appd (by have h:=ownsRow_ex HMR.out.cvo (HXG.out.trans hx5);rw [HLN.out] at h;exact h) hown8 hg8 ha8);obtain ⟨va8,vc8,hv8⟩:=own_shape hown8;subst hv8)
          | (go_simp;refine (HSX.out _ HXG.out).mono ?_;rintro e w5 ⟨g5,rfl,ho5,hx5⟩;go_simp)))
   all_goals
    have hx5':=HXG.out.trans hx5;have hm5:=HMR.out.ex hx5';rw [HLN.out] at hm5;have hl5:w5.ownsRow w3.heap.size 3 1 (.slice (some ⟨g5,0,none⟩) K K) (il K (mpF p m ml sl (rowsF l1 k))).length (ints (il K (mpF p m ml sl (rowsF l1 k)))):=by
     rw [il_len,ints_il];exact ownsRow_mono ho5 (by have h1:=HSZ.out;have h2:=HXG.out.size;omega)
    have hal:Aprt (.slice (some ⟨g5,0,none⟩) K K) (.slice qa k qc):=by
     right;show some g5≠_
     intro e;have h0:=HMR.out.cvo;rw [HLN.out] at h0;have h1:=(h0.lt g5 e.symm).2;have h2:=ho5.lt.1;have h3:=HXG.out.size;omega
    have HS8:=hid_ (hm5.app hl5 hal (by rw [HLN.out];exact HAP.out));rw [←HXS.out] at HS8;have HX8:=hid_ (HAP.out.ex (hxw.out.trans hx5') (Nat.le_refl _));have hk2:=HK2.out;clear hm5 hl5 hal hx5' HAP hown8 hg8 ha8 ho5 hx5 HSX;go_wp2_with fail
    go_roundw
    case rel=> first | exact ⟨k + 1,_,by omega,by go_num,HS8,HX8⟩ | ((repeat apply Exists.intro);exact ⟨⟨k + 1,_,by omega,by go_num,HS8,HX8⟩,rfl⟩)
    case measure=> simp [intOf];omega
  ·obtain rfl:k=l1.length:=by omega
   have HMS:=hid_ hm.out.msl;have HXW:=hid_ hxw.out;clear hm;rw [HLN.out] at HMS ⊢;go_wp2_with fail
   refine (HCA.out _ (HX.out.trans HXW.out) _ k1 _ HR1.out _ HMS.out).mono ?_;rintro e w5 ⟨pa,pv5,av,aa,rfl,hea,hav,hpv5,hx5⟩;obtain ⟨ra,rc,rfl,-,-,-⟩:=hav.open;obtain ⟨fa,fc,rfl,-,-,-⟩:=hpv5.open;have HX5:=hid_ (HXW.out.trans hx5);have HEA:=hid_ hea;have HAV:=hid_ hav;clear hea hav hpv5 hx5 c0 c1 c2 c4 d4 b0 b1;obtain ⟨c0,c1,c2,c4,d4,b0,b1⟩:=HALL.out w5 HX5.out;go_upto_region 7 with fail
   have G5:=hid_ (show Ex w w5.drew from HX.out.trans (HX5.out.trans (Ex.refl w5).drew));have HCX:=hid_ (fun w' (h:Ex w5 w')=> HALL.out w' (HX5.out.trans h))
   go_cut [12] from 43 to 56 (fun bv wx=> ∃(pb:List Nat) (ab:Nat→Nat→Int),Hid (ElO p m ml K l2.length (fun i=> seF tl (rowsF l2 i)) ab pb)∧Hid (MSl wx bv (rowsL K pb.length ab))∧Hid (Ex w5 wx))
   case first=>
    have HAL:=hid_ (fun w' (h:Ex w5 w')=> (⟨(HCX.out w' h).1,(HCX.out w' h).2.1,(HCX.out w' h).2.2.1,(HCX.out w' h).2.2.2.2.1,(HCX.out w' h).2.2.2.2.2.1⟩:w'.cell? ⟨B,0,none⟩=some (.int .i64 (p:Int))∧w'.cell? ⟨B,1,none⟩=some (.int .i64 (m:Int))∧w'.cell? ⟨B,2,none⟩=some (.slice x3 ml.length y3)∧w'.cell? ⟨B + 1,4,none⟩=some (.slice x2 l2.length y2)∧w'.cell? ⟨B + 1 + 1,0,none⟩=some (.slice ta K tc)));have X0:Ex w5 w5.drew:=(Ex.refl w5).drew;clear c0 c1 c2 c4 d4 b0 b1
    go_region_held3 (fun w'=> w'.cell? ⟨B,0,none⟩=some (.int .i64 (p:Int))∧w'.cell? ⟨B,1,none⟩=some (.int .i64 (m:Int))∧w'.cell? ⟨B,2,none⟩=some (.slice x3 ml.length y3)∧w'.cell? ⟨B + 1,4,none⟩=some (.slice x2 l2.length y2)∧w'.cell? ⟨B + 1 + 1,0,none⟩=some (.slice ta K tc))
     (first | with_reducible exact HAL.out _ X7 | with_reducible exact HAL.out _ X6 | with_reducible exact HAL.out _ X0)
     (first | (go_at_call 169;(with_reducible refine (HKE.out _ G5.out).mono ?_);rintro e w6 ⟨cv,vals,rfl,hmr,hx6⟩;rw [HKR.out] at hmr;obtain ⟨ca,cc,rfl⟩:=own_shape hmr.cvo;have HMK:=hid_ hmr.msl;have HG6:=hid_ (G5.out.trans hx6);have X6:=X0.trans hx6;clear hmr hx6) | (go_at_call 123;(with_reducible refine (HCA.out _ HG6.out _ k2 _ HR2.out _ HMK.out).mono ?_);rintro e w7 ⟨pb,pv7,bv,ab,rfl,heb,hbv,hpv7,hx7⟩;obtain ⟨za,zc,rfl,-,-,-⟩:=hbv.open;obtain ⟨ya,yc,rfl,-,-,-⟩:=hpv7.open;have HEB:=hid_ heb;have HBV:=hid_ hbv;have X7:=X6.trans hx7;have HE7:=hid_ X7;clear heb hbv hpv7 hx7))
    all_goals go_wp2_with fail
    all_goals go_meet
    all_goals exact ⟨pb,ab,HEB.out,HBV.out,HE7.out⟩
   case rest=>
    obtain ⟨pb,ab,heb,hbv,hxc⟩:=hcut;have HHB:=hid_ hbv.out;obtain ⟨za,zc,rfl,-,-,-⟩:=hbv.out.open;have HRE:=hid_ (show SidO p m ml tl sl l1 l2 K (.returned (.tuple #[.slice ra (rowsL K pa.length aa).length rc,.slice za (rowsL K pb.length ab).length zc])) wc from ⟨_,_,pa,pb,aa,ab,rfl,HEA.out,heb.out,HAV.out.ex hxc.out,HHB.out⟩);clear c0 c1 c2 c4 d4 b0 b1 hbv;go_wp2_with fail
    go_ret2;exact ⟨HRE.out,HX.out.trans (HX5.out.trans hxc.out)⟩
end
section
def exJ (q:Nat) (tl sl:List Int) (j:Nat):List (List Int × List Int):=if tl.contains (j:Int) then [] else (List.range (q - 1)).map fun c=> (tl ++ [(j:Int)],sl ++ [((c + 1:Nat):Int)])
def exL (q:Nat) (tl sl:List Int) (n:Nat):List (List Int × List Int):=(List.range n).flatMap (exJ q tl sl)
def foX {σ:Type} (step:σ→List Int→List Int→σ × Int):List (List Int × List Int)→σ→σ × Int
 | [],s=> (s,0)
 | x :: xs,s=> if (step s x.1 x.2).2≠0 then step s x.1 x.2 else foX step xs (step s x.1 x.2).1
section
variable {σ:Type} (step:σ→List Int→List Int→σ × Int)
theorem foX_cons (x:List Int × List Int) (xs:List (List Int × List Int)) (s:σ):foX step (x :: xs) s=if (step s x.1 x.2).2≠0 then step s x.1 x.2 else foX step xs (step s x.1 x.2).1:=rfl
theorem foX_app:∀(xs ys:List (List Int × List Int)) (s:σ),foX step (xs ++ ys) s=if (foX step xs s).2≠0 then foX step xs s else foX step ys (foX step xs s).1
 | [],ys,s=> by simp [foX]
 | x :: xs,ys,s=> by
  rw [List.cons_append,foX_cons,foX_cons];by_cases h:(step s x.1 x.2).2≠0
  ·rw [if_pos h,if_pos h,if_pos h]
  ·rw [if_neg h,if_neg h,foX_app xs ys]
theorem rnJ_succ (q:Nat) (tl sl:List Int) (j:Nat) (s:σ):rnJ step q tl sl (j + 1) s=if (rnJ step q tl sl j s).2≠0 then rnJ step q tl sl j s else if tl.contains (j:Int) then rnJ step q tl sl j s else rnA step tl sl j (q - 1) (rnJ step q tl sl j s).1:=rfl
theorem foX_one (x:List Int × List Int) (s:σ):foX step [x] s=step s x.1 x.2:=by
 unfold foX;split
 ·rfl
 ·rename_i h;have:(step s x.1 x.2).2=0:=Classical.byContradiction h;show ((step s x.1 x.2).1,(0:Int))=_
  rw [←this]
theorem rnA_foX (tl sl:List Int) (j:Nat):∀(c:Nat) (s:σ),rnA step tl sl j c s=foX step ((List.range c).map fun c=> (tl ++ [(j:Int)],sl ++ [((c + 1:Nat):Int)])) s
 | 0,s=> rfl
 | c + 1,s=> by
  rw [List.range_succ,List.map_append,foX_app,List.map_singleton,foX_one,←rnA_foX tl sl j c s];rfl
theorem rnJ_foX (q:Nat) (tl sl:List Int):∀(n:Nat) (s:σ),rnJ step q tl sl n s=foX step (exL q tl sl n) s
 | 0,s=> rfl
 | n + 1,s=> by
  unfold exL;rw [List.range_succ,List.flatMap_append,foX_app];have ih:=rnJ_foX q tl sl n s;unfold exL at ih;rw [←ih,rnJ_succ];have h1:foX step (List.flatMap (exJ q tl sl) [n])=foX step (exJ q tl sl n):=by simp
  rw [h1];unfold exJ;by_cases h:(rnJ step q tl sl n s).2≠0
  ·rw [if_pos h,if_pos h]
  ·rw [if_neg h,if_neg h];by_cases hc:tl.contains (n:Int)=true
   ·rw [if_pos hc,if_pos hc];have:(rnJ step q tl sl n s).2=0:=Classical.byContradiction h;show _=((rnJ step q tl sl n s).1,(0:Int))
    rw [←this]
   ·rw [if_neg hc,if_neg hc,rnA_foX]
end
theorem exL_len {q n:Nat} {tl sl:List Int}:∀x∈exL q tl sl n,x.1.length=tl.length + 1∧x.2.length=sl.length + 1:=fun x hx=> by
 unfold exL exJ at hx;rw [List.mem_flatMap] at hx;obtain ⟨j,-,hx⟩:=hx;split at hx
 ·cases hx
 ·rw [List.mem_map] at hx;obtain ⟨c,-,rfl⟩:=hx;simp
def lastB (first:Bool) (l:List Int):Int:=if first=true then 0 else l.getD (l.length - 1) 0
section
variable (p m:Nat) (ml:List Int) (l1 l2:List (List Int)) (n:Nat)
end
section
variable {p m:Nat} {ml:List Int} {l1 l2:List (List Int)} {n:Nat} {es:List Rf}
end
end
end Go.Proofs.YtgdmlmhpineibaaGreat
