/- Walks of tower.prime, tower.Frobenius, the field's Sub, Order, Same, Check. -/
import Derived.Test.YtgdmlmhpineibaaGreatZg09
import Derived.Test.YtgdmlmhpineibaaGreatZg11
import Derived.Test.YtgdmlmhpineibaaGreatZg17
import Derived.Test.YtgdmlmhpineibaaGreatZg24
namespace Go.Proofs.YtgdmlmhpineibaaGreat
set_option linter.unusedVariables false
set_option linter.unusedSimpArgs false
set_option maxRecDepth 100000
set_option maxHeartbeats 4000000
section
open Go.RowKit
def frb (p m:Nat) (low:Vc) (x:Nat):Nat→Nat
 | 0=> x
 | k + 1=> kpw p m low (frb p m low x k) p
theorem frb_lt {p m:Nat} {low:Vc} (hp:2≤p) (hm:1≤m) {x:Nat} (hx:x < p ^ m):∀k,frb p m low x k < p ^ m
 | 0=> hx
 | k + 1=> kpw_lt hp hm _ _
section
variable {b p m x0:Nat} {ml:List Int}
theorem prime_any (w:World) (hg:GFat w b p m ml x0):
  Calls Tryz.prog 92 #[.pointer (some ⟨b,0,none⟩)] w fun r w'=> r= .returned (.tuple #[.int .i64 p,.int .i64 m])∧Ex w w':=by
 have HF:=hid_ (Field_any w hg);go_enter Tryz.func92,Tryz.ntmps92
 go_wp2_with fail
 refine HF.out.mono ?_;rintro e w1 ⟨v,rfl,hv,hx⟩;obtain ⟨va,vc,rfl,_,_,_⟩:=hv.open;have d0:(w1.alloc (.cells #[.int .i64 p,.int .i64 m,.slice va ml.length vc] 24)).cell? ⟨w1.heap.size,0,none⟩=some (.int .i64 p):=by simp
 have d1:(w1.alloc (.cells #[.int .i64 p,.int .i64 m,.slice va ml.length vc] 24)).cell? ⟨w1.heap.size,1,none⟩=some (.int .i64 m):=by simp
 have HX:=hid_ (hx.alloc (.cells #[.int .i64 p,.int .i64 m,.slice va ml.length vc] 24));clear hx hv;go_wp2_with fail
 obtain ⟨q,hq⟩:∃q,w1.heap.size=q:=⟨_,rfl⟩;rw [hq] at d0 d1
 try simp only [hq]
 clear hq;generalize w1.alloc (.cells #[.int .i64 p,.int .i64 m,.slice va ml.length vc] 24)=w2 at *
 go_quiet (fail)
 go_wp2_with fail
 go_ret2;exact ⟨rfl,HX.out.drewN _⟩
theorem Frobenius_any (w:World) (hg:GFat w b p m ml x0) (x:Int) (k:Nat) (hk:k < m):
  Calls Tryz.prog 53 #[.pointer (some ⟨b,0,none⟩),.int .i64 x,.int .i64 k] w fun r w'=> r= .returned (.int .i64 (frb p m (lw ml) (kin (p ^ m) x) k:Nat))∧Ex w w':=by
 have HG:=hid_ hg;have HP:=hid_ (prime_any w hg);have p2:=hg.sh.p2;have m1:=hg.sh.m1;have m8:=hg.sh.m8;have hp256:=hg.sh.p256;have hq0:0 < p ^ m:=Nat.pow_pos (by omega);have T1:(k:Int).tmod (m:Int)=(k:Int):=by
  rw [Int.tmod_eq_emod_of_nonneg (by omega)];exact Int.emod_eq_of_lt (by omega) (by omega)
 have T2:((k:Int) + (m:Int)).tmod (m:Int)=(k:Int):=by
  rw [Int.tmod_eq_emod_of_nonneg (by omega),Int.add_emod_right];exact Int.emod_eq_of_lt (by omega) (by omega)
 have i4:¬m=0:=by omega
 have i5:¬((m:Int)=0):=by omega
 have i1:IntKind.i64.wrap ((k:Int) + (m:Int))=(k:Int) + (m:Int):=IntWalk.i64_in _ (by omega);clear hg;go_enter Tryz.func53,Tryz.ntmps53
 go_wp2_with fail
 refine HP.out.mono ?_;rintro e w1 ⟨rfl,hx⟩;have HX:=hid_ hx;clear hx;go_wp2_with fail
 go_loopw [1,21] (fun x' j' wr=> ∃(j:Nat) (y:Int),j≤k∧j'= .int .i64 j∧x'= .int .i64 y∧Hid (kin (p ^ m) y=frb p m (lw ml) (kin (p ^ m) x) j)∧Hid (Ex w wr)) (fun _ j' _=> k - (intOf j').toNat)
 case atStart=> exact ⟨0,x,by omega,rfl,rfl,hid_ rfl,HX⟩
 case round=>
  obtain ⟨j,y,hj,rfl,rfl,hy,hex⟩:=hrel;by_cases hjk:j < k
  ·have hpw:=Pow_any wr (HG.out.ex hex.out) y p (by omega) (by omega);rw [hy.out] at hpw;obtain ⟨z,hz⟩:∃z,kpw p m (lw ml) (frb p m (lw ml) (kin (p ^ m) x) j) p=z:=⟨_,rfl⟩;have HZ:=hid_ (show kin (p ^ m) ((z:Nat):Int)=frb p m (lw ml) (kin (p ^ m) x) (j + 1) from by
    rw [←hz,kin_of (kpw_lt p2 m1 _ _)];rfl)
   rw [hz] at hpw;have HPW:=hid_ hpw;clear hpw hz hy;go_wp2_with fail
   refine HPW.out.mono ?_;rintro e w2 ⟨rfl,n2,rfl⟩;go_wp2_with fail
   go_roundw
   case rel=> exact ⟨j + 1,_,by omega,by go_num,rfl,HZ,hid_ (hex.out.drewN _)⟩
   case measure=> simp [intOf];omega
  ·obtain rfl:j=k:=by omega
   have had:=Add_any wr (HG.out.ex hex.out) y 0;rw [hy.out,kin_zero,kadd_zero (by omega) (frb_lt p2 m1 (kin_lt hq0 _) _)] at had;have HAD:=hid_ had;clear had;go_wp2_with fail
   refine HAD.out.mono ?_;rintro e w2 ⟨rfl,n2,rfl⟩;go_wp2_with fail
   go_ret;exact ⟨rfl,hex.out.drewN _⟩
theorem Sub_any (w:World) (hg:GFat w b p m ml x0) (x y:Int):
  Calls Tryz.prog 172 #[.pointer (some ⟨b,0,none⟩),.int .i64 x,.int .i64 y] w (Qt w (.int .i64 (kadd p m (kin (p ^ m) x) (kneg p m (kin (p ^ m) y)):Nat))):=by
 have p2:=hg.sh.p2;have HN:=hid_ (Neg_any w hg y);have ha:=fun n=> Add_any (w.drewN n) (hg.drewN n) x ((kneg p m (kin (p ^ m) y):Nat):Int);rw [show kin (p ^ m) ((kneg p m (kin (p ^ m) y):Nat):Int)=kneg p m (kin (p ^ m) y) from kin_of (kneg_lt (by omega) _)] at ha;have HA:=hid_ ha;clear ha hg;go_enter Tryz.func172,Tryz.ntmps172
 go_wp2_with fail
 refine HN.out.mono ?_;rintro e w1 ⟨rfl,n1,rfl⟩;go_wp2_with fail
 refine (HA.out n1).mono ?_;rintro e w2 ⟨rfl,n2,rfl⟩;go_wp2_with fail
 go_ret;exact ⟨rfl,_,rfl⟩
theorem Order_any (w:World) (hg:GFat w b p m ml x0):
  Calls Tryz.prog 110 #[.pointer (some ⟨b,0,none⟩)] w fun r w'=> r= .returned (.int .i64 ((p ^ m:Nat):Int))∧w=w':=by
 have c3:=hg.c3;generalize p ^ m=q at *;clear hg;go_enter Tryz.func110,Tryz.ntmps110
 go_wp2_with fail
 go_ret;exact ⟨rfl,rfl⟩
end
end
section
open Go.RowKit
theorem chk_one {p m:Int} {ml:List Int} (h:¬FldB p m ml):chkS p m ml=1:=by
 have h1:chkS p m ml≠0:=fun e=> h ((chk_iff p m ml).1 e);unfold chkS at h1 ⊢;split
 ·rename_i h2;rw [if_pos h2] at h1;exact absurd rfl h1
 ·rfl
theorem FCheck_any (w:World) (p m:Int) (ml:List Int) (mv:Value) (hmv:ISl w mv ml):
  Calls Tryz.prog 118 #[.agg #[.int .i64 p,.int .i64 m,mv]] w fun r w'=> r= .returned (.int .i64 (chkS p m ml))∧Ex w w':=by
 obtain ⟨a0,a1,a2,ea,-⟩:=box_facts w p m mv;have HE:=hid_ ea;have HMV:=hid_ (hmv.ex ea);have HSH:=hid_ (fun w' (h:ISl w' mv ml)=> shape_any p m ml mv w' h);have hord:=order_any p m;obtain ⟨R,hR⟩:∃R,chkS p m ml=R:=⟨_,rfl⟩;rw [hR];by_cases hs:shB p m ml=true
 ·obtain ⟨pn,mn,rfl,rfl,hf,hpr,ho⟩:=shB_FSh hs;rw [ho] at hord;rw [hs] at HSH;have HOR:=hid_ hord;have HGN:=hid_ (fun w' (h:ISl w' mv ml)=> generator_any pn mn ml mv w' hf h);obtain ⟨B,hB⟩:∃B:Bool,(B=true↔R=1)∧(B=false↔R=0)∧∀w' v,GenOut pn mn ml w' v→∃ga gn gc,v= .slice ga gn gc∧ga.isNone=B:=by
   by_cases hF:IsF pn mn (lw ml)
   ·have h0:=(chk_iff _ _ _).2 ⟨pn,mn,rfl,rfl,hf,hpr,hF⟩;rw [hR] at h0;subst h0;refine ⟨false,by simp,by simp,fun w' v h=> ?_⟩;rcases h with ⟨x,x1,x2,hgx,hgv⟩ | ⟨hno,rfl⟩
    ·obtain ⟨ga,gc,rfl,g1,g2,g3⟩:=hgv.open;obtain ⟨gb,gof,rfl,g4⟩:=g3 (by rw [il_length];have:=one_lt_q hf.p2 hf.m1;omega);exact ⟨_,_,_,rfl,rfl⟩
    ·exact absurd hF hno
   ·have h0:chkS pn mn ml=1:=chk_one fun ⟨a,b,e1,e2,_,_,h⟩=> by
     have e1':pn=a:=by omega
     have e2':mn=b:=by omega
     subst e1';subst e2';exact hF h
    rw [hR] at h0;subst h0;refine ⟨true,by simp,by simp,fun w' v h=> ?_⟩;rcases h with ⟨x,x1,x2,hgx,hgv⟩ | ⟨hno,rfl⟩
    ·exact absurd ⟨x,x1,x2,hgx⟩ hF
    ·exact ⟨_,_,_,rfl,rfl⟩
  have HB:=hid_ hB;have hE:=fun w (a:Option Addr) (l c:Nat)=> run_eql_slice_nil (P:=Tryz.prog) w 22 3 a l c Tryz.underlying22;clear hord hf hpr ho hs hB hR hmv ea;obtain ⟨q,hqq⟩:∃q,pn ^ mn=q:=⟨_,rfl⟩;rw [hqq] at HOR HGN;clear hqq;go_enter Tryz.func118,Tryz.ntmps118
  go_wp2_with fail
  obtain ⟨xb,hxb⟩:∃xb,w.heap.size=xb:=⟨_,rfl⟩;rw [hxb] at a0 a1 a2
  try simp only [hxb]
  clear hxb;generalize w.alloc (.cells #[.int .i64 pn,.int .i64 mn,mv] 24)=w1 at *;have G0:Ex w1 w1.drew:=(Ex.refl w1).drew;have A0:=hid_ a0;have A1:=hid_ a1;have A2:=hid_ a2
  first | go_region_with ((first
        | (go_at_call 135;(with_reducible refine (HSH.out _ (HMV.out.ex G0)).mono ?_);rintro e w2 ⟨rfl,h2⟩;have X2:=G0.trans h2;have b0:=X2.cell A0.out;have b1:=X2.cell A1.out;have b2:=X2.cell A2.out;clear h2)
        | (go_at_call 136;(with_reducible refine (HOR.out _).mono ?_);rintro e w3 ⟨rfl,rfl⟩)
        | (go_at_call 137;(with_reducible refine (HGN.out _ (HMV.out.ex X2)).mono ?_);rintro e w3 ⟨gv,rfl,hgo,hx3⟩;have X3:=X2.trans hx3;obtain ⟨ga,gn,gc,rfl,hgb⟩:=HB.out.2.2 _ _ hgo;have hE':=fun w=> hE w ga gn gc;rw [hgb] at hE';clear hgo hx3))) | fail
  all_goals
   cases B with
   | true=>
    obtain rfl:=HB.out.1.1 rfl;go_wp2_with fail
    go_ret;exact ⟨rfl,HE.out.trans X3⟩
   | false=>
    obtain rfl:=HB.out.2.1.1 rfl;go_wp2_with fail
    go_ret;exact ⟨rfl,HE.out.trans X3⟩
 ·have hs:shB p m ml=false:=by simpa using hs
  rw [hs] at HSH;have hr:=chk_bad (p:=p) (m:=m) hs;rw [hR] at hr;subst hr;clear hs hord hR hmv ea;go_enter Tryz.func118,Tryz.ntmps118
  go_wp2_with fail
  obtain ⟨xb,hxb⟩:∃xb,w.heap.size=xb:=⟨_,rfl⟩;rw [hxb] at a0 a1 a2
  try simp only [hxb]
  clear hxb;generalize w.alloc (.cells #[.int .i64 p,.int .i64 m,mv] 24)=w1 at *;have G0:Ex w1 w1.drew:=(Ex.refl w1).drew
  first | go_region_with ((go_at_call 135;(with_reducible refine (HSH.out _ (HMV.out.ex G0)).mono ?_);rintro e w2 ⟨rfl,h2⟩;have X2:=G0.trans h2;clear h2)) | fail
  all_goals
   go_wp2_with fail
   go_ret;exact ⟨rfl,HE.out.trans X2⟩
end
section
open Go.RowKit
theorem rChkM_any (p m:Int) (ml:List Int) (mv:Value) (w:World) (hmv:ISl w mv ml) (cols:Int) (rows:List (List Int)) (v:Value) (hv:MSl w v rows):
  Calls Tryz.prog 122 #[.agg #[.int .i64 p,.int .i64 m,mv],.agg #[.int .i64 cols,v]] w fun r w'=> ∃e,r= .returned (.int .i64 e)∧ChkOut p m ml cols rows e∧Ex w w':=by
 obtain ⟨g0,g1,g2,e0,gsz⟩:=box_facts w p m mv;have HMV:=hid_ hmv;have HV:=hid_ hv;obtain ⟨za,zc,rfl,z1,z2,z3⟩:=hv.open;have Z3:=hid_ z3;unfold maxLen at z2;obtain ⟨xb,hxb⟩:∃xb,w.heap.size=xb:=⟨_,rfl⟩;rw [hxb] at g0 g1 g2 gsz;have HCH:=hid_ (fun w' h=> rCheck_any p m ml mv w' h);have HCI:=hid_ (chk_iff p m ml);have HC01:=hid_ (show chkS p m ml=0∨chkS p m ml=1 by unfold chkS;split <;> simp);clear hmv hv z3;go_enter Tryz.func122,Tryz.ntmps122
 go_wp2_with fail
 try simp only [hxb]
 generalize w.alloc (.cells #[.int .i64 p,.int .i64 m,mv] 24)=wA at *;have a0:(wA.alloc (.cells #[.int .i64 cols,.slice za rows.length zc] 113)).cell? ⟨xb + 1,0,none⟩=some (.int .i64 cols):=by rw [←gsz];simp
 have a1:(wA.alloc (.cells #[.int .i64 cols,.slice za rows.length zc] 113)).cell? ⟨xb + 1,1,none⟩=some (.slice za rows.length zc):=by rw [←gsz];simp
 have eA:Ex wA (wA.alloc (.cells #[.int .i64 cols,.slice za rows.length zc] 113)):=(Ex.refl _).alloc _;generalize wA.alloc (.cells #[.int .i64 cols,.slice za rows.length zc] 113)=wB at *;have b0:=eA.cell g0;have b1:=eA.cell g1;have b2:=eA.cell g2;have eB:=e0.trans eA;clear g0 g1 g2 e0 eA gsz hxb wA;refine (HCH.out wB (HMV.out.ex eB)).mono ?_;rintro r w4 ⟨rfl,hx4⟩;have c0:=hx4.cell b0;have c1:=hx4.cell b1;have c2:=hx4.cell b2;have c3:=hx4.cell a0;have c4:=hx4.cell a1;have EX4:=hid_ (eB.trans hx4);clear b0 b1 b2 a0 a1 hx4 eB;by_cases h0:chkS p m ml=0
 ·obtain ⟨pn,mn,rfl,rfl,hsh,hpr,hif⟩:=HCI.out.1 h0;have HFL:=hid_ (show FldB pn mn ml from ⟨pn,mn,rfl,rfl,hsh,hpr,hif⟩);have HEN:=hid_ (fun w' l v (h:ISl w' v l)=> rEntries_any (mv:=mv) w' hsh l v h);have HOUT:=hid_ (show ∀e,e=mchkS (pn ^ mn) cols rows→ChkOut pn mn ml cols rows e from fun e h=> .inl ⟨pn,mn,rfl,rfl,HFL.out,h⟩);have HE:=hid_ (show mchkS (pn ^ mn) cols rows=if cols < 0∨256 < cols∨256 < (rows.length:Int) then 3
 else if (rows.all fun r=> decide ((r.length:Int)=cols))=true then (if (rows.all fun r=> entS (pn ^ mn) r==0)=true then 0 else 2) else 3 from rfl)
  rw [h0];clear h0 hsh hpr hif HCI HC01;by_cases h:cols < 0∨256 < cols∨256 < (rows.length:Int)
  ·have HR:=hid_ (HOUT.out 3 (by rw [HE.out,if_pos h]));have hc:cols < 0∨(0≤cols∧256 < cols)∨(0≤cols∧cols≤256∧256 < (rows.length:Int)):=by omega
   clear h HE;rcases hc with hc | ⟨h1,h2⟩ | ⟨h1,h2,h3⟩
   all_goals
    go_wp2_with fail
    go_ret;exact ⟨_,rfl,HR.out,EX4.out⟩
  ·have h1:0≤cols:=by omega
   have h2:cols≤256:=by omega
   have h3:(rows.length:Int)≤256:=by omega
   have d1:decide (cols < 0)=false:=by simp;omega
   have d2:decide (256 < cols)=false:=by simp;omega
   have d3:decide (256 < (rows.length:Int))=false:=by simp;omega
   have HE2:=hid_ (show mchkS (pn ^ mn) cols rows=if (rows.all fun r=> decide ((r.length:Int)=cols))=true then (if (rows.all fun r=> entS (pn ^ mn) r==0)=true then 0 else 2) else 3 by rw [HE.out,if_neg h]);have EXR:Ex w4 w4:=Ex.refl _;clear h HE;go_wp2_with fail
   go_loopw [6] (fun i' wr=> ∃i:Nat,i≤rows.length∧i'= .int .i64 i∧Hid (∀(j:Nat) (r:List Int),j < i→rows[j]?=some r→(r.length:Int)=cols)∧Ex w4 wr) (fun i' _=> rows.length - (intOf i').toNat)
   case atStart=> exact ⟨0,by omega,rfl,hid_ (fun j x h=> by omega),EXR⟩
   case round=>
    clear EXR;obtain ⟨i,hi,rfl,hall,hx⟩:=hrel;have r0:=hx.cell c3;have r1:=hx.cell c4;by_cases hlt:i < rows.length
    ·obtain ⟨r,hr⟩:∃r,rows[i]?=some r:=⟨_,List.getElem?_eq_getElem hlt⟩;obtain ⟨bb,o,rfl,hc⟩:=Z3.out (by omega);obtain ⟨u,e1,hu⟩:=hc i r hr;obtain ⟨ua,uc,rfl,u1,u2,u3⟩:=hu.open;have e2:=(EX4.out.trans hx).cell e1;have i1:(0:Int)≤(i:Int):=by omega
     have i2:(i:Int) < (rows.length:Int):=by omega
     unfold maxLen at u2;by_cases hl:(r.length:Int)=cols
     ·have hb:((r.length:Int) !=cols)=false:=by simpa using hl
      have HA:=hid_ (show ∀(j:Nat) (s:List Int),j < i + 1→rows[j]?=some s→(s.length:Int)=cols from fun j s hj hs=> by
       by_cases e:j=i
       ·subst e;rw [hr] at hs;injection hs with hs;subst hs;exact hl
       ·exact hall.out j s (by omega) hs)
      clear hl hc e1 hu u3 hr;go_wp2_with fail
      go_quiet (fail)
      go_wp2_with fail
      go_roundw
      case rel=> exact ⟨i + 1,by omega,by go_num,HA,hx.drewN _⟩
      case measure=> simp [intOf];omega
     ·have hb:((r.length:Int) !=cols)=true:=by simpa using hl
      have HF:=hid_ (HOUT.out 3 (by
       rw [HE2.out,if_neg];intro h;have:=List.all_eq_true.1 h r (List.mem_of_getElem? hr);exact hl (by simpa using this)))
      clear hl hc e1 hu u3 hr;go_wp2_with fail
      go_quiet (fail)
      go_wp2_with fail
      go_ret;exact ⟨_,rfl,HF.out,(EX4.out.trans hx).drewN _⟩
    ·obtain rfl:i=rows.length:=by omega
     have HE3:=hid_ (show mchkS (pn ^ mn) cols rows=if (rows.all fun r=> entS (pn ^ mn) r==0)=true then 0 else 2 by
      rw [HE2.out,if_pos];rw [List.all_eq_true];intro r hr;obtain ⟨j,hj,e⟩:=List.getElem_of_mem hr;exact decide_eq_true (hall.out j r hj (by rw [List.getElem?_eq_getElem hj,e])))
     clear hall;go_wp2_with fail
     obtain ⟨wo,rfl⟩:∃wo:World,wo=wr:=⟨_,rfl⟩;clear r0 r1
     go_loopw [5,7] (fun e' i' wr=> ∃i:Nat,i≤rows.length∧i'= .int .i64 i∧e'= .int .i64 0∧Hid (∀(j:Nat) (r:List Int),j < i→rows[j]?=some r→entS (pn ^ mn) r=0)∧Ex w4 wr) (fun _ i' _=> rows.length - (intOf i').toNat)
     case atStart=> exact ⟨0,by omega,rfl,rfl,hid_ (fun j x h=> by omega),hx⟩
     case round=>
      clear hx;obtain ⟨i,hi,rfl,rfl,hall,hx⟩:=hrel;have r0:=hx.cell c3;have r1:=hx.cell c4;have s0:=hx.cell c0;have s1:=hx.cell c1;have s2:=hx.cell c2;by_cases hlt:i < rows.length
      ·obtain ⟨r,hr⟩:∃r,rows[i]?=some r:=⟨_,List.getElem?_eq_getElem hlt⟩;obtain ⟨bb,o,rfl,hc⟩:=Z3.out (by omega);obtain ⟨u,e1,hu⟩:=hc i r hr;have hu2:=hu.ex (EX4.out.trans hx);obtain ⟨ua,uc,rfl,u1,u2,u3⟩:=hu.open;have e2:=(EX4.out.trans hx).cell e1;have i1:(0:Int)≤(i:Int):=by omega
       have i2:(i:Int) < (rows.length:Int):=by omega
       have HEN2:=hid_ (HEN.out wr.drew r _ hu2);have hx':=hx.drew;unfold maxLen at u2;obtain ⟨ev,hev⟩:∃ev,entS (pn ^ mn) r=ev:=⟨_,rfl⟩;have hev2:ev=0∨ev=2:=by rw [←hev];exact entS_ne
       rw [hev] at HEN2;have HA:=hid_ (show ev=0→∀(j:Nat) (s:List Int),j < i + 1→rows[j]?=some s→entS (pn ^ mn) s=0 from fun h0 j s hj hs=> by
        by_cases e:j=i
        ·subst e;rw [hr] at hs;injection hs with hs;subst hs;rw [hev,h0]
        ·exact hall.out j s (by omega) hs)
       have HF:=hid_ (show ev≠0→ChkOut pn mn ml cols rows 2 from fun h0=> HOUT.out 2 (by
        rw [HE3.out,if_neg];intro h;have:=List.all_eq_true.1 h r (List.mem_of_getElem? hr);rw [hev] at this;exact h0 (by simpa using this)))
       clear hc e1 hu hu2 u3 hr hev;go_wp2_with fail
       go_region_held3 (fun w'=> w'.cell? ⟨xb,0,none⟩=some (.int .i64 pn)∧w'.cell? ⟨xb,1,none⟩=some (.int .i64 mn)∧w'.cell? ⟨xb,2,none⟩=some mv∧w'.cell? ⟨xb + 1,1,none⟩=some (.slice (some ⟨bb,o,none⟩) rows.length zc)∧w'.cell? ⟨bb,o + i,none⟩=some (.slice ua r.length uc))
        (first | exact ⟨s0,s1,s2,r1,e2⟩ | exact ⟨hx5.cell s0,hx5.cell s1,hx5.cell s2,hx5.cell r1,hx5.cell e2⟩)
        ((go_at_call 61;refine HEN2.out.mono ?_;rintro e w5 ⟨rfl,hx5⟩))
       rcases hev2 with h0 | h0
       ·subst h0;have HA2:=hid_ (HA.out rfl);go_wp2_with fail
        go_roundw
        case rel=> exact ⟨i + 1,by omega,by go_num,rfl,HA2,hx'.trans hx5⟩
        case measure=> simp [intOf];omega
       ·subst h0;have HF2:=hid_ (HF.out (by omega));go_wp2_with fail
        go_ret;exact ⟨_,rfl,HF2.out,EX4.out.trans (hx'.trans hx5)⟩
      ·obtain rfl:i=rows.length:=by omega
       have HF:=hid_ (HOUT.out 0 (by
        rw [HE3.out,if_pos];rw [List.all_eq_true];intro r hr;obtain ⟨j,hj,e⟩:=List.getElem_of_mem hr;rw [hall.out j r hj (by rw [List.getElem?_eq_getElem hj,e])];rfl))
       go_wp2_with fail
       go_ret;exact ⟨_,rfl,HF.out,EX4.out.trans hx⟩
 ·have h1:chkS p m ml=1:=by rcases HC01.out with h | h;exact absurd h h0;exact h
  have HN:=hid_ (show ChkOut p m ml cols rows 1 from .inr ⟨fun h=> h0 (HCI.out.2 h),rfl⟩);rw [h1];clear h0 h1 HCI HC01 HCH;go_wp2_with fail
  go_ret;exact ⟨_,rfl,HN.out,EX4.out⟩
end
end Go.Proofs.YtgdmlmhpineibaaGreat
