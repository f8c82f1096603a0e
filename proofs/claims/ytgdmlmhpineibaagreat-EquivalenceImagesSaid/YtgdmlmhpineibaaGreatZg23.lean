/- Walk of matrix.Kernel. -/
import Derived.Test.YtgdmlmhpineibaaGreatZg15
import Derived.Test.YtgdmlmhpineibaaGreatZg17
import Derived.Test.YtgdmlmhpineibaaGreatZg19
import Derived.Test.YtgdmlmhpineibaaGreatZg22
namespace Go.Proofs.YtgdmlmhpineibaaGreat
set_option linter.unusedVariables false
set_option linter.unusedSimpArgs false
set_option maxRecDepth 100000
set_option maxHeartbeats 8000000
section
open Go.RowKit
theorem rowsF_il {N i:Nat} {rows:List (List Int)} {r:List Int} (hr:rows[i]?=some r) (hl:r.length=N):il N (rowsF rows i)=r:=by
 apply List.ext_getElem?;intro j;by_cases h:j < N
 ·rw [il_get h];unfold rowsF;rw [List.getD_eq_getElem?_getD (l:=rows),hr,List.getD_eq_getElem?_getD];show some (r[j]?.getD 0)=r[j]?
  rw [List.getElem?_eq_getElem (by omega)];rfl
 ·rw [List.getElem?_eq_none (by rw [il_len];omega),List.getElem?_eq_none (by omega)]
theorem elo_rows {p m:Nat} {ml:List Int} {N R:Nat} {a a':Nat→Nat→Int} {piv:List Nat} (h:ElO p m ml N R a a' piv):piv.length≤R∧∀t∈rowsL N piv.length a',t.length=N∧entS (p ^ m) t=0:=by
 obtain ⟨c,hc,hP,_,hS⟩:=h;refine ⟨hP.le,fun t ht=> ?_⟩;unfold rowsL at ht;obtain ⟨i,hi,rfl⟩:=List.mem_map.1 ht;have hi:=List.mem_range.1 hi;refine ⟨il_len _ _,entS_of fun x hx=> ?_⟩;obtain ⟨j,hj,rfl⟩:=il_mem hx;exact hP.rng i (by have:=hP.le;omega) j hj
end
section
open Go.RowKit
theorem ElO.le {p m N R:Nat} {ml:List Int} {a a':Nat→Nat→Int} {piv:List Nat} (h:ElO p m ml N R a a' piv):piv.length≤R:=by
 obtain ⟨c,_,h,_⟩:=h;exact h.le
theorem rCanonF_any {p m:Nat} {ml:List Int} {mv:Value} (w:World) (hf:FSh p m ml) (hF:IsF p m (lw ml)) (hmv:ISl w mv ml) (N R:Nat) (hN:N≤256) (hR:R≤256) (a:Nat→Nat→Int) (hrng:Rng p m R N a) (v:Value) (hv:MSl w v (rowsL N R a)):
  Calls Tryz.prog 123 #[.agg #[.int .i64 p,.int .i64 m,mv],v,.int .i64 N] w fun r w'=> ∃piv pv rv a',r= .returned (.tuple #[rv,pv])∧ElO p m ml N R a a' piv∧MSl w' rv (rowsL N piv.length a')∧ISl w' pv (pI piv)∧Ex w w'∧MSlF w.heap.size w' rv (rowsL N piv.length a'):=by
 obtain ⟨a0,a1,a2,ea,asz⟩:=box_facts w p m mv;have HEL:=hid_ (rElim_any (w.alloc (.cells #[.int .i64 p,.int .i64 m,mv] 24)) hf hF (hmv.ex ea) N R hN hR a hrng v (hv.ex ea));have HE:=hid_ ea;obtain ⟨va,vc,hve,v1,v2,-⟩:=hv.open;rw [rowsL_len] at hve v1;subst hve;obtain ⟨ma,mc,rfl,-,-,-⟩:=hmv.open;clear hf hF hmv hv hrng ea;go_enter Tryz.func123,Tryz.ntmps123
 go_wp2_with fail
 refine HEL.out.mono ?_;rintro e w2 ⟨⟨piv,pa,pc,la,lc,a',rfl,hel,hpv,hlc,hms⟩,hx⟩;have hk:=hel.le;have HELO:=hid_ hel;have HMF:=hid_ ((hms _ hk).mono (by have:=HE.out.size;omega:w.heap.size≤_));have HMS:=hid_ HMF.out.msl;have HPV:=hid_ hpv;have HX:=hid_ (HE.out.trans hx);have l2:lc≤maxLen:=by
  obtain ⟨l3,l4,hle,l1,l2,_⟩:=(hms _ (Nat.le_refl R)).msl.open;injection hle with _ _ h3;rw [h3];exact l2
 unfold maxLen at l2;have k1:(0:Int)≤(piv.length:Int):=by omega
 have k2:(piv.length:Int)≤(lc:Int):=by omega
 clear hel hms hpv hx HEL HE a0 a1 a2 asz;go_wp2_with fail
 go_ret2;exact ⟨piv,_,_,a',rfl,HELO.out,HMS.out,HPV.out,HX.out,HMF.out⟩
theorem rCanon_any {p m:Nat} {ml:List Int} {mv:Value} (w:World) (hf:FSh p m ml) (hF:IsF p m (lw ml)) (hmv:ISl w mv ml) (N R:Nat) (hN:N≤256) (hR:R≤256) (a:Nat→Nat→Int) (hrng:Rng p m R N a) (v:Value) (hv:MSl w v (rowsL N R a)):
  Calls Tryz.prog 123 #[.agg #[.int .i64 p,.int .i64 m,mv],v,.int .i64 N] w fun r w'=> ∃piv pv rv a',r= .returned (.tuple #[rv,pv])∧ElO p m ml N R a a' piv∧MSl w' rv (rowsL N piv.length a')∧ISl w' pv (pI piv)∧Ex w w':=
 (rCanonF_any w hf hF hmv N R hN hR a hrng v hv).mono fun r w' ⟨piv,pv,rv,a',h1,h2,h3,h4,h5,_⟩=> ⟨piv,pv,rv,a',h1,h2,h3,h4,h5⟩
end
section
open Go.RowKit
def vecF (p m:Nat) (ml:List Int) (x:List Int) (rows:List (List Int)):Nat→Nat→Int
 | 0=> fun _=> 0
 | k + 1=> if x.getD k 0=0 then vecF p m ml x rows k else addF p m ml (vecF p m ml x rows k) (kin (p ^ m) (x.getD k 0)) (rowsF rows k)
theorem vecF_rng {p m:Nat} {ml:List Int} (hp:2≤p) (x:List Int) (rows:List (List Int)):∀k j,0≤vecF p m ml x rows k j∧vecF p m ml x rows k j < ((p ^ m:Nat):Int)
 | 0,j=> by
  have:0 < p ^ m:=Nat.pow_pos (by omega);show (0:Int)≤0∧(0:Int) < _
  omega
 | k + 1,j=> by
  unfold vecF;split
  ·exact vecF_rng hp x rows k j
  ·unfold addF;split
   ·exact vecF_rng hp x rows k j
   ·have:=kadd_lt (p:=p) (m:=m) (by omega) (kin (p ^ m) (vecF p m ml x rows k j)) (kmul p m (lw ml) (kin (p ^ m) (x.getD k 0)) (kin (p ^ m) (rowsF rows k j)));omega
theorem vecF_dt {p m:Nat} {ml:List Int} {N:Nat} (hp:2≤p) (x:List Int) (rows:List (List Int)) (y:Nat→Int):∀k,(∀i,i < k→dt p m ml N (rowsF rows i) y=0)→dt p m ml N (vecF p m ml x rows k) y=0
 | 0,_=> dt_zero hp fun j _=> rfl
 | k + 1,h=> by
  have h1:=vecF_dt hp x rows y k fun i hi=> h i (by omega);unfold vecF;split
  ·exact h1
  ·rw [dt_add hp,h1,h k (by omega),kmul_zero_r (by omega),kadd_zero (by omega) (Nat.pow_pos (by omega))]
theorem vec_any {p m:Nat} {ml:List Int} {b x0:Nat} (w:World) (hg:GFat w b p m ml x0) (N:Nat) (x:List Int) (xv:Value) (hxv:ISl w xv x) (rows:List (List Int)) (v:Value) (hv:MSl w v rows) (hl:x.length=rows.length) (hR:rows.length≤256) (hN1:1≤N) (hN:N≤256) (hr:∀(i:Nat) (r:List Int),rows[i]?=some r→r.length=N):
  Calls Tryz.prog 131 #[.pointer (some ⟨b,0,none⟩),xv,v,.int .i64 N] w fun r w'=> ∃g,r= .returned (.slice (some ⟨g,0,none⟩) N N)∧Own w' w.heap.size 3 g N (iv (vecF p m ml x rows rows.length))∧Ex w w':=by
 obtain ⟨xa,xc,rfl,x1,x2,x3⟩:=hxv.open;obtain ⟨za,zc,rfl,z1,z2,z3⟩:=hv.open;unfold maxLen at x2 z2;rw [hl] at x1 x3 ⊢;have X3:=hid_ x3;have Z3:=hid_ z3;have HRN:=hid_ hr;have HL:=hid_ hl;have HG:=hid_ hg;clear x3 z3 hr hl hg hv hxv;go_enter Tryz.func131,Tryz.ntmps131
 go_wp2_with (at_make;refine wpList_make_arr _ rfl _ _ 22 rfl 3 (.int .i64 0) 8 Tryz.underlying22 infoInt rfl _ N rfl rfl rfl (by omega) (by unfold maxLen;omega) ?_)
 intro w3 hown hx3;obtain ⟨g,hgg⟩:∃g,w.heap.size=g:=⟨_,rfl⟩;have HO0:=hid_ (show Own w3 w.heap.size 3 g N (iv (vecF p m ml x rows 0)) from by rw [←hgg];exact hown);have HX0:=hid_ hx3;have HSZ:=hid_ hgg;rw [hgg] at HO0 ⊢
 try simp only [hgg]
 clear hown hx3 hgg;go_wp2_with fail
 go_loopw [16] (fun k' wr=> ∃(k:Nat),k≤rows.length∧k'= .int .i64 k∧Hid (Own wr g 3 g N (iv (vecF p m ml x rows k)))∧Hid (Ex w wr)) (fun k' _=> rows.length - (intOf k').toNat)
 case atStart=> exact ⟨0,by omega,rfl,HO0,HX0⟩
 case round=>
  clear HO0 HX0;obtain ⟨k,hk,rfl,hown,hx⟩:=hrel;by_cases hkR:k < rows.length
  ·obtain ⟨xb,xo,rfl,hxc⟩:=X3.out (by omega);obtain ⟨zb,zo,rfl,hzc⟩:=Z3.out (by omega);obtain ⟨y,hy⟩:∃y,x[k]?=some y:=⟨_,List.getElem?_eq_getElem (by rw [HL.out];exact hkR)⟩;obtain ⟨r,hrr⟩:∃r,rows[k]?=some r:=⟨_,List.getElem?_eq_getElem hkR⟩;have c1:=hx.out.cell (hxc k y hy);have hyg:x.getD k 0=y:=by rw [List.getD_eq_getElem?_getD,hy];rfl
   have i1:(0:Int)≤(k:Int):=by omega
   have i2:(k:Int) < (rows.length:Int):=by omega
   obtain ⟨uz,c2,huz⟩:=hzc k r hrr;have c2:=hx.out.cell c2;have hrl:=HRN.out k r hrr;by_cases h0:y=0
   ·have hb0:(y !=0)=false:=by simp [h0]
    have HO:=hid_ (show Own wr g 3 g N (iv (vecF p m ml x rows (k + 1))) from by
     unfold vecF;rw [hyg,if_pos h0];exact hown.out)
    clear hown hzc hxc huz h0;go_wp2_with fail
    go_roundw
    case rel=> exact ⟨k + 1,by omega,by go_num,HO,hx⟩
    case measure=> simp [intOf];omega
   ·have hb0:(y !=0)=true:=by simpa using h0
    have hub:uz.ownBlock≠some g:=fun e=> by
     obtain ⟨ua,uc,rfl,_,_,u3⟩:=huz.open
     cases ua with
     | none=> cases e
     | some a=>
      have hl0:0 < r.length:=by omega
      obtain ⟨ub,uo,e2,huc⟩:=u3 hl0;injection e2 with e2;subst e2;injection e with e;have:=World.block_lt_of_cell? _ _ (huc 0 _ (List.getElem?_eq_getElem hl0));have:=HSZ.out;dsimp only at *;omega
    have HADD:=hid_ (madd_any w wr HG.out hx.out N g N g (vecF p m ml x rows k) (rowsF rows k) y uz (by have:=HSZ.out;omega) hown.out (by rw [rowsF_il hrr hrl];exact huz.ex hx.out) hub (by omega));have HNZ:=hid_ h0;have HOW:=hown;clear hown hzc hxc huz h0 hub;go_wp2_with (go_at_call 160;refine HADD.out.mono ?_;rintro e w4 ⟨⟨t,rfl⟩,hown4,hgr4⟩)
    have HO:=hid_ (show Own w4 g 3 g N (iv (vecF p m ml x rows (k + 1))) from by
     unfold vecF;rw [hyg,if_neg HNZ.out];exact hown4)
    have HX:=hid_ (Ex.grown hx.out HOW.out (by have:=HSZ.out;omega) hgr4);clear hown4 hgr4;go_roundw
    case rel=> first | exact ⟨k + 1,by omega,by go_num,HO,HX⟩ | ((repeat apply Exists.intro);exact ⟨⟨k + 1,by omega,by go_num,HO,HX⟩,rfl⟩)
    case measure=> simp [intOf];omega
  ·obtain rfl:rows.length=k:=by omega
   have HO:=hid_ hown.out;have HX:=hid_ hx.out;clear hown hx;go_wp2_with fail
   go_ret;exact ⟨g,rfl,by rw [HSZ.out];exact HO.out,HX.out⟩
def VecO (p m N:Nat) (ml:List Int) (x:List Int) (ks:List (List Int)) (r:Ending) (w w':World):Prop:=
 (¬(x.length=ks.length∧entS (p ^ m) x=0)∧∃e:Int,e≠0∧r= .returned (.tuple #[.slice none 0 0,.int .i64 e]))∨
 (x.length=ks.length∧entS (p ^ m) x=0∧∃g,r= .returned (.tuple #[.slice (some ⟨g,0,none⟩) N N,.int .i64 0])∧Own w' w.heap.size 3 g N (iv (vecF p m ml x ks ks.length)))
theorem Vec_any (p m N:Nat) (ml:List Int) (mv:Value) (w:World) (hmv:ISl w mv ml) (x:List Int) (xv:Value) (hxv:ISl w xv x) (ks:List (List Int)) (v:Value) (hv:MSl w v ks) (hfl:FldB p m ml) (hmk:mchkS (p ^ m) N ks=0) (hN1:1≤N):
  Calls Tryz.prog 84 #[.agg #[.int .i64 p,.int .i64 m,mv],xv,.agg #[.int .i64 N,v]] w fun r w'=> VecO p m N ml x ks r w w'∧Ex w w':=by
 obtain ⟨s1,s2,s3,s4⟩:=mchk_shape hmk;have HROW:=hid_ (show ∀(i:Nat) (r:List Int),ks[i]?=some r→r.length=N from fun i r h=> by
  have:=s4 r (List.mem_of_getElem? h);omega)
 have HO:=hid_ (fun w' B h1 h2 h3 h4=> open1_any p m ml mv w' h1 N ks v h2 B h3 h4);obtain ⟨g0,g1,g2,e0,gsz⟩:=box_facts w p m mv;have HMV:=hid_ hmv;have HV:=hid_ hv;have HXV:=hid_ hxv;have HMK:=hid_ hmk;have HFL:=hid_ hfl;obtain ⟨za,zc,rfl,z1,z2,z3⟩:=hv.open;obtain ⟨xa,xc,rfl,x1,x2,x3⟩:=hxv.open;clear z1 z3 x1 x3;unfold maxLen at z2 x2;obtain ⟨xb,hxb⟩:∃xb,w.heap.size=xb:=⟨_,rfl⟩;rw [hxb] at g0 g1 g2 gsz;have hNN:N≤256:=by omega
 have hRR:ks.length≤256:=s3;clear hmv hv hxv s4 s1 s2 s3 hmk hfl;go_enter Tryz.func84,Tryz.ntmps84
 go_wp2_with fail
 generalize w.alloc (.cells #[.int .i64 p,.int .i64 m,mv] 24)=wA at *;obtain ⟨a0,a1,ea⟩:=boxM_facts wA N (.slice za ks.length zc);have asz:(wA.alloc (.cells #[.int .i64 N,.slice za ks.length zc] 113)).heap.size=xb + 1 + 1:=by simp [gsz]
 rw [gsz] at a0 a1;generalize wA.alloc (.cells #[.int .i64 N,.slice za ks.length zc] 113)=wB at *;obtain ⟨l0,l1,ec⟩:=boxM_facts wB N (.slice za ks.length zc);rw [asz] at l0 l1;generalize wB.alloc (.cells #[.int .i64 N,.slice za ks.length zc] 113)=wD at *;have eD:Ex w wD:=(e0.trans ea).trans ec;have A0:=hid_ (ec.cell a0);have A1:=hid_ (ec.cell a1);have HXD:=hid_ eD;refine (HO.out wD (xb + 1 + 1) (HMV.out.ex eD) (HV.out.ex eD) l0 l1).mono ?_;clear g0 g1 g2 e0 gsz ea asz a0 a1 l0 l1 ec eD HO;rintro e w2 ⟨ho,hx2⟩;rcases ho with ⟨pn,mn,x0,b,e1,e2,hg,hx01,hx02,⟨_,rfl⟩ | ⟨hno,_⟩⟩ | ⟨hno,_⟩
 ·have e1:pn=p:=by omega
  have e2:mn=m:=by omega
  subst e1 e2;have HG:=hid_ hg;have HX2:=hid_ (HXD.out.trans hx2);have c0:=hx2.cell A0.out;have c1:=hx2.cell A1.out;have HEN:=hid_ (entries_any w2 hg x _ (HXV.out.ex HX2.out));clear hg hx2 A1;by_cases hl:x.length=ks.length
  ·have hb:((x.length:Int) !=(ks.length:Int))=false:=by simp [hl]
   have hb2:(x.length !=ks.length)=false:=by simp [hl]
   have HL:=hid_ hl;have HVC:=hid_ (fun w' (h:Ex w2 w')=> vec_any w' (HG.out.ex h) N x _ (HXV.out.ex (HX2.out.trans h)) ks _ (HV.out.ex (HX2.out.trans h)) hl hRR hN1 hNN HROW.out);clear hl;obtain ⟨E,hE⟩:∃E,entS (pn ^ mn) x=E:=⟨_,rfl⟩;have HE:=hid_ hE;rw [hE] at HEN;clear hE;by_cases h0:E=0
   ·subst h0;go_wp2_with (go_at_call 130;refine HEN.out.mono ?_;rintro e w3 ⟨rfl,hx3⟩;have c0:=hx3.cell c0;have c1:=hx3.cell c1;have HVC3:=hid_ (HVC.out _ hx3);have HX3:=hid_ hx3;clear hx3)
    refine HVC3.out.mono ?_;rintro e w4 ⟨g,rfl,hown,hx4⟩;have HOW:=hid_ hown;have HX4:=hid_ hx4;clear hown hx4;go_wp2_with fail
    go_ret2;exact ⟨.inr ⟨HL.out,HE.out,g,rfl,HOW.out.mono ((HX2.out.trans HX3.out).size)⟩,(HX2.out.trans HX3.out).trans HX4.out⟩
   ·have hb3:(E !=0)=true:=by simpa using h0
    have HNE:=hid_ h0;clear h0;go_wp2_with (go_at_call 130;refine HEN.out.mono ?_;rintro e w3 ⟨rfl,hx3⟩;have HX3:=hid_ hx3;clear hx3)
    go_ret2;exact ⟨.inl ⟨fun h=> HNE.out (HE.out.symm.trans h.2),E,HNE.out,rfl⟩,HX2.out.trans HX3.out⟩
  ·have hb:((x.length:Int) !=(ks.length:Int))=true:=by simp;omega
   have hb2:(x.length !=ks.length)=true:=by simp;omega
   have HL:=hid_ hl;clear hl;go_wp2_with fail
   go_ret2;exact ⟨.inl ⟨fun h=> HL.out h.1,3,by decide,rfl⟩,HX2.out⟩
 ·exact absurd (by
   obtain ⟨pn',mn',e3,e4,h,_⟩:=HFL.out;have e5:pn=p:=by omega
   have e6:mn=m:=by omega
   subst e5 e6;exact HMK.out) hno
 ·exact absurd HFL.out hno
end
section
open Go.RowKit
theorem rField12_any (w:World) (p m:Int) (ml:List Int) (mv:Value) (hmv:ISl w mv ml) (hln:ml.length≤1000):
  Calls Tryz.prog 128 #[.agg #[.int .i64 p,.int .i64 m,mv]] w fun r w'=> (∃mv',r= .returned (.agg #[.int .i64 p,.int .i64 m,mv'])∧ISl w' mv' ml∧∀B,mv'.ownBlock=some B→w.heap.size≤B)∧Ex w w':=by
 obtain ⟨d0,d1,d2,e0,dsz⟩:=box_facts w p m mv;have HMV0:=hid_ (hmv.ex e0);obtain ⟨ma,mc,rfl,_,m2,_⟩:=hmv.open;unfold maxLen at m2;clear hmv;obtain ⟨xb,hxb⟩:∃xb,w.heap.size=xb:=⟨_,rfl⟩;rw [hxb] at d0 d1 d2 dsz;go_enter Tryz.func128,Tryz.ntmps128
 go_wp2_with fail
 try simp only [hxb]
 have HXB:=hid_ hxb;clear hxb;generalize w.alloc (.cells #[.int .i64 p,.int .i64 m,.slice ma ml.length mc] 24)=W0 at *;have ea:Ex W0 (W0.alloc (.cells #[.int .i64 0,.int .i64 0,.slice none 0 0] 24)):=(Ex.refl _).alloc _;have q0:(W0.alloc (.cells #[.int .i64 0,.int .i64 0,.slice none 0 0] 24)).cell? ⟨W0.heap.size,0,none⟩=some (.int .i64 0):=by simp
 have q1:(W0.alloc (.cells #[.int .i64 0,.int .i64 0,.slice none 0 0] 24)).cell? ⟨W0.heap.size,1,none⟩=some (.int .i64 0):=by simp
 have q2:(W0.alloc (.cells #[.int .i64 0,.int .i64 0,.slice none 0 0] 24)).cell? ⟨W0.heap.size,2,none⟩=some (.slice none 0 0):=by simp
 have qf0:(W0.alloc (.cells #[.int .i64 0,.int .i64 0,.slice none 0 0] 24)).frozen? ⟨W0.heap.size,0,none⟩=false:=by simp
 have qf1:(W0.alloc (.cells #[.int .i64 0,.int .i64 0,.slice none 0 0] 24)).frozen? ⟨W0.heap.size,1,none⟩=false:=by simp
 have qf2:(W0.alloc (.cells #[.int .i64 0,.int .i64 0,.slice none 0 0] 24)).frozen? ⟨W0.heap.size,2,none⟩=false:=by simp
 have HMV:=hid_ (HMV0.out.ex ea);have c0:=ea.cell d0;have c1:=ea.cell d1;have c2:=ea.cell d2;have HQ:=hid_ (show w.heap.size≤xb + 1 from by rw [HXB.out];omega)
 try simp only [dsz] at q0 q1 q2 qf0 qf1 qf2 ⊢
 obtain ⟨q,hq⟩:∃q,xb + 1=q:=⟨_,rfl⟩;rw [hq] at HQ q0 q1 q2 qf0 qf1 qf2
 try simp only [hq]
 have HEA:=hid_ (e0.trans ea);clear e0 d0 d1 d2 dsz hq ea;generalize W0.alloc (.cells #[.int .i64 0,.int .i64 0,.slice none 0 0] 24)=W1 at *;have Q0:=hid_ q0;have Q1:=hid_ q1;have Q2:=hid_ q2;have QF0:=hid_ qf0;have QF1:=hid_ qf1;have QF2:=hid_ qf2;have x0':=((Ex.refl W1).alloc (.cells #[] 3)).cell c0;have x1':=((Ex.refl W1).alloc (.cells #[] 3)).cell c1;have x2':=((Ex.refl W1).alloc (.cells #[] 3)).cell c2;clear q0 q1 q2 qf0 qf1 qf2
 go_region_law ((refine step_append_sl (by rfl) _ _ _ (by rfl) W1.heap.size 3 (.int .i64 0) 1 8 Tryz.underlying22 infoInt rfl (by decide) _ 0 [] (by rfl) (ownsRow_ex (own_lit0 W1 _) (by repeat (first | exact Ex.refl _ | apply Ex.drew))) _ ml.length (ints ml) (by rfl) (HMV.out.ex (by repeat (first | exact Ex.refl _ | apply Ex.drew | apply Ex.alloc))) (by intro u hu;obtain ⟨z,_,rfl⟩:=List.mem_map.1 hu;rfl) (by unfold maxLen;omega) (by omega) (by simp) ?_;intro v8 w8 hown8 hg8 ha8;obtain ⟨va,vcap,hv8⟩:=own_shape hown8;subst hv8;have E8:=hid_ (Ex.grown (((Ex.refl W1).alloc (.cells #[] 3)).drew) (ownsRow_ex (own_lit0 W1 3) (Ex.refl _).drew) (Nat.le_refl _) hg8);have y0:=E8.out.cell c0;have y1:=E8.out.cell c1;have y2:=E8.out.cell c2;have q0:=E8.out.cell Q0.out;have q1:=E8.out.cell Q1.out;have q2:=E8.out.cell Q2.out;have qf0:=E8.out.frz Q0.out QF0.out;have qf1:=E8.out.frz Q1.out QF1.out;have qf2:=E8.out.frz Q2.out QF2.out;have HOW:=hid_ hown8;clear hown8 hg8 ha8))
 all_goals
  have HI8:=hid_ (show ISl w8 (.slice va ml.length vcap) ml from by have:=isl_own HOW.out;rwa [Nat.zero_add] at this);have hqo:∀B,(Value.slice va ml.length vcap).ownBlock=some B→B≠q:=fun B h e=> by
   have h1:=(HOW.out.lt B (by rw [Nat.zero_add];exact h)).1;have h2:q < W1.heap.size:=World.block_lt_of_cell? _ _ Q0.out;omega
  have HQO:=hid_ hqo;have HQB:=hid_ (show ∀B,(Value.slice va ml.length vcap).ownBlock=some B→w.heap.size≤B from fun B h=> by
   have h1:=(HOW.out.lt B (by rw [Nat.zero_add];exact h)).1;have h2:=HEA.out.size;omega)
  have HQW:=hid_ (show w.heap.size≤q from HQ.out);clear hqo c0 c1 c2 x0' x1' x2' y0 y1 y2;go_wp2_with fail
  exact bodyPost_ret (v:= .agg #[.int .i64 p,.int .i64 m,.slice va ml.length vcap]) (by simp [results,Tryz.results128,go_sem,q0,q1,q2]) rfl ⟨⟨_,rfl,Sl.other (Sl.other (Sl.other HI8.out (fun B h=> HQO.out B h) _) (fun B h=> HQO.out B h) _) (fun B h=> HQO.out B h) _,HQB.out⟩,(((HEA.out.trans E8.out).setCell (p:=⟨q,0,none⟩) HQW.out _).setCell (p:=⟨q,1,none⟩) HQW.out _).setCell (p:=⟨q,2,none⟩) HQW.out _⟩
end
end Go.Proofs.YtgdmlmhpineibaaGreat
