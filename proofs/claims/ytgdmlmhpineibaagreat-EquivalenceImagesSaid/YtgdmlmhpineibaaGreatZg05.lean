/- Walks of the package field: shape, New. -/
import Derived.Test.YtgdmlmhpineibaaGreatZg03
import Derived.Test.YtgdmlmhpineibaaGreatZg04
namespace Go.Proofs.YtgdmlmhpineibaaGreat
set_option linter.unusedVariables false
set_option linter.unusedSimpArgs false
set_option maxRecDepth 100000
set_option maxHeartbeats 4000000
open Go.RowKit
def shB (p m:Int) (ml:List Int):Bool:=
 decide (ordS p m≠0) && (prB p.toNat && if m=1 then ml.length==0 else ml.length==m.toNat && ml.all fun x=> decide (0≤x) && decide (x < p))
theorem ordS_ne {p m:Int} (h:ordS p m≠0):∃pn mn:Nat,p=pn∧m=mn∧2≤pn∧1≤mn∧mn≤8∧pn ^ mn≤256∧ordS p m=((pn ^ mn:Nat):Int):=by
 unfold ordS at h ⊢;split at h
 ·rename_i hc;obtain ⟨h1,h2,h3,h4⟩:=hc;obtain ⟨pn,rfl⟩:=Int.eq_ofNat_of_zero_le (show 0≤p by omega);obtain ⟨mn,rfl⟩:=Int.eq_ofNat_of_zero_le (show 0≤m by omega);rw [Int.toNat_natCast,←Int.natCast_pow] at h4;refine ⟨pn,mn,rfl,rfl,by omega,by omega,by omega,by omega,?_⟩;rw [if_pos ⟨h1,h2,h3,by rw [Int.toNat_natCast,←Int.natCast_pow];exact h4⟩,Int.toNat_natCast,Int.natCast_pow]
 ·exact absurd rfl h
theorem shB_FSh {p m:Int} {ml:List Int} (h:shB p m ml=true):∃pn mn:Nat,p=pn∧m=mn∧FSh pn mn ml∧prB pn=true∧ordS p m=((pn ^ mn:Nat):Int):=by
 unfold shB at h;simp only [Bool.and_eq_true,decide_eq_true_eq] at h;obtain ⟨h1,h2,h3⟩:=h;obtain ⟨pn,mn,rfl,rfl,a,b,c,d,e⟩:=ordS_ne h1;refine ⟨pn,mn,rfl,rfl,⟨a,b,c,d,?_,?_⟩,by simpa using h2,e⟩
 ·split at h3
  ·rename_i hm;rw [if_pos (by omega)];simpa using h3
  ·rename_i hm;simp only [Bool.and_eq_true,beq_iff_eq] at h3;rw [if_neg (by omega),h3.1];simp
 ·intro x hx;split at h3
  ·have:ml= []:=List.eq_nil_of_length_eq_zero (by simpa using h3);subst this;cases hx
  ·simp only [Bool.and_eq_true,List.all_eq_true,decide_eq_true_eq] at h3;exact h3.2 x hx
theorem FSh_shB {pn mn:Nat} {ml:List Int} (h:FSh pn mn ml) (hp:prB pn=true):shB pn mn ml=true∧ordS pn mn=((pn ^ mn:Nat):Int):=by
 obtain ⟨a,b,c,d,e,f⟩:=h;have ho:ordS pn mn=((pn ^ mn:Nat):Int):=by
  unfold ordS;rw [if_pos ⟨by omega,by omega,by omega,by rw [Int.toNat_natCast,←Int.natCast_pow];omega⟩,Int.toNat_natCast,Int.natCast_pow]
 refine ⟨?_,ho⟩;have hq:1≤pn ^ mn:=Nat.pow_pos (by omega);unfold shB;simp only [Bool.and_eq_true,decide_eq_true_eq];refine ⟨by rw [ho];omega,by simpa using hp,?_⟩;by_cases h1:mn=1
 ·rw [if_pos (by omega)];rw [if_pos h1] at e;simp [e]
 ·rw [if_neg (by omega)];rw [if_neg h1] at e;simp only [Bool.and_eq_true,List.all_eq_true,decide_eq_true_eq];exact ⟨by simp [e],f⟩
theorem shape_any (p m:Int) (ml:List Int) (mv:Value) (w:World) (hmv:ISl w mv ml):
  Calls Tryz.prog 135 #[.agg #[.int .i64 p,.int .i64 m,mv]] w fun r w'=> r= .returned (.bool (shB p m ml))∧Ex w w':=by
 obtain ⟨xb,hxb⟩:∃xb,w.heap.size=xb:=⟨_,rfl⟩;have d0:(w.alloc (.cells #[.int .i64 p,.int .i64 m,mv] 24)).cell? ⟨xb,0,none⟩=some (.int .i64 p):=by rw [←hxb];simp
 have d1:(w.alloc (.cells #[.int .i64 p,.int .i64 m,mv] 24)).cell? ⟨xb,1,none⟩=some (.int .i64 m):=by rw [←hxb];simp
 have d2:(w.alloc (.cells #[.int .i64 p,.int .i64 m,mv] 24)).cell? ⟨xb,2,none⟩=some mv:=by rw [←hxb];simp
 have e0:Ex w (w.alloc (.cells #[.int .i64 p,.int .i64 m,mv] 24)):=(Ex.refl _).alloc _;have HSH:=hid_ (show shB p m ml=(decide (ordS p m≠0) && (prB p.toNat && if m=1 then ml.length==0 else ml.length==m.toNat && ml.all fun x=> decide (0≤x) && decide (x < p))) from rfl);have hsl:=hmv.ex e0;obtain ⟨ma,mc,rfl,m1,m2,m3⟩:=hsl.open;have M3:=hid_ m3;have hor:=order_any p m;unfold maxLen at m2;clear hmv hsl m3;by_cases ho:ordS p m=0
 ·rw [ho] at HSH hor;clear ho;have HOR:=hid_ hor;have D0:=hid_ d0;have D1:=hid_ d1;have D2:=hid_ d2;clear hor d0 d1 d2;go_enter Tryz.func135,Tryz.ntmps135
  have d0:=D0.out;have d1:=D1.out;have d2:=D2.out;go_wp2_with fail
  clear hxb;generalize w.alloc (.cells #[.int .i64 p,.int .i64 m,.slice ma ml.length mc] 24)=w1 at *;clear D0 D1 D2;refine (HOR.out _).mono ?_;rintro e w2 ⟨rfl,rfl⟩;go_wp2_with fail
  go_ret;exact ⟨ret_bool (by rw [HSH.out];simp),e0⟩
 ·obtain ⟨pn,mn,rfl,rfl,p2,q1,q8,qq,hoe⟩:=ordS_ne ho;have hpw:1≤pn ^ mn:=Nat.pow_pos (by omega);have hp256:pn≤256:=by
   have h1:pn ^ 1≤pn ^ mn:=Nat.pow_le_pow_right (by omega) q1;rw [Nat.pow_one] at h1;omega
  rw [hoe] at hor;have hb0:(((pn ^ mn:Nat):Int)==0)=false:=by rw [beq_eq_false_iff_ne];omega
  have HSH2:=hid_ (show shB pn mn ml=(prB pn && if (mn:Int)=1 then ml.length==0 else ml.length==mn && ml.all fun x=> decide (0≤x) && decide (x < pn)) by
   rw [HSH.out,decide_eq_true ho];simp)
  have hip:=fun w=> isPrime_any pn w p2 hp256;generalize pn ^ mn=qn at *;clear ho hoe HSH;by_cases hpr:prB pn=true
  ·rw [hpr] at HSH2 hip;have HIP:=hid_ hip;clear hip hpr;by_cases hm1:mn=1
   ·have hm1':((mn:Int)==1)=true:=by simp;omega
    have HR:=hid_ (show shB pn mn ml=((ml.length:Int)==0) by rw [HSH2.out,if_pos (by omega),Bool.true_and,Bool.eq_iff_iff];simp);clear hm1 HSH2;have HOR:=hid_ hor;have D0:=hid_ d0;have D1:=hid_ d1;have D2:=hid_ d2;clear hor d0 d1 d2;go_enter Tryz.func135,Tryz.ntmps135
    have d0:=D0.out;have d1:=D1.out;have d2:=D2.out;go_wp2_with fail
    clear hxb;generalize w.alloc (.cells #[.int .i64 pn,.int .i64 mn,.slice ma ml.length mc] 24)=w1 at *;clear D0 D1 D2;refine (HOR.out _).mono ?_;rintro e w2 ⟨rfl,rfl⟩;go_wp2_with fail
    refine (HIP.out _).mono ?_;rintro e w2 ⟨rfl,rfl⟩;go_wp2_with fail
    go_ret;exact ⟨ret_bool (by rw [HR.out]),e0⟩
   ·have hm1':((mn:Int)==1)=false:=by simp;omega
    have HR:=hid_ (show shB pn mn ml=(ml.length==mn && ml.all fun x=> decide (0≤x) && decide (x < pn)) by rw [HSH2.out,if_neg (by omega),Bool.true_and]);clear hm1 HSH2;by_cases hlen:ml.length=mn
    ·have hl1:((ml.length:Int)==(mn:Int))=true:=by simp;omega
     have hl2:((ml.length:Int) !=(mn:Int))=false:=by simp;omega
     have HR2:=hid_ (show shB pn mn ml=ml.all fun x=> decide (0≤x) && decide (x < pn) by rw [HR.out,show (ml.length==mn)=true by simp [hlen],Bool.true_and]);clear hlen HR;have HOR:=hid_ hor;have D0:=hid_ d0;have D1:=hid_ d1;have D2:=hid_ d2;clear hor d0 d1 d2;go_enter Tryz.func135,Tryz.ntmps135
     have d0:=D0.out;have d1:=D1.out;have d2:=D2.out;go_wp2_with fail
     clear hxb;generalize w.alloc (.cells #[.int .i64 pn,.int .i64 mn,.slice ma ml.length mc] 24)=w1 at *;clear D0 D1 D2;refine (HOR.out _).mono ?_;rintro e w2 ⟨rfl,rfl⟩;go_wp2_with fail
     refine (HIP.out _).mono ?_;rintro e w2 ⟨rfl,rfl⟩;go_wp2_with fail
     go_loopw [4,33] (fun _ j' wr=> ∃j:Nat,j≤ml.length∧j'= .int .i64 j∧Hid (∀i y,i < j→ml[i]?=some y→0≤y∧y < pn)∧w1=wr) (fun _ j' _=> ml.length - (intOf j').toNat)
     case atStart=> exact ⟨0,by omega,rfl,hid_ (fun i y h=> by omega),rfl⟩
     case round=>
      obtain ⟨j,hj,rfl,hall,rfl⟩:=hrel;by_cases hlt:j < ml.length
      ·obtain ⟨y,hy⟩:∃y,ml[j]?=some y:=⟨_,List.getElem?_eq_getElem hlt⟩;obtain ⟨b,o,rfl,hc⟩:=M3.out (by omega);have c1:=hc j y hy;by_cases hy0:0≤y∧y < pn
       ·have HA:=hid_ (show ∀i z,i < j + 1→ml[i]?=some z→0≤z∧z < pn from fun i z hi hz=> by
         by_cases e:i=j
         ·subst e;rw [hy] at hz;injection hz with hz;subst hz;exact hy0
         ·exact hall.out i z (by omega) hz)
        obtain ⟨y0,y1⟩:=hy0;clear hc hy;go_wp2_with fail
        go_roundw
        case rel=> exact ⟨j + 1,by omega,by go_num,HA,by first | trivial | rfl⟩
        case measure=> simp [intOf];omega
       ·have HF:=hid_ (show shB pn mn ml=false by
         rw [HR2.out,List.all_eq_false];refine ⟨y,List.mem_of_getElem? hy,?_⟩;simpa using hy0)
        have hy1:y < 0∨(0≤y∧(pn:Int)≤y):=by omega
        clear hc hy hy0;rcases hy1 with hy1 | ⟨hy1,hy2⟩
        all_goals
         go_wp2_with fail
         go_ret;exact ⟨ret_bool HF.out.symm,e0⟩
      ·obtain rfl:j=ml.length:=by omega
       have HT:=hid_ (show shB pn mn ml=true by
        rw [HR2.out,List.all_eq_true];intro y hy;obtain ⟨i,hi,e⟩:=List.getElem_of_mem hy;have:=hall.out i y hi (by rw [List.getElem?_eq_getElem hi,e]);simp [this])
       go_wp2_with fail
       go_ret;exact ⟨ret_bool HT.out.symm,e0⟩
    ·have hl1:((ml.length:Int)==(mn:Int))=false:=by simp;omega
     have hl2:((ml.length:Int) !=(mn:Int))=true:=by simp;omega
     have HR2:=hid_ (show shB pn mn ml=false by rw [HR.out,show (ml.length==mn)=false by simp [hlen],Bool.false_and]);clear hlen HR;have HOR:=hid_ hor;have D0:=hid_ d0;have D1:=hid_ d1;have D2:=hid_ d2;clear hor d0 d1 d2;go_enter Tryz.func135,Tryz.ntmps135
     have d0:=D0.out;have d1:=D1.out;have d2:=D2.out;go_wp2_with fail
     clear hxb;generalize w.alloc (.cells #[.int .i64 pn,.int .i64 mn,.slice ma ml.length mc] 24)=w1 at *;clear D0 D1 D2;refine (HOR.out _).mono ?_;rintro e w2 ⟨rfl,rfl⟩;go_wp2_with fail
     refine (HIP.out _).mono ?_;rintro e w2 ⟨rfl,rfl⟩;go_wp2_with fail
     go_ret;exact ⟨ret_bool HR2.out.symm,e0⟩
  ·have hpr':prB pn=false:=by simpa using hpr
   rw [hpr'] at HSH2 hip;have HIP:=hid_ hip;clear hip hpr hpr';have HOR:=hid_ hor;have D0:=hid_ d0;have D1:=hid_ d1;have D2:=hid_ d2;clear hor d0 d1 d2;go_enter Tryz.func135,Tryz.ntmps135
   have d0:=D0.out;have d1:=D1.out;have d2:=D2.out;go_wp2_with fail
   clear hxb;generalize w.alloc (.cells #[.int .i64 pn,.int .i64 mn,.slice ma ml.length mc] 24)=w1 at *;clear D0 D1 D2;refine (HOR.out _).mono ?_;rintro e w2 ⟨rfl,rfl⟩;go_wp2_with fail
   refine (HIP.out _).mono ?_;rintro e w2 ⟨rfl,rfl⟩;go_wp2_with fail
   go_ret;exact ⟨ret_bool (by rw [HSH2.out];simp),e0⟩
structure GFat (w:World) (b:Nat) (p m:Nat) (ml:List Int) (x:Nat):Prop where
 sh:FSh p m ml
 pr:prB p=true
 gen:GenOK p m (lw ml) x
 c0:w.cell? ⟨b,0,none⟩=some (.int .i64 p)
 c1:w.cell? ⟨b,1,none⟩=some (.int .i64 m)
 c2:∃v,w.cell? ⟨b,2,none⟩=some v∧ISl w v ml
 c3:w.cell? ⟨b,3,none⟩=some (.int .i64 ((p ^ m:Nat):Int))
 c4:∃v,w.cell? ⟨b,4,none⟩=some v∧ISl w v (il (p ^ m - 1) (pwI p m ml x))
 c5:∃v f,w.cell? ⟨b,5,none⟩=some v∧ISl w v (il (p ^ m) f)∧∀k,k < p ^ m - 1→f (kpw p m (lw ml) x k)=k
theorem GFat.ex {w w':World} {b p m:Nat} {ml:List Int} {x:Nat} (h:GFat w b p m ml x) (hx:Ex w w'):GFat w' b p m ml x:=by
 obtain ⟨a1,a2,a3,c0,c1,⟨v2,c2,s2⟩,c3,⟨v4,c4,s4⟩,⟨v5,f,c5,s5,hf⟩⟩:=h;exact ⟨a1,a2,a3,hx.cell c0,hx.cell c1,⟨v2,hx.cell c2,s2.ex hx⟩,hx.cell c3,⟨v4,hx.cell c4,s4.ex hx⟩,⟨v5,f,hx.cell c5,s5.ex hx,hf⟩⟩
def FldB (p m:Int) (ml:List Int):Prop:=∃pn mn:Nat,p=pn∧m=mn∧FSh pn mn ml∧prB pn=true∧IsF pn mn (lw ml)
structure FinS (w3 wz:World) (b g q:Nat) (e:TypeId) (c0 c1 c2 c3 c4 c5:Value) (ml:List Int):Prop where
 f0:wz.cell? ⟨b,0,none⟩=some c0
 f1:wz.cell? ⟨b,1,none⟩=some c1
 f2:wz.cell? ⟨b,2,none⟩=some c2
 f3:wz.cell? ⟨b,3,none⟩=some c3
 f4:wz.cell? ⟨b,4,none⟩=some c4
 f5:wz.cell? ⟨b,5,none⟩=some c5
 isl:ISl wz c2 ml
 own:Own wz w3.heap.size e g q (iv fun _=> 0)
 ex:Ex w3 wz
 lt:g < b
 off:∀B,c2.ownBlock=some B→B≠g
theorem Sl.other {w:World} {v:Value} {n size:Nat} {xs:List Value} (h:Sl w v n size xs) {a:Addr} (ha:∀B,v.ownBlock=some B→B≠a.block) (u:Value):Sl (w.setCell a u) v n size xs:=by
 obtain ⟨h1,c,cap,rfl,h3,h4,h5⟩:=h;refine ⟨h1,c,cap,rfl,h3,h4,fun hn=> ?_⟩;obtain ⟨b,o,rfl,h6⟩:=h5 hn;refine ⟨b,o,rfl,fun j x hx=> ?_⟩;rw [World.cell?_setCell_other _ _ _ _ (by
   intro e;have:a.block=b:=by rw [e]
   exact ha b rfl this.symm)]
 exact h6 j x hx
theorem fin_mk {w3 W:World} {g q:Nat} {e t:TypeId} {c0 c1 c2 c3 c4 c5:Value} {ml:List Int} (h1:ISl W c2 ml) (h2:Own W w3.heap.size e g q (iv fun _=> 0)) (h3:Ex w3 W) (h4:∀B,c2.ownBlock=some B→B≠g):
  FinS w3 (W.alloc (.cells #[c0,c1,c2,c3,c4,c5] t)) W.heap.size g q e c0 c1 c2 c3 c4 c5 ml:=
 ⟨by simp,by simp,by simp,by simp,by simp,by simp,h1.ex ((Ex.refl _).alloc _),h2.alloc _,h3.alloc _,h2.lt.2,h4⟩
theorem own_kept {w w':World} {b b0:Nat} {e:TypeId} {g n:Nat} {c:Nat→Value} (h:Own w b e g n c) (hg:w.grownBy w' (Value.slice (some ⟨b0,0,none⟩) 0 0).ownBlock) (hne:g≠b0):Own w' b e g n c:=
 World.ownsRow.kept h hg (.inr (by simpa [Value.ownBlock] using hne))
theorem isl_own {w:World} {b:Nat} {e:TypeId} {v:Value} {ml:List Int} (h:w.ownsRow b e 1 v (0 + ml.length) ([] ++ ints ml)):ISl w v ml:=by
 rw [Nat.zero_add,List.nil_append] at h;exact Sl.own h
def NewOut (p m:Int) (ml:List Int) (w':World) (r:Ending):Prop:=
 (∃(pn mn x b:Nat),p=pn∧m=mn∧r= .returned (.tuple #[.pointer (some ⟨b,0,none⟩),.int .i64 0])∧GFat w' b pn mn ml x∧1≤x∧x < pn ^ mn)∨
 (¬FldB p m ml∧r= .returned (.tuple #[.pointer none,.int .i64 1]))
theorem New_any (p m:Int) (ml:List Int) (mv:Value) (w:World) (hmv:ISl w mv ml):
  Calls Tryz.prog 87 #[.agg #[.int .i64 p,.int .i64 m,mv]] w fun r w'=> NewOut p m ml w' r∧Ex w w':=by
 obtain ⟨xb,hxb⟩:∃xb,w.heap.size=xb:=⟨_,rfl⟩;have d0:(w.alloc (.cells #[.int .i64 p,.int .i64 m,mv] 24)).cell? ⟨xb,0,none⟩=some (.int .i64 p):=by rw [←hxb];simp
 have d1:(w.alloc (.cells #[.int .i64 p,.int .i64 m,mv] 24)).cell? ⟨xb,1,none⟩=some (.int .i64 m):=by rw [←hxb];simp
 have d2:(w.alloc (.cells #[.int .i64 p,.int .i64 m,mv] 24)).cell? ⟨xb,2,none⟩=some mv:=by rw [←hxb];simp
 have e0:Ex w (w.alloc (.cells #[.int .i64 p,.int .i64 m,mv] 24)):=(Ex.refl _).alloc _;have HMV:=hid_ hmv;have HSH:=hid_ (fun w' (h:ISl w' mv ml)=> shape_any p m ml mv w' h);have hord:=order_any p m;have D0:=hid_ d0;have D1:=hid_ d1;have D2:=hid_ d2;clear d0 d1 d2 hmv;by_cases hs:shB p m ml=true
 ·obtain ⟨pn,mn,rfl,rfl,hf,hpr,ho⟩:=shB_FSh hs;rw [ho] at hord;rw [hs] at HSH;have HOR:=hid_ hord;have HF:=hid_ hf;have HPR:=hid_ hpr;have hq:=hf.q;have HQ1:=hid_ (one_lt_q hf.p2 hf.m1);have HGN:=hid_ (fun w' (h:ISl w' mv ml)=> generator_any pn mn ml mv w' hf h);have HGO:=hid_ (show ∀w' v,GenOut pn mn ml w' v↔((∃x,1≤x∧x < pn ^ mn∧GenOK pn mn (lw ml) x∧ISl w' v (il (pn ^ mn - 1) (pwI pn mn ml x)))∨(¬IsF pn mn (lw ml)∧v= .slice none 0 0)) from fun _ _=> Iff.rfl);clear hord hf hpr ho hs;obtain ⟨q,hqq⟩:∃q,pn ^ mn=q:=⟨_,rfl⟩;simp only [hqq] at hq HOR HQ1 HGN HGO;have HQQ:=hid_ hqq;have hq1:1 < q:=by rw [←hqq];exact one_lt_q HF.out.p2 HF.out.m1
  have hpq:pn≤q∧mn≤8:=⟨by rw [←hqq];have:=Nat.pow_le_pow_right (show 0 < pn by have:=HF.out.p2;omega) HF.out.m1;rwa [Nat.pow_one] at this,HF.out.m8⟩;clear hqq;go_enter Tryz.func87,Tryz.ntmps87
  have d0:=D0.out;have d1:=D1.out;have d2:=D2.out;go_wp2_with fail
  clear hxb D0 D1 D2;generalize w.alloc (.cells #[.int .i64 pn,.int .i64 mn,mv] 24)=w1 at *;refine (HSH.out _ (HMV.out.ex e0)).mono ?_;rintro e w2 ⟨rfl,hx2⟩;have r0:=hx2.cell d0;have r1:=hx2.cell d1;have r2:=hx2.cell d2;have e2:=e0.trans hx2;clear d0 d1 d2 e0 hx2;go_wp2_with fail
  refine (HOR.out _).mono ?_;rintro e w3 ⟨rfl,rfl⟩;go_wp2_with fail
  refine (HGN.out _ (HMV.out.ex e2)).mono ?_;rintro e w3 ⟨gv,rfl,hgo,hx3⟩;have s0:=hx3.cell r0;have s1:=hx3.cell r1;have s2:=hx3.cell r2;have e3:=e2.trans hx3;clear r0 r1 r2 e2 hx3;rcases (HGO.out _ _).1 hgo with ⟨x,x1,x2,hgx,hgv⟩ | ⟨hno,rfl⟩
  ·obtain ⟨ga,gc,rfl,g1,g2,g3⟩:=hgv.open;obtain ⟨gb,gof,rfl,g4⟩:=g3 (by rw [il_length];have:=HQ1.out;omega);rw [il_length] at *;have hE:=fun w=> run_eql_slice_nil (P:=Tryz.prog) w 22 3 (some ⟨gb,gof,none⟩) (q - 1) gc Tryz.underlying22;have hqi:1≤(q:Int):=by omega
   go_wp2_with fail
   have hsl3:=hid_ (HMV.out.ex e3);have hln:ml.length≤8:=by
    have h1:=HF.out.len;have h2:=HF.out.m8;split at h1 <;> omega
   have k0:0 < q:=by omega
   go_region_held3 (fun w'=> w'.cell? ⟨xb,0,none⟩=some (.int .i64 pn)∧w'.cell? ⟨xb,1,none⟩=some (.int .i64 mn)∧w'.cell? ⟨xb,2,none⟩=some mv∧Ex w w')
    (first
          | exact ⟨s0,s1,s2,e3.drew⟩
          | exact ⟨hx7.cell s0,hx7.cell s1,hx7.cell s2,e3.trans hx7⟩
          | exact ⟨hx7.cell s0,hx7.cell s1,hx7.cell s2,e3.drew.trans hx7⟩
          | exact ⟨(hxm.trans hx7).cell s0,(hxm.trans hx7).cell s1,(hxm.trans hx7).cell s2,e3.drew.trans (hxm.trans hx7)⟩
          | exact ⟨(((Ex.refl w3).alloc (.cells #[] 3)).drew).cell s0,(((Ex.refl w3).alloc (.cells #[] 3)).drew).cell s1,(((Ex.refl w3).alloc (.cells #[] 3)).drew).cell s2,e3.trans (((Ex.refl w3).alloc (.cells #[] 3)).drew)⟩
          | (obtain ⟨k0,k1,k2,k3⟩:=‹_∧_∧_∧Ex w _›;exact ⟨hx7.cell k0,hx7.cell k1,hx7.cell k2,k3.trans hx7⟩)
          | (obtain ⟨k0,k1,k2,k3⟩:=‹_∧_∧_∧Ex w _›;exact ⟨((Ex.refl _).alloc _).cell k0,((Ex.refl _).alloc _).cell k1,((Ex.refl _).alloc _).cell k2,k3.trans ((Ex.refl _).alloc _)⟩))
    ((first
          | (refine step_append_sl (by rfl) _ _ _ (by rfl) _ 3 (.int .i64 0) 1 8 Tryz.underlying22 infoInt rfl (by decide) _ 0 [] (by rfl) (ownsRow_ex (own_lit0 _ _) (by first | exact Ex.refl _ | exact (Ex.refl _).drew | exact hx7 | exact Ex.trans (Ex.refl _).drew hx7)) _ ml.length (ints ml) (by rfl) (HMV.out.ex (by first | exact (e3.alloc _).drew | exact (e3.drew.alloc _) | assumption | exact (‹_∧_∧_∧Ex w _›).2.2.2)) (by intro u hu;obtain ⟨z,_,rfl⟩:=List.mem_map.1 hu;rfl) (by unfold maxLen;omega) (by omega) (by first | (simp;done) | omega | exact Nat.le_trans (by simp) hx7.size) ?_;intro v8 w8 hown8 hg8 ha8;obtain ⟨va,vcap,hv8⟩:=own_shape hown8;subst hv8;first | (have hx7:=Ex.grown ((Ex.refl _).alloc _).drew (own_lit0 _ _).drew (Nat.le_refl _) hg8) | (have hx7:=Ex.grown (((Ex.refl _).alloc _).drew.trans hx7) (ownsRow_ex (own_lit0 _ _) ((Ex.refl _).drew.trans hx7)) (Nat.le_refl _) hg8) | (have hx7:=Ex.grown ((Ex.refl _).alloc _) (own_lit0 _ _) (Nat.le_refl _) hg8))
          | (refine upon_make_arr 22 3 (.int .i64 0) 8 Tryz.underlying22 infoInt rfl q (by omega) (by unfold maxLen;omega) ?_;intro w6 hown6 hx7;have hxm:=hx7;go_simp)))
   all_goals
    first
        | (have FN:FinS w3 (w6.alloc (.cells #[.int .i64 pn,.int .i64 mn,.slice va ml.length vcap,.int .i64 q,.slice (some ⟨gb,gof,none⟩) (q - 1) gc,.slice (some ⟨w8.heap.size,0,none⟩) q q] 130)) w6.heap.size w8.heap.size q 3 (.int .i64 pn) (.int .i64 mn) (.slice va ml.length vcap) (.int .i64 q) (.slice (some ⟨gb,gof,none⟩) (q - 1) gc) (.slice (some ⟨w8.heap.size,0,none⟩) q q) ml:=fin_mk ((by have:=isl_own hown8;rwa [Nat.zero_add] at this:ISl w8 (.slice va ml.length vcap) ml).ex hxm) (hown6.mono (‹Ex w3 w8›).size) ((‹Ex w3 w8›).trans hxm) (fun B h=> Nat.ne_of_lt (hown8.lt B (by rw [Nat.zero_add];exact h)).2)
           generalize w6.alloc (.cells #[.int .i64 pn,.int .i64 mn,.slice va ml.length vcap,.int .i64 q,.slice (some ⟨gb,gof,none⟩) (q - 1) gc,.slice (some ⟨w8.heap.size,0,none⟩) q q] 130)=wz at FN ⊢;generalize w6.heap.size=b at FN ⊢;generalize w8.heap.size=g at FN ⊢)
        | (have FN:FinS w3 (w8.alloc (.cells #[.int .i64 pn,.int .i64 mn,.slice va ml.length vcap,.int .i64 q,.slice (some ⟨gb,gof,none⟩) (q - 1) gc,.slice (some ⟨w3.heap.size,0,none⟩) q q] 130)) w8.heap.size w3.heap.size q 3 (.int .i64 pn) (.int .i64 mn) (.slice va ml.length vcap) (.int .i64 q) (.slice (some ⟨gb,gof,none⟩) (q - 1) gc) (.slice (some ⟨w3.heap.size,0,none⟩) q q) ml:=fin_mk (by have:=isl_own hown8;rwa [Nat.zero_add] at this:ISl w8 (.slice va ml.length vcap) ml) (own_kept (Own.alloc (show Own w6 w3.heap.size 3 w3.heap.size q (iv fun _=> 0) from hown6) _) hg8 (Nat.ne_of_lt hown6.lt.2)) ((Ex.refl w3).drew.trans (hxm.trans hx7)) (fun B h=> Nat.ne_of_gt (Nat.lt_of_lt_of_le hown6.lt.2 (hown8.lt B (by rw [Nat.zero_add];exact h)).1))
           generalize w8.alloc (.cells #[.int .i64 pn,.int .i64 mn,.slice va ml.length vcap,.int .i64 q,.slice (some ⟨gb,gof,none⟩) (q - 1) gc,.slice (some ⟨w3.heap.size,0,none⟩) q q] 130)=wz at FN ⊢;generalize w8.heap.size=b at FN ⊢;generalize w3.heap.size=g at FN ⊢)
        | (have FN:FinS w3 (w8.alloc (.cells #[.int .i64 pn,.int .i64 mn,.slice va ml.length vcap,.int .i64 q,.slice (some ⟨gb,gof,none⟩) (q - 1) gc,.slice (some ⟨(w3.heap.size + 1),0,none⟩) q q] 130)) w8.heap.size (w3.heap.size + 1) q 3 (.int .i64 pn) (.int .i64 mn) (.slice va ml.length vcap) (.int .i64 q) (.slice (some ⟨gb,gof,none⟩) (q - 1) gc) (.slice (some ⟨(w3.heap.size + 1),0,none⟩) q q) ml:=fin_mk (by have:=isl_own hown8;rwa [Nat.zero_add] at this:ISl w8 (.slice va ml.length vcap) ml) (own_kept (show Own w6 w3.heap.size 3 (w3.heap.size + 1) q (fun _=> .int .i64 0) by have:=hown6.mono (b':=w3.heap.size) (by simp);simpa using this) hg8 (by omega)) hx7 (fun B h=> by
            have hs6:w3.heap.size + 1 < w6.heap.size:=by have:=hown6.lt.2;simpa using this
            have h':(Value.slice va (0 + ml.length) vcap).ownBlock=some B:=by rw [Nat.zero_add];exact h
            rcases ha8 with e | e
            ·rw [e] at h';injection h' with h';have h':w3.heap.size=B:=h';omega
            ·rw [e] at h';injection h' with h';omega)
           generalize w8.alloc (.cells #[.int .i64 pn,.int .i64 mn,.slice va ml.length vcap,.int .i64 q,.slice (some ⟨gb,gof,none⟩) (q - 1) gc,.slice (some ⟨(w3.heap.size + 1),0,none⟩) q q] 130)=wz at FN ⊢;generalize w8.heap.size=b at FN ⊢;generalize (w3.heap.size + 1)=g at FN ⊢)
   all_goals
    have FF:=hid_ FN;obtain ⟨f0,f1,f2,f3,f4,f5,fi,fo,fe,fl,foff⟩:=FN;have HOFF:=hid_ foff;have HFI:=hid_ fi;have G4:=hid_ g4;have HGV:=hid_ hgv;have HPL:=hid_ (fun k=> (by rw [←HQQ.out];exact kpw_lt HF.out.p2 HF.out.m1 x k:kpw pn mn (lw ml) x k < q));have HIN:=hid_ (show ∀i j,j < q - 1→i < j→kpw pn mn (lw ml) x i≠kpw pn mn (lw ml) x j from fun i j hj hij=> hgx.inj HF.out.p2 HF.out.m1 (by rw [HQQ.out];exact hj) hij);have HGX:=hid_ hgx;have hgw:w3.heap.size≤g:=fo.lt.1;have HWG:=hid_ hgw;have HE3:=hid_ e3;clear hgo hgx hgv g4 fi e3 hgw s0 s1 s2 hsl3 foff;go_wp2_with fail
    go_loopw [7,8,39] (fun _ _ j' wr=> ∃(j:Nat) (f:Nat→Int),j≤q - 1∧j'= .int .i64 j∧Hid (Own wr w3.heap.size 3 g q (iv f))∧Hid (∀i,i < j→f (kpw pn mn (lw ml) x i)=i)∧Hid (∀k u,wz.cell? ⟨b,k,none⟩=some u→wr.cell? ⟨b,k,none⟩=some u)∧Hid (ISl wr (.slice va ml.length vcap) ml)∧Ex w3 wr) (fun _ _ j' _=> q - (intOf j').toNat)
    case atStart=> exact ⟨0,fun _=> 0,by omega,rfl,hid_ fo,hid_ (fun i h=> by omega),hid_ (fun k u h=> h),HFI,fe⟩
    case round=>
     clear fo fe;obtain ⟨j,f,hj,rfl,hown,hfi,hcb,hisl,hx⟩:=hrel;have b5:=hcb.out 5 _ f5;by_cases hlt:j < q - 1
     ·have hc:=hx.cell (G4.out j _ (il_get hlt _));have hyq:=HPL.out j;have HY:=hid_ (show pwI pn mn ml x j=((kpw pn mn (lw ml) x j:Nat):Int) from rfl);rw [HY.out] at hc;obtain ⟨y,hy⟩:∃y,kpw pn mn (lw ml) x j=y:=⟨_,rfl⟩;have HYK:=hid_ hy;rw [hy] at hc hyq;have hcy:=hown.out.cell hyq;have hfy:=hown.out.frz y;have HS:=hid_ (hown.out.set y (.int .i64 j));have HXS:=hid_ (hown.out.exSet (Nat.le_refl _) hx y (.int .i64 j));have HCS:=hid_ (show ∀k u,wz.cell? ⟨b,k,none⟩=some u→(wr.setCell ⟨g,y,none⟩ (.int .i64 j)).cell? ⟨b,k,none⟩=some u from fun k u h=> by
       rw [World.cell?_setCell_other _ _ _ _ (by intro e;injection e;omega)];exact hcb.out k u h)
      have HIS:=hid_ (show ISl (wr.setCell ⟨g,y,none⟩ (.int .i64 j)) (.slice va ml.length vcap) ml from Sl.other hisl.out (fun B h=> HOFF.out B h) _);clear hy;go_wp2_with fail
      go_roundw
      case rel=>
       refine ⟨j + 1,upd f y j,by omega,by go_num,hid_ (by have:=HS.out;rwa [iv_upd] at this),hid_ (fun i hi=> ?_),HCS,HIS,HXS.out⟩;by_cases e:i=j
       ·subst e;rw [HYK.out,upd_same]
       ·rw [upd_ne _ _ (fun h=> HIN.out i j hlt (by omega) (h.trans HYK.out.symm))];exact hfi.out i (by omega)
      case measure=> simp [intOf];omega
     ·have hjq:j=q - 1:=by omega
      have HR:Hid (GFat wr b pn mn ml x):=hid_ ⟨HF.out,HPR.out,HGX.out,hcb.out 0 _ f0,hcb.out 1 _ f1,⟨_,hcb.out 2 _ f2,hisl.out⟩,by rw [HQQ.out];exact hcb.out 3 _ f3,
       ⟨_,hcb.out 4 _ f4,by rw [HQQ.out];exact HGV.out.ex hx⟩,⟨_,f,b5,by rw [HQQ.out];exact hown.out.isl,fun k hk=> hfi.out k (by rw [HQQ.out] at hk;omega)⟩⟩
      clear hlt b5;go_wp2_with fail
      go_ret2;exact ⟨.inl ⟨pn,mn,x,b,rfl,rfl,rfl,HR.out,x1,by rw [HQQ.out];exact x2⟩,HE3.out.trans hx⟩
  ·have HNO:=hid_ (show ¬FldB pn mn ml from fun ⟨a,b,e1,e2,_,_,h⟩=> by
    have e1':pn=a:=by omega
    have e2':mn=b:=by omega
    subst e1';subst e2';exact hno h)
   clear hgo hno;have hE:=fun w=> run_eql_slice_nil (P:=Tryz.prog) w 22 3 none 0 0 Tryz.underlying22;go_wp2_with fail
   go_ret2;exact ⟨.inr ⟨HNO.out,rfl⟩,e3⟩
 ·have hs':shB p m ml=false:=by simpa using hs
  have HNO:=hid_ (show ¬FldB p m ml from fun ⟨a,b,e1,e2,h1,h2,_⟩=> by
   rw [e1,e2] at hs;exact hs (FSh_shB h1 h2).1)
  rw [hs'] at HSH;clear hs hs' hord;go_enter Tryz.func87,Tryz.ntmps87
  have d0:=D0.out;have d1:=D1.out;have d2:=D2.out;go_wp2_with fail
  clear hxb D0 D1 D2;generalize w.alloc (.cells #[.int .i64 p,.int .i64 m,mv] 24)=w1 at *;refine (HSH.out _ (HMV.out.ex e0)).mono ?_;rintro e w2 ⟨rfl,hx2⟩;go_wp2_with fail
  go_ret2;exact ⟨.inr ⟨HNO.out,rfl⟩,e0.trans hx2⟩
end Go.Proofs.YtgdmlmhpineibaaGreat
