/- Slices of slices of ints; walks of the package matrix: entries, check. -/
import Derived.StillTailTactics
import Derived.Deep.CutRange
import Derived.Deep.LoopGhost
import Derived.Deep.RegionLaw
import Derived.Deep.RegionHeld3
import Derived.Test.YtgdmlmhpineibaaGreatZf12
namespace Go.Proofs.YtgdmlmhpineibaaGreat
set_option linter.unusedVariables false
set_option linter.unusedSimpArgs false
set_option maxRecDepth 100000
set_option maxHeartbeats 2000000
section
open Go.RowKit
def MSl (w:World) (v:Value) (rows:List (List Int)):Prop:=∃vals:List Value,Sl w v rows.length 1 vals∧∀(i:Nat) (r:List Int) (u:Value),rows[i]?=some r→vals[i]?=some u→ISl w u r
theorem MSl.ex {w w':World} {v:Value} {rows:List (List Int)} (h:MSl w v rows) (hx:Ex w w'):MSl w' v rows:=by
 obtain ⟨vals,h1,h2⟩:=h;exact ⟨vals,h1.ex hx,fun i r u a b=> (h2 i r u a b).ex hx⟩
theorem MSl.open {w:World} {v:Value} {rows:List (List Int)} (h:MSl w v rows):∃a cap,v= .slice a rows.length cap∧rows.length≤cap∧cap≤maxLen∧
  (0 < rows.length→∃b o,a=some ⟨b,o,none⟩∧∀(i:Nat) (r:List Int),rows[i]?=some r→∃u,w.cell? ⟨b,o + i,none⟩=some u∧ISl w u r):=by
 obtain ⟨vals,⟨h1,a,cap,h2,h3,h4,h5⟩,h6⟩:=h;refine ⟨a,cap,h2,h3,h4,fun hn=> ?_⟩;obtain ⟨b,o,h7,h8⟩:=h5 hn;refine ⟨b,o,h7,fun i r hr=> ?_⟩;have hi:=(List.getElem?_eq_some_iff.1 hr).1;have hu:vals[i]?=some vals[i]:=List.getElem?_eq_getElem (by omega);exact ⟨_,h8 i _ hu,h6 i r _ hr hu⟩
def entS (q:Nat) (l:List Int):Int:=if (l.all fun x=> isB q x)=true then 0 else 2
section
variable {b p m x0:Nat} {ml:List Int}
theorem entries_any (w:World) (hg:GFat w b p m ml x0) (l:List Int) (v:Value) (hl:ISl w v l):
  Calls Tryz.prog 130 #[.pointer (some ⟨b,0,none⟩),v] w fun r w'=> r= .returned (.int .i64 (entS (p ^ m) l))∧Ex w w':=by
 obtain ⟨a,cap,rfl,s1,s2,s3⟩:=hl.open;have S3:=hid_ s3;have HG:=hid_ hg;have HE:=hid_ (show entS (p ^ m) l=if (l.all fun x=> isB (p ^ m) x)=true then 0 else 2 from rfl);unfold maxLen at s2;clear hl s3 hg;go_enter Tryz.func130,Tryz.ntmps130
 go_wp2_with fail
 go_loopw [6,9] (fun _ i' wr=> ∃i:Nat,i≤l.length∧i'= .int .i64 i∧Hid (∀(j:Nat) (x:Int),j < i→l[j]?=some x→isB (p ^ m) x=true)∧Ex w wr) (fun _ i' _=> l.length - (intOf i').toNat)
 case atStart=> exact ⟨0,by omega,rfl,hid_ (fun j x h=> by omega),Ex.refl _⟩
 case round=>
  obtain ⟨i,hi,rfl,hall,hx⟩:=hrel;by_cases hlt:i < l.length
  ·obtain ⟨x,hxx⟩:∃x,l[i]?=some x:=⟨_,List.getElem?_eq_getElem hlt⟩;obtain ⟨bb,o,rfl,hc⟩:=S3.out (by omega);have c1:=hx.cell (hc i x hxx);have HIS:=hid_ (Is_any wr (HG.out.ex hx) x);by_cases hb:isB (p ^ m) x=true
   ·have HA:=hid_ (show ∀(j:Nat) (y:Int),j < i + 1→l[j]?=some y→isB (p ^ m) y=true from fun j y hj hy=> by
     by_cases e:j=i
     ·subst e;rw [hxx] at hy;injection hy with hy;subst hy;exact hb
     ·exact hall.out j y (by omega) hy)
    rw [hb] at HIS;clear hc hxx hb;go_wp2_with fail
    refine HIS.out.mono ?_;rintro e w2 ⟨rfl,n,rfl⟩;go_wp2_with fail
    go_roundw
    case rel=> exact ⟨i + 1,by omega,by go_num,HA,hx.drewN n⟩
    case measure=> simp [intOf];omega
   ·have HF:=hid_ (show entS (p ^ m) l=2 by
     rw [HE.out,if_neg];intro h;exact hb (List.all_eq_true.1 h x (List.mem_of_getElem? hxx)))
    have hb':isB (p ^ m) x=false:=by simpa using hb
    rw [hb'] at HIS;clear hc hxx hb hb';go_wp2_with fail
    refine HIS.out.mono ?_;rintro e w2 ⟨rfl,n,rfl⟩;go_wp2_with fail
    go_ret;exact ⟨ret_int HF.out.symm,hx.drewN n⟩
  ·obtain rfl:i=l.length:=by omega
   have HF:=hid_ (show entS (p ^ m) l=0 by
    rw [HE.out,if_pos];rw [List.all_eq_true];intro y hy;obtain ⟨j,hj,e⟩:=List.getElem_of_mem hy;exact hall.out j y hj (by rw [List.getElem?_eq_getElem hj,e]))
   go_wp2_with fail
   go_ret;exact ⟨ret_int HF.out.symm,hx⟩
def mchkS (q:Nat) (cols:Int) (rows:List (List Int)):Int:=
 if cols < 0∨256 < cols∨256 < (rows.length:Int) then 3
 else if (rows.all fun r=> decide ((r.length:Int)=cols))=true then (if (rows.all fun r=> entS q r==0)=true then 0 else 2) else 3
theorem boxM_facts (w:World) (c:Int) (v:Value):(w.alloc (.cells #[.int .i64 c,v] 113)).cell? ⟨w.heap.size,0,none⟩=some (.int .i64 c)∧
  (w.alloc (.cells #[.int .i64 c,v] 113)).cell? ⟨w.heap.size,1,none⟩=some v∧Ex w (w.alloc (.cells #[.int .i64 c,v] 113)):=
 ⟨by simp,by simp,(Ex.refl _).alloc _⟩
theorem entS_ne {q:Nat} {l:List Int}:entS q l=0∨entS q l=2:=by unfold entS;split <;> simp
theorem mcheck_any (w:World) (hg:GFat w b p m ml x0) (cols:Int) (rows:List (List Int)) (v:Value) (hv:MSl w v rows):
  Calls Tryz.prog 157 #[.pointer (some ⟨b,0,none⟩),.agg #[.int .i64 cols,v]] w fun r w'=> r= .returned (.int .i64 (mchkS (p ^ m) cols rows))∧Ex w w':=by
 obtain ⟨d0,d1,e0⟩:=boxM_facts w cols v;have HE:=hid_ (show mchkS (p ^ m) cols rows=if cols < 0∨256 < cols∨256 < (rows.length:Int) then 3
 else if (rows.all fun r=> decide ((r.length:Int)=cols))=true then (if (rows.all fun r=> entS (p ^ m) r==0)=true then 0 else 2) else 3 from rfl)
 have hv1:=hv.ex e0;have HG:=hid_ (hg.ex e0);obtain ⟨a,cap,rfl,s1,s2,s3⟩:=hv1.open;have S3:=hid_ s3;unfold maxLen at s2;clear hv hv1 s3 hg;by_cases h:cols < 0∨256 < cols∨256 < (rows.length:Int)
 ·have HR:=hid_ (show mchkS (p ^ m) cols rows=3 by rw [HE.out,if_pos h]);have hc:cols < 0∨(0≤cols∧256 < cols)∨(0≤cols∧cols≤256∧256 < (rows.length:Int)):=by omega
  clear h HE;rcases hc with hc | ⟨h1,h2⟩ | ⟨h1,h2,h3⟩
  all_goals
   go_enter Tryz.func157,Tryz.ntmps157
   go_wp2_with fail
   go_ret;exact ⟨ret_int HR.out.symm,e0⟩
 ·have h1:0≤cols:=by omega
  have h2:cols≤256:=by omega
  have h3:(rows.length:Int)≤256:=by omega
  have HE2:=hid_ (show mchkS (p ^ m) cols rows=if (rows.all fun r=> decide ((r.length:Int)=cols))=true then (if (rows.all fun r=> entS (p ^ m) r==0)=true then 0 else 2) else 3 by rw [HE.out,if_neg h]);clear h HE;go_enter Tryz.func157,Tryz.ntmps157
  go_wp2_with fail
  generalize w.alloc (.cells #[.int .i64 cols,.slice a rows.length cap] 113)=w1 at *
  go_loopw [6,27] (fun _ i' wr=> ∃i:Nat,i≤rows.length∧i'= .int .i64 i∧Hid (∀(j:Nat) (r:List Int),j < i→rows[j]?=some r→(r.length:Int)=cols)∧Ex w1 wr) (fun _ i' _=> rows.length - (intOf i').toNat)
  case atStart=> exact ⟨0,by omega,rfl,hid_ (fun j x h=> by omega),Ex.refl _⟩
  case round=>
   obtain ⟨i,hi,rfl,hall,hx⟩:=hrel;have r0:=hx.cell d0;have r1:=hx.cell d1;by_cases hlt:i < rows.length
   ·obtain ⟨r,hr⟩:∃r,rows[i]?=some r:=⟨_,List.getElem?_eq_getElem hlt⟩;obtain ⟨bb,o,rfl,hc⟩:=S3.out (by omega);obtain ⟨u,c1,hu⟩:=hc i r hr;obtain ⟨ua,uc,rfl,u1,u2,u3⟩:=hu.open;have c2:=hx.cell c1;unfold maxLen at u2;by_cases hl:(r.length:Int)=cols
    ·have hb:((r.length:Int) !=cols)=false:=by simpa using hl
     have HA:=hid_ (show ∀(j:Nat) (s:List Int),j < i + 1→rows[j]?=some s→(s.length:Int)=cols from fun j s hj hs=> by
      by_cases e:j=i
      ·subst e;rw [hr] at hs;injection hs with hs;subst hs;exact hl
      ·exact hall.out j s (by omega) hs)
     clear hl hc c1 hu u3 hr;go_wp2_with fail
     go_roundw
     case rel=> exact ⟨i + 1,by omega,by go_num,HA,hx⟩
     case measure=> simp [intOf];omega
    ·have hb:((r.length:Int) !=cols)=true:=by simpa using hl
     have HF:=hid_ (show mchkS (p ^ m) cols rows=3 by
      rw [HE2.out,if_neg];intro h;have:=List.all_eq_true.1 h r (List.mem_of_getElem? hr);exact hl (by simpa using this))
     clear hl hc c1 hu u3 hr;go_wp2_with fail
     go_ret;exact ⟨ret_int HF.out.symm,e0.trans hx⟩
   ·obtain rfl:i=rows.length:=by omega
    have HE3:=hid_ (show mchkS (p ^ m) cols rows=if (rows.all fun r=> entS (p ^ m) r==0)=true then 0 else 2 by
     rw [HE2.out,if_pos];rw [List.all_eq_true];intro r hr;obtain ⟨j,hj,e⟩:=List.getElem_of_mem hr;exact decide_eq_true (hall.out j r hj (by rw [List.getElem?_eq_getElem hj,e])))
    clear hall;go_wp2_with fail
    obtain ⟨wo,rfl⟩:∃wo:World,wo=wr:=⟨_,rfl⟩;clear r0 r1
    go_loopw [8,9,40] (fun _ _ i' wr=> ∃i:Nat,i≤rows.length∧i'= .int .i64 i∧Hid (∀(j:Nat) (r:List Int),j < i→rows[j]?=some r→entS (p ^ m) r=0)∧Ex w1 wr) (fun _ _ i' _=> rows.length - (intOf i').toNat)
    case atStart=> exact ⟨0,by omega,rfl,hid_ (fun j x h=> by omega),hx⟩
    case round=>
     clear hx;obtain ⟨i,hi,rfl,hall,hx⟩:=hrel;have r0:=hx.cell d0;have r1:=hx.cell d1;by_cases hlt:i < rows.length
     ·obtain ⟨r,hr⟩:∃r,rows[i]?=some r:=⟨_,List.getElem?_eq_getElem hlt⟩;obtain ⟨bb,o,rfl,hc⟩:=S3.out (by omega);obtain ⟨u,c1,hu⟩:=hc i r hr;obtain ⟨ua,uc,rfl,u1,u2,u3⟩:=hu.open;have c2:=hx.cell c1;unfold maxLen at u2;have HEN:=hid_ (entries_any wr (HG.out.ex hx) r _ (hu.ex hx));by_cases hl:entS (p ^ m) r=0
      ·have HA:=hid_ (show ∀(j:Nat) (s:List Int),j < i + 1→rows[j]?=some s→entS (p ^ m) s=0 from fun j s hj hs=> by
        by_cases e:j=i
        ·subst e;rw [hr] at hs;injection hs with hs;subst hs;exact hl
        ·exact hall.out j s (by omega) hs)
       rw [hl] at HEN;clear hl hc c1 hu u3 hr;go_wp2_with fail
       refine HEN.out.mono ?_;rintro e w3 ⟨rfl,hx3⟩;go_wp2_with fail
       go_roundw
       case rel=> exact ⟨i + 1,by omega,by go_num,HA,hx.trans hx3⟩
       case measure=> simp [intOf];omega
      ·have hl2:entS (p ^ m) r=2:=by rcases entS_ne (q:=p ^ m) (l:=r) with e | e;exact absurd e hl;exact e
       have HF:=hid_ (show mchkS (p ^ m) cols rows=2 by
        rw [HE3.out,if_neg];intro h;have:=List.all_eq_true.1 h r (List.mem_of_getElem? hr);exact hl (by simpa using this))
       rw [hl2] at HEN;clear hl hl2 hc c1 hu u3 hr;go_wp2_with fail
       refine HEN.out.mono ?_;rintro e w3 ⟨rfl,hx3⟩;go_wp2_with fail
       go_ret;exact ⟨ret_int HF.out.symm,e0.trans (hx.trans hx3)⟩
     ·obtain rfl:i=rows.length:=by omega
      have HF:=hid_ (show mchkS (p ^ m) cols rows=0 by
       rw [HE3.out,if_pos];rw [List.all_eq_true];intro r hr;obtain ⟨j,hj,e⟩:=List.getElem_of_mem hr;rw [hall.out j r hj (by rw [List.getElem?_eq_getElem hj,e])];rfl)
      go_wp2_with fail
      go_ret;exact ⟨ret_int HF.out.symm,e0.trans hx⟩
end
end
section
open Go.RowKit
def OpenOut (p m:Int) (ml:List Int) (cols:Int) (rows:List (List Int)) (w':World) (r:Ending):Prop:=
 (∃(pn mn x b:Nat),p=pn∧m=mn∧GFat w' b pn mn ml x∧1≤x∧x < pn ^ mn∧
  ((mchkS (pn ^ mn) cols rows=0∧r= .returned (.tuple #[.pointer (some ⟨b,0,none⟩),.int .i64 0]))∨
  (mchkS (pn ^ mn) cols rows≠0∧r= .returned (.tuple #[.pointer none,.int .i64 (mchkS (pn ^ mn) cols rows)]))))∨
 (¬FldB p m ml∧r= .returned (.tuple #[.pointer none,.int .i64 1]))
theorem open1_any (p m:Int) (ml:List Int) (mv:Value) (w:World) (hmv:ISl w mv ml) (cols:Int) (rows:List (List Int)) (v:Value) (hv:MSl w v rows) (B:Nat)
  (c0:w.cell? ⟨B,0,none⟩=some (.int .i64 cols)) (c1:w.cell? ⟨B,1,none⟩=some v):
  Calls Tryz.prog 124 #[.agg #[.int .i64 p,.int .i64 m,mv],.slice (some ⟨B,0,none⟩) 1 1] w fun r w'=> OpenOut p m ml cols rows w' r∧Ex w w':=by
 obtain ⟨d0,d1,d2,e0,_⟩:=box_facts w p m mv;obtain ⟨va,vcap,rfl,v1,v2,v3⟩:=hv.open;clear v1 v2 v3;have HN:=hid_ (fun w' h=> New_any p m ml mv w' h);have HMV:=hid_ hmv;have HV:=hid_ hv;have C0:=hid_ c0;have C1:=hid_ c1;clear hmv hv c0 c1;go_enter Tryz.func124,Tryz.ntmps124
 go_wp2_with fail
 generalize w.alloc (.cells #[.int .i64 p,.int .i64 m,mv] 24)=w1 at *;refine (HN.out _ (HMV.out.ex e0)).mono ?_;rintro e w2 ⟨ho,hx2⟩;rcases ho with ⟨pn,mn,x,b,rfl,rfl,rfl,hg,x1,x2⟩ | ⟨hno,rfl⟩
 ·have c0:=(e0.trans hx2).cell C0.out;have c1:=(e0.trans hx2).cell C1.out;have HG:=hid_ hg;have e2:=e0.trans hx2;clear hg d0 d1 d2 hx2;go_wp2_with fail
  refine wp_loop_rounds 2 ?_;rw [rounds_succ];go_wp2_with fail
  have HMC:=hid_ (fun w' (h:Ex w w') (h':GFat w' b pn mn ml x)=> mcheck_any w' h' cols rows _ (HV.out.ex h));have HB:=hid_ (boxM_facts w2 cols (.slice va rows.length vcap));have hx4:Ex w2 (w2.alloc (.cells #[.int .i64 cols,.slice va rows.length vcap] 113)):=(Ex.refl _).alloc _;generalize w2.alloc (.cells #[.int .i64 cols,.slice va rows.length vcap] 113)=w4 at *;refine (HMC.out w4 (e2.trans hx4) (HG.out.ex hx4)).mono ?_;rintro e w5 ⟨rfl,hx5⟩;have c0':=hx5.cell (hx4.cell c0);have c1':=hx5.cell (hx4.cell c1);by_cases h0:mchkS (pn ^ mn) cols rows=0
  ·have HH:=hid_ h0;rw [h0];clear h0;go_wp2_with fail
   rw [rounds_succ];go_wp2_with fail
   go_ret2;exact ⟨.inl ⟨pn,mn,x,b,rfl,rfl,HG.out.ex (hx4.trans hx5),x1,x2,.inl ⟨HH.out,rfl⟩⟩,(e2.trans hx4).trans hx5⟩
  ·obtain ⟨mk,hmk⟩:∃mk,mchkS (pn ^ mn) cols rows=mk:=⟨_,rfl⟩;rw [hmk] at h0 ⊢;have HK:=hid_ hmk;have hb:(mk !=0)=true:=by simpa using h0
   have HH:=hid_ h0;clear h0 hmk;go_wp2_with fail
   go_ret2;exact ⟨.inl ⟨pn,mn,x,b,rfl,rfl,HG.out.ex (hx4.trans hx5),x1,x2,.inr ⟨by rw [HK.out];exact HH.out,by rw [HK.out];rfl⟩⟩,(e2.trans hx4).trans hx5⟩
 ·have HNO:=hid_ hno;clear hno;go_wp2_with fail
  go_ret2;exact ⟨.inr ⟨HNO.out,rfl⟩,e0.trans hx2⟩
def ChkOut (p m:Int) (ml:List Int) (cols:Int) (rows:List (List Int)) (e:Int):Prop:=
 (∃pn mn:Nat,p=pn∧m=mn∧FldB p m ml∧e=mchkS (pn ^ mn) cols rows)∨(¬FldB p m ml∧e=1)
theorem GFat.fldB {w:World} {b p m x:Nat} {ml:List Int} (h:GFat w b p m ml x) (h1:1≤x) (h2:x < p ^ m):FldB p m ml:=⟨p,m,rfl,rfl,h.sh,h.pr,x,h1,h2,h.gen⟩
end
section
open Go.RowKit
section
variable {p m:Nat} {ml:List Int} {mv:Value}
theorem isI_isB (hf:FSh p m ml) (x:Int):isI p m x=isB (p ^ m) x:=by unfold isI isB;rw [hf.ord]
theorem rEntries_any (w:World) (hf:FSh p m ml) (l:List Int) (v:Value) (hl:ISl w v l):
  Calls Tryz.prog 61 #[.agg #[.int .i64 p,.int .i64 m,mv],v] w fun r w'=> r= .returned (.int .i64 (entS (p ^ m) l))∧Ex w w':=by
 obtain ⟨d0,d1,d2,e0,_⟩:=box_facts w p m mv;obtain ⟨a,cap,rfl,s1,s2,s3⟩:=(hl.ex e0).open;have S3:=hid_ s3;have HIS:=hid_ (fun w' x=> by have:=rIs_any p m x mv w';rw [isI_isB hf] at this;exact this);have HE:=hid_ (show entS (p ^ m) l=if (l.all fun x=> isB (p ^ m) x)=true then 0 else 2 from rfl);unfold maxLen at s2;clear hl s3 hf;go_enter Tryz.func61,Tryz.ntmps61
 go_wp2_with fail
 obtain ⟨xb,hxb⟩:∃xb,w.heap.size=xb:=⟨_,rfl⟩;rw [hxb] at d0 d1 d2
 try simp only [hxb]
 generalize w.alloc (.cells #[.int .i64 p,.int .i64 m,mv] 24)=w1 at *;clear hxb
 go_loopw [5] (fun i' wr=> ∃i:Nat,i≤l.length∧i'= .int .i64 i∧Hid (∀(j:Nat) (x:Int),j < i→l[j]?=some x→isB (p ^ m) x=true)∧Ex w1 wr) (fun i' _=> l.length - (intOf i').toNat)
 case atStart=> exact ⟨0,by omega,rfl,hid_ (fun j x h=> by omega),Ex.refl _⟩
 case round=>
  obtain ⟨i,hi,rfl,hall,hx⟩:=hrel;by_cases hlt:i < l.length
  ·obtain ⟨x,hxx⟩:∃x,l[i]?=some x:=⟨_,List.getElem?_eq_getElem hlt⟩;obtain ⟨bb,o,rfl,hc⟩:=S3.out (by omega);have c1:=hx.cell (hc i x hxx);have r0:=hx.cell d0;have r1:=hx.cell d1;have r2:=hx.cell d2;have HI2:=hid_ (fun w'=> HIS.out w' x);have HXX:=hid_ hxx;obtain ⟨bo,hbo⟩:∃bo,isB (p ^ m) x=bo:=⟨_,rfl⟩;rw [hbo] at HI2;have HBO:=hid_ hbo;clear hc hxx hbo;go_wp2_with fail
   go_region_held3 (fun w'=> w'.cell? ⟨xb,0,none⟩=some (.int .i64 p)∧w'.cell? ⟨xb,1,none⟩=some (.int .i64 m)∧w'.cell? ⟨xb,2,none⟩=some mv∧w'.cell? ⟨bb,o + i,none⟩=some (.int .i64 x)∧Ex w1 w')
    (first | exact ⟨r0,r1,r2,c1,hx.drew⟩ | exact ⟨hx1.cell r0,hx1.cell r1,hx1.cell r2,hx1.cell c1,hx.drew.trans hx1⟩)
    ((go_at_call 100;refine (HI2.out _).mono ?_;rintro e w2 ⟨rfl,hx1⟩))
   have hE:=(‹_∧_∧_∧_∧Ex w1 _›).2.2.2.2
   cases bo with
   | true=>
    have HA:=hid_ (show ∀(j:Nat) (y:Int),j < i + 1→l[j]?=some y→isB (p ^ m) y=true from fun j y hj hy=> by
     by_cases e:j=i
     ·subst e;rw [HXX.out] at hy;injection hy with hy;subst hy;exact HBO.out
     ·exact hall.out j y (by omega) hy)
    go_wp2_with fail
    go_roundw
    case rel=> exact ⟨i + 1,by omega,by go_num,HA,hE⟩
    case measure=> simp [intOf];omega
   | false=>
    have HF:=hid_ (show entS (p ^ m) l=2 by
     rw [HE.out,if_neg];intro h;have:=List.all_eq_true.1 h x (List.mem_of_getElem? HXX.out);rw [HBO.out] at this;cases this)
    go_wp2_with fail
    go_ret;exact ⟨ret_int HF.out.symm,e0.trans hE⟩
  ·obtain rfl:i=l.length:=by omega
   have HF:=hid_ (show entS (p ^ m) l=0 by
    rw [HE.out,if_pos];rw [List.all_eq_true];intro y hy;obtain ⟨j,hj,e⟩:=List.getElem_of_mem hy;exact hall.out j y hj (by rw [List.getElem?_eq_getElem hj,e]))
   go_wp2_with fail
   go_ret;exact ⟨ret_int HF.out.symm,e0.trans hx⟩
end
end
section
open Go.RowKit
theorem infoIntsL:(Tryz.prog.info? 22).map (fun i=> (i.zero,i.size,i.bytes))=some (some (.slice none 0 0),1,24):=by kernel_rfl
theorem Ex.frz {w w':World} (h:Ex w w') {p:Addr} {u:Value} (hc:w.cell? p=some u) (hf:w.frozen? p=false):w'.frozen? p=false:=
 (Below.frozen h (World.block_lt_of_cell? w _ hc)).trans hf
theorem Appd.frz {w w':World} {base:Nat} {e:TypeId} {size:Nat} {v v':Value} {n:Nat} {xs news:List Value} (h:Appd w w' base e size v v' n xs news) {a:Addr} {u:Value} (hc:w.cell? a=some u) (hf:w.frozen? a=false) (hne:some a.block≠v.ownBlock):w'.frozen? a=false:=by
 obtain ⟨o,hg⟩:=h.gr;have hlt:=World.block_lt_of_cell? _ _ hc;have e1:(w.alloc o).frozen? a=w.frozen? a:=((Ex.refl w).alloc o).frozen hlt;rw [←hf,←e1];have h2:=hg.block a.block (by simp;omega) hne;unfold World.frozen?;rw [h2]
theorem mchk_shape {q:Nat} {cols:Int} {rows:List (List Int)} (h:mchkS q cols rows=0):0≤cols∧cols≤256∧rows.length≤256∧∀r∈rows,(r.length:Int)=cols∧entS q r=0:=by
 unfold mchkS at h;split at h
 ·cases h
 ·split at h
  ·rename_i h2;split at h
   ·rename_i h1 h3;refine ⟨by omega,by omega,by omega,fun r hr=> ⟨?_,?_⟩⟩
    ·have:=List.all_eq_true.1 h2 r hr;simpa using this
    ·have:=List.all_eq_true.1 h3 r hr;simpa using this
   ·cases h
  ·cases h
theorem isl_nil (w:World):ISl w (.slice none 0 0) []:=Sl.nil w 1
theorem ownsRow_mono {w:World} {base b':Nat} {e:TypeId} {size:Nat} {v:Value} {n:Nat} {xs:List Value} (h:w.ownsRow base e size v n xs) (hb:b'≤base):w.ownsRow b' e size v n xs:=by
 refine ⟨h.1,?_⟩;rcases h.2 with h1 | ⟨g',cap,cur,h1,h2,h3⟩
 ·exact .inl h1
 ·exact .inr ⟨g',cap,cur,h1,Nat.le_trans hb h2,h3⟩
theorem cell_setCell_ne {w:World} {a b:Nat} {i j:Nat} {u:Value} (h:a≠b):(w.setCell ⟨a,i,none⟩ u).cell? ⟨b,j,none⟩=w.cell? ⟨b,j,none⟩:=
 World.cell?_setCell_other _ _ _ _ (by intro e;injection e with e1;exact h e1)
theorem alloc1_cell (w:World) (u:Value) (t:TypeId) {n:Nat} (h:w.heap.size=n):(w.alloc (.cells #[u] t)).cell? ⟨n,0,none⟩=some u:=by subst h;simp
theorem alloc1_frz (w:World) (u:Value) (t:TypeId) {n:Nat} (h:w.heap.size=n):(w.alloc (.cells #[u] t)).frozen? ⟨n,0,none⟩=false:=by subst h;simp
structure MRows (w:World) (base:Nat) (cv:Value) (M:List (List Int)) (vals:List Value):Prop where
 cvo:w.ownsRow base 22 1 cv M.length vals
 row:∀(i:Nat) (r:List Int) (u:Value),M[i]?=some r→vals[i]?=some u→w.ownsRow base 3 1 u r.length (ints r)
 apart:∀u∈vals,Aprt u cv
theorem MRows.nil (w:World) (base:Nat):MRows w base (.slice none 0 0) [] []:=⟨World.ownsRow_nil _ _ _ _,fun i r u h=> by simp at h,fun u h=> by cases h⟩
theorem MRows.len {w:World} {base:Nat} {cv:Value} {M:List (List Int)} {vals:List Value} (h:MRows w base cv M vals):vals.length=M.length:=by
 have:=h.cvo.1;omega
theorem MRows.ex {w w':World} {base:Nat} {cv:Value} {M:List (List Int)} {vals:List Value} (h:MRows w base cv M vals) (hx:Ex w w'):MRows w' base cv M vals:=
 ⟨ownsRow_ex h.cvo hx,fun i r u h1 h2=> ownsRow_ex (h.row i r u h1 h2) hx,h.apart⟩
theorem MRows.setNe {w:World} {base:Nat} {cv:Value} {M:List (List Int)} {vals:List Value} (h:MRows w base cv M vals) {a:Addr} (ha:a.block < base) (u:Value):MRows (w.setCell a u) base cv M vals:=by
 have key:∀ {e:TypeId} {size:Nat} {v:Value} {n:Nat} {xs:List Value},w.ownsRow base e size v n xs→v.ownBlock≠some a.block:=fun k e=> by
  have:=(k.lt _ e).1;omega
 exact ⟨ownsRow_setCell_ne h.cvo (key h.cvo) u,fun i r t h1 h2=> ownsRow_setCell_ne (h.row i r t h1 h2) (key (h.row i r t h1 h2)) u,h.apart⟩
theorem MRows.app {w w':World} {base:Nat} {cv cv' l:Value} {M:List (List Int)} {vals:List Value} {L:List Int} (h:MRows w base cv M vals) (hl:w.ownsRow base 3 1 l L.length (ints L)) (hal:Aprt l cv)
  (ha:Appd w w' base 22 1 cv cv' M.length vals [l]):MRows w' base cv' (M ++ [L]) (vals ++ [l]):=by
 have hn:=h.len;have key:∀u∈vals,∃r,w.ownsRow base 3 1 u r (ints [])∨∃L:List Int,w.ownsRow base 3 1 u L.length (ints L):=fun u hu=> by
  obtain ⟨i,hi,e⟩:=List.getElem_of_mem hu;exact ⟨0,.inr ⟨_,h.row i (M[i]'(by omega)) u (List.getElem?_eq_getElem _) (by rw [List.getElem?_eq_getElem hi,e])⟩⟩
 refine ⟨by simpa using ha.own,fun i r u h1 h2=> ?_,fun u hu=> ?_⟩
 ·by_cases e:i < M.length
  ·rw [List.getElem?_append_left e] at h1;rw [List.getElem?_append_left (by omega)] at h2;exact (ha.row (h.row i r u h1 h2) (h.apart u (List.mem_of_getElem? h2))).1
  ·rw [List.getElem?_append_right (by omega)] at h1 h2;have hi:i - M.length=0:=by
    have:=(List.getElem?_eq_some_iff.1 h1).1;simp at this;omega
   rw [hi] at h1;rw [hn,hi] at h2;simp at h1 h2;subst h1 h2;exact (ha.row hl hal).1
 ·rcases List.mem_append.1 hu with hu | hu
  ·obtain ⟨i,hi,e⟩:=List.getElem_of_mem hu;exact (ha.row (h.row i (M[i]'(by omega)) u (List.getElem?_eq_getElem _) (by rw [List.getElem?_eq_getElem hi,e])) (h.apart u hu)).2
  ·simp at hu;subst hu;exact (ha.row hl hal).2
theorem MRows.msl {w:World} {base:Nat} {cv:Value} {M:List (List Int)} {vals:List Value} (h:MRows w base cv M vals):MSl w cv M:=
 ⟨vals,Sl.own h.cvo,fun i r u h1 h2=> Sl.own (h.row i r u h1 h2)⟩
def fstI (pr:Nat→Bool) (n:Nat):Int:=match (List.range n).find? pr with | some i=> i | none=> -1
theorem fstI_hit {pr:Nat→Bool} {n i:Nat} (h:i < n) (hb:pr i=true) (ha:∀j,j < i→pr j=false):fstI pr n=i:=by
 unfold fstI;have:(List.range n).find? pr=some i:=by
  rw [List.find?_range_eq_some];exact ⟨hb,List.mem_range.2 h,fun j hj=> by rw [ha j hj];rfl⟩
 rw [this]
theorem fstI_miss {pr:Nat→Bool} {n:Nat} (ha:∀j,j < n→pr j=false):fstI pr n=-1:=by
 unfold fstI;have:(List.range n).find? pr=none:=by
  rw [List.find?_eq_none];intro j hj;rw [ha j (List.mem_range.1 hj)];simp
 rw [this]
theorem fstI_any (pr:Nat→Bool) (n:Nat):(List.range n).any pr=decide (0≤fstI pr n):=by
 unfold fstI
 cases h:(List.range n).find? pr with
 | some i=>
  have:=List.find?_some h;have hm:=List.mem_of_find?_eq_some h;simp only;rw [List.any_eq_true.2 ⟨i,hm,this⟩];simp
 | none=>
  rw [List.find?_eq_none] at h;simp only;rw [Bool.eq_iff_iff];constructor
  ·intro h';obtain ⟨i,hi,hb⟩:=List.any_eq_true.1 h';exact absurd hb (h i hi)
  ·intro h';simp at h'
theorem Index_any (w:World) (l:List Int) (v:Value) (x:Int) (hl:ISl w v l):
  Calls Tryz.prog 150 #[v,.int .i64 x] w fun r w'=> r= .returned (.int .i64 (fstI (fun j=> x==l.getD j 0) l.length))∧w=w':=by
 obtain ⟨a,cap,rfl,s1,s2,s3⟩:=hl.open;have S3:=hid_ s3;unfold maxLen at s2;obtain ⟨pr,hpr⟩:∃pr:Nat→Bool,(fun j=> x==l.getD j 0)=pr:=⟨_,rfl⟩;have HPR:=hid_ (show ∀(j:Nat) (y:Int),l[j]?=some y→pr j=(x==y) from fun j y h=> by rw [←hpr];show (x==l.getD j 0)=_;rw [List.getD_eq_getElem?_getD,h];rfl);rw [hpr];clear hl s3 hpr;go_enter Tryz.func150,Tryz.ntmps150
 go_wp2_with fail
 go_loop [5,8] (fun _ i'=> ∃i:Nat,i≤l.length∧i'= .int .i64 i∧Hid (∀j,j < i→pr j=false)) (fun _ i'=> l.length - (intOf i').toNat)
 case atStart=> exact ⟨0,by omega,rfl,hid_ (fun j hj=> by omega)⟩
 case round=>
  obtain ⟨i,hi,rfl,hall⟩:=hrel;by_cases hlt:i < l.length
  ·obtain ⟨y,hy⟩:∃y,l[i]?=some y:=⟨_,List.getElem?_eq_getElem hlt⟩;obtain ⟨bb,o,rfl,hc⟩:=S3.out (by omega);have c1:=hc i y hy;have HP:=hid_ (HPR.out i y hy);clear hc hy
   cases hb:(x==y) with
   | true=>
    have HF:=hid_ (fstI_hit hlt (HP.out.trans hb) hall.out);go_wp2_with fail
    go_ret;exact ⟨ret_int HF.out.symm,rfl⟩
   | false=>
    have HA:=hid_ (show ∀j,j < i + 1→pr j=false from fun j hj=> by
     by_cases e:j=i
     ·subst e;exact HP.out.trans hb
     ·exact hall.out j (by omega))
    go_wp2_with fail
    go_round
    case rel=> exact ⟨i + 1,by omega,by go_num,HA⟩
    case measure=> simp [intOf];omega
  ·obtain rfl:i=l.length:=by omega
   have HF:=hid_ (fstI_miss hall.out);go_wp2_with fail
   go_ret;exact ⟨ret_int HF.out.symm,rfl⟩
theorem any_eq_contains (x:Int) (l:List Int):((List.range l.length).any fun j=> x==l.getD j 0)=l.contains x:=by
 rw [Bool.eq_iff_iff];simp only [List.any_eq_true,List.mem_range,List.contains_iff_mem,beq_iff_eq,List.getD_eq_getElem?_getD];constructor
 ·rintro ⟨j,hj,e⟩;rw [List.getElem?_eq_getElem hj] at e;rw [e];exact List.getElem_mem hj
 ·intro h;obtain ⟨j,hj,e⟩:=List.getElem_of_mem h;exact ⟨j,hj,by rw [List.getElem?_eq_getElem hj,e];rfl⟩
theorem Contains_any (w:World) (l:List Int) (v:Value) (x:Int) (hl:ISl w v l):
  Calls Tryz.prog 109 #[v,.int .i64 x] w fun r w'=> r= .returned (.bool (l.contains x))∧w=w':=by
 have HC:=hid_ (Index_any w l v x hl);have HB:=hid_ ((any_eq_contains x l).symm.trans (fstI_any _ _));obtain ⟨z,hz⟩:∃z,fstI (fun j=> x==l.getD j 0) l.length=z:=⟨_,rfl⟩;rw [hz] at HC HB;clear hz hl;go_enter Tryz.func109,Tryz.ntmps109
 go_wp2_with (go_at_call 150;refine HC.out.mono ?_;rintro e w' ⟨rfl,rfl⟩)
 go_ret;exact ⟨ret_bool HB.out.symm,rfl⟩
theorem ints_vs (l:List Int):ints l=vs l.length (iv fun j=> l.getD j 0):=by
 apply List.ext_getElem?;intro j;by_cases h:j < l.length
 ·rw [vs_get h];simp [ints,iv,h,List.getD_eq_getElem?_getD]
 ·rw [List.getElem?_eq_none_iff.2 (by rw [ints_length];omega),List.getElem?_eq_none_iff.2 (by rw [vs_length];omega)]
theorem Clone_any (w:World) (l:List Int) (v:Value) (hl:ISl w v l) (hn:1≤l.length) (hn2:l.length≤1000):
  Calls Tryz.prog 66 #[v] w fun r w'=> ∃g cap,r= .returned (.slice (some ⟨g,0,none⟩) l.length cap)∧OwnC w' w.heap.size 3 g l.length cap (iv fun j=> l.getD j 0)∧Ex w w':=by
 have HL:=hid_ hl;obtain ⟨a,cap,rfl,s1,s2,s3⟩:=hl.open;obtain ⟨b,o,rfl,_⟩:=s3 (by omega);have hnil:=fun w'=> run_eql_slice_nil (P:=Tryz.prog) w' 22 3 (some ⟨b,o,none⟩) l.length cap Tryz.underlying22;simp only [Option.isNone] at hnil;have hmi:∀u∈ints l,u.oneCell'=true:=by
  intro u hu;obtain ⟨z,_,rfl⟩:=List.mem_map.1 hu;rfl
 have HON:=hid_ hmi;have HIV:=hid_ (ints_vs l);clear s3 hl hmi;go_enter Tryz.func66,Tryz.ntmps66
 go_wp2_with (at_builtin;refine wpList_append_sl _ rfl _ _ 22 rfl w.heap.size 3 (.int .i64 0) 1 8 Tryz.underlying22 infoInt rfl (by decide) _ 0 [] rfl (own_lit0 w 3) (.slice (some ⟨b,o,none⟩) l.length cap) l.length (ints l) rfl (HL.out.ex ((Ex.refl w).alloc _)) HON.out (by unfold maxLen;omega) (by omega) (by simp) ?_)
 intro v1 w1 hown1 hg1 ha1;have hx1:Ex w w1:=Ex.grown ((Ex.refl w).alloc _) (own_lit0 w 3) (Nat.le_refl _) hg1;rw [HIV.out] at hown1;obtain ⟨g,c2,rfl,hown⟩:=ownC_of hown1 hn;have HO:=hid_ hown;have HX:=hid_ hx1;clear hown hown1 hg1 ha1 hx1 hnil;go_wp2_with fail
 go_ret;exact ⟨g,c2,rfl,HO.out,HX.out⟩
theorem eq_of_get {l k:List Int} (hl:l.length=k.length) (h:∀j,j < l.length→l[j]?=k[j]?):l=k:=by
 apply List.ext_getElem?;intro j;by_cases hj:j < l.length
 ·exact h j hj
 ·rw [List.getElem?_eq_none_iff.2 (by omega),List.getElem?_eq_none_iff.2 (by omega)]
theorem SameInts_any (w:World) (l k:List Int) (v u:Value) (hl:ISl w v l) (hk:ISl w u k):
  Calls Tryz.prog 19 #[v,u] w fun r w'=> r= .returned (.bool (decide (l=k)))∧∃n,w'=w.drewN n:=by
 obtain ⟨a,cap,rfl,s1,s2,s3⟩:=hl.open;obtain ⟨c,cc,rfl,t1,t2,t3⟩:=hk.open;have S3:=hid_ s3;have T3:=hid_ t3;unfold maxLen at s2 t2;clear hl hk s3 t3;by_cases hlk:l.length=k.length
 ·have hb:((l.length:Int) !=(k.length:Int))=false:=by simp;omega
  have HLK:=hid_ hlk;clear hlk;go_enter Tryz.func19,Tryz.ntmps19
  go_wp2_with fail
  go_loopw [5] (fun i' wr=> ∃i n:Nat,i≤l.length∧i'= .int .i64 i∧wr=w.drewN n∧Hid (∀j,j < i→l[j]?=k[j]?)) (fun i' _=> l.length - (intOf i').toNat)
  case atStart=> exact ⟨0,0,by omega,rfl,rfl,hid_ (fun j hj=> by omega)⟩
  case round=>
   obtain ⟨i,n,hi,rfl,rfl,hall⟩:=hrel;by_cases hlt:i < l.length
   ·obtain ⟨x,hx⟩:∃x,l[i]?=some x:=⟨_,List.getElem?_eq_getElem hlt⟩;have hik:i < k.length:=by have:=HLK.out;omega
    obtain ⟨y,hy⟩:∃y,k[i]?=some y:=⟨_,List.getElem?_eq_getElem hik⟩;obtain ⟨b,o,rfl,hc⟩:=S3.out (by omega);obtain ⟨b2,o2,rfl,hc2⟩:=T3.out (by omega);have c1:=((Ex.refl w).drewN n).cell (hc i x hx);have c2:=((Ex.refl w).drewN n).cell (hc2 i y hy);have i1:(0:Int)≤(i:Int):=by omega
    have i2:(i:Int) < (l.length:Int):=by omega
    have i3:(i:Int) < (k.length:Int):=by omega
    obtain ⟨W,hW⟩:∃W,w.drewN n=W:=⟨_,rfl⟩;rw [hW] at c1 c2 ⊢;have HWE:=hid_ hW;clear hW;by_cases hxy:x=y
    ·have HA:=hid_ (show ∀j,j < i + 1→l[j]?=k[j]? from fun j hj=> by
      by_cases e:j=i
      ·subst e;rw [hx,hy,hxy]
      ·exact hall.out j (by omega))
     have hbb:(x !=y)=false:=by simpa using hxy
     clear hc hc2 hx hy hxy;go_wp2_with fail
     go_quiet (fail)
     go_wp2_with fail
     go_roundw
     case rel=> exact ⟨i + 1,_,by omega,by go_num,by rw [←HWE.out,World.drewN_drewN],HA⟩
     case measure=> simp [intOf];omega
    ·have HN:=hid_ (show ¬l=k from fun e=> hxy (by rw [e,hy] at hx;injection hx with hx;exact hx.symm));have hbb:(x !=y)=true:=by simpa using hxy
     clear hc hc2 hx hy hxy;go_wp2_with fail
     go_quiet (fail)
     go_wp2_with fail
     go_ret;exact ⟨ret_bool (decide_eq_false HN.out).symm,_,by rw [←HWE.out,World.drewN_drewN]⟩
   ·obtain rfl:i=l.length:=by omega
    have HE:=hid_ (eq_of_get HLK.out hall.out);go_wp2_with fail
    go_ret;exact ⟨ret_bool (decide_eq_true HE.out).symm,n,rfl⟩
 ·have hb:((l.length:Int) !=(k.length:Int))=true:=by simp;omega
  have HN:=hid_ (show ¬l=k from fun e=> hlk (by rw [e]));clear hlk;go_enter Tryz.func19,Tryz.ntmps19
  go_wp2_with fail
  go_ret;exact ⟨ret_bool (decide_eq_false HN.out).symm,0,rfl⟩
theorem rows_eq_of_get {l k:List (List Int)} (hl:l.length=k.length) (h:∀j,j < l.length→l[j]?=k[j]?):l=k:=by
 apply List.ext_getElem?;intro j;by_cases hj:j < l.length
 ·exact h j hj
 ·rw [List.getElem?_eq_none_iff.2 (by omega),List.getElem?_eq_none_iff.2 (by omega)]
theorem SameRows_any (w:World) (l k:List (List Int)) (v u:Value) (hl:MSl w v l) (hk:MSl w u k):
  Calls Tryz.prog 77 #[v,u] w fun r w'=> r= .returned (.bool (decide (l=k)))∧∃n,w'=w.drewN n:=by
 obtain ⟨a,cap,rfl,s1,s2,s3⟩:=hl.open;obtain ⟨c,cc,rfl,t1,t2,t3⟩:=hk.open;have S3:=hid_ s3;have T3:=hid_ t3;unfold maxLen at s2 t2;clear hl hk s3 t3;by_cases hlk:l.length=k.length
 ·have hb:((l.length:Int) !=(k.length:Int))=false:=by simp;omega
  have HLK:=hid_ hlk;clear hlk;go_enter Tryz.func77,Tryz.ntmps77
  go_wp2_with fail
  go_loopw [5] (fun i' wr=> ∃i n:Nat,i≤l.length∧i'= .int .i64 i∧wr=w.drewN n∧Hid (∀j,j < i→l[j]?=k[j]?)) (fun i' _=> l.length - (intOf i').toNat)
  case atStart=> exact ⟨0,0,by omega,rfl,rfl,hid_ (fun j hj=> by omega)⟩
  case round=>
   obtain ⟨i,n,hi,rfl,rfl,hall⟩:=hrel;by_cases hlt:i < l.length
   ·obtain ⟨x,hx⟩:∃x,l[i]?=some x:=⟨_,List.getElem?_eq_getElem hlt⟩;have hik:i < k.length:=by have:=HLK.out;omega
    obtain ⟨y,hy⟩:∃y,k[i]?=some y:=⟨_,List.getElem?_eq_getElem hik⟩;obtain ⟨b,o,rfl,hc⟩:=S3.out (by omega);obtain ⟨b2,o2,rfl,hc2⟩:=T3.out (by omega);obtain ⟨u1,e1,hu1⟩:=hc i x hx;obtain ⟨u2,e2,hu2⟩:=hc2 i y hy;have c1:=((Ex.refl w).drewN n).cell e1;have c2:=((Ex.refl w).drewN n).cell e2;have hv1:=hu1.ex ((Ex.refl w).drewN n);have hv2:=hu2.ex ((Ex.refl w).drewN n);have i1:(0:Int)≤(i:Int):=by omega
    have i2:(i:Int) < (l.length:Int):=by omega
    have i3:(i:Int) < (k.length:Int):=by omega
    obtain ⟨W,hW⟩:∃W,w.drewN n=W:=⟨_,rfl⟩;rw [hW] at c1 c2 hv1 hv2 ⊢;have HWE:=hid_ hW;have HSI:=hid_ (fun n'=> SameInts_any (W.drewN n') x y u1 u2 (hv1.ex ((Ex.refl W).drewN n')) (hv2.ex ((Ex.refl W).drewN n')));obtain ⟨ua,uc,rfl,_,_,_⟩:=hv1.open;obtain ⟨va,vc,rfl,_,_,_⟩:=hv2.open;by_cases hxy:x=y
    ·have HA:=hid_ (show ∀j,j < i + 1→l[j]?=k[j]? from fun j hj=> by
      by_cases e:j=i
      ·subst e;rw [hx,hy,hxy]
      ·exact hall.out j (by omega))
     rw [decide_eq_true hxy] at HSI;clear hc hc2 hx hy hxy hW hu1 hu2 e1 e2 hv1 hv2;go_wp2_with fail
     go_quiet ((go_at_call 19;exact quiet_draw (HSI.out _)))
     go_wp2_with fail
     go_roundw
     case rel=> exact ⟨i + 1,_,by omega,by go_num,by rw [←HWE.out,World.drewN_drewN],HA⟩
     case measure=> simp [intOf];omega
    ·have HN:=hid_ (show ¬l=k from fun e=> hxy (by rw [e,hy] at hx;injection hx with hx;exact hx.symm));rw [decide_eq_false hxy] at HSI;clear hc hc2 hx hy hxy hW hu1 hu2 e1 e2 hv1 hv2;go_wp2_with fail
     go_quiet ((go_at_call 19;exact quiet_draw (HSI.out _)))
     go_wp2_with fail
     go_ret;exact ⟨ret_bool (decide_eq_false HN.out).symm,_,by rw [←HWE.out,World.drewN_drewN]⟩
   ·obtain rfl:i=l.length:=by omega
    have HE:=hid_ (rows_eq_of_get HLK.out hall.out);go_wp2_with fail
    go_ret;exact ⟨ret_bool (decide_eq_true HE.out).symm,n,rfl⟩
 ·have hb:((l.length:Int) !=(k.length:Int))=true:=by simp;omega
  have HN:=hid_ (show ¬l=k from fun e=> hlk (by rw [e]));clear hlk;go_enter Tryz.func77,Tryz.ntmps77
  go_wp2_with fail
  go_ret;exact ⟨ret_bool (decide_eq_false HN.out).symm,0,rfl⟩
end
end Go.Proofs.YtgdmlmhpineibaaGreat
