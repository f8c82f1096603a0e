/- Slices of slices of ints; walks of the package matrix: entries, check. -/
import Derived.Test.YtgdmlmhpineibaaGreatZg10
namespace Go.Proofs.YtgdmlmhpineibaaGreat
set_option linter.unusedVariables false
set_option linter.unusedSimpArgs false
set_option maxRecDepth 100000
set_option maxHeartbeats 2000000
section
open Go.RowKit
def MSl (w:World) (v:Value) (rows:List (List Int)):Prop:=∃vals:List Value,Sl w v rows.length 1 vals∧∀(i:Nat) (r:List Int) (u:Value),rows[i]?=some r→vals[i]?=some u→ISl w u r
theorem MSl.ex {w w':World} {v:Value} {rows:List (List Int)} (h:MSl w v rows) (hx:Ex w w'):MSl w' v rows:=by
 obtain ⟨vals,h1,h2⟩:=h;exact ⟨vals,h1.ex hx,fun i r u a b=> (h2 i r u a b).ex hx⟩
theorem MSl.open {w:World} {v:Value} {rows:List (List Int)} (h:MSl w v rows):∃a cap,v= .slice a rows.length cap∧rows.length≤cap∧cap≤maxLen∧
  (0 < rows.length→∃b o,a=some ⟨b,o,none⟩∧∀(i:Nat) (r:List Int),rows[i]?=some r→∃u,w.cell? ⟨b,o + i,none⟩=some u∧ISl w u r):=by
 obtain ⟨vals,⟨h1,a,cap,h2,h3,h4,h5⟩,h6⟩:=h;refine ⟨a,cap,h2,h3,h4,fun hn=> ?_⟩;obtain ⟨b,o,h7,h8⟩:=h5 hn;refine ⟨b,o,h7,fun i r hr=> ?_⟩;have hi:=(List.getElem?_eq_some_iff.1 hr).1;have hu:vals[i]?=some vals[i]:=List.getElem?_eq_getElem (by omega);exact ⟨_,h8 i _ hu,h6 i r _ hr hu⟩
def entS (q:Nat) (l:List Int):Int:=if (l.all fun x=> isB q x)=true then 0 else 2
section
variable {b p m x0:Nat} {ml:List Int}
theorem entries_any (w:World) (hg:GFat w b p m ml x0) (l:List Int) (v:Value) (hl:ISl w v l):
  Calls Tryz.prog 130 #[.pointer (some ⟨b,0,none⟩),v] w fun r w'=> r= .returned (.int .i64 (entS (p ^ m) l))∧Ex w w':=by
 obtain ⟨a,cap,rfl,s1,s2,s3⟩:=hl.open;have S3:=hid_ s3;have HG:=hid_ hg;have HE:=hid_ (show entS (p ^ m) l=if (l.all fun x=> isB (p ^ m) x)=true then 0 else 2 from rfl);unfold maxLen at s2;clear hl s3 hg;go_enter Tryz.func130,Tryz.ntmps130
 go_wp2_with fail
 go_loopw [6,9] (fun _ i' wr=> ∃i:Nat,i≤l.length∧i'= .int .i64 i∧Hid (∀(j:Nat) (x:Int),j < i→l[j]?=some x→isB (p ^ m) x=true)∧Ex w wr) (fun _ i' _=> l.length - (intOf i').toNat)
 case atStart=> exact ⟨0,by omega,rfl,hid_ (fun j x h=> by omega),Ex.refl _⟩
 case round=>
  obtain ⟨i,hi,rfl,hall,hx⟩:=hrel;by_cases hlt:i < l.length
  ·obtain ⟨x,hxx⟩:∃x,l[i]?=some x:=⟨_,List.getElem?_eq_getElem hlt⟩;obtain ⟨bb,o,rfl,hc⟩:=S3.out (by omega);have c1:=hx.cell (hc i x hxx);have HIS:=hid_ (Is_any wr (HG.out.ex hx) x);by_cases hb:isB (p ^ m) x=true
   ·have HA:=hid_ (show ∀(j:Nat) (y:Int),j < i + 1→l[j]?=some y→isB (p ^ m) y=true from fun j y hj hy=> by
     by_cases e:j=i
     ·subst e;rw [hxx] at hy;injection hy with hy;subst hy;exact hb
     ·exact hall.out j y (by omega) hy)
    rw [hb] at HIS;clear hc hxx hb;go_wp2_with fail
    refine HIS.out.mono ?_;rintro e w2 ⟨rfl,n,rfl⟩;go_wp2_with fail
    go_roundw
    case rel=> exact ⟨i + 1,by omega,by go_num,HA,hx.drewN n⟩
    case measure=> simp [intOf];omega
   ·have HF:=hid_ (show entS (p ^ m) l=2 by
     rw [HE.out,if_neg];intro h;exact hb (List.all_eq_true.1 h x (List.mem_of_getElem? hxx)))
    have hb':isB (p ^ m) x=false:=by simpa using hb
    rw [hb'] at HIS;clear hc hxx hb hb';go_wp2_with fail
    refine HIS.out.mono ?_;rintro e w2 ⟨rfl,n,rfl⟩;go_wp2_with fail
    go_ret;exact ⟨ret_int HF.out.symm,hx.drewN n⟩
  ·obtain rfl:i=l.length:=by omega
   have HF:=hid_ (show entS (p ^ m) l=0 by
    rw [HE.out,if_pos];rw [List.all_eq_true];intro y hy;obtain ⟨j,hj,e⟩:=List.getElem_of_mem hy;exact hall.out j y hj (by rw [List.getElem?_eq_getElem hj,e]))
   go_wp2_with fail
   go_ret;exact ⟨ret_int HF.out.symm,hx⟩
def mchkS (q:Nat) (cols:Int) (rows:List (List Int)):Int:=
 if cols < 0∨256 < cols∨256 < (rows.length:Int) then 3
 else if (rows.all fun r=> decide ((r.length:Int)=cols))=true then (if (rows.all fun r=> entS q r==0)=true then 0 else 2) else 3
theorem boxM_facts (w:World) (c:Int) (v:Value):(w.alloc (.cells #[.int .i64 c,v] 113)).cell? ⟨w.heap.size,0,none⟩=some (.int .i64 c)∧
  (w.alloc (.cells #[.int .i64 c,v] 113)).cell? ⟨w.heap.size,1,none⟩=some v∧Ex w (w.alloc (.cells #[.int .i64 c,v] 113)):=
 ⟨by simp,by simp,(Ex.refl _).alloc _⟩
theorem entS_ne {q:Nat} {l:List Int}:entS q l=0∨entS q l=2:=by unfold entS;split <;> simp
theorem mcheck_any (w:World) (hg:GFat w b p m ml x0) (cols:Int) (rows:List (List Int)) (v:Value) (hv:MSl w v rows):
  Calls Tryz.prog 157 #[.pointer (some ⟨b,0,none⟩),.agg #[.int .i64 cols,v]] w fun r w'=> r= .returned (.int .i64 (mchkS (p ^ m) cols rows))∧Ex w w':=by
 obtain ⟨d0,d1,e0⟩:=boxM_facts w cols v;have HE:=hid_ (show mchkS (p ^ m) cols rows=if cols < 0∨256 < cols∨256 < (rows.length:Int) then 3
 else if (rows.all fun r=> decide ((r.length:Int)=cols))=true then (if (rows.all fun r=> entS (p ^ m) r==0)=true then 0 else 2) else 3 from rfl)
 have hv1:=hv.ex e0;have HG:=hid_ (hg.ex e0);obtain ⟨a,cap,rfl,s1,s2,s3⟩:=hv1.open;have S3:=hid_ s3;unfold maxLen at s2;clear hv hv1 s3 hg;by_cases h:cols < 0∨256 < cols∨256 < (rows.length:Int)
 ·have HR:=hid_ (show mchkS (p ^ m) cols rows=3 by rw [HE.out,if_pos h]);have hc:cols < 0∨(0≤cols∧256 < cols)∨(0≤cols∧cols≤256∧256 < (rows.length:Int)):=by omega
  clear h HE;rcases hc with hc | ⟨h1,h2⟩ | ⟨h1,h2,h3⟩
  all_goals
   go_enter Tryz.func157,Tryz.ntmps157
   go_wp2_with fail
   go_ret;exact ⟨ret_int HR.out.symm,e0⟩
 ·have h1:0≤cols:=by omega
  have h2:cols≤256:=by omega
  have h3:(rows.length:Int)≤256:=by omega
  have HE2:=hid_ (show mchkS (p ^ m) cols rows=if (rows.all fun r=> decide ((r.length:Int)=cols))=true then (if (rows.all fun r=> entS (p ^ m) r==0)=true then 0 else 2) else 3 by rw [HE.out,if_neg h]);clear h HE;go_enter Tryz.func157,Tryz.ntmps157
  go_wp2_with fail
  generalize w.alloc (.cells #[.int .i64 cols,.slice a rows.length cap] 113)=w1 at *
  go_loopw [6,27] (fun _ i' wr=> ∃i:Nat,i≤rows.length∧i'= .int .i64 i∧Hid (∀(j:Nat) (r:List Int),j < i→rows[j]?=some r→(r.length:Int)=cols)∧Ex w1 wr) (fun _ i' _=> rows.length - (intOf i').toNat)
  case atStart=> exact ⟨0,by omega,rfl,hid_ (fun j x h=> by omega),Ex.refl _⟩
  case round=>
   obtain ⟨i,hi,rfl,hall,hx⟩:=hrel;have r0:=hx.cell d0;have r1:=hx.cell d1;by_cases hlt:i < rows.length
   ·obtain ⟨r,hr⟩:∃r,rows[i]?=some r:=⟨_,List.getElem?_eq_getElem hlt⟩;obtain ⟨bb,o,rfl,hc⟩:=S3.out (by omega);obtain ⟨u,c1,hu⟩:=hc i r hr;obtain ⟨ua,uc,rfl,u1,u2,u3⟩:=hu.open;have c2:=hx.cell c1;unfold maxLen at u2;by_cases hl:(r.length:Int)=cols
    ·have hb:((r.length:Int) !=cols)=false:=by simpa using hl
     have HA:=hid_ (show ∀(j:Nat) (s:List Int),j < i + 1→rows[j]?=some s→(s.length:Int)=cols from fun j s hj hs=> by
      by_cases e:j=i
      ·subst e;rw [hr] at hs;injection hs with hs;subst hs;exact hl
      ·exact hall.out j s (by omega) hs)
     clear hl hc c1 hu u3 hr;go_wp2_with fail
     go_roundw
     case rel=> exact ⟨i + 1,by omega,by go_num,HA,hx⟩
     case measure=> simp [intOf];omega
    ·have hb:((r.length:Int) !=cols)=true:=by simpa using hl
     have HF:=hid_ (show mchkS (p ^ m) cols rows=3 by
      rw [HE2.out,if_neg];intro h;have:=List.all_eq_true.1 h r (List.mem_of_getElem? hr);exact hl (by simpa using this))
     clear hl hc c1 hu u3 hr;go_wp2_with fail
     go_ret;exact ⟨ret_int HF.out.symm,e0.trans hx⟩
   ·obtain rfl:i=rows.length:=by omega
    have HE3:=hid_ (show mchkS (p ^ m) cols rows=if (rows.all fun r=> entS (p ^ m) r==0)=true then 0 else 2 by
     rw [HE2.out,if_pos];rw [List.all_eq_true];intro r hr;obtain ⟨j,hj,e⟩:=List.getElem_of_mem hr;exact decide_eq_true (hall.out j r hj (by rw [List.getElem?_eq_getElem hj,e])))
    clear hall;go_wp2_with fail
    obtain ⟨wo,rfl⟩:∃wo:World,wo=wr:=⟨_,rfl⟩;clear r0 r1
    go_loopw [8,9,40] (fun _ _ i' wr=> ∃i:Nat,i≤rows.length∧i'= .int .i64 i∧Hid (∀(j:Nat) (r:List Int),j < i→rows[j]?=some r→entS (p ^ m) r=0)∧Ex w1 wr) (fun _ _ i' _=> rows.length - (intOf i').toNat)
    case atStart=> exact ⟨0,by omega,rfl,hid_ (fun j x h=> by omega),hx⟩
    case round=>
     clear hx;obtain ⟨i,hi,rfl,hall,hx⟩:=hrel;have r0:=hx.cell d0;have r1:=hx.cell d1;by_cases hlt:i < rows.length
     ·obtain ⟨r,hr⟩:∃r,rows[i]?=some r:=⟨_,List.getElem?_eq_getElem hlt⟩;obtain ⟨bb,o,rfl,hc⟩:=S3.out (by omega);obtain ⟨u,c1,hu⟩:=hc i r hr;obtain ⟨ua,uc,rfl,u1,u2,u3⟩:=hu.open;have c2:=hx.cell c1;unfold maxLen at u2;have HEN:=hid_ (entries_any wr (HG.out.ex hx) r _ (hu.ex hx));by_cases hl:entS (p ^ m) r=0
      ·have HA:=hid_ (show ∀(j:Nat) (s:List Int),j < i + 1→rows[j]?=some s→entS (p ^ m) s=0 from fun j s hj hs=> by
        by_cases e:j=i
        ·subst e;rw [hr] at hs;injection hs with hs;subst hs;exact hl
        ·exact hall.out j s (by omega) hs)
       rw [hl] at HEN;clear hl hc c1 hu u3 hr;go_wp2_with fail
       refine HEN.out.mono ?_;rintro e w3 ⟨rfl,hx3⟩;go_wp2_with fail
       go_roundw
       case rel=> exact ⟨i + 1,by omega,by go_num,HA,hx.trans hx3⟩
       case measure=> simp [intOf];omega
      ·have hl2:entS (p ^ m) r=2:=by rcases entS_ne (q:=p ^ m) (l:=r) with e | e;exact absurd e hl;exact e
       have HF:=hid_ (show mchkS (p ^ m) cols rows=2 by
        rw [HE3.out,if_neg];intro h;have:=List.all_eq_true.1 h r (List.mem_of_getElem? hr);exact hl (by simpa using this))
       rw [hl2] at HEN;clear hl hl2 hc c1 hu u3 hr;go_wp2_with fail
       refine HEN.out.mono ?_;rintro e w3 ⟨rfl,hx3⟩;go_wp2_with fail
       go_ret;exact ⟨ret_int HF.out.symm,e0.trans (hx.trans hx3)⟩
     ·obtain rfl:i=rows.length:=by omega
      have HF:=hid_ (show mchkS (p ^ m) cols rows=0 by
       rw [HE3.out,if_pos];rw [List.all_eq_true];intro r hr;obtain ⟨j,hj,e⟩:=List.getElem_of_mem hr;rw [hall.out j r hj (by rw [List.getElem?_eq_getElem hj,e])];rfl)
      go_wp2_with fail
      go_ret;exact ⟨ret_int HF.out.symm,e0.trans hx⟩
end
end
section
open Go.RowKit
def OpenOut (p m:Int) (ml:List Int) (cols:Int) (rows:List (List Int)) (w':World) (r:Ending):Prop:=
 (∃(pn mn x b:Nat),p=pn∧m=mn∧GFat w' b pn mn ml x∧1≤x∧x < pn ^ mn∧
  ((mchkS (pn ^ mn) cols rows=0∧r= .returned (.tuple #[.pointer (some ⟨b,0,none⟩),.int .i64 0]))∨
  (mchkS (pn ^ mn) cols rows≠0∧r= .returned (.tuple #[.pointer none,.int .i64 (mchkS (pn ^ mn) cols rows)]))))∨
 (¬FldB p m ml∧r= .returned (.tuple #[.pointer none,.int .i64 1]))
theorem open1_any (p m:Int) (ml:List Int) (mv:Value) (w:World) (hmv:ISl w mv ml) (cols:Int) (rows:List (List Int)) (v:Value) (hv:MSl w v rows) (B:Nat)
  (c0:w.cell? ⟨B,0,none⟩=some (.int .i64 cols)) (c1:w.cell? ⟨B,1,none⟩=some v):
  Calls Tryz.prog 124 #[.agg #[.int .i64 p,.int .i64 m,mv],.slice (some ⟨B,0,none⟩) 1 1] w fun r w'=> OpenOut p m ml cols rows w' r∧Ex w w':=by
 obtain ⟨d0,d1,d2,e0,_⟩:=box_facts w p m mv;obtain ⟨va,vcap,rfl,v1,v2,v3⟩:=hv.open;clear v1 v2 v3;have HN:=hid_ (fun w' h=> New_any p m ml mv w' h);have HMV:=hid_ hmv;have HV:=hid_ hv;have C0:=hid_ c0;have C1:=hid_ c1;clear hmv hv c0 c1;go_enter Tryz.func124,Tryz.ntmps124
 go_wp2_with fail
 generalize w.alloc (.cells #[.int .i64 p,.int .i64 m,mv] 24)=w1 at *;refine (HN.out _ (HMV.out.ex e0)).mono ?_;rintro e w2 ⟨ho,hx2⟩;rcases ho with ⟨pn,mn,x,b,rfl,rfl,rfl,hg,x1,x2⟩ | ⟨hno,rfl⟩
 ·have c0:=(e0.trans hx2).cell C0.out;have c1:=(e0.trans hx2).cell C1.out;have HG:=hid_ hg;have e2:=e0.trans hx2;clear hg d0 d1 d2 hx2;go_wp2_with fail
  refine wp_loop_rounds 2 ?_;rw [rounds_succ];go_wp2_with fail
  have HMC:=hid_ (fun w' (h:Ex w w') (h':GFat w' b pn mn ml x)=> mcheck_any w' h' cols rows _ (HV.out.ex h));have HB:=hid_ (boxM_facts w2 cols (.slice va rows.length vcap));have hx4:Ex w2 (w2.alloc (.cells #[.int .i64 cols,.slice va rows.length vcap] 113)):=(Ex.refl _).alloc _;generalize w2.alloc (.cells #[.int .i64 cols,.slice va rows.length vcap] 113)=w4 at *;refine (HMC.out w4 (e2.trans hx4) (HG.out.ex hx4)).mono ?_;rintro e w5 ⟨rfl,hx5⟩;have c0':=hx5.cell (hx4.cell c0);have c1':=hx5.cell (hx4.cell c1);by_cases h0:mchkS (pn ^ mn) cols rows=0
  ·have HH:=hid_ h0;rw [h0];clear h0;go_wp2_with fail
   rw [rounds_succ];go_wp2_with fail
   go_ret2;exact ⟨.inl ⟨pn,mn,x,b,rfl,rfl,HG.out.ex (hx4.trans hx5),x1,x2,.inl ⟨HH.out,rfl⟩⟩,(e2.trans hx4).trans hx5⟩
  ·obtain ⟨mk,hmk⟩:∃mk,mchkS (pn ^ mn) cols rows=mk:=⟨_,rfl⟩;rw [hmk] at h0 ⊢;have HK:=hid_ hmk;have hb:(mk !=0)=true:=by simpa using h0
   have HH:=hid_ h0;clear h0 hmk;go_wp2_with fail
   go_ret2;exact ⟨.inl ⟨pn,mn,x,b,rfl,rfl,HG.out.ex (hx4.trans hx5),x1,x2,.inr ⟨by rw [HK.out];exact HH.out,by rw [HK.out];rfl⟩⟩,(e2.trans hx4).trans hx5⟩
 ·have HNO:=hid_ hno;clear hno;go_wp2_with fail
  go_ret2;exact ⟨.inr ⟨HNO.out,rfl⟩,e0.trans hx2⟩
def ChkOut (p m:Int) (ml:List Int) (cols:Int) (rows:List (List Int)) (e:Int):Prop:=
 (∃pn mn:Nat,p=pn∧m=mn∧FldB p m ml∧e=mchkS (pn ^ mn) cols rows)∨(¬FldB p m ml∧e=1)
theorem GFat.fldB {w:World} {b p m x:Nat} {ml:List Int} (h:GFat w b p m ml x) (h1:1≤x) (h2:x < p ^ m):FldB p m ml:=⟨p,m,rfl,rfl,h.sh,h.pr,x,h1,h2,h.gen⟩
end
section
open Go.RowKit
section
variable {p m:Nat} {ml:List Int} {mv:Value}
theorem isI_isB (hf:FSh p m ml) (x:Int):isI p m x=isB (p ^ m) x:=by unfold isI isB;rw [hf.ord]
theorem rEntries_any (w:World) (hf:FSh p m ml) (l:List Int) (v:Value) (hl:ISl w v l):
  Calls Tryz.prog 61 #[.agg #[.int .i64 p,.int .i64 m,mv],v] w fun r w'=> r= .returned (.int .i64 (entS (p ^ m) l))∧Ex w w':=by
 obtain ⟨d0,d1,d2,e0,_⟩:=box_facts w p m mv;obtain ⟨a,cap,rfl,s1,s2,s3⟩:=(hl.ex e0).open;have S3:=hid_ s3;have HIS:=hid_ (fun w' x=> by have:=rIs_any p m x mv w';rw [isI_isB hf] at this;exact this);have HE:=hid_ (show entS (p ^ m) l=if (l.all fun x=> isB (p ^ m) x)=true then 0 else 2 from rfl);unfold maxLen at s2;clear hl s3 hf;go_enter Tryz.func61,Tryz.ntmps61
 go_wp2_with fail
 obtain ⟨xb,hxb⟩:∃xb,w.heap.size=xb:=⟨_,rfl⟩;rw [hxb] at d0 d1 d2
 try simp only [hxb]
 generalize w.alloc (.cells #[.int .i64 p,.int .i64 m,mv] 24)=w1 at *;clear hxb
 go_loopw [5] (fun i' wr=> ∃i:Nat,i≤l.length∧i'= .int .i64 i∧Hid (∀(j:Nat) (x:Int),j < i→l[j]?=some x→isB (p ^ m) x=true)∧Ex w1 wr) (fun i' _=> l.length - (intOf i').toNat)
 case atStart=> exact ⟨0,by omega,rfl,hid_ (fun j x h=> by omega),Ex.refl _⟩
 case round=>
  obtain ⟨i,hi,rfl,hall,hx⟩:=hrel;by_cases hlt:i < l.length
  ·obtain ⟨x,hxx⟩:∃x,l[i]?=some x:=⟨_,List.getElem?_eq_getElem hlt⟩;obtain ⟨bb,o,rfl,hc⟩:=S3.out (by omega);have c1:=hx.cell (hc i x hxx);have r0:=hx.cell d0;have r1:=hx.cell d1;have r2:=hx.cell d2;have HI2:=hid_ (fun w'=> HIS.out w' x);have HXX:=hid_ hxx;obtain ⟨bo,hbo⟩:∃bo,isB (p ^ m) x=bo:=⟨_,rfl⟩;rw [hbo] at HI2;have HBO:=hid_ hbo;clear hc hxx hbo;go_wp2_with fail
   go_region_held3 (fun w'=> w'.cell? ⟨xb,0,none⟩=some (.int .i64 p)∧w'.cell? ⟨xb,1,none⟩=some (.int .i64 m)∧w'.cell? ⟨xb,2,none⟩=some mv∧w'.cell? ⟨bb,o + i,none⟩=some (.int .i64 x)∧Ex w1 w')
    (first | exact ⟨r0,r1,r2,c1,hx.drew⟩ | exact ⟨hx1.cell r0,hx1.cell r1,hx1.cell r2,hx1.cell c1,hx.drew.trans hx1⟩)
    ((go_at_call 100;refine (HI2.out _).mono ?_;rintro e w2 ⟨rfl,hx1⟩))
   have hE:=(‹_∧_∧_∧_∧Ex w1 _›).2.2.2.2
   cases bo with
   | true=>
    have HA:=hid_ (show ∀(j:Nat) (y:Int),j < i + 1→l[j]?=some y→isB (p ^ m) y=true from fun j y hj hy=> by
     by_cases e:j=i
     ·subst e;rw [HXX.out] at hy;injection hy with hy;subst hy;exact HBO.out
     ·exact hall.out j y (by omega) hy)
    go_wp2_with fail
    go_roundw
    case rel=> exact ⟨i + 1,by omega,by go_num,HA,hE⟩
    case measure=> simp [intOf];omega
   | false=>
    have HF:=hid_ (show entS (p ^ m) l=2 by
     rw [HE.out,if_neg];intro h;have:=List.all_eq_true.1 h x (List.mem_of_getElem? HXX.out);rw [HBO.out] at this;cases this)
    go_wp2_with fail
    go_ret;exact ⟨ret_int HF.out.symm,e0.trans hE⟩
  ·obtain rfl:i=l.length:=by omega
   have HF:=hid_ (show entS (p ^ m) l=0 by
    rw [HE.out,if_pos];rw [List.all_eq_true];intro y hy;obtain ⟨j,hj,e⟩:=List.getElem_of_mem hy;exact hall.out j y hj (by rw [List.getElem?_eq_getElem hj,e]))
   go_wp2_with fail
   go_ret;exact ⟨ret_int HF.out.symm,e0.trans hx⟩
end
end
end Go.Proofs.YtgdmlmhpineibaaGreat
