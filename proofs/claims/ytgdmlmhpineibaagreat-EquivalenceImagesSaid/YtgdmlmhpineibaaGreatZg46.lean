/- Walk of codewrightref31.Same. -/
import Derived.Deep.CutRange
import Derived.Test.YtgdmlmhpineibaaGreatZg25
import Derived.Test.YtgdmlmhpineibaaGreatZg38
import Derived.Test.YtgdmlmhpineibaaGreatZg40
import Derived.Test.YtgdmlmhpineibaaGreatZg42
import Derived.Test.YtgdmlmhpineibaaGreatZg45
namespace Go.Proofs.YtgdmlmhpineibaaGreat
set_option linter.unusedVariables false
set_option linter.unusedSimpArgs false
set_option maxRecDepth 100000
set_option maxHeartbeats 4000000
section
open Go.RowKit
def BolR (P:Prop) (r:Ending):Prop:=∃b:Bool,r= .returned (.bool b)∧(b=true↔P)
theorem bolR_no {P:Prop} (h:¬P):BolR P (.returned (.bool false)):=⟨false,rfl,⟨fun h=> (by cases h),fun k=> absurd k h⟩⟩
theorem bolR_yes {P:Prop} (h:P):BolR P (.returned (.bool true)):=⟨true,rfl,⟨fun _=> h,fun _=> rfl⟩⟩
theorem rfs_eq {L K:List Rf} (h:L.length=K.length) (hall:∀i,i < L.length→L.getD i dRf=K.getD i dRf):L=K:=by
 refine List.ext_getElem h fun i h1 h2=> ?_;have:=hall i h1;rw [List.getD_eq_getElem?_getD,List.getElem?_eq_getElem h1,List.getD_eq_getElem?_getD,List.getElem?_eq_getElem h2] at this;exact this
theorem rSameR_any (w:World) (L K:List Rf) (lv kv:Value) (hL:RSl w lv L) (hK:RSl w kv K):
  Calls Tryz.prog 33 #[.agg #[lv],.agg #[kv]] w fun r w'=> BolR (L=K) r∧Ex w w':=by
 have b0:=boxRf w lv;have f0:=boxRf (w.alloc (.cells #[lv] 54)) kv;have e0:=e_al w (.cells #[lv] 54);have e1:=e_al (w.alloc (.cells #[lv] 54)) (.cells #[kv] 54);have b0:=e1.cell b0;have hsz:(w.alloc (.cells #[lv] 54)).heap.size=w.heap.size + 1:=by simp
 rw [hsz] at f0;obtain ⟨za,zc,rfl,z1,z2,z3⟩:=rsl_open (hL.ex (e0.trans e1));obtain ⟨ya,yc,rfl,y1,y2,y3⟩:=rsl_open (hK.ex (e0.trans e1));unfold maxLen at z1 y1;have Z3:=hid_ z3;have Y3:=hid_ y3;have HE0:=hid_ (e0.trans e1);clear z3 y3 hL hK e0 e1 hsz;by_cases hlen:L.length=K.length
 ·have hlb:((L.length:Int) !=(K.length:Int))=false:=by simp;omega
  have HLN:=hid_ hlen;clear hlen;go_enter Tryz.func33,Tryz.ntmps33
  go_wp2_with fail
  obtain ⟨q,hq⟩:∃q,w.heap.size=q:=⟨_,rfl⟩;rw [hq] at b0 f0
  try simp only [hq]
  clear hq;generalize (w.alloc (.cells #[.slice za L.length zc] 54)).alloc (.cells #[.slice ya K.length yc] 54)=w1 at *;have B1:=hid_ b0;have F1:=hid_ f0;clear b0 f0
  go_loopw [5] (fun j' wr=> ∃(j:Nat),j≤L.length∧j'= .int .i64 j∧Hid (∀i,i < j→L.getD i dRf=K.getD i dRf)∧Hid (Ex w1 wr)) (fun j' _=> L.length - (intOf j').toNat)
  case atStart=> exact ⟨0,by omega,rfl,hid_ (fun i h=> by omega),hid_ (Ex.refl _)⟩
  case round=>
   obtain ⟨j,hj,rfl,hall,hex⟩:=hrel;have b1:=hex.out.cell B1.out;have f1:=hex.out.cell F1.out;by_cases hjl:j < L.length
   ·have hjk:j < K.length:=by have:=HLN.out;omega
    obtain ⟨zb,zo,rfl,hzc⟩:=Z3.out (by omega);obtain ⟨yb,yo,rfl,hyc⟩:=Y3.out (by omega);obtain ⟨mv,c0,c1,c2,c3,hm⟩:=hzc j hjl;obtain ⟨nv,g0,g1,g2,g3,hn⟩:=hyc j hjk;have c0:=hex.out.cell c0;have c1:=hex.out.cell c1;have c2:=hex.out.cell c2;have c3:=hex.out.cell c3;have g0:=hex.out.cell g0;have g1:=hex.out.cell g1;have g2:=hex.out.cell g2;have g3:=hex.out.cell g3;obtain ⟨l,hl⟩:∃l,L.getD j dRf=l:=⟨_,rfl⟩;obtain ⟨k,hk⟩:∃k,K.getD j dRf=k:=⟨_,rfl⟩;rw [hl] at c0 c1 c2 hm;rw [hk] at g0 g1 g2 hn;obtain ⟨oa,oc,rfl,_,_,_⟩:=hm.open;obtain ⟨pa,pc,rfl,_,_,_⟩:=hn.open;have i1:(0:Int)≤(j:Int):=by omega
    have i2:(j:Int) < (L.length:Int):=by omega
    have i3:(j:Int) < (K.length:Int):=by omega
    have HU:=hid_ (hm.ex hex.out);have HV:=hid_ (hn.ex hex.out);have HLJ:=hid_ hl;have HKJ:=hid_ hk;have HNO:=hid_ (show (l≠k)→¬(L=K) from fun h e=> h (by rw [←hl,←hk,e]));clear hl hk hm hn hzc hyc;obtain ⟨lt,ls,ld,lm⟩:=l;obtain ⟨kt,ks,kd,km⟩:=k;have b1x:=fun o=> ((Ex.refl wr).alloc o).cell b1;have b1y:=fun o o2=> (((Ex.refl wr).alloc o).alloc o2).cell b1;have f1x:=fun o=> ((Ex.refl wr).alloc o).cell f1;have f1y:=fun o o2=> (((Ex.refl wr).alloc o).alloc o2).cell f1;have c0x:=fun o=> ((Ex.refl wr).alloc o).cell c0;have c0y:=fun o o2=> (((Ex.refl wr).alloc o).alloc o2).cell c0;have c1x:=fun o=> ((Ex.refl wr).alloc o).cell c1;have c1y:=fun o o2=> (((Ex.refl wr).alloc o).alloc o2).cell c1;have c2x:=fun o=> ((Ex.refl wr).alloc o).cell c2;have c2y:=fun o o2=> (((Ex.refl wr).alloc o).alloc o2).cell c2;have c3x:=fun o=> ((Ex.refl wr).alloc o).cell c3;have c3y:=fun o o2=> (((Ex.refl wr).alloc o).alloc o2).cell c3;have g0x:=fun o=> ((Ex.refl wr).alloc o).cell g0;have g0y:=fun o o2=> (((Ex.refl wr).alloc o).alloc o2).cell g0;have g1x:=fun o=> ((Ex.refl wr).alloc o).cell g1;have g1y:=fun o o2=> (((Ex.refl wr).alloc o).alloc o2).cell g1;have g2x:=fun o=> ((Ex.refl wr).alloc o).cell g2;have g2y:=fun o o2=> (((Ex.refl wr).alloc o).alloc o2).cell g2;have g3x:=fun o=> ((Ex.refl wr).alloc o).cell g3;have g3y:=fun o o2=> (((Ex.refl wr).alloc o).alloc o2).cell g3;go_upto_region 6 with fail
    go_cut [6,7] from 22 to 58 (fun s6 s7 wx=> ∃B1 B2:Nat,s6= .pointer (some ⟨B1,0,none⟩)∧s7= .pointer (some ⟨B2,0,none⟩)∧Hid (wx.cell? ⟨B1,0,none⟩=some (.int .i64 lt)∧wx.cell? ⟨B1,1,none⟩=some (.int .i64 ls)∧wx.cell? ⟨B1,2,none⟩=some (.int .i64 ld)∧wx.cell? ⟨B1,3,none⟩=some (.slice oa lm.length oc))∧Hid (wx.cell? ⟨B2,0,none⟩=some (.int .i64 kt)∧wx.cell? ⟨B2,1,none⟩=some (.int .i64 ks)∧wx.cell? ⟨B2,2,none⟩=some (.int .i64 kd)∧wx.cell? ⟨B2,3,none⟩=some (.slice pa km.length pc))∧Hid (Ex wr wx))
    case first=>
     go_region
     all_goals go_wp2_with fail
     all_goals go_meet
     all_goals exact ⟨_,_,rfl,rfl,hid_ ⟨by simp,by simp,by simp,by simp⟩,hid_ ⟨by simp,by simp,by simp,by simp⟩,hid_ (((Ex.refl wr).alloc _).alloc _).drew⟩
    case rest=>
     obtain ⟨B1,B2,rfl,rfl,hA,hB,hxc⟩:=hcut;clear b1 f1 c0 c1 c2 c3 g0 g1 g2 g3 b1x b1y f1x f1y c0x c0y c1x c1y c2x c2y c3x c3y g0x g0y g1x g1y g2x g2y g3x g3y;obtain ⟨a0,a1,a2,a3⟩:=hA.out;obtain ⟨g0,g1,g2,g3⟩:=hB.out;by_cases h1:lt=kt
     ·subst h1;have hpb:(lt !=lt)=false:=by simp
      by_cases h2:ls=ks
      ·subst h2;have hpc:(ls !=ls)=false:=by simp
       by_cases h3:ld=kd
       ·subst h3;have hpd:(ld !=ld)=false:=by simp
        have hE1:=SameInts_any wc lm km _ _ (HU.out.ex hxc.out) (HV.out.ex hxc.out);by_cases h4:lm=km
        ·rw [decide_eq_true h4] at hE1;have HE1:=hid_ hE1;have HALL:=hid_ (show ∀i,i < j + 1→L.getD i dRf=K.getD i dRf from fun i hi=> by
          by_cases e:i=j
          ·subst e;rw [HLJ.out,HKJ.out,h4]
          ·exact hall.out i (by omega))
         clear hE1 h4 hall;go_wp2_with (go_at_call 19;refine HE1.out.mono ?_;rintro e w6 ⟨rfl,n6,hw6⟩;have HX6:=hid_ (show Ex wc w6 from by rw [hw6];exact (Ex.refl _).drewN n6);clear hw6)
         go_roundw
         case rel=> exact ⟨j + 1,by omega,by go_num,HALL,hid_ (hex.out.trans (hxc.out.trans HX6.out))⟩
         case measure=> simp [intOf];omega
        ·have HN:=hid_ (HNO.out (fun e=> h4 (by injection e)));rw [decide_eq_false h4] at hE1;have HE1:=hid_ hE1;clear hE1 h4 hall;go_wp2_with (go_at_call 19;refine HE1.out.mono ?_;rintro e w6 ⟨rfl,n6,hw6⟩;have HX6:=hid_ (show Ex wc w6 from by rw [hw6];exact (Ex.refl _).drewN n6);clear hw6)
         go_ret;exact ⟨bolR_no HN.out,HE0.out.trans (hex.out.trans (hxc.out.trans HX6.out))⟩
       ·have hpd:(ld !=kd)=true:=by simpa using h3
        have HN:=hid_ (HNO.out (fun e=> h3 (by injection e)));clear h3;go_wp2_with fail
        go_ret;exact ⟨bolR_no HN.out,HE0.out.trans (hex.out.trans hxc.out)⟩
      ·have hpc:(ls !=ks)=true:=by simpa using h2
       have HN:=hid_ (HNO.out (fun e=> h2 (by injection e)));clear h2;go_wp2_with fail
       go_ret;exact ⟨bolR_no HN.out,HE0.out.trans (hex.out.trans hxc.out)⟩
     ·have hpb:(lt !=kt)=true:=by simpa using h1
      have HN:=hid_ (HNO.out (fun e=> h1 (by injection e)));clear h1;go_wp2_with fail
      go_ret;exact ⟨bolR_no HN.out,HE0.out.trans (hex.out.trans hxc.out)⟩
   ·obtain rfl:j=L.length:=by omega
    have HR:=hid_ (show L=K from rfs_eq HLN.out hall.out);go_wp2_with fail
    go_ret;exact ⟨bolR_yes HR.out,HE0.out.trans hex.out⟩
 ·have hlb:((L.length:Int) !=(K.length:Int))=true:=by simp;omega
  have HN:=hid_ (show ¬L=K from fun e=> hlen (by rw [e]));clear hlen;go_enter Tryz.func33,Tryz.ntmps33
  go_wp2_with fail
  go_ret;exact ⟨bolR_no HN.out,HE0.out⟩
end
section
open Go.RowKit
def samC (c d:CdV):Bool:=samF c.p c.m c.ml d.p d.m d.ml && (decide (c.n=d.n) && decide (c.rows=d.rows))
theorem samC_iff {c d:CdV}:samC c d=true↔c=d:=by
 obtain ⟨p,m,ml,n,rows⟩:=c;obtain ⟨p',m',ml',n',rows'⟩:=d;simp only [samC,Bool.and_eq_true,decide_eq_true_eq,samF_iff,CdV.mk.injEq];constructor
 ·rintro ⟨⟨h1,h2,h3⟩,h4,h5⟩;exact ⟨h1,h2,h3,h4,h5⟩
 ·rintro ⟨h1,h2,h3,h4,h5⟩;exact ⟨⟨h1,h2,h3⟩,h4,h5⟩
theorem rCSame_any (w:World) (c d:CdV) (m1 m2 v1 v2:Value) (hc:c.at w m1 v1) (hd:d.at w m2 v2):
  Calls Tryz.prog 39 #[c.arg m1 v1,d.arg m2 v2] w fun r w'=> r= .returned (.bool (samC c d))∧Ex w w':=by
 obtain ⟨c0,c1,c2,c3,c4⟩:=boxC5 w c m1 v1;obtain ⟨d0,d1,d2,d3,d4⟩:=boxC5 (w.alloc (c.obj m1 v1)) d m2 v2;have hz1:(w.alloc (c.obj m1 v1)).heap.size=w.heap.size + 1:=by simp
 have e1:=e_al w (c.obj m1 v1);have e2:=e_al (w.alloc (c.obj m1 v1)) (d.obj m2 v2);rw [hz1] at d0 d1 d2 d3 d4;replace c0:=e2.cell c0;replace c1:=e2.cell c1;replace c2:=e2.cell c2;replace c3:=e2.cell c3;replace c4:=e2.cell c4;have hxw:=e1.trans e2;have HSF:=hid_ (rFSame_any _ c.p c.m c.ml m1 ((hc.ex hxw).m) d.p d.m d.ml m2 ((hd.ex hxw).m));have HSR:=hid_ (fun (w':World) (h:Ex ((w.alloc (c.obj m1 v1)).alloc (d.obj m2 v2)) w')=> SameRows_any w' c.rows d.rows v1 v2 ((hc.ex (hxw.trans h)).g) ((hd.ex (hxw.trans h)).g));obtain ⟨x1,y1,rfl,-,z1,-⟩:=hc.g.open;obtain ⟨x2,y2,rfl,-,z2,-⟩:=hd.g.open;obtain ⟨x3,y3,rfl,-,z3,-⟩:=hc.m.open;obtain ⟨x4,y4,rfl,-,z4,-⟩:=hd.m.open;have HX:=hid_ hxw;obtain ⟨p,m,ml,n,rows⟩:=c;obtain ⟨p',m',ml',n',rows'⟩:=d;obtain ⟨B,hB⟩:∃B,w.heap.size=B:=⟨_,rfl⟩;rw [hB] at c0 c1 c2 c3 c4 d0 d1 d2 d3 d4;obtain ⟨F,hF⟩:∃F,samF p m ml p' m' ml'=F:=⟨_,rfl⟩;have HSM:=hid_ (show samC ⟨p,m,ml,n,rows⟩ ⟨p',m',ml',n',rows'⟩=(F && (decide (n=n') && decide (rows=rows'))) from by rw [←hF];rfl);rw [HSM.out];clear HSM;dsimp only [CdV.arg,CdV.obj] at *;rw [hF] at HSF;clear hF;clear hc hd e1 e2 hxw hz1 z1 z2 z3 z4;go_enter Tryz.func39,Tryz.ntmps39
 go_upto_region 1 with fail
 try simp only [hB]
 clear hB;generalize (w.alloc (.cells #[.int .i64 p,.int .i64 m,.slice x3 ml.length y3,.int .i64 n,.slice x1 rows.length y1] 47)).alloc (.cells #[.int .i64 p',.int .i64 m',.slice x4 ml'.length y4,.int .i64 n',.slice x2 rows'.length y2] 47)=wB at *;have HALL:=hid_ (fun w' (h:Ex wB w')=> (⟨h.cell c3,h.cell c4,h.cell d3,h.cell d4⟩:_∧_∧_∧_))
 cases F with
 | false=>
  go_wp2_with fail
  refine HSF.out.mono ?_;rintro e w2 ⟨rfl,hx2⟩;have HX2:=hid_ (HX.out.trans hx2);clear c0 c1 c2 c3 c4 d0 d1 d2 d3 d4 hx2;go_wp2_with fail
  go_ret;exact ⟨rfl,HX2.out⟩
 | true=>
  go_wp2_with fail
  refine HSF.out.mono ?_;rintro e w2 ⟨rfl,hx2⟩;have HX2:=hid_ hx2;clear c0 c1 c2 c3 c4 d0 d1 d2 d3 d4 hx2;obtain ⟨c3,c4,d3,d4⟩:=HALL.out w2 HX2.out;by_cases hn:n=n'
  ·subst hn;have k1:(n==n)=true:=by simp
   have HR:=hid_ (HSR.out w2 HX2.out);obtain ⟨D,hD⟩:∃D,decide (rows=rows')=D:=⟨_,rfl⟩;rw [hD] at HR;have HD:=hid_ hD;clear hD;go_wp2_with fail
   refine HR.out.mono ?_;rintro e w3 ⟨rfl,n3,rfl⟩;have HX3:=hid_ ((Ex.refl w2).drewN n3);go_wp2_with fail
   go_ret;refine ⟨?_,HX.out.trans (HX2.out.trans HX3.out)⟩;have:=HD.out;simp [this]
  ·have k1:(n==n')=false:=by simpa using hn
   have HN:=hid_ hn;clear hn;go_wp2_with fail
   go_ret;refine ⟨?_,HX.out.trans HX2.out⟩;have:=HN.out;simp [this]
end
section
open Go.RowKit
def sizM (rows:List (List Int)):Nat:=rows.length + (rows.map List.length).sum
def fewM (cols:Int) (rows:List (List Int)) (lim:Int):Bool:=decide (cols≤260∧(sizM rows:Int)≤lim)
theorem sum_take_le:∀(l:List Nat) (i:Nat),(l.take i).sum≤l.sum
 | [],i=> by simp
 | x :: l,0=> by simp
 | x :: l,i + 1=> by have:=sum_take_le l i;simp;omega
theorem rFewM_any (w:World) (cols:Int) (rows:List (List Int)) (v:Value) (hv:MSl w v rows) (lim:Int) (hl0:0≤lim) (hl1:lim≤100000):
  Calls Tryz.prog 101 #[.agg #[.int .i64 cols,v],.int .i64 lim] w fun r w'=> r= .returned (.bool (fewM cols rows lim))∧Ex w w':=by
 obtain ⟨d0,d1,e0⟩:=boxM2_facts w cols v;obtain ⟨za,zc,rfl,z1,z2,z3⟩:=(hv.ex e0).open;have Z3:=hid_ z3;unfold maxLen at z2;have HE:=hid_ e0;clear hv z3 e0;obtain ⟨F,hF⟩:∃F,fewM cols rows lim=F:=⟨_,rfl⟩;have HF:=hid_ (show F=decide (cols≤260∧(sizM rows:Int)≤lim) from hF.symm);rw [hF];clear hF;by_cases h1:260 < cols
 ·have hF:F=false:=by rw [HF.out];exact decide_eq_false (by omega)
  subst hF;clear HF;go_enter Tryz.func101,Tryz.ntmps101
  go_wp2_with fail
  go_ret;exact ⟨rfl,HE.out⟩
 ·have h1':cols≤260:=by omega
  clear h1;by_cases h2:lim < (rows.length:Int)
  ·have hF:F=false:=by rw [HF.out];exact decide_eq_false (by unfold sizM;omega)
   subst hF;clear HF;go_enter Tryz.func101,Tryz.ntmps101
   go_wp2_with fail
   go_ret;exact ⟨rfl,HE.out⟩
  ·have h2':(rows.length:Int)≤lim:=by omega
   have b1:decide (260 < cols)=false:=by simp;omega
   have b2:decide (lim < (rows.length:Int))=false:=by simp;omega
   clear h2;go_enter Tryz.func101,Tryz.ntmps101
   go_wp2_with fail
   generalize w.alloc (.cells #[.int .i64 cols,.slice za rows.length zc] 113)=w1 at *
   go_loopw [5,6] (fun l' i' wr=> ∃(i:Nat) (l:Int),i≤rows.length∧i'= .int .i64 i∧l'= .int .i64 l∧0≤l∧l≤100000∧Hid (l=lim - rows.length - (((rows.map List.length).take i).sum:Nat))∧wr=w1) (fun _ i' _=> rows.length - (intOf i').toNat)
   case atStart=> exact ⟨0,lim - rows.length,by omega,rfl,by go_num,by omega,by omega,hid_ (by simp),rfl⟩
   case round=>
    obtain ⟨i,l,hi,rfl,rfl,l1,l2,hl,rfl⟩:=hrel;by_cases hlt:i < rows.length
    ·obtain ⟨r,hr⟩:∃r,rows[i]?=some r:=⟨_,List.getElem?_eq_getElem hlt⟩;have HS:=hid_ (show ((rows.map List.length).take (i + 1)).sum=((rows.map List.length).take i).sum + r.length from by
      rw [List.take_add_one,List.getElem?_map,hr];simp)
     have HT:=hid_ (sum_take_le (rows.map List.length) (i + 1));obtain ⟨bb,o,rfl,hc⟩:=Z3.out (by omega);obtain ⟨u,c1,hu⟩:=hc i r hr;obtain ⟨ua,uc,rfl,u1,u2,u3⟩:=hu.open;unfold maxLen at u2;clear hc hu u3 hr;by_cases h3:l < (r.length:Int)
     ·have hF:F=false:=by
       rw [HF.out];have s1:=hl.out;have s2:=HS.out;have s3:=HT.out;exact decide_eq_false (by unfold sizM;omega)
      subst hF;clear HF HS HT hl;go_wp2_with fail
      go_ret;exact ⟨rfl,HE.out⟩
     ·have h3':(r.length:Int)≤l:=by omega
      have HL:=hid_ (show l - r.length=lim - rows.length - (((rows.map List.length).take (i + 1)).sum:Nat) from by
       have s1:=hl.out;have s2:=HS.out;omega)
      clear h3 HS HT hl;go_wp2_with fail
      go_roundw
      case rel=> exact ⟨i + 1,_,by omega,by go_num,(by first | rfl | trivial),by omega,by omega,HL,(by first | rfl | trivial)⟩
      case measure=> simp [intOf];omega
    ·obtain rfl:i=rows.length:=by omega
     have hF:F=true:=by
      rw [HF.out];have s1:=hl.out;rw [List.take_of_length_le (by simp)] at s1;exact decide_eq_true ⟨h1',by unfold sizM;omega⟩
     subst hF;clear hl HF;go_wp2_with fail
     go_ret;exact ⟨rfl,HE.out⟩
end
end Go.Proofs.YtgdmlmhpineibaaGreat
