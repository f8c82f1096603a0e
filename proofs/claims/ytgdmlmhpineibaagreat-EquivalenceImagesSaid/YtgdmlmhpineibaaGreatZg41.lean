/- Walk of the pair's shows. -/
import Derived.Deep.CutRange
import Derived.Test.YtgdmlmhpineibaaGreatZg20
import Derived.Test.YtgdmlmhpineibaaGreatZg40
namespace Go.Proofs.YtgdmlmhpineibaaGreat
set_option linter.unusedVariables false
set_option linter.unusedSimpArgs false
set_option maxRecDepth 100000
set_option maxHeartbeats 8000000
open Go.RowKit
section
variable (p m:Nat) (ml:List Int)
def cmbK (msg:List Int) (rows:List (List Int)):Nat→Nat→Int
 | 0=> fun _=> 0
 | i + 1=> fun j=> ((kadd p m (kin (p ^ m) (cmbK msg rows i j)) (kmul p m (lw ml) (kin (p ^ m) (msg.getD i 0)) (kin (p ^ m) (rowsF rows i j))):Nat):Int)
def cmbC (msg:List Int) (rows:List (List Int)) (i c j:Nat):Int:=if j < c then cmbK p m ml msg rows (i + 1) j else cmbK p m ml msg rows i j
def shwB (l1 l2:List (List Int)) (tl sl:List Int) (side:Int) (msg:List Int):Bool:=
 let gl:=if side=1 then l2 else l1
 if msg.length≠gl.length∨(msg.any fun x=> !isB (p ^ m) x)=true then false else
 if side=1 then decide (0≤misI p m ml tl.length (spn p m ml tl.length (fun i=> mpF p m ml sl (rowsF l1 i)) l1.length) (fun _=> seF tl (cmbK p m ml msg gl gl.length)) 1)
 else decide (0≤misI p m ml tl.length (spn p m ml tl.length (fun i=> seF tl (rowsF l2 i)) l2.length) (fun _=> mpF p m ml sl (cmbK p m ml msg gl gl.length)) 1)
end
theorem il_congr9 {n:Nat} {f g:Nat→Int} (h:∀j,j < n→f j=g j):il n f=il n g:=List.map_congr_left fun j hj=> h j (List.mem_range.1 hj)
theorem msl_one {w:World} {B:Nat} {v:Value} {t:TypeId} {r:List Int} (h:w.heap[B]?=some (.cells #[v] t)) (hv:ISl w v r):MSl w (.slice (some ⟨B,0,none⟩) 1 1) [r]:=
 ⟨[v],sl_lit h,fun i r' u h1 h2=> by
  rcases i with _ | i
  ·simp at h1 h2;subst h1 h2;exact hv
  ·simp at h1⟩
theorem seF_il {tl:List Int} {n N:Nat} {f:Nat→Int} (hN:tl.length=N) (hr:rngB tl n=true):∀j,j < N→seF tl (fun k=> (il n f).getD k 0) j=seF tl f j:=fun j hj=> by
 have:=rngB_at hr (i:=j) (by omega);show (il n f).getD (tl.getD j 0).toNat 0=f (tl.getD j 0).toNat
 exact eil_getD (by omega) f
theorem mpF_il {p m:Nat} {ml sl:List Int} {n N:Nat} {f:Nat→Int} (hN:N≤n):∀j,j < N→mpF p m ml sl (fun k=> (il n f).getD k 0) j=mpF p m ml sl f j:=fun j hj=> by
 show ((kmul p m (lw ml) (kin (p ^ m) (sl.getD j 0)) (kin (p ^ m) ((il n f).getD j 0)):Nat):Int)=_
 rw [eil_getD (by omega) f];rfl
section
variable {b p m x0:Nat} {ml:List Int}
theorem shows1_any (w:World) (SB A:Nat) (hg:GFat w b p m ml x0) (x:Int) (c0:w.cell? ⟨SB,0,none⟩=some (.pointer (some ⟨A,0,none⟩))) (c1:w.cell? ⟨A,0,none⟩=some (.pointer (some ⟨b,0,none⟩))):
  Calls Tryz.prog 111 #[.int .i64 x,.pointer (some ⟨SB,0,none⟩)] w fun r w'=> r= .returned (.bool (!isB (p ^ m) x))∧Ex w w':=by
 have HI:=hid_ (Is_any w hg x);obtain ⟨z,hz⟩:∃z,isB (p ^ m) x=z:=⟨_,rfl⟩;rw [hz] at HI ⊢;clear hg hz;go_enter Tryz.func111,Tryz.ntmps111
 go_wp2_with (go_at_call 49;refine HI.out.mono ?_;rintro e w1 ⟨rfl,n1,rfl⟩)
 go_ret;exact ⟨rfl,(Ex.refl w).drewN _⟩
theorem shows_any (w:World) (hg:GFat w b p m ml x0) (hx01:1≤x0) (hx02:x0 < p ^ m) (A n:Nat) (hn:n≤64) (v1 v2:Value) (hP:PrAt w A b n v1 v2) (l1 l2:List (List Int)) (h1:MSl w v1 l1) (h2:MSl w v2 l2) (hr1:∀r∈l1,r.length=n) (hr2:∀r∈l2,r.length=n) (hl1:l1.length≤256) (hl2:l2.length≤256)
  (tl sl:List Int) (tv sv:Value) (ht:ISl w tv tl) (hs:ISl w sv sl) (hsl:sl.length=tl.length) (htn:tl.length≤n) (hrg:rngB tl n=true) (side:Int) (msg:List Int) (mv:Value) (hm:ISl w mv msg):
  Calls Tryz.prog 72 #[.pointer (some ⟨A,0,none⟩),.agg #[tv,sv],.int .i64 side,mv] w fun r w'=> r= .returned (.bool (shwB p m ml l1 l2 tl sl side msg))∧Ex w w':=by
 have e1:=e_al w (.cells #[.pointer (some ⟨A,0,none⟩)] 96);have s0:(w.alloc (.cells #[.pointer (some ⟨A,0,none⟩)] 96)).cell? ⟨w.heap.size,0,none⟩=some (.pointer (some ⟨A,0,none⟩)):=by simp
 have hz1:(w.alloc (.cells #[.pointer (some ⟨A,0,none⟩)] 96)).heap.size=w.heap.size + 1:=by simp
 obtain ⟨b0,b1,e2,-⟩:=boxP_facts (w.alloc (.cells #[.pointer (some ⟨A,0,none⟩)] 96)) tv sv;rw [hz1] at b0 b1;replace s0:=e2.cell s0;have hx:=e1.trans e2;have c0:=hx.cell hP.c0;have c4:=hx.cell hP.c4;have c5:=hx.cell hP.c5;have c10:=hx.cell hP.c10;obtain ⟨B,hB⟩:∃B,w.heap.size=B:=⟨_,rfl⟩;rw [hB] at s0 b0 b1;obtain ⟨ma,mc,rfl,-,m2,m3⟩:=hm.open;unfold maxLen at m2;have HX:=hid_ hx;have HG:=hid_ (hg.ex hx);have HP:=hid_ (hP.ex hx);have H1:=hid_ (h1.ex hx);have H2:=hid_ (h2.ex hx);have HT:=hid_ (ht.ex hx);have HS:=hid_ (hs.ex hx);have HM:=hid_ (hm.ex hx);obtain ⟨Z,hZ⟩:∃Z,shwB p m ml l1 l2 tl sl side msg=Z:=⟨_,rfl⟩;have hZD:=hZ;unfold shwB at hZD;rw [hZ];have HZ:=hid_ hZD;clear hg hP h1 h2 ht hs hm e1 e2 hz1 hx hZ hZD m3;obtain ⟨xa,xc,rfl,-,xl,-⟩:=H1.out.open;obtain ⟨ya,yc,rfl,-,yl,-⟩:=H2.out.open;go_enter Tryz.func72,Tryz.ntmps72
 go_upto_region 1 with fail
 try simp only [hB]
 clear hB;generalize (w.alloc (.cells #[.pointer (some ⟨A,0,none⟩)] 96)).alloc (.cells #[tv,sv] 49)=w1 at *;have HSB:=hid_ s0;have HB0:=hid_ b0;have HB1:=hid_ b1;obtain ⟨gl,hgl⟩:∃gl,(if side=1 then l2 else l1)=gl:=⟨_,rfl⟩;obtain ⟨gv,hgv⟩:∃gv,(if side=1 then (.slice ya l2.length yc:Value) else .slice xa l1.length xc)=gv:=⟨_,rfl⟩;have HGM:=hid_ (show MSl w1 gv gl∧gl.length≤256∧∀r∈gl,r.length=n from by
  rw [←hgl,←hgv];by_cases h:side=1
  ·rw [if_pos h,if_pos h];exact ⟨H2.out,hl2,hr2⟩
  ·rw [if_neg h,if_neg h];exact ⟨H1.out,hl1,hr1⟩)
 have HZ2:=HZ.out;simp only [hgl] at HZ2;have HZ:=hid_ HZ2;clear HZ2;go_upto_if 23 with fail
 go_cut [9] from 23 to 28 (fun s9 wx=> s9=gv∧wx=w1)
 case first=>
  by_cases h:side=1
  ·have hb:(side==1)=true:=by simpa using h
   rw [if_pos h] at hgv;have HGV:=hid_ hgv;clear h hgv;go_wp2_with fail
   go_meet
   exact ⟨HGV.out,rfl⟩
  ·have hb:(side==1)=false:=by simpa using h
   rw [if_neg h] at hgv;have HGV:=hid_ hgv;clear h hgv;go_wp2_with fail
   go_meet
   exact ⟨HGV.out,rfl⟩
 case rest=>
  obtain ⟨rfl,rfl⟩:=hcut;clear hgl hgv;obtain ⟨ga,gc,rfl,-,g2,g3⟩:=HGM.out.1.open;unfold maxLen at g2;have G3:=hid_ g3;clear g3;by_cases hml:msg.length=gl.length
  ·have hb1:((msg.length:Int) !=(gl.length:Int))=false:=by simp;omega
   have hb1':(msg.length !=gl.length)=false:=by simp;omega
   have HSH:=hid_ (ContainsFunc_shw wc (.pointer (some ⟨B,0,none⟩)) (.slice ma msg.length mc) msg.length (ints msg) HM.out (fun i=> !isB (p ^ m) (msg.getD i 0)) (fun w1 i u hx1 hu=> by
    obtain ⟨x,hx,rfl,hxe⟩:=ints_at hu;rw [hxe];exact shows1_any w1 B A (HG.out.ex hx1) x (hx1.cell HSB.out) (hx1.cell HP.out.c0)))
   rw [any_getD msg (fun x=> !isB (p ^ m) x)] at HSH
   cases hany:(msg.any fun x=> !isB (p ^ m) x) with
   | true=>
    rw [hany] at HSH;have hz:=HZ.out;rw [if_pos (.inr hany)] at hz;subst hz;clear hany hml;go_wp2_with (go_at_call 47;refine HSH.out.mono ?_;rintro e w4 ⟨rfl,hx4⟩;have HX4:=hid_ hx4;clear hx4)
    go_ret;exact ⟨rfl,HX.out.trans HX4.out⟩
   | false=>
    rw [hany] at HSH;have hz:=HZ.out;rw [if_neg (by rw [hany];simp [hml])] at hz;have HZ:=hid_ hz;have HML:=hid_ hml;clear hany hml hz;go_wp2_with (first | (go_at_call 47;refine HSH.out.mono ?_;rintro e w4 ⟨rfl,hx4⟩;have HX4:=hid_ hx4;have s0':=hx4.cell HSB.out;have c4':=hx4.cell HP.out.c4;clear hx4) | (at_make;refine wpList_make_arr _ rfl _ _ 22 rfl 3 (.int .i64 0) 8 Tryz.underlying22 infoInt rfl _ n rfl rfl rfl (by omega) (by unfold maxLen;omega) ?_))
    obtain ⟨g,hgg⟩:∃g,w4.heap.size=g:=⟨_,rfl⟩;intro w5 hown hx5
    try simp only [hgg]
    have HO5:=hid_ (show Own w5 g 3 g n (iv (cmbK p m ml msg gl 0)) from by rw [←hgg];exact hown);have HGE:=hid_ hgg;have HX5:=hid_ (HX4.out.trans hx5);have HGR:=hid_ (fun i (hi:i < gl.length)=> show gl[i]?=some (gl.getD i [])∧(gl.getD i []).length=n from by
     have h:gl[i]?=some (gl.getD i []):=by rw [List.getD_eq_getElem?_getD,List.getElem?_eq_getElem hi];rfl
     exact ⟨h,HGM.out.2.2 _ (List.mem_of_getElem? h)⟩)
    have HGL:=hid_ HGM.out.2.1;have HAD:=hid_ (fun (w':World) (h:Ex wc w') (y z:Int)=> Add_any w' (HG.out.ex h) y z);have HMU:=hid_ (fun (w':World) (h:Ex wc w') (y z:Int)=> Mul_any w' (HG.out.ex h) y z);have HP2:=hid_ HG.out.sh.p2;have hml2:=HML.out;obtain ⟨M,hM⟩:∃M,msg.length=M:=⟨_,rfl⟩;have HMM:=hid_ hM;have HMO:=hid_ HM.out;obtain ⟨_,_,hme,-,-,m3⟩:=HM.out.open;injection hme with hme1 hme2 hme3;subst hme1;have M3:=hid_ m3;rw [hM] at hml2 ⊢;have hM256:M≤256:=by have:=HGL.out;omega
    clear hown hx5 hgg s0' c4' hM m3 hme3 hme2;go_wp2_with fail
    go_loopw [47] (fun i' wr=> ∃i:Nat,i≤M∧i'= .int .i64 i∧Hid (Own wr g 3 g n (iv (cmbK p m ml msg gl i)))∧Hid (Ex wc wr)) (fun i' _=> M - (intOf i').toNat)
    case atStart=> exact ⟨0,by omega,rfl,HO5,HX5⟩
    case round=>
     clear HO5;obtain ⟨i,hi,rfl,hown,hex⟩:=hrel;by_cases hiM:i < M
     ·obtain ⟨mb,mo,rfl,hmc⟩:=M3.out (by have:=HMM.out;omega);obtain ⟨gb,go,rfl,hgc⟩:=G3.out (by omega);obtain ⟨hg1,hg2⟩:=HGR.out i (by omega);obtain ⟨uv,huc,hui⟩:=hgc i _ hg1;obtain ⟨av,hav⟩:∃x,msg.getD i 0=x:=⟨_,rfl⟩;have cm:=hex.out.cell (hmc i av (by rw [←hav];exact get_getD (by have:=HMM.out;omega)));have cu:=hex.out.cell huc;obtain ⟨ua,uc,rfl,-,u2,u3⟩:=hui.open;rw [hg2] at u3 cu;unfold maxLen at u2;have U3:=hid_ u3;have HGET:=hid_ (fun c (hc:c < n)=> get_getD (l:=gl.getD i []) (i:=c) (by omega));have i1:(0:Int)≤(i:Int):=by omega
      have i2:(i:Int) < (M:Int):=by omega
      have i3:(i:Int) < (gl.length:Int):=by omega
      have HO8:=hid_ (show Own wr g 3 g n (iv (cmbC p m ml msg gl i 0)) from hown.out.icongr fun j hj=> by unfold cmbC;rw [if_neg (by omega)]);have HEX8:=hid_ hex.out;have HAV:=hid_ hav;have HWR:=hid_ (show Ex wc wr from hex.out);clear hmc hgc hg1 hg2 huc hui u3 hav hown hex;go_wp2_with fail
      clear cm cu
      go_loopw [57] (fun c' wr=> ∃c:Nat,c≤n∧c'= .int .i64 c∧Hid (Own wr g 3 g n (iv (cmbC p m ml msg gl i c)))∧Hid (Ex wc wr)) (fun c' _=> n - (intOf c').toNat)
      case atStart=> exact ⟨0,by omega,rfl,HO8,HEX8⟩
      case round=>
       clear HO8 HEX8;obtain ⟨c,hc,rfl,hown,hex⟩:=hrel;by_cases hcn:c < n
       ·obtain ⟨ub,uo,rfl,huc⟩:=U3.out (by omega);obtain ⟨xv,hxv⟩:∃x,(gl.getD i []).getD c 0=x:=⟨_,rfl⟩;have hgx:=HGET.out c hcn;rw [hxv] at hgx;have cx:=hex.out.cell (huc c xv hgx);have J1:=hid_ (show (0:Int)≤(c:Int) by omega);have J2:=hid_ (show (c:Int) < (n:Int) by omega);have j1:=J1.out;have j2:=J2.out;obtain ⟨cur,hcur⟩:∃x,cmbK p m ml msg gl i c=x:=⟨_,rfl⟩;have KG:=hid_ (show wr.cell? ⟨g,c,none⟩=some (.int .i64 cur) from by
         rw [hown.out.cell hcn,←hcur];show some (Value.int .i64 (cmbC p m ml msg gl i c c))=_
         unfold cmbC;rw [if_neg (by omega)])
        have KF:=hid_ (hown.out.frz c);have KS:=hid_ (hex.out.cell HSB.out);have KA:=hid_ (hex.out.cell HP.out.c0);have HEXc:=hid_ hex.out;have HOWc:=hid_ hown.out;obtain ⟨K1,hK1⟩:∃K,kmul p m (lw ml) (kin (p ^ m) av) (kin (p ^ m) xv)=K:=⟨_,rfl⟩;have hK1l:K1 < p ^ m:=by rw [←hK1];exact kmul_lt (by have:=HP2.out;omega) _ _
        have HMW:=hid_ (fun w' (h:Ex wc w')=> HMU.out w' h av xv);rw [hK1] at HMW;obtain ⟨K2,hK2⟩:∃K,kadd p m (kin (p ^ m) cur) (kin (p ^ m) (K1:Nat))=K:=⟨_,rfl⟩;have HAW:=hid_ (fun w' (h:Ex wc w')=> HAD.out w' h cur (K1:Nat));rw [hK2] at HAW;have HCF:=hid_ (show upd (cmbC p m ml msg gl i c) c (K2:Int)=cmbC p m ml msg gl i (c + 1) from by
         funext j;by_cases e:j=c
         ·subst e;rw [upd_same];unfold cmbC;rw [if_pos (by omega)];show _=((kadd p m (kin (p ^ m) (cmbK p m ml msg gl i j)) (kmul p m (lw ml) (kin (p ^ m) (msg.getD i 0)) (kin (p ^ m) ((gl.getD i []).getD j 0))):Nat):Int)
          rw [hcur,HAV.out,hxv,hK1,←hK2,kin_of hK1l]
         ·rw [upd_ne _ _ e];unfold cmbC;by_cases h:j < c
          ·rw [if_pos h,if_pos (by omega)]
          ·rw [if_neg h,if_neg (by omega)])
        have HON:=hid_ (fun n'=> show Own ((wr.drewN n').setCell ⟨g,c,none⟩ (.int .i64 (K2:Nat))) g 3 g n (iv (cmbC p m ml msg gl i (c + 1))) from by
         rw [←HCF.out,←iv_upd];exact (HOWc.out.drewN n').set c _)
        have HXN:=hid_ (fun n'=> (HOWc.out.drewN n').exSet (a:=wc) (by rw [←HGE.out];exact HX4.out.size) (HEXc.out.drewN n') c (.int .i64 (K2:Nat)));clear huc hxv hgx hcur hK1 hK1l hK2 hown hex;go_upto_region 13 with fail
        refine wp_region_qs (fun k=> ([(.slice (some ⟨g,0,none⟩) n n),.int .i64 c,.pointer (some ⟨A,0,none⟩),.pointer (some ⟨A,0,none⟩),.pointer (some ⟨A,0,none⟩),.pointer (some ⟨b,0,none⟩),(.slice (some ⟨g,0,none⟩) n n),.int .i64 c,.pointer (some ⟨g,c,none⟩),.int .i64 cur,.pointer (some ⟨A,0,none⟩),.pointer (some ⟨A,0,none⟩),.pointer (some ⟨A,0,none⟩),.pointer (some ⟨b,0,none⟩),.int .i64 av,.int .i64 xv,.int .i64 (K1:Nat),.int .i64 (K2:Nat),.pointer (some ⟨g,c,none⟩)]:List Value).getD k undef) (fun w'=> w'.setCell ⟨g,c,none⟩ (.int .i64 (K2:Nat))) 19 (by kernel_rfl) (by kernel_rfl) (by kernel_rfl) ?_ ?_
        ·simp only [StepAll];refine ⟨?_,?_,?_,?_,?_,?_,?_,?_,?_,?_,?_,?_,?_,?_,?_,?_,?_,?_,?_,?_,trivial⟩
         ·intro L a nn hin hout hd K hK;rw [if_neg (by decide)] at hK;have o10:a.tmps[10]?=some ((.slice (some ⟨g,0,none⟩) n n)):=hout 10 (by kernel_rfl);clear hin hout hd;go_simp;exact hK _
         ·intro L a nn hin hout hd K hK;rw [if_neg (by decide)] at hK;have o13:a.tmps[13]?=some (.int .i64 c):=hout 13 (by kernel_rfl);clear hin hout hd;go_simp;exact hK _
         ·intro L a nn hin hout hd K hK;rw [if_neg (by decide)] at hK;have o4:a.tmps[4]?=some (.pointer (some ⟨B,0,none⟩)):=hout 4 (by kernel_rfl);have q0:(wr.drewN nn).cell? ⟨B,0,none⟩=some (.pointer (some ⟨A,0,none⟩)):=KS.out;clear hin hout hd;go_simp;exact hK _
         ·intro L a nn hin hout hd K hK;rw [if_neg (by decide)] at hK;have e2:=hin 2 64 _ (hd ⟨2,.data⟩ (by simp) rfl) rfl rfl;clear hin hout hd;go_simp;exact hK _
         ·intro L a nn hin hout hd K hK;rw [if_neg (by decide)] at hK;have e3:=hin 3 65 _ (hd ⟨3,.data⟩ (by simp) rfl) rfl rfl;clear hin hout hd;go_simp;exact hK _
         ·intro L a nn hin hout hd K hK;rw [if_neg (by decide)] at hK;have e4:=hin 4 66 _ (hd ⟨4,.data⟩ (by simp) rfl) rfl rfl;have q0:(wr.drewN nn).cell? ⟨A,0,none⟩=some (.pointer (some ⟨b,0,none⟩)):=KA.out;clear hin hout hd;go_simp;exact hK _
         ·intro L a nn hin hout hd K hK;rw [if_neg (by decide)] at hK;have o10:a.tmps[10]?=some ((.slice (some ⟨g,0,none⟩) n n)):=hout 10 (by kernel_rfl);clear hin hout hd;go_simp;exact hK _
         ·intro L a nn hin hout hd K hK;rw [if_neg (by decide)] at hK;have o13:a.tmps[13]?=some (.int .i64 c):=hout 13 (by kernel_rfl);clear hin hout hd;go_simp;exact hK _
         ·intro L a nn hin hout hd K hK;rw [if_neg (by decide)] at hK;have e6:=hin 6 68 _ (hd ⟨6,.data⟩ (by simp) rfl) rfl rfl;have e7:=hin 7 69 _ (hd ⟨7,.data⟩ (by simp) rfl) rfl rfl;have j1:=J1.out;have j2:=J2.out;clear hin hout hd;go_simp;exact hK _
         ·intro L a nn hin hout hd K hK;rw [if_neg (by decide)] at hK;have e8:=hin 8 70 _ (hd ⟨8,.data⟩ (by simp) rfl) rfl rfl;have q0:(wr.drewN nn).cell? ⟨g,c,none⟩=some (.int .i64 cur):=KG.out;clear hin hout hd;go_simp;exact hK _
         ·intro L a nn hin hout hd K hK;rw [if_neg (by decide)] at hK;have o4:a.tmps[4]?=some (.pointer (some ⟨B,0,none⟩)):=hout 4 (by kernel_rfl);have q0:(wr.drewN nn).cell? ⟨B,0,none⟩=some (.pointer (some ⟨A,0,none⟩)):=KS.out;clear hin hout hd;go_simp;exact hK _
         ·intro L a nn hin hout hd K hK;rw [if_neg (by decide)] at hK;have e10:=hin 10 72 _ (hd ⟨10,.data⟩ (by simp) rfl) rfl rfl;clear hin hout hd;go_simp;exact hK _
         ·intro L a nn hin hout hd K hK;rw [if_neg (by decide)] at hK;have e11:=hin 11 73 _ (hd ⟨11,.data⟩ (by simp) rfl) rfl rfl;clear hin hout hd;go_simp;exact hK _
         ·intro L a nn hin hout hd K hK;rw [if_neg (by decide)] at hK;have e12:=hin 12 74 _ (hd ⟨12,.data⟩ (by simp) rfl) rfl rfl;have q0:(wr.drewN nn).cell? ⟨A,0,none⟩=some (.pointer (some ⟨b,0,none⟩)):=KA.out;clear hin hout hd;go_simp;exact hK _
         ·intro L a nn hin hout hd K hK;rw [if_neg (by decide)] at hK;have o12:a.tmps[12]?=some (.int .i64 av):=hout 12 (by kernel_rfl);clear hin hout hd;go_simp;exact hK _
         ·intro L a nn hin hout hd K hK;rw [if_neg (by decide)] at hK;have o14:a.tmps[14]?=some (.int .i64 xv):=hout 14 (by kernel_rfl);clear hin hout hd;go_simp;exact hK _
         ·intro L a nn hin hout hd K hK;rw [if_neg (by decide)] at hK;have e13:=hin 13 75 _ (hd ⟨13,.data⟩ (by simp) rfl) rfl rfl;have e14:=hin 14 76 _ (hd ⟨14,.data⟩ (by simp) rfl) rfl rfl;have e15:=hin 15 77 _ (hd ⟨15,.data⟩ (by simp) rfl) rfl rfl;clear hin hout hd;go_simp;refine (HMW.out _ (HEXc.out.drewN nn)).mono ?_;rintro e w' ⟨rfl,k',rfl⟩;rw [World.drewN_drewN];exact hK _
         ·intro L a nn hin hout hd K hK;rw [if_neg (by decide)] at hK;have e5:=hin 5 67 _ (hd ⟨5,.data⟩ (by simp) rfl) rfl rfl;have e9:=hin 9 71 _ (hd ⟨9,.data⟩ (by simp) rfl) rfl rfl;have e16:=hin 16 78 _ (hd ⟨16,.data⟩ (by simp) rfl) rfl rfl;clear hin hout hd;go_simp;refine (HAW.out _ (HEXc.out.drewN nn)).mono ?_;rintro e w' ⟨rfl,k',rfl⟩;rw [World.drewN_drewN];exact hK _
         ·intro L a nn hin hout hd K hK;rw [if_neg (by decide)] at hK;have e0:=hin 0 62 _ (hd ⟨0,.data⟩ (by simp) rfl) rfl rfl;have e1:=hin 1 63 _ (hd ⟨1,.data⟩ (by simp) rfl) rfl rfl;have j1:=J1.out;have j2:=J2.out;clear hin hout hd;go_simp;exact hK _
         ·intro L a nn hin hout hd K hK;rw [if_pos rfl] at hK;have e18:=hin 18 80 _ (hd ⟨18,.data⟩ (by simp) rfl) rfl rfl;have e17:=hin 17 79 _ (hd ⟨17,.data⟩ (by simp) rfl) rfl rfl;have q0:(wr.drewN nn).cell? ⟨g,c,none⟩=some (.int .i64 cur):=KG.out;have q1:(wr.drewN nn).frozen? ⟨g,c,none⟩=false:=KF.out;clear hin hout hd;go_simp;exact hK
        ·intro n';simp only [putK,Act.put,List.setIfInBounds_toArray,List.set_cons_zero,List.set_cons_succ];clear HMW HAW KG KF KS KA HCF;go_wp2_with fail
         go_roundw
         case rel=> first | exact ⟨c + 1,by omega,by go_num,hid_ (HON.out _),hid_ (HXN.out _)⟩ | ((repeat apply Exists.intro);exact ⟨⟨c + 1,by omega,by go_num,hid_ (HON.out _),hid_ (HXN.out _)⟩,rfl⟩)
         case measure=> simp [intOf];omega
       ·obtain rfl:c=n:=by omega
        have HON:=hid_ (show Own wr g 3 g c (iv (cmbK p m ml msg gl (i + 1))) from hown.out.icongr fun j hj=> by unfold cmbC;rw [if_pos hj]);have HXN:=hid_ hex.out;clear hown hex;go_wp2_with fail
        go_roundw
        case rel=> first | exact ⟨i + 1,by omega,by go_num,HON,HXN⟩ | ((repeat apply Exists.intro);exact ⟨⟨i + 1,by omega,by go_num,HON,HXN⟩,rfl⟩)
        case measure=> simp [intOf];omega
     ·obtain rfl:i=M:=by omega
      have HON:=hid_ hown.out.isl;have HXN:=hid_ hex.out;have HSD:=hid_ (fun (w':World) (h:Ex wc w')=> sides_any w' (HG.out.ex h) A n hn _ _ (HP.out.ex h) l1 l2 (H1.out.ex h) (H2.out.ex h) hr1 hr2 hl1 hl2 tl sl tv sv (HT.out.ex h) (HS.out.ex h) hsl htn hrg);have s0':=HXN.out.cell HSB.out;have b0':=HXN.out.cell HB0.out;have b1':=HXN.out.cell HB1.out;obtain ⟨N,hN⟩:∃N,tl.length=N:=⟨_,rfl⟩;obtain ⟨F1,hF1⟩:∃F,(fun i=> mpF p m ml sl (rowsF l1 i))=F:=⟨_,rfl⟩;obtain ⟨F2,hF2⟩:∃F,(fun i=> seF tl (rowsF l2 i))=F:=⟨_,rfl⟩;rw [hF1,hF2,hN] at HSD;have hz:=HZ.out;rw [hF1,hF2,hN] at hz;rw [show gl.length=i from hml2.symm] at hz;have HZ:=hid_ hz;have HNN:=hid_ hN;have hN64:N≤64:=by omega
      clear hown hex hz hF1 hF2;go_wp2_with fail
      refine (HSD.out _ HXN.out).mono ?_;rintro e w9 ⟨u1,u2,rfl,hu1,hu2,hx9⟩;have HU1:=hid_ hu1;have HU2:=hid_ hu2;have HX9:=hid_ (HXN.out.trans hx9);have HON9:=hid_ (HON.out.ex hx9);obtain ⟨ea1,ec1,rfl,-,-,-⟩:=hu1.open;obtain ⟨ea2,ec2,rfl,-,-,-⟩:=hu2.open;clear hu1 hu2 hx9 s0' b0' b1' HSD HON;have HK9:=hid_ (fun (w':World) (h:Ex wc w')=> (⟨h.cell HSB.out,h.cell HB0.out,h.cell HB1.out⟩:w'.cell? ⟨B,0,none⟩=some (.pointer (some ⟨A,0,none⟩))∧w'.cell? ⟨B + 1,0,none⟩=some tv∧w'.cell? ⟨B + 1,1,none⟩=some sv));have HSP:=hid_ (fun (w':World) (h:Ex w9 w') (R:Nat) (hR:R≤1000) (a:Nat→Nat→Int) (v:Value) (hv:MSl w' v (rowsL N R a))=> span_any w' (HG.out.ex (HX9.out.trans h)) hx01 hx02 A ((HX9.out.trans h).cell HP.out.c0) N R (by omega) hR a v hv);have HMS:=hid_ (fun (w':World) (h:Ex w9 w') (E:Nat) (a:Nat→Nat→Int) (R:Nat) (rv pv:Value) (hE:EchAt w' E b N (spn p m ml N a R) rv pv) (f:Nat→Int) (v:Value) (hv:MSl w' v (rowsL N 1 fun _=> f))=> missing_any w' (HG.out.ex (HX9.out.trans h)) E N (by omega) _ rv pv hE (spn_lt N a R) 1 (fun _=> f) v hv);have HTS:=hid_ (show ∀w',Ex wc w'→ISl w' tv tl∧ISl w' sv sl from fun w' h=> ⟨HT.out.ex h,HS.out.ex h⟩);have hb1:n≤n:=Nat.le_refl _;by_cases hs1:side=1
      ·subst hs1;have HZE:=hid_ (show decide (0≤misI p m ml N (spn p m ml N F1 l1.length) (fun _=> seF tl (cmbK p m ml msg gl i)) 1)=Z from by
        have:=HZ.out;rw [if_pos rfl] at this;exact this)
       have HCW:=hid_ (fun (w':World) (h:Ex w9 w')=> seenAt_any w' A N (by omega) tl (il n (cmbK p m ml msg gl i)) tv sv _ (HTS.out _ (HX9.out.trans h)).1 (HON9.out.ex h) HNN.out (by rw [il_len];exact hrg));obtain ⟨k0,k1,k2⟩:=HK9.out _ HX9.out;clear HZ;go_upto_region 18 with fail
       have G0:Ex w9 w9.drew:=(Ex.refl w9).drew
       go_region_held3 (fun w'=> w'.cell? ⟨B,0,none⟩=some (.pointer (some ⟨A,0,none⟩))∧w'.cell? ⟨B + 1,0,none⟩=some tv∧w'.cell? ⟨B + 1,1,none⟩=some sv)
        ((refine HK9.out _ (HX9.out.trans ?_);first | with_reducible exact G0 | with_reducible exact X10.out | with_reducible exact X11.out | exact X11.out.alloc _ | with_reducible exact X12.out))
        (first | (go_at_call 113;(with_reducible refine (HSP.out _ G0 l1.length (by omega) _ _ (HU1.out.ex G0)).mono ?_);rintro e w10 ⟨E1,rv1,pv1,rfl,he10,hx10⟩;have HE10:=hid_ he10;have X10:=hid_ (G0.trans hx10);clear he10 hx10) | (go_at_call 115;(with_reducible refine (HCW.out _ X10.out).mono ?_);rintro e w11 ⟨g11,rfl,ho11,hx11⟩;have HO11:=hid_ ho11.isl;have X1011:=hid_ hx11;have X11:=hid_ (X10.out.trans hx11);clear ho11 hx11) | (go_at_call 114;have h9:=HO11.out.ex (e_al w11 (.cells #[.slice (some ⟨g11,0,none⟩) N N] 22));rw [il_congr9 (seF_il HNN.out hrg)] at h9;have hms:=msl_one (B:=w11.heap.size) (heap_at rfl) h9;(with_reducible refine (HMS.out _ (X11.out.alloc _) E1 F1 l1.length rv1 pv1 ((HE10.out.ex X1011.out).ex (e_al w11 _)) (seF tl (cmbK p m ml msg gl i)) _ hms).mono ?_);rintro e w12 ⟨rfl,hx12⟩;have X12:=hid_ ((X11.out.alloc _).trans hx12);clear hx12))
       go_wp2_with fail
       go_ret;exact ⟨ret_bool (by rw [←hml2];exact HZE.out),HX.out.trans (HX9.out.trans X12.out)⟩
      ·have hbs:(side==1)=false:=by simpa using hs1
       have HZE:=hid_ (show decide (0≤misI p m ml N (spn p m ml N F2 l2.length) (fun _=> mpF p m ml sl (cmbK p m ml msg gl i)) 1)=Z from by
        have:=HZ.out;rw [if_neg hs1] at this;exact this)
       have HCW:=hid_ (fun (w':World) (h:Ex w9 w')=> mapped_any w' (HG.out.ex (HX9.out.trans h)) A ((HX9.out.trans h).cell HP.out.c0) N (by omega) tl sl (il n (cmbK p m ml msg gl i)) tv sv _ (HTS.out _ (HX9.out.trans h)).1 (HTS.out _ (HX9.out.trans h)).2 (HON9.out.ex h) HNN.out (by omega) (by rw [il_len];omega));obtain ⟨k0,k1,k2⟩:=HK9.out _ HX9.out;clear HZ;go_upto_region 19 with fail
       have G0:Ex w9 w9.drew:=(Ex.refl w9).drew
       go_region_held3 (fun w'=> w'.cell? ⟨B,0,none⟩=some (.pointer (some ⟨A,0,none⟩))∧w'.cell? ⟨B + 1,0,none⟩=some tv∧w'.cell? ⟨B + 1,1,none⟩=some sv)
        ((refine HK9.out _ (HX9.out.trans ?_);first | with_reducible exact G0 | with_reducible exact X10.out | with_reducible exact X11.out | exact X11.out.alloc _ | with_reducible exact X12.out))
        (first | (go_at_call 113;(with_reducible refine (HSP.out _ G0 l2.length (by omega) _ _ (HU2.out.ex G0)).mono ?_);rintro e w10 ⟨E1,rv1,pv1,rfl,he10,hx10⟩;have HE10:=hid_ he10;have X10:=hid_ (G0.trans hx10);clear he10 hx10) | (go_at_call 116;(with_reducible refine (HCW.out _ X10.out).mono ?_);rintro e w11 ⟨g11,rfl,ho11,hx11⟩;have HO11:=hid_ ho11.isl;have X1011:=hid_ hx11;have X11:=hid_ (X10.out.trans hx11);clear ho11 hx11) | (go_at_call 114;have h9:=HO11.out.ex (e_al w11 (.cells #[.slice (some ⟨g11,0,none⟩) N N] 22));rw [il_congr9 (mpF_il (by omega))] at h9;have hms:=msl_one (B:=w11.heap.size) (heap_at rfl) h9;(with_reducible refine (HMS.out _ (X11.out.alloc _) E1 F2 l2.length rv1 pv1 ((HE10.out.ex X1011.out).ex (e_al w11 _)) (mpF p m ml sl (cmbK p m ml msg gl i)) _ hms).mono ?_);rintro e w12 ⟨rfl,hx12⟩;have X12:=hid_ ((X11.out.alloc _).trans hx12);clear hx12))
       go_wp2_with fail
       go_ret;exact ⟨ret_bool (by rw [←hml2];exact HZE.out),HX.out.trans (HX9.out.trans X12.out)⟩
  ·have hb1:((msg.length:Int) !=(gl.length:Int))=true:=by simp;omega
   have hb1':(msg.length !=gl.length)=true:=by simp;omega
   have hz:=HZ.out;rw [if_pos (.inl hml)] at hz;subst hz;clear hml;go_wp2_with fail
   go_ret;exact ⟨rfl,HX.out⟩
end
end Go.Proofs.YtgdmlmhpineibaaGreat
