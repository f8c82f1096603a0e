/- Walk of codewrightref31.Inverse. -/
import Derived.Deep.CutRange
import Derived.Deep.RegionHeld3
import Derived.Test.YtgdmlmhpineibaaGreatZf10
import Derived.Test.YtgdmlmhpineibaaGreatZf15
import Derived.Test.YtgdmlmhpineibaaGreatZf23
import Derived.Test.YtgdmlmhpineibaaGreatZf27
import Derived.Test.YtgdmlmhpineibaaGreatZf28
import Derived.Test.YtgdmlmhpineibaaGreatZf29
import Derived.Test.YtgdmlmhpineibaaGreatZf35
import Derived.Test.YtgdmlmhpineibaaGreatZf41
import Derived.Test.YtgdmlmhpineibaaGreatZf42
import Derived.Test.YtgdmlmhpineibaaGreatZf43
import Derived.Test.YtgdmlmhpineibaaGreatZf45
namespace Go.Proofs.YtgdmlmhpineibaaGreat
set_option linter.unusedVariables false
set_option linter.unusedSimpArgs false
set_option maxRecDepth 100000
set_option maxHeartbeats 4000000
section
open Go.RowKit
end
section
open Go.RowKit
end
section
open Go.RowKit
end
section
open Go.RowKit
theorem rFew12_any (w:World) (p m:Int) (mv:Value) (n:Int) (rows:List (List Int)) (v:Value) (hv:MSl w v rows) (lim:Int) (hl0:0≤lim) (hl1:lim≤100000):
  Calls Tryz.prog 62 #[.agg #[.int .i64 p,.int .i64 m,mv,.int .i64 n,v],.int .i64 lim] w fun r w'=> r= .returned (.bool (fewM 0 rows lim))∧Ex w w':=by
 obtain ⟨a0,a1,a2,a3,a4,ea⟩:=boxC_facts w p m mv n v;have HFW:=hid_ (fun (w':World) (h:Ex w w')=> rFewM_any w' 0 rows v (hv.ex h) lim hl0 hl1);obtain ⟨za,zc,rfl,-,z2,-⟩:=hv.open;have HE:=hid_ ea;clear hv ea z2;obtain ⟨F,hF⟩:∃F,fewM 0 rows lim=F:=⟨_,rfl⟩;rw [hF] at HFW ⊢;clear hF;go_enter Tryz.func62,Tryz.ntmps62
 go_wp2_with fail
 generalize w.alloc (.cells #[.int .i64 p,.int .i64 m,mv,.int .i64 n,.slice za rows.length zc] 47)=w1 at *;refine (HFW.out w1 HE.out).mono ?_;rintro e w2 ⟨rfl,hx⟩;have HX:=hid_ (HE.out.trans hx);clear hx;go_wp2_with fail
 go_ret;exact ⟨rfl,HX.out⟩
end
section
open Go.RowKit
def FewC (c:CdV):Prop:=fewM 0 c.rows 80=true∧(c.n≤8∨64 < c.n)∧ordS c.p c.m≤16
theorem few31_any (w:World) (c:CdV) (m1 v1:Value) (hc:c.at w m1 v1):
  Calls Tryz.prog 27 #[c.arg m1 v1] w fun r w'=> BolR (FewC c) r∧Ex w w':=by
 obtain ⟨c0,c1,c2,c3,c4⟩:=boxC5 w c m1 v1;have HX:=hid_ (e_al w (c.obj m1 v1));have HFW:=hid_ (fun (w':World) (h:Ex w w')=> rFew12_any w' c.p c.m m1 c.n c.rows v1 (hc.ex h).g 80 (by decide) (by decide));have HOR:=hid_ (fun w'=> rOrder_any c.p c.m m1 w');obtain ⟨x1,y1,rfl,-,z1,-⟩:=hc.g.open;obtain ⟨x3,y3,rfl,-,z3,-⟩:=hc.m.open;obtain ⟨p,m,ml,n,rows⟩:=c;have HSM:=hid_ (show FewC ⟨p,m,ml,n,rows⟩↔fewM 0 rows 80=true∧(n≤8∨64 < n)∧ordS p m≤16 from Iff.rfl);obtain ⟨B,hB⟩:∃B,w.heap.size=B:=⟨_,rfl⟩;rw [hB] at c0 c1 c2 c3 c4;dsimp only [CdV.arg,CdV.obj] at *;obtain ⟨P,hP⟩:∃P,FewC ⟨p,m,ml,n,rows⟩=P:=⟨_,rfl⟩;rw [hP] at HSM ⊢;obtain ⟨F,hF⟩:∃F,fewM 0 rows 80=F:=⟨_,rfl⟩;rw [hF] at HFW HSM;obtain ⟨Q,hQ⟩:∃Q,ordS p m=Q:=⟨_,rfl⟩;rw [hQ] at HOR HSM;clear hc hF hP hQ z1 z3;go_enter Tryz.func27,Tryz.ntmps27
 go_upto_region 1 with fail
 try simp only [hB]
 clear hB;generalize w.alloc (.cells #[.int .i64 p,.int .i64 m,.slice x3 ml.length y3,.int .i64 n,.slice x1 rows.length y1] 47)=w1 at *;have HALL:=hid_ (fun w' (h:Ex w1 w')=> (⟨h.cell c0,h.cell c1,h.cell c2,h.cell c3,h.cell c4⟩:_∧_∧_∧_∧_));go_wp2_with fail
 refine (HFW.out _ HX.out).mono ?_;rintro e w2 ⟨rfl,hx2⟩;have HX2:=hid_ hx2;clear hx2 c0 c1 c2 c3 c4;obtain ⟨c0,c1,c2,c3,c4⟩:=HALL.out w2 HX2.out
 cases F with
 | false=>
  have HN:=hid_ (show ¬P from fun h=> by cases (HSM.out.1 h).1);go_wp2_with fail
  go_ret;exact ⟨bolR_no HN.out,HX.out.trans HX2.out⟩
 | true=>
  by_cases h1:n≤8
  ·have k1:decide (n≤8)=true:=decide_eq_true h1;have H1:=hid_ h1;clear h1;go_wp2_with fail
   refine (HOR.out _).mono ?_;rintro e w3 ⟨rfl,hx3⟩;have HX3:=hid_ (HX2.out.trans hx3);clear hx3 c0 c1 c2 c3 c4;by_cases h2:Q≤16
   ·have k2:decide (Q≤16)=true:=decide_eq_true h2;have HN:=hid_ (show P from HSM.out.2 ⟨by first | rfl | trivial,.inl H1.out,h2⟩);clear h2;go_wp2_with fail
    go_ret;exact ⟨bolR_yes HN.out,HX.out.trans HX3.out⟩
   ·have k2:decide (Q≤16)=false:=decide_eq_false h2;have HN:=hid_ (show ¬P from fun h=> h2 (HSM.out.1 h).2.2);clear h2;go_wp2_with fail
    go_ret;exact ⟨bolR_no HN.out,HX.out.trans HX3.out⟩
  ·have k1:decide (n≤8)=false:=decide_eq_false h1;have H1:=hid_ h1;clear h1;by_cases h3:64 < n
   ·have k3:decide (64 < n)=true:=decide_eq_true h3;have H3:=hid_ h3;clear h3;go_wp2_with fail
    refine (HOR.out _).mono ?_;rintro e w3 ⟨rfl,hx3⟩;have HX3:=hid_ (HX2.out.trans hx3);clear hx3 c0 c1 c2 c3 c4;by_cases h2:Q≤16
    ·have k2:decide (Q≤16)=true:=decide_eq_true h2;have HN:=hid_ (show P from HSM.out.2 ⟨by first | rfl | trivial,.inr H3.out,h2⟩);clear h2;go_wp2_with fail
     go_ret;exact ⟨bolR_yes HN.out,HX.out.trans HX3.out⟩
    ·have k2:decide (Q≤16)=false:=decide_eq_false h2;have HN:=hid_ (show ¬P from fun h=> h2 (HSM.out.1 h).2.2);clear h2;go_wp2_with fail
     go_ret;exact ⟨bolR_no HN.out,HX.out.trans HX3.out⟩
   ·have k3:decide (64 < n)=false:=decide_eq_false h3;have HN:=hid_ (show ¬P from fun h=> by rcases (HSM.out.1 h).2.1 with h | h;exact H1.out h;exact h3 h);clear h3;go_wp2_with fail
    go_ret;exact ⟨bolR_no HN.out,HX.out.trans HX2.out⟩
end
section
open Go.RowKit
section
variable {p m:Nat} {ml:List Int} {n:Nat} {l1 l2:List (List Int)} {pl sl tl sc:List Int} {nd:Nd}
variable {step:Nat × List Nd→List Int→List Int→(Nat × List Nd) × Int} {b:Nat}
end
end
section
open Go.RowKit
end
section
open Go.RowKit
theorem fm2_get:∀(cs:List (Value × Value)) (i:Nat) (c:Value × Value),cs[i]?=some c→(cs.flatMap fun c=> [c.1,c.2])[i * 2]?=some c.1∧(cs.flatMap fun c=> [c.1,c.2])[i * 2 + 1]?=some c.2
 | [],i,c,h=> by cases h
 | d :: cs,0,c,h=> by
  have:d=c:=Option.some.inj h;subst this;exact ⟨rfl,rfl⟩
 | d :: cs,i + 1,c,h=> by
  obtain ⟨h1,h2⟩:=fm2_get cs i c h;rw [List.flatMap_cons,show (i + 1) * 2=i * 2 + 1 + 1 from by omega];exact ⟨h1,h2⟩
end
section
open Go.RowKit
theorem exL_rng {q n:Nat} {tl sl:List Int} (h:rngB tl n=true):∀x∈exL q tl sl n,rngB x.1 n=true:=fun x hx=> by
 unfold exL exJ at hx;rw [List.mem_flatMap] at hx;obtain ⟨j,hj,hx⟩:=hx;have hjn:=List.mem_range.1 hj;split at hx
 ·cases hx
 ·rw [List.mem_map] at hx;obtain ⟨c,-,rfl⟩:=hx;unfold rngB at h ⊢;rw [List.all_append,h];simp;omega
end
section
open Go.RowKit Go.ChangeShapes Go.WideShapes Go.ChangeAt
theorem rfC_get:∀(es:List Rf) (mvs:List Value),mvs.length=es.length→∀i,i < es.length→∀j,j < 4→(rfC es mvs)[i * 4 + j]?=(((es.getD i dRf).cells (mvs.getD i undef)))[j]?:=fun es=> by
 induction es with
 | nil=> intro mvs _ i hi;simp at hi
 | cons e es ih=>
  intro mvs hm i hi j hj
  cases mvs with
  | nil=> simp at hm
  | cons u mvs=>
   show (e.cells u ++ rfC es mvs)[i * 4 + j]?=_
   cases i with
   | zero=> rw [List.getElem?_append_left (by simp [Rf.cells];omega)];simp
   | succ i=>
    rw [List.getElem?_append_right (by simp [Rf.cells];omega)];have:=ih mvs (by simpa using hm) i (by simpa using hi) j hj;rw [show (i + 1) * 4 + j - (e.cells u).length=i * 4 + j from by simp [Rf.cells];omega,this];simp
section
variable {H:Type} {enc:TypeId × Value→H} {W:World} {held:Bool}
theorem rsl_trod {fuel:Nat} {v:Value} {y:DataW H × List MemPlace} (h:DataW.trod enc Tryz.prog W 0 (fun _=> true) held fuel 52 [v]=some y):∃es,RSl W v es:=by
 rcases Go.Deep.open_slice Tryz.underlying52 h with ⟨hcs,_⟩ | ⟨x,len,cap,m,n,D,Pl,hcs,_,hl,hm,hmm,_,hr⟩
 ·simp at hcs;subst hcs;exact ⟨[],RSl.nil W⟩
 ·simp at hcs;subst hcs;simp only [if_true] at hmm;subst hmm;rw [show Tryz.prog.cellsOf 78=4 by kernel_rfl] at hr;have key:∀i,i < len→∃q:Rf × Value,W.cell? (x.add (i * 4))=some (.int .i64 q.1.tp)∧W.cell? (x.add (i * 4 + 1))=some (.int .i64 q.1.sc)∧W.cell? (x.add (i * 4 + 2))=some (.int .i64 q.1.side)∧W.cell? (x.add (i * 4 + 3))=some q.2∧ISl W q.2 q.1.msg:=fun i hi=> by
   obtain ⟨cs',h1,h2⟩:=hr i (by omega);obtain ⟨_,hlen,hcell⟩:=World.cells?_some h1;obtain ⟨xs,k,_,_,_,hxl,hf⟩:=DataW.trod_struct Tryz.underlying78 h2
   match xs,hxl,cs',hlen with
   | [y0,y1,y2,y3],_, [v0,v1,v2,v3],_=>
    have g0:=hf 0 _ rfl;have g1:=hf 1 _ rfl;have g2:=hf 2 _ rfl;have g3:=hf 3 _ rfl;simp [show Tryz.prog.cellsOf 3=1 by kernel_rfl,show Tryz.prog.cellsOf 22=1 by kernel_rfl] at g0 g1 g2 g3;have e0:=hcell 0 (by omega);have e1:=hcell 1 (by omega);have e2:=hcell 2 (by omega);have e3:=hcell 3 (by omega);rw [Go.Deep.add_add] at e0 e1 e2 e3;obtain ⟨p0,ep0,_,_⟩:=DataW.trod_int Tryz.underlying3 g0;obtain ⟨p1,ep1,_,_⟩:=DataW.trod_int Tryz.underlying3 g1;obtain ⟨p2,ep2,_,_⟩:=DataW.trod_int Tryz.underlying3 g2;simp at ep0 ep1 ep2;subst ep0 ep1 ep2;obtain ⟨l,hl⟩:=isl_trod g3;exact ⟨(⟨p0,p1,p2,l⟩,v3),by simpa using e0,by simpa using e1,by simpa using e2,by simpa using e3,hl⟩
  haveI:Inhabited (Rf × Value):=⟨(dRf,.bool false)⟩
  obtain ⟨q,hq⟩:=Go.Deep.choose_lt key;have hL:((List.range len).map fun i=> (q i).1).length=len:=by simp
  have hO:((List.range len).map fun i=> (q i).2).length=len:=by simp
  have hgL:∀i,i < len→((List.range len).map fun i=> (q i).1).getD i dRf=(q i).1:=fun i hi=> by
   rw [List.getD_eq_getElem?_getD];simp [hi]
  have hgO:∀i,i < len→((List.range len).map fun i=> (q i).2).getD i undef=(q i).2:=fun i hi=> by
   rw [List.getD_eq_getElem?_getD];simp [hi]
  have hlen:(rfC ((List.range len).map fun i=> (q i).1) ((List.range len).map fun i=> (q i).2)).length=len * 4:=by
   rw [rfC_len _ _ (by rw [hL,hO]),hL]
  refine ⟨(List.range len).map fun i=> (q i).1,(List.range len).map fun i=> (q i).2,by rw [hL,hO],⟨by rw [hlen,hL],some x,m,by rw [hL],by rw [hL];exact hl,hm,fun hn=> ?_⟩,fun i e mv h1 h2=> ?_⟩
  ·rw [hL] at hn;have h0:=(hq 0 hn).1;have hx:=spot_none h0 (.inl ⟨_,_,rfl⟩);have hx0:(x.add (0 * 4))=x:=by simp [Addr.add]
   rw [hx0] at hx;refine ⟨x.block,x.off,congrArg some hx,fun j u hu=> ?_⟩;have hj:j < len * 4:=by
    have:=(List.getElem?_eq_some_iff.1 hu).1;rw [hlen] at this;exact this
   obtain ⟨i,r,hr3,rfl⟩:∃i r,r < 4∧j=i * 4 + r:=⟨j / 4,j % 4,Nat.mod_lt _ (by omega),by omega⟩;have hi:i < len:=by omega
   obtain ⟨k0,k1,k2,k3,_⟩:=hq i hi;rw [hx,add_off] at k0 k1 k2 k3;rw [rfC_get _ _ (by rw [hL,hO]) i (by rw [hL];exact hi) r hr3,hgL i hi,hgO i hi] at hu
   match r,hr3 with
   | 0,_=> simp [Rf.cells] at hu;rw [Nat.add_zero,←hu];exact k0
   | 1,_=> simp [Rf.cells] at hu;rw [←hu];exact k1
   | 2,_=> simp [Rf.cells] at hu;rw [←hu];exact k2
   | 3,_=> simp [Rf.cells] at hu;rw [←hu];exact k3
  ·have hi:i < len:=by have:=(List.getElem?_eq_some_iff.1 h1).1;simpa using this
   simp [hi] at h1 h2;subst h1 h2;exact (hq i hi).2.2.2.2
theorem c_code:Tryz.prog.cellsOf 47=5:=by kernel_rfl
theorem c_part:Tryz.prog.cellsOf 49=2:=by kernel_rfl
theorem c_refu:Tryz.prog.cellsOf 54=1:=by kernel_rfl
theorem c_entr:Tryz.prog.cellsOf 52=1:=by kernel_rfl
theorem c_case:Tryz.prog.cellsOf 61=6:=by kernel_rfl
theorem open_code {r:Reach} {b0:Nat} {v:Value} {d:DataW H} {p:List MemPlace} (hv:Value.okWide Tryz.prog W r b0 47 v) (h:DataW.Trod enc Tryz.prog W 0 (fun _=> true) held 47 v d p):
  ∃(c:CdV) (mv gv:Value),v=c.arg mv gv∧c.at W mv gv:=by
 obtain ⟨cs,rfl,hsz⟩:=okWide_agg Tryz.underlying47 hv;obtain ⟨c0,c1,c2,c3,c4,rfl⟩:=array5 (hsz.trans c_code);obtain ⟨fuel,hf⟩:=h;obtain ⟨xs,k,_,_,_,hxl,hff⟩:=DataW.trod_struct Tryz.underlying47 hf;have g0:=hff 0 _ rfl;have g1:=hff 1 _ rfl;have g2:=hff 2 _ rfl
 match xs,hxl with
 | [y0,y1,y2],_=>
  simp [c_int,c_fld,c_rows,Value.cells] at g0 g1 g2;obtain ⟨P,M,ml,rfl,rfl,hm⟩:=fld_cells g0;obtain ⟨N,e0,_,_⟩:=DataW.trod_int Tryz.underlying3 g1;obtain ⟨rows,hr⟩:=msl_trod g2;simp at e0;subst e0;exact ⟨⟨P,M,ml,N,rows⟩,_,_,rfl,hm,hr⟩
theorem part_cells {fuel:Nat} {c0 c1:Value} {y:DataW H × List MemPlace} (h:DataW.trod enc Tryz.prog W 0 (fun _=> true) held fuel 49 [c0,c1]=some y):
  ∃(tl sl:List Int),ISl W c0 tl∧ISl W c1 sl:=by
 obtain ⟨xs,k,_,_,_,hxl,hf⟩:=DataW.trod_struct Tryz.underlying49 h;have g0:=hf 0 _ rfl;have g1:=hf 1 _ rfl
 match xs,hxl with
 | [y0,y1],_=>
  simp [c_ints] at g0 g1;obtain ⟨l,hl⟩:=isl_trod g0;obtain ⟨l',hl'⟩:=isl_trod g1;exact ⟨l,l',hl,hl'⟩
theorem array2' {α:Type} {cs:Array α} (h:cs.size=2):∃c0 c1,cs= #[c0,c1]:=by
 obtain ⟨l⟩:=cs
 match l,h with
 | [c0,c1],_=> exact ⟨c0,c1,rfl⟩
theorem open_part {r:Reach} {b0:Nat} {v:Value} {d:DataW H} {p:List MemPlace} (hv:Value.okWide Tryz.prog W r b0 49 v) (h:DataW.Trod enc Tryz.prog W 0 (fun _=> true) held 49 v d p):
  ∃(tv sv:Value) (tl sl:List Int),v= .agg #[tv,sv]∧ISl W tv tl∧ISl W sv sl:=by
 obtain ⟨cs,rfl,hsz⟩:=okWide_agg Tryz.underlying49 hv;obtain ⟨c0,c1,rfl⟩:=array2' (hsz.trans c_part);obtain ⟨fuel,hf⟩:=h;obtain ⟨tl,sl,h1,h2⟩:=part_cells (by simpa [Value.cells] using hf);exact ⟨_,_,tl,sl,rfl,h1,h2⟩
theorem refu_cells {fuel:Nat} {c0:Value} {y:DataW H × List MemPlace} (h:DataW.trod enc Tryz.prog W 0 (fun _=> true) held fuel 54 [c0]=some y):∃es,RSl W c0 es:=by
 obtain ⟨xs,k,_,_,_,hxl,hf⟩:=DataW.trod_struct Tryz.underlying54 h;have g0:=hf 0 _ rfl
 match xs,hxl with
 | [y0],_=>
  simp [c_entr] at g0;exact rsl_trod g0
theorem open_case {r:Reach} {b0:Nat} {v:Value} {d:DataW H} {p:List MemPlace} (hv:Value.okWide Tryz.prog W r b0 61 v) (h:DataW.Trod enc Tryz.prog W 0 (fun _=> true) held 61 v d p):
  ∃(tv sv ev pv uv:Value) (tl sl:List Int) (es:List Rf) (pl ul:List Int) (fr:Int),v= .agg #[tv,sv,ev,pv,uv,.int .i64 fr]∧ISl W tv tl∧ISl W sv sl∧RSl W ev es∧ISl W pv pl∧ISl W uv ul:=by
 obtain ⟨cs,rfl,hsz⟩:=okWide_agg Tryz.underlying61 hv;obtain ⟨c0,c1,c2,c3,c4,c5,rfl⟩:=array6 (hsz.trans c_case);obtain ⟨fuel,hf⟩:=h;obtain ⟨xs,k,_,_,_,hxl,hff⟩:=DataW.trod_struct Tryz.underlying61 hf;have g0:=hff 0 _ rfl;have g1:=hff 1 _ rfl;have g2:=hff 2 _ rfl
 match xs,hxl with
 | [y0,y1,y2],_=>
  simp [c_part,c_refu,c_mon,Value.cells] at g0 g1 g2;obtain ⟨tl,sl,h1,h2⟩:=part_cells g0;obtain ⟨es,h3⟩:=refu_cells g1;obtain ⟨pl,ul,fr,h4,h5,rfl⟩:=mon_cells g2;exact ⟨_,_,_,_,_,tl,sl,es,pl,ul,fr,rfl,h1,h2,h3,h4,h5⟩
end
end
end Go.Proofs.YtgdmlmhpineibaaGreat
