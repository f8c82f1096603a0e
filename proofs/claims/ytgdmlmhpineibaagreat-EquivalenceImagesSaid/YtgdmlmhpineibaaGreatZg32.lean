/- Plain: what equivalence's search computes. -/
import Derived.Test.YtgdmlmhpineibaaGreatZg23
import Derived.Test.YtgdmlmhpineibaaGreatZg25
import Derived.Test.YtgdmlmhpineibaaGreatZg30
import Derived.Test.YtgdmlmhpineibaaGreatZg31
namespace Go.Proofs.YtgdmlmhpineibaaGreat
set_option linter.unusedVariables false
set_option linter.unusedSimpArgs false
set_option maxRecDepth 100000
set_option maxHeartbeats 4000000
section
open Go.RowKit
section
variable (p m:Nat) (ml:List Int)
def redJ (x:Int) (u r:Nat→Int) (j:Nat):Int:=if r j=0 then u j else ((kadd p m (kin (p ^ m) (u j)) (kneg p m (kmul p m (lw ml) (kin (p ^ m) x) (kin (p ^ m) (r j)))):Nat):Int)
def redC (x:Int) (u r:Nat→Int) (c j:Nat):Int:=if j < c then redJ p m ml x u r j else u j
def redI (u:Nat→Int) (pl:Nat) (r:Nat→Int):Nat→Int:=if u pl=0 then u else redJ p m ml (u pl) u r
def redK (a:Nat→Nat→Int) (pl:Nat→Nat) (v:Nat→Int):Nat→Nat→Int
 | 0=> v
 | k + 1=> redI p m ml (redK a pl v k) (pl k) (a k)
def lzI (t:Nat) (v:Nat→Int):Int:=fstI (fun j=> v j !=0) t
def ivz (z:Nat):Nat:=if z=0 then 0 else kinv p m ml z
structure EcS where
 n:Nat
 a:Nat→Nat→Int
 pl:Nat→Nat
def EcS.red (e:EcS) (v:Nat→Int):Nat→Int:=redK p m ml e.a e.pl v e.n
def spnS (t:Nat) (e:EcS) (r:Nat→Int):EcS:=
 if 0≤lzI t (e.red p m ml r) then ⟨e.n + 1,upd e.a e.n (sclF p m ml (ivz p m ml (kin (p ^ m) (e.red p m ml r (lzI t (e.red p m ml r)).toNat))) (e.red p m ml r)),upd e.pl e.n (lzI t (e.red p m ml r)).toNat⟩ else e
def spn (t:Nat) (rows:Nat→Nat→Int):Nat→EcS
 | 0=> ⟨0,fun _ _=> 0,fun _=> 0⟩
 | k + 1=> spnS p m ml t (spn t rows k) (rows k)
def misI (t:Nat) (e:EcS) (rows:Nat→Nat→Int) (n:Nat):Int:=fstI (fun i=> decide (0≤lzI t (e.red p m ml (rows i)))) n
def mpF (sc:List Int) (x:Nat→Int) (i:Nat):Int:=((kmul p m (lw ml) (kin (p ^ m) (sc.getD i 0)) (kin (p ^ m) (x i)):Nat):Int)
def seF (tl:List Int) (y:Nat→Int) (i:Nat):Int:=y (tl.getD i 0).toNat
def witI (l1 l2:List (List Int)) (tl sc:List Int):Int × Int:=
 let i:=misI p m ml tl.length (spn p m ml tl.length (fun i=> seF tl (rowsF l2 i)) l2.length) (fun i=> mpF p m ml sc (rowsF l1 i)) l1.length
 if 0≤i then (0,i) else
 let k:=misI p m ml tl.length (spn p m ml tl.length (fun i=> mpF p m ml sc (rowsF l1 i)) l1.length) (fun i=> seF tl (rowsF l2 i)) l2.length
 if 0≤k then (1,k) else (-1,-1)
end
def unitL (i n:Nat):List Int:=il n (upd (fun _=> 0) i 1)
def witL (R1 R2:Nat) (s:Int × Int):List Int:=if s.1=0 then unitL s.2.toNat R1 else if s.1=1 then unitL s.2.toNat R2 else []
theorem eil_getD {N j:Nat} (h:j < N) (f:Nat→Int):(il N f).getD j 0=f j:=by
 rw [List.getD_eq_getElem?_getD,il_get h];rfl
theorem fstI_lt (pr:Nat→Bool) (n:Nat):fstI pr n < n∧-1≤fstI pr n:=by
 unfold fstI;split
 ·rename_i i h;have:=List.mem_range.1 (List.mem_of_find?_eq_some h);omega
 ·omega
theorem lzI_lt (t:Nat) (v:Nat→Int):lzI t v < t∧-1≤lzI t v:=fstI_lt _ _
section
variable {p m:Nat} {ml:List Int}
theorem spnS_lt {t:Nat} {e:EcS} {r:Nat→Int} (h:∀i,i < e.n→e.pl i < t):∀i,i < (spnS p m ml t e r).n→(spnS p m ml t e r).pl i < t:=by
 have hz:=lzI_lt t (e.red p m ml r);unfold spnS;split
 ·intro i hi;simp only at hi ⊢;by_cases e1:i=e.n
  ·subst e1;rw [upd_same];omega
  ·rw [upd_ne _ _ e1];exact h i (by omega)
 ·exact h
theorem spn_lt (t:Nat) (rows:Nat→Nat→Int):∀k i,i < (spn p m ml t rows k).n→(spn p m ml t rows k).pl i < t
 | 0=> fun i hi=> by simp only [spn] at hi;omega
 | k + 1=> spnS_lt (spn_lt t rows k)
theorem spnS_n {t:Nat} {e:EcS} {r:Nat→Int}:(spnS p m ml t e r).n≤e.n + 1:=by
 unfold spnS;split
 ·simp
 ·omega
theorem spn_n (t:Nat) (rows:Nat→Nat→Int):∀k,(spn p m ml t rows k).n≤k
 | 0=> by simp [spn]
 | k + 1=> by
  have:=spn_n t rows k;have:=spnS_n (p:=p) (m:=m) (ml:=ml) (t:=t) (e:=spn p m ml t rows k) (r:=rows k);show (spnS p m ml t _ _).n≤_
  omega
end
structure Nd where
 tl:List Int
 sc:List Int
 side:Int
 msg:List Int
def rnA {σ:Type} (step:σ→List Int→List Int→σ × Int) (tl sc:List Int) (j:Nat):Nat→σ→σ × Int
 | 0,s=> (s,0)
 | c + 1,s=> if (rnA step tl sc j c s).2≠0 then rnA step tl sc j c s else step (rnA step tl sc j c s).1 (tl ++ [(j:Int)]) (sc ++ [((c + 1:Nat):Int)])
def rnJ {σ:Type} (step:σ→List Int→List Int→σ × Int) (q:Nat) (tl sc:List Int):Nat→σ→σ × Int
 | 0,s=> (s,0)
 | j + 1,s=> if (rnJ step q tl sc j s).2≠0 then rnJ step q tl sc j s else if tl.contains (j:Int) then rnJ step q tl sc j s else rnA step tl sc j (q - 1) (rnJ step q tl sc j s).1
def srF (p m:Nat) (ml:List Int) (l1 l2:List (List Int)) (n:Nat):Nat→Nat × List Nd→List Int→List Int→(Nat × List Nd) × Int
 | d,s,tl,sc=>
  if s.1=65536 then (s,8) else
  let w:=witI p m ml l1 l2 tl sc
  let s1:=(s.1 + 1,s.2 ++ [⟨tl,sc,w.1,witL l1.length l2.length w⟩])
  if 0≤w.1 then (s1,0) else if tl.length=n then (s1,18) else
  match d with
  | 0=> (s1,0)
  | d + 1=> rnJ (srF p m ml l1 l2 n d) (p ^ m) tl sc n s1
end
section
open Go.RowKit
def filF (f:Nat→Int) (i j:Nat):Int:=if j < i then f j else 0
theorem filF_zero (f:Nat→Int):filF f 0=fun _=> 0:=by funext j;unfold filF;rw [if_neg (by omega)]
theorem filF_succ (f:Nat→Int) (i:Nat):upd (filF f i) i (f i)=filF f (i + 1):=by
 funext j;by_cases e:j=i
 ·subst e;rw [upd_same];unfold filF;rw [if_pos (by omega)]
 ·rw [upd_ne _ _ e];unfold filF;by_cases h:j < i
  ·rw [if_pos h,if_pos (by omega)]
  ·rw [if_neg h,if_neg (by omega)]
theorem filF_all {f:Nat→Int} {n j:Nat} (h:j < n):filF f n j=f j:=by unfold filF;rw [if_pos h]
theorem boxP_facts (w:World) (u v:Value):(w.alloc (.cells #[u,v] 49)).cell? ⟨w.heap.size,0,none⟩=some u∧(w.alloc (.cells #[u,v] 49)).cell? ⟨w.heap.size,1,none⟩=some v∧Ex w (w.alloc (.cells #[u,v] 49))∧(w.alloc (.cells #[u,v] 49)).heap.size=w.heap.size + 1:=
 ⟨by simp,by simp,(Ex.refl w).alloc _,by simp⟩
section
variable {b p m x0:Nat} {ml:List Int}
theorem mapped_any (w:World) (hg:GFat w b p m ml x0) (A:Nat) (hA:w.cell? ⟨A,0,none⟩=some (.pointer (some ⟨b,0,none⟩))) (N:Nat) (hN:N≤1000) (tl sl x:List Int) (tv sv xv:Value) (ht:ISl w tv tl) (hs:ISl w sv sl) (hx:ISl w xv x) (htl:tl.length=N) (hsl:sl.length=N) (hxl:N≤x.length):
  Calls Tryz.prog 116 #[.pointer (some ⟨A,0,none⟩),.agg #[tv,sv],xv] w fun r w'=> ∃g,r= .returned (.slice (some ⟨g,0,none⟩) N N)∧Own w' w.heap.size 3 g N (iv (mpF p m ml sl fun j=> x.getD j 0))∧Ex w w':=by
 obtain ⟨b0,b1,eb,hsz⟩:=boxP_facts w tv sv;have HMU:=hid_ (fun (w1:World) (h1:Ex w w1) (y z:Int)=> Mul_any w1 (hg.ex h1) y z);obtain ⟨ta,tc,rfl,_,t2,_⟩:=ht.open;obtain ⟨sa,sc,rfl,_,s2,s3⟩:=hs.open;obtain ⟨xa,xc,rfl,_,x2,x3⟩:=hx.open;unfold maxLen at t2 s2 x2;rw [hsl] at s3;rw [htl,hsl] at b0 b1 eb hsz ⊢;have S3:=hid_ s3;have X3:=hid_ x3;have HGS:=hid_ (fun i (hi:i < N)=> get_getD (l:=sl) (i:=i) (by omega));have HGX:=hid_ (fun i (hi:i < N)=> get_getD (l:=x) (i:=i) (by omega));have HEB:=hid_ eb;have HA:=hid_ hA;obtain ⟨F,hF⟩:∃F,(mpF p m ml sl fun j=> x.getD j 0)=F:=⟨_,rfl⟩;have HFE:=hid_ (fun i=> congrFun hF i);rw [hF];clear hg ht hs hx s3 x3 eb htl hsl hA hF;go_enter Tryz.func116,Tryz.ntmps116
 go_wp2_with (at_make;refine wpList_make_arr _ rfl _ _ 22 rfl 3 (.int .i64 0) 8 Tryz.underlying22 infoInt rfl _ N rfl rfl rfl (by omega) (by unfold maxLen;omega) ?_)
 obtain ⟨B,hB⟩:∃B,w.heap.size=B:=⟨_,rfl⟩;rw [hB] at b0 b1 hsz
 try simp only [hB]
 have HBW:=hid_ hB;clear hB;generalize w.alloc (.cells #[.slice ta N tc,.slice sa N sc] 49)=w1 at *;intro w3 hown hx3;have B0:=hid_ b0;have B1:=hid_ b1;obtain ⟨g,hgg⟩:∃g,B + 1=g:=⟨_,rfl⟩;have HO3:=hid_ (show Own w3 g 3 g N (iv (filF F 0)) from by rw [←hgg,filF_zero];exact hown)
 try simp only [hgg]
 have HX3:=hid_ hx3;have HGE:=hid_ (show w1.heap.size=g from by rw [←hgg,←hsz]);have b1':=hx3.cell b1;clear hown hx3 b0 b1 hgg hsz;go_wp2_with fail
 go_loopw [17] (fun i' wr=> ∃(i:Nat),i≤N∧i'= .int .i64 i∧Hid (Own wr g 3 g N (iv (filF F i)))∧Hid (Ex w1 wr)) (fun i' _=> N - (intOf i').toNat)
 case atStart=> exact ⟨0,by omega,rfl,HO3,HX3⟩
 case round=>
  clear HO3 b1';obtain ⟨i,hi,rfl,hown,hex⟩:=hrel;by_cases hin:i < N
  ·obtain ⟨sb,so,rfl,hsc⟩:=S3.out (by omega);obtain ⟨xb,xo,rfl,hxc⟩:=X3.out (by omega);have EXW:=hid_ (HEB.out.trans hex.out);obtain ⟨s,hs⟩:∃s,sl.getD i 0=s:=⟨_,rfl⟩;have hgs:=HGS.out i hin;rw [hs] at hgs;have cs:=EXW.out.cell (hsc i _ hgs);obtain ⟨z,hz⟩:∃z,x.getD i 0=z:=⟨_,rfl⟩;have hgx:=HGX.out i hin;rw [hz] at hgx;have CXW:=hid_ (hxc i _ hgx);have i1:(0:Int)≤(i:Int):=by omega
   have i2:(i:Int) < (N:Int):=by omega
   have i3:(i:Int) < (x.length:Int):=by omega
   have HMW:=hid_ (fun (w5:World) (h5:Ex wr w5)=> HMU.out w5 (EXW.out.trans h5) s z);obtain ⟨u,hu⟩:∃u,kmul p m (lw ml) (kin (p ^ m) s) (kin (p ^ m) z)=u:=⟨_,rfl⟩;rw [hu] at HMW;have HVE:=hid_ (show upd (filF F i) i (u:Int)=filF F (i + 1) from by
    rw [←filF_succ,←HFE.out i];show _=upd (filF F i) i ((kmul p m (lw ml) (kin (p ^ m) (sl.getD i 0)) (kin (p ^ m) (x.getD i 0)):Nat):Int)
    rw [hs,hz,hu])
   have HOW:=hid_ hown.out;have HEX:=hid_ hex.out;have HXS:=hid_ (fun (w5:World) (h5:Ex wr w5)=> (HOW.out.ex h5).exSet (a:=w1) (Nat.le_of_eq HGE.out) (HEX.out.trans h5) i (.int .i64 (u:Int)));have HOS:=hid_ (fun (w5:World) (h5:Ex wr w5)=> show Own (w5.setCell ⟨g,i,none⟩ (.int .i64 (u:Int))) g 3 g N (iv (filF F (i + 1))) from by
    rw [←HVE.out,←iv_upd];exact (HOW.out.ex h5).set i _)
   have HIN:=hid_ hin;have HALL:=hid_ (fun (w5:World) (h5:Ex wr w5)=> (⟨(EXW.out.trans h5).cell HA.out,(EXW.out.trans h5).cell CXW.out⟩:w5.cell? ⟨A,0,none⟩=some (.pointer (some ⟨b,0,none⟩))∧w5.cell? ⟨xb,xo + i,none⟩=some (.int .i64 z)));have HALS:=hid_ (fun (w5:World) (h5:Ex wr w5)=> (⟨(HEB.out.trans (HXS.out w5 h5)).cell HA.out,(HEB.out.trans (HXS.out w5 h5)).cell CXW.out⟩:(w5.setCell ⟨g,i,none⟩ (.int .i64 (u:Int))).cell? ⟨A,0,none⟩=some (.pointer (some ⟨b,0,none⟩))∧(w5.setCell ⟨g,i,none⟩ (.int .i64 (u:Int))).cell? ⟨xb,xo + i,none⟩=some (.int .i64 z)));clear hs hgs hz hgx hu hsc hxc hown hex;go_wp2_with fail
   have G0:Ex wr wr.drew:=(Ex.refl wr).drew
   go_region_held3 (fun w'=> w'.cell? ⟨A,0,none⟩=some (.pointer (some ⟨b,0,none⟩))∧w'.cell? ⟨xb,xo + i,none⟩=some (.int .i64 z))
    (first | with_reducible exact HALL.out _ G0 | with_reducible exact HALL.out _ X6 | with_reducible exact HALS.out _ X6)
    (first | (go_at_call 59;(with_reducible refine (HMW.out _ G0).mono ?_);rintro e w6 ⟨rfl,n6,rfl⟩;have X6:Ex wr (wr.drewN (1 + n6)):=(Ex.refl wr).drewN (1 + n6);have co6:=(HOW.out.ex X6).cell HIN.out;have cf6:=(HOW.out.ex X6).frz i))
   go_wp2_with fail
   go_roundw
   case rel=> first | exact ⟨i + 1,by omega,by go_num,hid_ (HOS.out _ X6),hid_ (HXS.out _ X6)⟩ | ((repeat apply Exists.intro);exact ⟨⟨i + 1,by omega,by go_num,hid_ (HOS.out _ X6),hid_ (HXS.out _ X6)⟩,rfl⟩)
   case measure=> simp [intOf];omega
  ·obtain rfl:i=N:=by omega
   go_wp2_with fail
   go_ret;exact ⟨g,rfl,(hown.out.mono (by have:=HGE.out;have:=HBW.out;have:=HEB.out.size;omega)).icongr fun j hj=> filF_all hj,HEB.out.trans hex.out⟩
end
theorem seenAt_any (w:World) (A:Nat) (N:Nat) (hN:N≤1000) (tl y:List Int) (tv sv yv:Value) (ht:ISl w tv tl) (hy:ISl w yv y) (htl:tl.length=N) (hr:rngB tl y.length=true):
  Calls Tryz.prog 115 #[.pointer (some ⟨A,0,none⟩),.agg #[tv,sv],yv] w fun r w'=> ∃g,r= .returned (.slice (some ⟨g,0,none⟩) N N)∧Own w' w.heap.size 3 g N (iv (seF tl fun j=> y.getD j 0))∧Ex w w':=by
 obtain ⟨b0,b1,eb,hsz⟩:=boxP_facts w tv sv;obtain ⟨ta,tc,rfl,_,t2,t3⟩:=ht.open;obtain ⟨ya,yc,rfl,_,y2,y3⟩:=hy.open;unfold maxLen at t2 y2;rw [htl] at t3;rw [htl] at b0 b1 eb hsz ⊢;have T3:=hid_ t3;have Y3:=hid_ y3;have HRG:=hid_ (fun i (hi:i < N)=> rngB_at hr (i:=i) (by omega));have HGT:=hid_ (fun i (hi:i < N)=> get_getD (l:=tl) (i:=i) (by omega));have HGY:=hid_ (fun i (hi:i < y.length)=> get_getD (l:=y) (i:=i) hi);have HEB:=hid_ eb;obtain ⟨F,hF⟩:∃F,(seF tl fun j=> y.getD j 0)=F:=⟨_,rfl⟩;have HFE:=hid_ (fun i=> congrFun hF i);rw [hF];clear ht hy t3 y3 eb htl hF hr;go_enter Tryz.func115,Tryz.ntmps115
 go_wp2_with (at_make;refine wpList_make_arr _ rfl _ _ 22 rfl 3 (.int .i64 0) 8 Tryz.underlying22 infoInt rfl _ N rfl rfl rfl (by omega) (by unfold maxLen;omega) ?_)
 obtain ⟨B,hB⟩:∃B,w.heap.size=B:=⟨_,rfl⟩;rw [hB] at b0 b1 hsz
 try simp only [hB]
 have HBW:=hid_ hB;clear hB;generalize w.alloc (.cells #[.slice ta N tc,sv] 49)=w1 at *;intro w3 hown hx3;have B0:=hid_ b0;obtain ⟨g,hgg⟩:∃g,B + 1=g:=⟨_,rfl⟩;have HO3:=hid_ (show Own w3 g 3 g N (iv (filF F 0)) from by rw [←hgg,filF_zero];exact hown)
 try simp only [hgg]
 have HX3:=hid_ hx3;have HGE:=hid_ (show w1.heap.size=g from by rw [←hgg,←hsz]);have b0':=hx3.cell b0;clear hown hx3 b0 b1 hgg hsz;go_wp2_with fail
 go_loopw [17] (fun i' wr=> ∃(i:Nat),i≤N∧i'= .int .i64 i∧Hid (Own wr g 3 g N (iv (filF F i)))∧Hid (Ex w1 wr)) (fun i' _=> N - (intOf i').toNat)
 case atStart=> exact ⟨0,by omega,rfl,HO3,HX3⟩
 case round=>
  clear HO3 b0';obtain ⟨i,hi,rfl,hown,hex⟩:=hrel;by_cases hin:i < N
  ·obtain ⟨tb,to_,rfl,htc⟩:=T3.out (by omega);have EXW:=hid_ (HEB.out.trans hex.out);have hpr:=HRG.out i hin;obtain ⟨k,hk⟩:∃k,(tl.getD i 0).toNat=k:=⟨_,rfl⟩;have hkp:tl.getD i 0=(k:Int):=by omega
   have hkN:k < y.length:=by omega
   obtain ⟨yb,yo,rfl,hyc⟩:=Y3.out (by omega);have hgt:=HGT.out i hin;rw [hkp] at hgt;have ct:=EXW.out.cell (htc i _ hgt);obtain ⟨z,hz⟩:∃z,y.getD k 0=z:=⟨_,rfl⟩;have hgy:=HGY.out k hkN;rw [hz] at hgy;have cy:=EXW.out.cell (hyc k _ hgy);have i1:(0:Int)≤(i:Int):=by omega
   have i2:(i:Int) < (N:Int):=by omega
   have i3:(0:Int)≤(k:Int):=by omega
   have i4:(k:Int) < (y.length:Int):=by omega
   have HVE:=hid_ (show upd (filF F i) i z=filF F (i + 1) from by
    rw [←filF_succ,←HFE.out i];show _=upd (filF F i) i (y.getD (tl.getD i 0).toNat 0)
    rw [hk,hz])
   have co:=hown.out.cell hin;have cf:=hown.out.frz i;have HXS:=hid_ (hown.out.exSet (a:=w1) (Nat.le_of_eq HGE.out) hex.out i (.int .i64 z));have HOS:=hid_ (show Own (wr.setCell ⟨g,i,none⟩ (.int .i64 z)) g 3 g N (iv (filF F (i + 1))) from by
    rw [←HVE.out,←iv_upd];exact hown.out.set i _)
   clear hpr hk hkp hgt hz hgy htc hyc hown hex;go_wp2_with fail
   go_roundw
   case rel=> first | exact ⟨i + 1,by omega,by go_num,HOS,HXS⟩ | ((repeat apply Exists.intro);exact ⟨⟨i + 1,by omega,by go_num,HOS,HXS⟩,rfl⟩)
   case measure=> simp [intOf];omega
  ·obtain rfl:i=N:=by omega
   go_wp2_with fail
   go_ret;exact ⟨g,rfl,(hown.out.mono (by have:=HGE.out;have:=HBW.out;have:=HEB.out.size;omega)).icongr fun j hj=> filF_all hj,HEB.out.trans hex.out⟩
end
section
open Go.RowKit
theorem chk_can {p m:Int} {ml:List Int} {cols:Int} {rows:List (List Int)} {e:Int} (h:ChkOut p m ml cols rows e):canE p m ml cols rows=e:=by
 unfold canE;rcases h with ⟨pn,mn,rfl,rfl,h3,h4⟩ | ⟨h1,h2⟩
 ·rw [if_neg (fun h=> h ((chk_iff _ _ _).2 h3)),h4];rfl
 ·rw [if_pos (fun h=> h1 ((chk_iff _ _ _).1 h)),h2]
theorem rowsL_rowsF {N:Nat} {rows:List (List Int)} (h:∀r∈rows,r.length=N):rowsL N rows.length (rowsF rows)=rows:=by
 apply List.ext_getElem?;intro i;by_cases hi:i < rows.length
 ·rw [rowsL_get hi,List.getElem?_eq_getElem hi,rowsF_il (List.getElem?_eq_getElem hi) (h _ (List.getElem_mem hi))]
 ·rw [List.getElem?_eq_none (by rw [rowsL_len];omega),List.getElem?_eq_none (by omega)]
theorem rowsF_rng {p m N:Nat} {rows:List (List Int)} (h:∀r∈rows,r.length=N∧entS (p ^ m) r=0):Rng p m rows.length N (rowsF rows):=fun i hi j hj=> by
 have hrr:rows[i]?=some rows[i]:=List.getElem?_eq_getElem hi;obtain ⟨h1,h2⟩:=h _ (List.getElem_mem hi);have e:rowsF rows i j=rows[i].getD j 0:=by unfold rowsF;rw [List.getD_eq_getElem?_getD (l:=rows),hrr];rfl
 rw [e];refine entS_rng h2 _ ?_;rw [List.getD_eq_getElem?_getD,List.getElem?_eq_getElem (by omega)];exact List.getElem_mem _
theorem rChk10_any (p m:Int) (ml:List Int) (mv:Value) (w:World) (hmv:ISl w mv ml) (cols:Int) (rows:List (List Int)) (v:Value) (hv:MSl w v rows):
  Calls Tryz.prog 78 #[.agg #[.int .i64 p,.int .i64 m,mv],.agg #[.int .i64 cols,v]] w fun r w'=> (∃e:Int,r= .returned (.int .i64 e)∧SpcO p m ml cols rows e)∧Ex w w':=by
 obtain ⟨g0,g1,g2,e0,gsz⟩:=box_facts w p m mv;have HCH:=hid_ (fun (w':World) (h:Ex w w')=> rChkM_any p m ml mv w' (hmv.ex h) cols rows v (hv.ex h));have HMV:=hid_ hmv;have HV:=hid_ hv;obtain ⟨za,zc,rfl,z1,z2,z3⟩:=hv.open;clear z1 z3;unfold maxLen at z2;obtain ⟨ma,mc,rfl,-,m2,-⟩:=hmv.open;unfold maxLen at m2;obtain ⟨xb,hxb⟩:∃xb,w.heap.size=xb:=⟨_,rfl⟩;rw [hxb] at g0 g1 g2 gsz;clear hmv hv;go_enter Tryz.func78,Tryz.ntmps78
 go_wp2_with fail
 generalize w.alloc (.cells #[.int .i64 p,.int .i64 m,.slice ma ml.length mc] 24)=wA at *;obtain ⟨a0,a1,ea⟩:=boxM2_facts wA cols (.slice za rows.length zc);rw [gsz] at a0 a1;generalize wA.alloc (.cells #[.int .i64 cols,.slice za rows.length zc] 113)=wB at *;have A0:=hid_ a0;have A1:=hid_ a1;have G0:=hid_ (ea.cell g0);have G1:=hid_ (ea.cell g1);have G2:=hid_ (ea.cell g2);have HE:=hid_ (e0.trans ea);clear g0 g1 g2 a0 a1 e0 ea gsz;refine (HCH.out wB HE.out).mono ?_;rintro e w2 ⟨e,rfl,hc,hx2⟩;have HX2:=hid_ (HE.out.trans hx2);have A0:=hid_ (hx2.cell A0.out);have A1:=hid_ (hx2.cell A1.out);have G0:=hid_ (hx2.cell G0.out);have G1:=hid_ (hx2.cell G1.out);have G2:=hid_ (hx2.cell G2.out);clear hx2 HE HCH;have hce:=chk_can hc;by_cases he:e=0
 ·subst he;rcases hc with ⟨pn,mn,rfl,rfl,hfb,hmk⟩ | ⟨_,h⟩
  ·obtain ⟨s1,s2,s3,s4⟩:=mchk_shape hmk.symm;obtain ⟨N,rfl⟩:∃N:Nat,cols=N:=⟨cols.toNat,by omega⟩;have hrows:∀r∈rows,r.length=N∧entS (pn ^ mn) r=0:=fun r hr=> by obtain ⟨h1,h2⟩:=s4 r hr;exact ⟨by omega,h2⟩
   have hsh:FSh pn mn ml∧IsF pn mn (lw ml):=by
    obtain ⟨pn',mn',e1,e2,h3,h4,h5⟩:=hfb;obtain rfl:pn'=pn:=by omega
    obtain rfl:mn'=mn:=by omega
    exact ⟨h3,h5⟩
   have HCN:=hid_ (rCanon_any (mv:= .slice ma ml.length mc) w2 hsh.1 hsh.2 (HMV.out.ex HX2.out) N rows.length (by omega) s3 (rowsF rows) (rowsF_rng hrows) _ (by rw [rowsL_rowsF fun r hr=> (hrows r hr).1];exact HV.out.ex HX2.out));have HSP:=hid_ (fun piv a' e (hel:ElO pn mn ml N rows.length (rowsF rows) a' piv) (h:e=if rowsL N piv.length a'=rows then 0 else 5)=> show SpcO pn mn ml N rows e from .inr ⟨hce,pn,mn,N,piv,a',rfl,rfl,rfl,hfb,hmk.symm,hel,h⟩);have c0:=A0.out;have c1:=A1.out;have c2:=G0.out;have c3:=G1.out;have c4:=G2.out;clear hce hfb hmk s1 s2 s3 s4 hrows hsh;go_wp2_with fail
   refine HCN.out.mono ?_;rintro e w3 ⟨piv,pv,rv,a',rfl,hel,hrv,hpv,hx3⟩;have HX3:=hid_ (HX2.out.trans hx3);have c1:=hx3.cell A1.out;obtain ⟨L,hL⟩:∃L,rowsL N piv.length a'=L:=⟨_,rfl⟩;have HSR:=hid_ (SameRows_any w3 L rows _ _ (by rw [←hL];exact hrv) (HV.out.ex HX3.out));have HS2:=hid_ (fun e=> HSP.out piv a' e hel);rw [hL] at HS2;obtain ⟨ra,rc,hre,-,r2,-⟩:=hrv.open;rw [hL] at hre;subst hre;obtain ⟨pa,pc,rfl,-,p2,-⟩:=hpv.open;clear hel hrv hpv hx3 hL r2 p2 HCN HSP;by_cases hLR:L=rows
   ·rw [decide_eq_true hLR] at HSR;have HSP2:=hid_ (HS2.out 0 (by rw [if_pos hLR]));clear hLR HS2;go_wp2_with (go_at_call 77;refine HSR.out.mono ?_;rintro e w4 ⟨rfl,n3,hw3⟩;subst hw3)
    have HX4:=hid_ (HX3.out.drewN n3);go_wp2_with fail
    go_ret;exact ⟨⟨_,rfl,HSP2.out⟩,HX4.out⟩
   ·rw [decide_eq_false hLR] at HSR;have HSP2:=hid_ (HS2.out 5 (by rw [if_neg hLR]));clear hLR HS2;go_wp2_with (go_at_call 77;refine HSR.out.mono ?_;rintro e w4 ⟨rfl,n3,hw3⟩;subst hw3)
    have HX4:=hid_ (HX3.out.drewN n3);go_wp2_with fail
    go_ret;exact ⟨⟨_,rfl,HSP2.out⟩,HX4.out⟩
  ·exact absurd h (by decide)
 ·have kb:(e !=0)=true:=by simpa using he
  have HSP:=hid_ (show SpcO p m ml cols rows e from .inl ⟨by rw [hce];exact he,hce.symm⟩);clear hc hce;go_wp2_with fail
  go_ret;exact ⟨⟨_,rfl,HSP.out⟩,HX2.out⟩
end
end Go.Proofs.YtgdmlmhpineibaaGreat
