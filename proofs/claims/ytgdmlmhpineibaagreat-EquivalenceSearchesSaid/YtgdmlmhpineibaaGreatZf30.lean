/- Plain: what equivalence's search computes. -/
import Derived.Test.YtgdmlmhpineibaaGreatZf24
import Derived.Test.YtgdmlmhpineibaaGreatZf28
import Derived.Test.YtgdmlmhpineibaaGreatZf29
namespace Go.Proofs.YtgdmlmhpineibaaGreat
set_option linter.unusedVariables false
set_option linter.unusedSimpArgs false
set_option maxRecDepth 100000
set_option maxHeartbeats 4000000
section
open Go.RowKit
section
variable (p m:Nat) (ml:List Int)
def redJ (x:Int) (u r:Nat→Int) (j:Nat):Int:=if r j=0 then u j else ((kadd p m (kin (p ^ m) (u j)) (kneg p m (kmul p m (lw ml) (kin (p ^ m) x) (kin (p ^ m) (r j)))):Nat):Int)
def redC (x:Int) (u r:Nat→Int) (c j:Nat):Int:=if j < c then redJ p m ml x u r j else u j
def redI (u:Nat→Int) (pl:Nat) (r:Nat→Int):Nat→Int:=if u pl=0 then u else redJ p m ml (u pl) u r
def redK (a:Nat→Nat→Int) (pl:Nat→Nat) (v:Nat→Int):Nat→Nat→Int
 | 0=> v
 | k + 1=> redI p m ml (redK a pl v k) (pl k) (a k)
def lzI (t:Nat) (v:Nat→Int):Int:=fstI (fun j=> v j !=0) t
def ivz (z:Nat):Nat:=if z=0 then 0 else kinv p m ml z
structure EcS where
 n:Nat
 a:Nat→Nat→Int
 pl:Nat→Nat
def EcS.red (e:EcS) (v:Nat→Int):Nat→Int:=redK p m ml e.a e.pl v e.n
def spnS (t:Nat) (e:EcS) (r:Nat→Int):EcS:=
 if 0≤lzI t (e.red p m ml r) then ⟨e.n + 1,upd e.a e.n (sclF p m ml (ivz p m ml (kin (p ^ m) (e.red p m ml r (lzI t (e.red p m ml r)).toNat))) (e.red p m ml r)),upd e.pl e.n (lzI t (e.red p m ml r)).toNat⟩ else e
def spn (t:Nat) (rows:Nat→Nat→Int):Nat→EcS
 | 0=> ⟨0,fun _ _=> 0,fun _=> 0⟩
 | k + 1=> spnS p m ml t (spn t rows k) (rows k)
def misI (t:Nat) (e:EcS) (rows:Nat→Nat→Int) (n:Nat):Int:=fstI (fun i=> decide (0≤lzI t (e.red p m ml (rows i)))) n
def mpF (sc:List Int) (x:Nat→Int) (i:Nat):Int:=((kmul p m (lw ml) (kin (p ^ m) (sc.getD i 0)) (kin (p ^ m) (x i)):Nat):Int)
def seF (tl:List Int) (y:Nat→Int) (i:Nat):Int:=y (tl.getD i 0).toNat
def witI (l1 l2:List (List Int)) (tl sc:List Int):Int × Int:=
 let i:=misI p m ml tl.length (spn p m ml tl.length (fun i=> seF tl (rowsF l2 i)) l2.length) (fun i=> mpF p m ml sc (rowsF l1 i)) l1.length
 if 0≤i then (0,i) else
 let k:=misI p m ml tl.length (spn p m ml tl.length (fun i=> mpF p m ml sc (rowsF l1 i)) l1.length) (fun i=> seF tl (rowsF l2 i)) l2.length
 if 0≤k then (1,k) else (-1,-1)
end
def unitL (i n:Nat):List Int:=il n (upd (fun _=> 0) i 1)
def witL (R1 R2:Nat) (s:Int × Int):List Int:=if s.1=0 then unitL s.2.toNat R1 else if s.1=1 then unitL s.2.toNat R2 else []
theorem eil_getD {N j:Nat} (h:j < N) (f:Nat→Int):(il N f).getD j 0=f j:=by
 rw [List.getD_eq_getElem?_getD,il_get h];rfl
theorem fstI_lt (pr:Nat→Bool) (n:Nat):fstI pr n < n∧-1≤fstI pr n:=by
 unfold fstI;split
 ·rename_i i h;have:=List.mem_range.1 (List.mem_of_find?_eq_some h);omega
 ·omega
theorem lzI_lt (t:Nat) (v:Nat→Int):lzI t v < t∧-1≤lzI t v:=fstI_lt _ _
section
variable {p m:Nat} {ml:List Int}
theorem spnS_lt {t:Nat} {e:EcS} {r:Nat→Int} (h:∀i,i < e.n→e.pl i < t):∀i,i < (spnS p m ml t e r).n→(spnS p m ml t e r).pl i < t:=by
 have hz:=lzI_lt t (e.red p m ml r);unfold spnS;split
 ·intro i hi;simp only at hi ⊢;by_cases e1:i=e.n
  ·subst e1;rw [upd_same];omega
  ·rw [upd_ne _ _ e1];exact h i (by omega)
 ·exact h
theorem spn_lt (t:Nat) (rows:Nat→Nat→Int):∀k i,i < (spn p m ml t rows k).n→(spn p m ml t rows k).pl i < t
 | 0=> fun i hi=> by simp only [spn] at hi;omega
 | k + 1=> spnS_lt (spn_lt t rows k)
theorem spnS_n {t:Nat} {e:EcS} {r:Nat→Int}:(spnS p m ml t e r).n≤e.n + 1:=by
 unfold spnS;split
 ·simp
 ·omega
theorem spn_n (t:Nat) (rows:Nat→Nat→Int):∀k,(spn p m ml t rows k).n≤k
 | 0=> by simp [spn]
 | k + 1=> by
  have:=spn_n t rows k;have:=spnS_n (p:=p) (m:=m) (ml:=ml) (t:=t) (e:=spn p m ml t rows k) (r:=rows k);show (spnS p m ml t _ _).n≤_
  omega
end
structure Nd where
 tl:List Int
 sc:List Int
 side:Int
 msg:List Int
def rnA {σ:Type} (step:σ→List Int→List Int→σ × Int) (tl sc:List Int) (j:Nat):Nat→σ→σ × Int
 | 0,s=> (s,0)
 | c + 1,s=> if (rnA step tl sc j c s).2≠0 then rnA step tl sc j c s else step (rnA step tl sc j c s).1 (tl ++ [(j:Int)]) (sc ++ [((c + 1:Nat):Int)])
def rnJ {σ:Type} (step:σ→List Int→List Int→σ × Int) (q:Nat) (tl sc:List Int):Nat→σ→σ × Int
 | 0,s=> (s,0)
 | j + 1,s=> if (rnJ step q tl sc j s).2≠0 then rnJ step q tl sc j s else if tl.contains (j:Int) then rnJ step q tl sc j s else rnA step tl sc j (q - 1) (rnJ step q tl sc j s).1
def srF (p m:Nat) (ml:List Int) (l1 l2:List (List Int)) (n:Nat):Nat→Nat × List Nd→List Int→List Int→(Nat × List Nd) × Int
 | d,s,tl,sc=>
  if s.1=65536 then (s,8) else
  let w:=witI p m ml l1 l2 tl sc
  let s1:=(s.1 + 1,s.2 ++ [⟨tl,sc,w.1,witL l1.length l2.length w⟩])
  if 0≤w.1 then (s1,0) else if tl.length=n then (s1,18) else
  match d with
  | 0=> (s1,0)
  | d + 1=> rnJ (srF p m ml l1 l2 n d) (p ^ m) tl sc n s1
end
section
open Go.RowKit
def filF (f:Nat→Int) (i j:Nat):Int:=if j < i then f j else 0
theorem filF_zero (f:Nat→Int):filF f 0=fun _=> 0:=by funext j;unfold filF;rw [if_neg (by omega)]
theorem filF_succ (f:Nat→Int) (i:Nat):upd (filF f i) i (f i)=filF f (i + 1):=by
 funext j;by_cases e:j=i
 ·subst e;rw [upd_same];unfold filF;rw [if_pos (by omega)]
 ·rw [upd_ne _ _ e];unfold filF;by_cases h:j < i
  ·rw [if_pos h,if_pos (by omega)]
  ·rw [if_neg h,if_neg (by omega)]
theorem filF_all {f:Nat→Int} {n j:Nat} (h:j < n):filF f n j=f j:=by unfold filF;rw [if_pos h]
theorem boxP_facts (w:World) (u v:Value):(w.alloc (.cells #[u,v] 49)).cell? ⟨w.heap.size,0,none⟩=some u∧(w.alloc (.cells #[u,v] 49)).cell? ⟨w.heap.size,1,none⟩=some v∧Ex w (w.alloc (.cells #[u,v] 49))∧(w.alloc (.cells #[u,v] 49)).heap.size=w.heap.size + 1:=
 ⟨by simp,by simp,(Ex.refl w).alloc _,by simp⟩
section
variable {b p m x0:Nat} {ml:List Int}
theorem mapped_any (w:World) (hg:GFat w b p m ml x0) (A:Nat) (hA:w.cell? ⟨A,0,none⟩=some (.pointer (some ⟨b,0,none⟩))) (N:Nat) (hN:N≤1000) (tl sl x:List Int) (tv sv xv:Value) (ht:ISl w tv tl) (hs:ISl w sv sl) (hx:ISl w xv x) (htl:tl.length=N) (hsl:sl.length=N) (hxl:N≤x.length):
  Calls Tryz.prog 116 #[.pointer (some ⟨A,0,none⟩),.agg #[tv,sv],xv] w fun r w'=> ∃g,r= .returned (.slice (some ⟨g,0,none⟩) N N)∧Own w' w.heap.size 3 g N (iv (mpF p m ml sl fun j=> x.getD j 0))∧Ex w w':=by
 obtain ⟨b0,b1,eb,hsz⟩:=boxP_facts w tv sv;have HMU:=hid_ (fun (w1:World) (h1:Ex w w1) (y z:Int)=> Mul_any w1 (hg.ex h1) y z);obtain ⟨ta,tc,rfl,_,t2,_⟩:=ht.open;obtain ⟨sa,sc,rfl,_,s2,s3⟩:=hs.open;obtain ⟨xa,xc,rfl,_,x2,x3⟩:=hx.open;unfold maxLen at t2 s2 x2;rw [hsl] at s3;rw [htl,hsl] at b0 b1 eb hsz ⊢;have S3:=hid_ s3;have X3:=hid_ x3;have HGS:=hid_ (fun i (hi:i < N)=> get_getD (l:=sl) (i:=i) (by omega));have HGX:=hid_ (fun i (hi:i < N)=> get_getD (l:=x) (i:=i) (by omega));have HEB:=hid_ eb;have HA:=hid_ hA;obtain ⟨F,hF⟩:∃F,(mpF p m ml sl fun j=> x.getD j 0)=F:=⟨_,rfl⟩;have HFE:=hid_ (fun i=> congrFun hF i);rw [hF];clear hg ht hs hx s3 x3 eb htl hsl hA hF;go_enter Tryz.func116,Tryz.ntmps116
 go_wp2_with (at_make;refine wpList_make_arr _ rfl _ _ 22 rfl 3 (.int .i64 0) 8 Tryz.underlying22 infoInt rfl _ N rfl rfl rfl (by omega) (by unfold maxLen;omega) ?_)
 obtain ⟨B,hB⟩:∃B,w.heap.size=B:=⟨_,rfl⟩;rw [hB] at b0 b1 hsz
 try simp only [hB]
 have HBW:=hid_ hB;clear hB;generalize w.alloc (.cells #[.slice ta N tc,.slice sa N sc] 49)=w1 at *;intro w3 hown hx3;have B0:=hid_ b0;have B1:=hid_ b1;obtain ⟨g,hgg⟩:∃g,B + 1=g:=⟨_,rfl⟩;have HO3:=hid_ (show Own w3 g 3 g N (iv (filF F 0)) from by rw [←hgg,filF_zero];exact hown)
 try simp only [hgg]
 have HX3:=hid_ hx3;have HGE:=hid_ (show w1.heap.size=g from by rw [←hgg,←hsz]);have b1':=hx3.cell b1;clear hown hx3 b0 b1 hgg hsz;go_wp2_with fail
 go_loopw [17] (fun i' wr=> ∃(i:Nat),i≤N∧i'= .int .i64 i∧Hid (Own wr g 3 g N (iv (filF F i)))∧Hid (Ex w1 wr)) (fun i' _=> N - (intOf i').toNat)
 case atStart=> exact ⟨0,by omega,rfl,HO3,HX3⟩
 case round=>
  clear HO3 b1';obtain ⟨i,hi,rfl,hown,hex⟩:=hrel;by_cases hin:i < N
  ·obtain ⟨sb,so,rfl,hsc⟩:=S3.out (by omega);obtain ⟨xb,xo,rfl,hxc⟩:=X3.out (by omega);have EXW:=hid_ (HEB.out.trans hex.out);obtain ⟨s,hs⟩:∃s,sl.getD i 0=s:=⟨_,rfl⟩;have hgs:=HGS.out i hin;rw [hs] at hgs;have cs:=EXW.out.cell (hsc i _ hgs);obtain ⟨z,hz⟩:∃z,x.getD i 0=z:=⟨_,rfl⟩;have hgx:=HGX.out i hin;rw [hz] at hgx;have CXW:=hid_ (hxc i _ hgx);have i1:(0:Int)≤(i:Int):=by omega
   have i2:(i:Int) < (N:Int):=by omega
   have i3:(i:Int) < (x.length:Int):=by omega
   have HMW:=hid_ (fun (w5:World) (h5:Ex wr w5)=> HMU.out w5 (EXW.out.trans h5) s z);obtain ⟨u,hu⟩:∃u,kmul p m (lw ml) (kin (p ^ m) s) (kin (p ^ m) z)=u:=⟨_,rfl⟩;rw [hu] at HMW;have HVE:=hid_ (show upd (filF F i) i (u:Int)=filF F (i + 1) from by
    rw [←filF_succ,←HFE.out i];show _=upd (filF F i) i ((kmul p m (lw ml) (kin (p ^ m) (sl.getD i 0)) (kin (p ^ m) (x.getD i 0)):Nat):Int)
    rw [hs,hz,hu])
   have HOW:=hid_ hown.out;have HEX:=hid_ hex.out;have HXS:=hid_ (fun (w5:World) (h5:Ex wr w5)=> (HOW.out.ex h5).exSet (a:=w1) (Nat.le_of_eq HGE.out) (HEX.out.trans h5) i (.int .i64 (u:Int)));have HOS:=hid_ (fun (w5:World) (h5:Ex wr w5)=> show Own (w5.setCell ⟨g,i,none⟩ (.int .i64 (u:Int))) g 3 g N (iv (filF F (i + 1))) from by
    rw [←HVE.out,←iv_upd];exact (HOW.out.ex h5).set i _)
   have HIN:=hid_ hin;have HALL:=hid_ (fun (w5:World) (h5:Ex wr w5)=> (⟨(EXW.out.trans h5).cell HA.out,(EXW.out.trans h5).cell CXW.out⟩:w5.cell? ⟨A,0,none⟩=some (.pointer (some ⟨b,0,none⟩))∧w5.cell? ⟨xb,xo + i,none⟩=some (.int .i64 z)));have HALS:=hid_ (fun (w5:World) (h5:Ex wr w5)=> (⟨(HEB.out.trans (HXS.out w5 h5)).cell HA.out,(HEB.out.trans (HXS.out w5 h5)).cell CXW.out⟩:(w5.setCell ⟨g,i,none⟩ (.int .i64 (u:Int))).cell? ⟨A,0,none⟩=some (.pointer (some ⟨b,0,none⟩))∧(w5.setCell ⟨g,i,none⟩ (.int .i64 (u:Int))).cell? ⟨xb,xo + i,none⟩=some (.int .i64 z)));clear hs hgs hz hgx hu hsc hxc hown hex;go_wp2_with fail
   have G0:Ex wr wr.drew:=(Ex.refl wr).drew
   go_region_held3 (fun w'=> w'.cell? ⟨A,0,none⟩=some (.pointer (some ⟨b,0,none⟩))∧w'.cell? ⟨xb,xo + i,none⟩=some (.int .i64 z))
    (first | with_reducible exact HALL.out _ G0 | with_reducible exact HALL.out _ X6 | with_reducible exact HALS.out _ X6)
    (first | (go_at_call 59;(with_reducible refine (HMW.out _ G0).mono ?_);rintro e w6 ⟨rfl,n6,rfl⟩;have X6:Ex wr (wr.drewN (1 + n6)):=(Ex.refl wr).drewN (1 + n6);have co6:=(HOW.out.ex X6).cell HIN.out;have cf6:=(HOW.out.ex X6).frz i))
   go_wp2_with fail
   go_roundw
   case rel=> first | exact ⟨i + 1,by omega,by go_num,hid_ (HOS.out _ X6),hid_ (HXS.out _ X6)⟩ | ((repeat apply Exists.intro);exact ⟨⟨i + 1,by omega,by go_num,hid_ (HOS.out _ X6),hid_ (HXS.out _ X6)⟩,rfl⟩)
   case measure=> simp [intOf];omega
  ·obtain rfl:i=N:=by omega
   go_wp2_with fail
   go_ret;exact ⟨g,rfl,(hown.out.mono (by have:=HGE.out;have:=HBW.out;have:=HEB.out.size;omega)).icongr fun j hj=> filF_all hj,HEB.out.trans hex.out⟩
end
theorem seenAt_any (w:World) (A:Nat) (N:Nat) (hN:N≤1000) (tl y:List Int) (tv sv yv:Value) (ht:ISl w tv tl) (hy:ISl w yv y) (htl:tl.length=N) (hr:rngB tl y.length=true):
  Calls Tryz.prog 115 #[.pointer (some ⟨A,0,none⟩),.agg #[tv,sv],yv] w fun r w'=> ∃g,r= .returned (.slice (some ⟨g,0,none⟩) N N)∧Own w' w.heap.size 3 g N (iv (seF tl fun j=> y.getD j 0))∧Ex w w':=by
 obtain ⟨b0,b1,eb,hsz⟩:=boxP_facts w tv sv;obtain ⟨ta,tc,rfl,_,t2,t3⟩:=ht.open;obtain ⟨ya,yc,rfl,_,y2,y3⟩:=hy.open;unfold maxLen at t2 y2;rw [htl] at t3;rw [htl] at b0 b1 eb hsz ⊢;have T3:=hid_ t3;have Y3:=hid_ y3;have HRG:=hid_ (fun i (hi:i < N)=> rngB_at hr (i:=i) (by omega));have HGT:=hid_ (fun i (hi:i < N)=> get_getD (l:=tl) (i:=i) (by omega));have HGY:=hid_ (fun i (hi:i < y.length)=> get_getD (l:=y) (i:=i) hi);have HEB:=hid_ eb;obtain ⟨F,hF⟩:∃F,(seF tl fun j=> y.getD j 0)=F:=⟨_,rfl⟩;have HFE:=hid_ (fun i=> congrFun hF i);rw [hF];clear ht hy t3 y3 eb htl hF hr;go_enter Tryz.func115,Tryz.ntmps115
 go_wp2_with (at_make;refine wpList_make_arr _ rfl _ _ 22 rfl 3 (.int .i64 0) 8 Tryz.underlying22 infoInt rfl _ N rfl rfl rfl (by omega) (by unfold maxLen;omega) ?_)
 obtain ⟨B,hB⟩:∃B,w.heap.size=B:=⟨_,rfl⟩;rw [hB] at b0 b1 hsz
 try simp only [hB]
 have HBW:=hid_ hB;clear hB;generalize w.alloc (.cells #[.slice ta N tc,sv] 49)=w1 at *;intro w3 hown hx3;have B0:=hid_ b0;obtain ⟨g,hgg⟩:∃g,B + 1=g:=⟨_,rfl⟩;have HO3:=hid_ (show Own w3 g 3 g N (iv (filF F 0)) from by rw [←hgg,filF_zero];exact hown)
 try simp only [hgg]
 have HX3:=hid_ hx3;have HGE:=hid_ (show w1.heap.size=g from by rw [←hgg,←hsz]);have b0':=hx3.cell b0;clear hown hx3 b0 b1 hgg hsz;go_wp2_with fail
 go_loopw [17] (fun i' wr=> ∃(i:Nat),i≤N∧i'= .int .i64 i∧Hid (Own wr g 3 g N (iv (filF F i)))∧Hid (Ex w1 wr)) (fun i' _=> N - (intOf i').toNat)
 case atStart=> exact ⟨0,by omega,rfl,HO3,HX3⟩
 case round=>
  clear HO3 b0';obtain ⟨i,hi,rfl,hown,hex⟩:=hrel;by_cases hin:i < N
  ·obtain ⟨tb,to_,rfl,htc⟩:=T3.out (by omega);have EXW:=hid_ (HEB.out.trans hex.out);have hpr:=HRG.out i hin;obtain ⟨k,hk⟩:∃k,(tl.getD i 0).toNat=k:=⟨_,rfl⟩;have hkp:tl.getD i 0=(k:Int):=by omega
   have hkN:k < y.length:=by omega
   obtain ⟨yb,yo,rfl,hyc⟩:=Y3.out (by omega);have hgt:=HGT.out i hin;rw [hkp] at hgt;have ct:=EXW.out.cell (htc i _ hgt);obtain ⟨z,hz⟩:∃z,y.getD k 0=z:=⟨_,rfl⟩;have hgy:=HGY.out k hkN;rw [hz] at hgy;have cy:=EXW.out.cell (hyc k _ hgy);have i1:(0:Int)≤(i:Int):=by omega
   have i2:(i:Int) < (N:Int):=by omega
   have i3:(0:Int)≤(k:Int):=by omega
   have i4:(k:Int) < (y.length:Int):=by omega
   have HVE:=hid_ (show upd (filF F i) i z=filF F (i + 1) from by
    rw [←filF_succ,←HFE.out i];show _=upd (filF F i) i (y.getD (tl.getD i 0).toNat 0)
    rw [hk,hz])
   have co:=hown.out.cell hin;have cf:=hown.out.frz i;have HXS:=hid_ (hown.out.exSet (a:=w1) (Nat.le_of_eq HGE.out) hex.out i (.int .i64 z));have HOS:=hid_ (show Own (wr.setCell ⟨g,i,none⟩ (.int .i64 z)) g 3 g N (iv (filF F (i + 1))) from by
    rw [←HVE.out,←iv_upd];exact hown.out.set i _)
   clear hpr hk hkp hgt hz hgy htc hyc hown hex;go_wp2_with fail
   go_roundw
   case rel=> first | exact ⟨i + 1,by omega,by go_num,HOS,HXS⟩ | ((repeat apply Exists.intro);exact ⟨⟨i + 1,by omega,by go_num,HOS,HXS⟩,rfl⟩)
   case measure=> simp [intOf];omega
  ·obtain rfl:i=N:=by omega
   go_wp2_with fail
   go_ret;exact ⟨g,rfl,(hown.out.mono (by have:=HGE.out;have:=HBW.out;have:=HEB.out.size;omega)).icongr fun j hj=> filF_all hj,HEB.out.trans hex.out⟩
end
section
open Go.RowKit
def samF (p m:Int) (ml:List Int) (p' m':Int) (ml':List Int):Bool:=p==p' && m==m' && ml==ml'
theorem samF_iff {p m:Int} {ml:List Int} {p' m':Int} {ml':List Int}:samF p m ml p' m' ml'=true↔p=p'∧m=m'∧ml=ml':=by
 unfold samF;simp [and_assoc]
theorem FSame_any (w:World) (p m:Int) (ml:List Int) (mv:Value) (hmv:ISl w mv ml) (p' m':Int) (ml':List Int) (mv':Value) (hmv':ISl w mv' ml'):
  Calls Tryz.prog 102 #[.agg #[.int .i64 p,.int .i64 m,mv],.agg #[.int .i64 p',.int .i64 m',mv']] w fun r w'=> r= .returned (.bool (samF p m ml p' m' ml'))∧Ex w w':=by
 obtain ⟨a0,a1,a2,ea,-⟩:=box_facts w p m mv;obtain ⟨b0,b1,b2,eb,-⟩:=box_facts (w.alloc (.cells #[.int .i64 p,.int .i64 m,mv] 24)) p' m' mv';replace a0:=eb.cell a0;replace a1:=eb.cell a1;replace a2:=eb.cell a2;have hsz:(w.alloc (.cells #[.int .i64 p,.int .i64 m,mv] 24)).heap.size=w.heap.size + 1:=by simp
 rw [hsz] at b0 b1 b2;have HE:=hid_ (ea.trans eb);obtain ⟨ma,mc,rfl,m1',m2,m3⟩:=hmv.open;obtain ⟨na,nc,rfl,-,n2,n3⟩:=hmv'.open;unfold maxLen at m2 n2;obtain ⟨R,hR⟩:∃R,samF p m ml p' m' ml'=R:=⟨_,rfl⟩;rw [hR];have M3:=hid_ m3;have N3:=hid_ n3;have HR:=hid_ hR;clear hmv hmv' hsz ea eb m3 n3 hR;go_enter Tryz.func102,Tryz.ntmps102
 by_cases h1:p=p'
 ·have b1':(p !=p')=false:=by simpa using h1
  by_cases h2:m=m'
  ·have b2':(m !=m')=false:=by simpa using h2
   by_cases h3:ml.length=ml'.length
   ·have b3:((ml.length:Int) !=(ml'.length:Int))=false:=by simp;omega
    subst h1;subst h2;have hn:∃n,ml.length=n:=⟨_,rfl⟩;have HRB:=hid_ (show R=true↔ml=ml' from by rw [←HR.out,samF_iff];simp);have H3:=hid_ h3;rw [←h3] at a0 a1 a2 b0 b1 b2 HE ⊢;clear h3 b3 hn;go_wp2_with fail
    generalize (w.alloc (.cells #[.int .i64 p,.int .i64 m,.slice ma ml.length mc] 24)).alloc (.cells #[.int .i64 p,.int .i64 m,.slice na ml.length nc] 24)=w1 at *;have A2:=hid_ a2;have B2:=hid_ b2
    go_loopw [31] (fun i' wr=> ∃(i:Nat),i≤ml.length∧i'= .int .i64 i∧(∀j,j < i→ml.getD j 0=ml'.getD j 0)∧Hid (Ex w1 wr)) (fun i' _=> ml.length - (intOf i').toNat)
    case atStart=> exact ⟨0,by omega,rfl,fun j hj=> by omega,hid_ (Ex.refl _)⟩
    case round=>
     obtain ⟨i,hi,rfl,hall,hex⟩:=hrel;have HAL:=hid_ hall;clear hall a0 a1 b0 b1;by_cases hin:i < ml.length
     ·obtain ⟨mb,mo,rfl,hmc⟩:=M3.out (by omega);obtain ⟨nb,no,rfl,hnc⟩:=N3.out (by have:=H3.out;omega);have c1:=hex.out.cell (HE.out.cell (hmc i _ (show ml[i]?=some (ml.getD i 0) from by rw [List.getD_eq_getElem?_getD,List.getElem?_eq_getElem hin];rfl)));have c2:=hex.out.cell (HE.out.cell (hnc i _ (show ml'[i]?=some (ml'.getD i 0) from by rw [List.getD_eq_getElem?_getD,List.getElem?_eq_getElem (by have:=H3.out;omega)];rfl)));have f2:=hex.out.cell A2.out;have g2:=hex.out.cell B2.out;have j1:(0:Int)≤(i:Int):=by omega
      have j2:(i:Int) < (ml.length:Int):=by omega
      have hmm:m2=m2:=rfl;obtain ⟨x,hx⟩:∃x,ml.getD i 0=x:=⟨_,rfl⟩;obtain ⟨y,hy⟩:∃y,ml'.getD i 0=y:=⟨_,rfl⟩;rw [hx] at c1;rw [hy] at c2;have HXY:=hid_ (show x=ml.getD i 0∧y=ml'.getD i 0 from ⟨hx.symm,hy.symm⟩);clear hx hy hmc hnc a2 b2 hmm;by_cases hxy:x=y
      ·have HA2:=hid_ (show ∀j,j < i + 1→ml.getD j 0=ml'.getD j 0 from fun j hj=> by
        by_cases e:j=i
        ·subst e;rw [←HXY.out.1,←HXY.out.2,hxy]
        ·exact HAL.out j (by omega))
       have bb:(y !=x)=false:=by simp [hxy]
       have hyx:y=x:=hxy.symm;subst hyx;clear hxy;go_wp2_with fail
       go_roundw
       case rel=> first | exact ⟨i + 1,by omega,by go_num,HA2.out,hex⟩ | ((repeat apply Exists.intro);exact ⟨⟨i + 1,by omega,by go_num,HA2.out,hex⟩,rfl⟩)
       case measure=> simp [intOf];omega
      ·have bb:(y !=x)=true:=by simpa using fun h=> hxy h.symm
       have hr:R=false:=Bool.eq_false_iff.2 fun h=> hxy (by rw [HXY.out.1,HXY.out.2,HRB.out.1 h]);subst hr;have hyx:¬y=x:=fun h=> hxy h.symm;clear hxy;go_wp2_with fail
       go_ret;exact ⟨rfl,HE.out.trans hex.out⟩
     ·obtain rfl:i=ml.length:=by omega
      have hr:R=true:=HRB.out.2 (List.ext_getElem? fun j=> by
       by_cases hj:j < ml.length
       ·have:=HAL.out j hj;rw [List.getElem?_eq_getElem hj,List.getElem?_eq_getElem (by have:=H3.out;omega)];rw [List.getD_eq_getElem?_getD,List.getElem?_eq_getElem hj,List.getD_eq_getElem?_getD,List.getElem?_eq_getElem (by have:=H3.out;omega)] at this;simpa using this
       ·rw [List.getElem?_eq_none (by omega),List.getElem?_eq_none (by have:=H3.out;omega)])
      subst hr;go_wp2_with fail
      go_ret;exact ⟨rfl,HE.out.trans hex.out⟩
   ·have b3:((ml.length:Int) !=(ml'.length:Int))=true:=by simp;omega
    have hr:R=false:=by
     rw [←HR.out];exact Bool.eq_false_iff.2 fun h=> h3 (by rw [(samF_iff.1 h).2.2])
    subst hr;have h3':¬((ml.length:Int)=(ml'.length:Int)):=by omega
    clear h3 h1 h2;go_wp2_with fail
    go_ret;exact ⟨rfl,HE.out⟩
  ·have b2':(m !=m')=true:=by simpa using h2
   have hr:R=false:=by
    rw [←HR.out];exact Bool.eq_false_iff.2 fun h=> h2 (samF_iff.1 h).2.1
   subst hr;clear h1 h2;go_wp2_with fail
   go_ret;exact ⟨rfl,HE.out⟩
 ·have b1':(p !=p')=true:=by simpa using h1
  have hr:R=false:=by
   rw [←HR.out];exact Bool.eq_false_iff.2 fun h=> h1 (samF_iff.1 h).1
  subst hr;clear h1;go_wp2_with fail
  go_ret;exact ⟨rfl,HE.out⟩
end
end Go.Proofs.YtgdmlmhpineibaaGreat
