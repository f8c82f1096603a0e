/- Walks of the reference of the package field: Order, prime, digits. -/
import Derived.Test.YtgdmlmhpineibaaGreatZg06
namespace Go.Proofs.YtgdmlmhpineibaaGreat
set_option linter.unusedVariables false
set_option linter.unusedSimpArgs false
set_option maxRecDepth 100000
set_option maxHeartbeats 1000000
section
open Go.RowKit
theorem gt_div {q p:Int} (hp:1≤p):256 / p < q↔256 < q * p:=by
 constructor
 ·intro h;exact Int.lt_mul_of_ediv_lt (by omega) h
 ·intro h;exact Int.ediv_lt_of_lt_mul (by omega) h
theorem rOrder_any (p m:Int) (mv:Value) (w:World):
  Calls Tryz.prog 14 #[.agg #[.int .i64 p,.int .i64 m,mv]] w fun r w'=> r= .returned (.int .i64 (ordS p m))∧Ex w w':=by
 obtain ⟨xb,hxb⟩:∃xb,w.heap.size=xb:=⟨_,rfl⟩;have d0:(w.alloc (.cells #[.int .i64 p,.int .i64 m,mv] 24)).cell? ⟨xb,0,none⟩=some (.int .i64 p):=by rw [←hxb];simp
 have d1:(w.alloc (.cells #[.int .i64 p,.int .i64 m,mv] 24)).cell? ⟨xb,1,none⟩=some (.int .i64 m):=by rw [←hxb];simp
 have e0:Ex w (w.alloc (.cells #[.int .i64 p,.int .i64 m,mv] 24)):=(Ex.refl _).alloc _;have D0:=hid_ d0;have D1:=hid_ d1;clear d0 d1;by_cases h:2≤p∧1≤m∧m≤8
 ·obtain ⟨h1,h3,h4⟩:=h;have HO:=hid_ (show ordS p m=if p ^ m.toNat≤256 then p ^ m.toNat else 0 by unfold ordS;by_cases h:p ^ m.toNat≤256 <;> simp [h,h1,h3,h4]);go_enter Tryz.func14,Tryz.ntmps14
  have d0:=D0.out;have d1:=D1.out
  go_wp2
  clear hxb D0 D1;generalize w.alloc (.cells #[.int .i64 p,.int .i64 m,mv] 24)=w1 at *
  go_loop [3,4] (fun q' i'=> ∃i:Nat,i≤m.toNat∧i'= .int .i64 i∧q'= .int .i64 (p ^ i)∧1≤p ^ i∧p ^ i≤256) (fun _ i'=> m.toNat - (intOf i').toNat)
  case atStart=> exact ⟨0,by omega,rfl,by simp,by simp,by simp⟩
  case round=>
   obtain ⟨i,hi,rfl,rfl,q1,q2⟩:=hrel;have HS:=hid_ (Int.pow_succ p i);have HM:=hid_ (show i < m.toNat→p ^ (i + 1)≤p ^ m.toNat from fun h=> pow_mono_ h1 h);have HG:=hid_ (gt_div (q:=p ^ i) (show 1≤p by omega));have q4:1≤p ^ i * p:=by
    have:=Int.mul_pos (show 0 < p ^ i by omega) (show 0 < p by omega);omega
   have e1:=Int.ediv_nonneg (show (0:Int)≤256 by omega) (show 0≤p by omega);have e2:256 / p≤256:=Int.ediv_le_self _ (by omega);by_cases hlt:(i:Int) < m
   ·by_cases hq:256 < p ^ i * p
    ·have HB:=HM.out (by omega);rw [HS.out] at HB;have HN:=hid_ (show ¬p ^ m.toNat≤256 by omega);have hg:=HG.out.2 hq;clear HB HM HG;generalize p ^ i=y at *
     go_wp2
     go_ret;exact ⟨ret_int (by rw [HO.out,if_neg (by have:=HN.out;omega)]),e0⟩
    ·have HE:=hid_ (show p ^ (i + 1)=p ^ i * p from HS.out);have hg:¬256 / p < p ^ i:=fun h=> hq (HG.out.1 h);have hg':p ^ i≤256 / p:=by omega
     clear HM HS HG hg;generalize p ^ i=y at *
     go_wp2
     go_round
     case rel=> exact ⟨i + 1,by omega,by go_num,by rw [HE.out],by rw [HE.out];omega,by rw [HE.out];omega⟩
     case measure=> simp [intOf];omega
   ·have hi':i=m.toNat:=by omega
    have HN:=hid_ (show p ^ m.toNat=p ^ i by rw [hi']);clear HM HS HG;generalize p ^ i=y at *
    go_wp2
    go_ret;exact ⟨ret_int (by rw [HO.out,HN.out,if_pos q2]),e0⟩
 ·have HO:=hid_ (show ordS p m=0 by
   unfold ordS;rw [if_neg];rintro ⟨h1,h2,h3,h4⟩;exact h ⟨h1,h2,h3⟩)
  have c:p < 2∨(2≤p∧m < 1)∨(2≤p∧1≤m∧8 < m):=by omega
  clear h;rcases c with c | ⟨c1,c2⟩ | ⟨c1,c2,c3⟩
  all_goals
   go_enter Tryz.func14,Tryz.ntmps14
   have d0:=D0.out;have d1:=D1.out
   go_wp2
   go_ret;exact ⟨ret_int HO.out.symm,e0⟩
theorem prB_iff {n:Nat} (hn:2≤n):prB n=true↔∀d,2≤d→d < n→n % d≠0:=by
 unfold prB;rw [decide_eq_true_iff];exact ⟨fun h d a b=> h.2 d b a,fun h=> ⟨hn,fun d a b=> h d b a⟩⟩
theorem rprime_any (n:Nat) (w:World) (h1:2≤n) (h2:n≤256):
  Calls Tryz.prog 96 #[.int .i64 n] w fun r w'=> r= .returned (.bool (prB n))∧w=w':=by
 have HI:=hid_ (prB_iff h1);go_enter Tryz.func96,Tryz.ntmps96
 go_wp2
 go_loop [3] (fun d'=> ∃d:Nat,2≤d∧d≤n∧d'= .int .i64 d∧Hid (∀c,2≤c→c < d→n % c≠0)) (fun d'=> n - (intOf d').toNat)
 case atStart=> exact ⟨2,by omega,by omega,rfl,hid_ (fun c a b=> by omega)⟩
 case round=>
  obtain ⟨d,d1,d2,rfl,hall⟩:=hrel;by_cases hlt:d < n
  ·by_cases hd:n % d=0
   ·have hd':((n:Int) % (d:Int)==0)=true:=by simp;omega
    have HR:=hid_ (show prB n=false by
     rw [←Bool.not_eq_true];exact fun h=> HI.out.1 h d d1 hlt hd)
    clear hd
    go_wp2
    go_ret;exact ⟨ret_bool HR.out.symm,rfl⟩
   ·have hd':((n:Int) % (d:Int)==0)=false:=by simp;omega
    have HA:=hid_ (show ∀c,2≤c→c < d + 1→n % c≠0 from fun c a b=> by
     by_cases e:c=d
     ·subst e;exact hd
     ·exact hall.out c a (by omega))
    clear hd
    go_wp2
    go_round
    case rel=> exact ⟨d + 1,by omega,by omega,by go_num,HA⟩
    case measure=> simp [intOf];omega
  ·have HR:=hid_ (HI.out.2 fun c a b=> hall.out c a (by omega))
   go_wp2
   go_ret;exact ⟨ret_bool HR.out.symm,rfl⟩
theorem rdigits_any (x p m:Nat) (w:World) (hx:x≤65536) (hp:1≤p) (hp':p≤256) (hm:m≤256):
  Calls Tryz.prog 143 #[.int .i64 x,.int .i64 p,.int .i64 m] w fun r w'=> ∃v,r= .returned v∧(∃g,v= .slice (some ⟨g,0,none⟩) m m∧w.heap.size≤g∧Own w' w.heap.size 3 g m (iv (dig p m x)))∧Ex w w':=by
 go_enter Tryz.func143,Tryz.ntmps143
 go_wp2_with (at_make;refine wpList_make_arr _ rfl _ _ 22 rfl 3 (.int .i64 0) 8 Tryz.underlying22 infoInt rfl _ m rfl rfl rfl (by omega) (by unfold maxLen;omega) ?_)
 intro w1 hown hx1;obtain ⟨g,hg⟩:∃g,w.heap.size=g:=⟨_,rfl⟩;have hown1:Own w1 g 3 g m (iv fun j=> if j < 0 then dig p m x j else 0):=by
  rw [hg] at hown;exact hown.congr fun j _=> by simp [iv]
 have HG:=hid_ hg;simp only [hg];clear hown hg;go_wp2_with fail
 go_loopw [0,8] (fun x' k' wr=> ∃k:Nat,k≤m∧k'= .int .i64 k∧x'= .int .i64 ((x / p ^ k:Nat):Int)∧Own wr g 3 g m (iv fun j=> if j < k then dig p m x j else 0)∧Ex w wr) (fun _ k' _=> m - (intOf k').toNat)
 case atStart=> exact ⟨0,by omega,rfl,by simp,hown1,hx1⟩
 case round=>
  clear hown1 hx1;obtain ⟨k,hk,rfl,rfl,hown,hx1⟩:=hrel;have hxk:x / p ^ k≤65536:=Nat.le_trans (Nat.div_le_self _ _) hx;have HS:=hid_ (show x / p ^ (k + 1)=x / p ^ k / p by rw [Nat.pow_succ,Nat.div_div_eq_div_mul]);have HD:=hid_ (show k < m→dig p m x k=((x / p ^ k % p:Nat):Int) from fun h=> by unfold dig;rw [if_pos h]);generalize x / p ^ k=y at *;by_cases hlt:k < m
  ·have hf:=hown.frz k;have hc:=hown.cell hlt;have HO:=hid_ (hown.set k (.int .i64 ((y:Int) % (p:Int))));have HE:=hid_ (hown.exSet (by rw [HG.out];exact Nat.le_refl _) hx1 k (.int .i64 ((y:Int) % (p:Int))));clear hown hx1;go_wp2_with fail
   go_roundw
   case rel=>
    refine ⟨k + 1,by omega,by go_num,by rw [HS.out,w64_div _ _ (by omega)],?_,HE.out⟩;have:=HO.out;rw [iv_upd] at this;refine this.icongr fun j hj=> ?_;unfold upd;dsimp only;by_cases h:j=k
    ·subst h;rw [if_pos rfl,if_pos (by omega),HD.out hlt];simp
    ·rw [if_neg h];by_cases h2:j < k
     ·rw [if_pos h2,if_pos (by omega)]
     ·rw [if_neg h2,if_neg (by omega)]
   case measure=> simp [intOf];omega
  ·obtain rfl:k=m:=by omega
   have hown':Own wr g 3 g k (iv (dig p k x)):=hown.icongr fun j hj=> by rw [if_pos hj]
   have HO:=hid_ hown';clear hown hown' HD HS;go_wp2_with fail
   go_ret;exact ⟨_,rfl,⟨g,rfl,by rw [HG.out];exact Nat.le_refl _,by rw [HG.out];exact HO.out⟩,hx1⟩
end
section
open Go.RowKit
theorem box_facts (w:World) (p m:Int) (mv:Value):(w.alloc (.cells #[.int .i64 p,.int .i64 m,mv] 24)).cell? ⟨w.heap.size,0,none⟩=some (.int .i64 p)∧
  (w.alloc (.cells #[.int .i64 p,.int .i64 m,mv] 24)).cell? ⟨w.heap.size,1,none⟩=some (.int .i64 m)∧
  (w.alloc (.cells #[.int .i64 p,.int .i64 m,mv] 24)).cell? ⟨w.heap.size,2,none⟩=some mv∧Ex w (w.alloc (.cells #[.int .i64 p,.int .i64 m,mv] 24))∧
  (w.alloc (.cells #[.int .i64 p,.int .i64 m,mv] 24)).heap.size=w.heap.size + 1:=
 ⟨by simp,by simp,by simp,(Ex.refl _).alloc _,by simp⟩
def isI (p m x:Int):Bool:=decide (0≤x∧x < ordS p m)
theorem rIs_any (p m x:Int) (mv:Value) (w:World):
  Calls Tryz.prog 100 #[.agg #[.int .i64 p,.int .i64 m,mv],.int .i64 x] w fun r w'=> r= .returned (.bool (isI p m x))∧Ex w w':=by
 obtain ⟨d0,d1,d2,e0,_⟩:=box_facts w p m mv;have HO:=hid_ (fun w=> rOrder_any p m mv w);have HI:=hid_ (show isI p m x=decide (0≤x∧x < ordS p m) from rfl);generalize ordS p m=q at *;by_cases h0:0≤x
 ·go_enter Tryz.func100,Tryz.ntmps100
  go_wp2_with fail
  generalize w.alloc (.cells #[.int .i64 p,.int .i64 m,mv] 24)=w1 at *;refine (HO.out _).mono ?_;rintro e w2 ⟨rfl,hx⟩;go_wp2_with fail
  go_ret;exact ⟨ret_bool (by rw [HI.out];simp [h0]),e0.trans hx⟩
 ·go_enter Tryz.func100,Tryz.ntmps100
  go_wp2_with fail
  go_ret;exact ⟨ret_bool (by rw [HI.out];simp;omega),e0⟩
theorem FSh.ord {p m:Nat} {ml:List Int} (h:FSh p m ml):ordS p m=((p ^ m:Nat):Int):=by
 obtain ⟨a,b,c,d,e,f⟩:=h;unfold ordS;rw [if_pos ⟨by omega,by omega,by omega,by rw [Int.toNat_natCast,←Int.natCast_pow];omega⟩,Int.toNat_natCast,Int.natCast_pow]
section
variable {p m:Nat} {ml:List Int} {mv:Value}
theorem rIn_any (w:World) (hf:FSh p m ml) (x:Int):
  Calls Tryz.prog 141 #[.agg #[.int .i64 p,.int .i64 m,mv],.int .i64 x] w fun r w'=> r= .returned (.int .i64 (kin (p ^ m) x:Nat))∧Ex w w':=by
 obtain ⟨d0,d1,d2,e0,_⟩:=box_facts w p m mv;have HI:=hid_ (fun w=> rIs_any p m x mv w);have ho:=hf.ord;by_cases h:0≤x∧x < ((p ^ m:Nat):Int)
 ·have HK:=hid_ (show ((kin (p ^ m) x:Nat):Int)=x by unfold kin;rw [if_pos h];omega);rw [show isI p m x=true from decide_eq_true (by rw [ho];exact h)] at HI;clear h ho hf;go_enter Tryz.func141,Tryz.ntmps141
  go_wp2_with fail
  generalize w.alloc (.cells #[.int .i64 p,.int .i64 m,mv] 24)=w1 at *;refine (HI.out _).mono ?_;rintro e w2 ⟨rfl,hx⟩;go_wp2_with fail
  go_ret;exact ⟨ret_int HK.out.symm,e0.trans hx⟩
 ·have HK:=hid_ (show ((kin (p ^ m) x:Nat):Int)=0 by unfold kin;rw [if_neg h];rfl);rw [show isI p m x=false from decide_eq_false (by rw [ho];exact h)] at HI;clear h ho hf;go_enter Tryz.func141,Tryz.ntmps141
  go_wp2_with fail
  generalize w.alloc (.cells #[.int .i64 p,.int .i64 m,mv] 24)=w1 at *;refine (HI.out _).mono ?_;rintro e w2 ⟨rfl,hx⟩;go_wp2_with fail
  go_ret;exact ⟨ret_int HK.out.symm,e0.trans hx⟩
def DgOut (p m:Nat) (x:Nat) (w w':World) (v:Value):Prop:=∃g,v= .slice (some ⟨g,0,none⟩) m m∧Own w' w.heap.size 3 g m (iv (dig p m x))
theorem rDigits_any (w:World) (hf:FSh p m ml) (x:Int):
  Calls Tryz.prog 98 #[.agg #[.int .i64 p,.int .i64 m,mv],.int .i64 x] w fun r w'=> ∃v,r= .returned v∧DgOut p m (kin (p ^ m) x) w w' v∧Ex w w':=by
 obtain ⟨d0,d1,d2,e0,_⟩:=box_facts w p m mv;have HI:=hid_ (fun w=> rIn_any (mv:=mv) w hf x);have p2:=hf.p2;have m8:=hf.m8;have p256:=hf.p256;have hq:=hf.q;have hz:=kin_lt (show 1≤p ^ m from Nat.pow_pos (by omega)) x;generalize kin (p ^ m) x=z at *;have z256:z≤65536:=by omega
 clear hz hf hq;go_enter Tryz.func98,Tryz.ntmps98
 go_wp2_with fail
 generalize w.alloc (.cells #[.int .i64 p,.int .i64 m,mv] 24)=w1 at *;have HW:=hid_ e0.size;obtain ⟨xb,hxb⟩:∃xb,w.heap.size=xb:=⟨_,rfl⟩;rw [hxb] at d0 d1 d2
 try simp only [hxb]
 have HXB:=hid_ hxb;clear hxb
 go_region_held3 (fun w'=> w'.cell? ⟨xb,0,none⟩=some (.int .i64 p)∧w'.cell? ⟨xb,1,none⟩=some (.int .i64 m)∧w'.cell? ⟨xb,2,none⟩=some mv∧Ex w w')
  (first | exact ⟨d0,d1,d2,e0.drew⟩ | exact ⟨hx1.cell d0,hx1.cell d1,hx1.cell d2,e0.drew.trans hx1⟩ | (obtain ⟨k0,k1,k2,k3⟩:=‹_∧_∧_∧Ex w _›;exact ⟨hx1.cell k0,hx1.cell k1,hx1.cell k2,k3.trans hx1⟩))
  ((first
      | (go_at_call 141;refine (HI.out _).mono ?_;rintro e w2 ⟨rfl,hx1⟩)
      | (go_at_call 143;refine (rdigits_any _ _ _ _ z256 (by omega) (by omega) (by omega)).mono ?_;rintro e w3 ⟨v,rfl,⟨g,rfl,hg1,hg2⟩,hx1⟩)))
 go_wp2_with fail
 go_ret;have hE:=(‹_∧_∧_∧Ex w _›).2.2.2;exact ⟨_,rfl,⟨g,rfl,hg2.mono (by
  have:=hx1.size;have h1:=(e0.drew.trans ‹Ex w1.drew w2›).size;omega)⟩,hE⟩
theorem rValue_any (w:World) (hf:FSh p m ml) (l:List Int) (v:Value) (hl:ISl w v l) (hb:∀x∈l,0≤x∧x < p) (hq:p ^ l.length≤65536):
  Calls Tryz.prog 99 #[.agg #[.int .i64 p,.int .i64 m,mv],v] w fun r w'=> r= .returned (.int .i64 (vl p l))∧Ex w w':=by
 obtain ⟨d0,d1,d2,e0,_⟩:=box_facts w p m mv;obtain ⟨a,cap,rfl,s1,s2,s3⟩:=(hl.ex e0).open;have p2:=hf.p2;have p256:=hf.p256;have hp:1≤p:=by omega
 unfold maxLen at s2;have S3:=hid_ s3;have HV:=hid_ (show vl p l=vl p (l.drop 0) from rfl);have HR:=hid_ (show ∀k,0≤vl p (l.drop k)∧vl p (l.drop k) * (p:Int)≤16777216∧vl p (l.drop k)≤65536 from fun k=> by
  obtain ⟨h1,h2⟩:=vl_rng hp (l.drop k) fun x hx=> hb x (List.mem_of_mem_drop hx);have h3:p ^ (l.drop k).length≤p ^ l.length:=Nat.pow_le_pow_right hp (by rw [List.length_drop];omega);have h4:=Int.mul_le_mul (show vl p (l.drop k)≤65536 by omega) (show (p:Int)≤256 by omega) (by omega) (by omega);exact ⟨h1,h4,by omega⟩)
 have HX:=hid_ (show ∀(k:Nat) (x:Int),l[k]?=some x→0≤x∧x≤256 from fun k x h=> by have:=hb x (List.mem_of_getElem? h);omega);have HN:=hid_ (show vl p (l.drop l.length)=0 by rw [List.drop_length];rfl);clear hl s3 hb hq hf;go_enter Tryz.func99,Tryz.ntmps99
 go_wp2_with fail
 generalize w.alloc (.cells #[.int .i64 p,.int .i64 m,mv] 24)=w1 at *
 go_loopw [5,6] (fun x' i' wr=> ∃k:Nat,k≤l.length∧i'= .int .i64 ((k:Int) - 1)∧x'= .int .i64 (vl p (l.drop k))∧Ex w1 wr) (fun _ i' _=> (intOf i' + 1).toNat)
 case atStart=> exact ⟨l.length,by omega,rfl,by rw [HN.out],Ex.refl _⟩
 case round=>
  obtain ⟨k,hk,rfl,rfl,hx⟩:=hrel;obtain ⟨r1,r2,r3⟩:=HR.out k;rcases k with _ | k
  ·have HF:=hid_ HV.out;generalize vl p (l.drop 0)=y at *;go_wp2_with fail
   go_ret;exact ⟨ret_int HF.out.symm,e0.trans hx⟩
  ·have r0:0≤vl p (l.drop (k + 1)) * (p:Int):=Int.mul_nonneg r1 (by omega);obtain ⟨x,hxx⟩:∃x,l[k]?=some x:=⟨_,List.getElem?_eq_getElem (by omega)⟩;obtain ⟨b,o,rfl,hc⟩:=S3.out (by omega);have c1:=hx.cell (hc k x hxx);have c0:=hx.cell d0;obtain ⟨x1,x2⟩:=HX.out k x hxx;have HG:=hid_ (codGo p l k x hxx);have e:(((k + 1:Nat)):Int) - 1=k:=by omega
   rw [e];have hkl:k < l.length:=by omega
   clear hc hxx e;generalize vl p (l.drop (k + 1))=y at *;have i1:IntKind.i64.wrap (y * (p:Int))=y * (p:Int):=IntWalk.i64_in _ (by omega);have i2:IntKind.i64.wrap (y * (p:Int) + x)=y * (p:Int) + x:=IntWalk.i64_in _ (by omega);go_wp2_with fail
   go_quiet (fail)
   clear i1 i2;go_wp2_with fail
   go_roundw
   case rel=> exact ⟨k,by omega,rfl,by rw [HG.out],hx.drewN _⟩
   case measure=> simp [intOf]
end
end
section
open Go.RowKit
section
variable {p m:Nat} {ml:List Int} {mv:Value}
theorem il_mem {n:Nat} {f:Nat→Int} {z:Int} (h:z∈il n f):∃j,j < n∧f j=z:=by
 obtain ⟨j,hj,rfl⟩:=List.mem_map.1 h;exact ⟨j,List.mem_range.1 hj,rfl⟩
theorem upd_step {α:Type} (A B:Nat→α) (i:Nat):∀j,upd (fun j=> if j < i then A j else B j) i (A i) j=if j < i + 1 then A j else B j:=fun j=> by
 unfold upd;by_cases h:j=i
 ·subst h;rw [if_pos rfl,if_pos (by omega)]
 ·rw [if_neg h];dsimp only;by_cases h2:j < i
  ·rw [if_pos h2,if_pos (by omega)]
  ·rw [if_neg h2,if_neg (by omega)]
theorem rAdd_any (w:World) (hf:FSh p m ml) (hmv:ISl w mv ml) (x y:Int):
  Calls Tryz.prog 186 #[.agg #[.int .i64 p,.int .i64 m,mv],.int .i64 x,.int .i64 y] w fun r w'=> r= .returned (.int .i64 (kadd p m (kin (p ^ m) x) (kin (p ^ m) y):Nat))∧Ex w w':=by
 obtain ⟨d0,d1,d2,e0,hsz⟩:=box_facts w p m mv;have HDX:=hid_ (fun w=> rDigits_any (mv:=mv) w hf x);have HDY:=hid_ (fun w=> rDigits_any (mv:=mv) w hf y);have HVL:=hid_ (fun w l v h1 h2 h3=> rValue_any (mv:=mv) w hf l v h1 h2 h3);have p2:=hf.p2;have m8:=hf.m8;have p256:=hf.p256;have hq:=hf.q;have HK:=hid_ (kadd_cod (show 1≤p by omega) m (kin (p ^ m) x) (kin (p ^ m) y));generalize kin (p ^ m) x=z at *;generalize kin (p ^ m) y=t at *;have HXR:=hid_ (dig_rng (show 1≤p by omega) m z);have HYR:=hid_ (dig_rng (show 1≤p by omega) m t);have HQ:=hid_ hq;clear hf hmv hq;go_enter Tryz.func186,Tryz.ntmps186
 go_wp2_with fail
 generalize w.alloc (.cells #[.int .i64 p,.int .i64 m,mv] 24)=w1 at *;refine (HDX.out _).mono ?_;rintro e w2 ⟨v,rfl,⟨g,rfl,hg⟩,hx2⟩;have r0:=hx2.cell d0;have r1:=hx2.cell d1;have r2:=hx2.cell d2;go_wp2_with fail
 refine (HDY.out _).mono ?_;rintro e w3 ⟨v,rfl,⟨k,rfl,hk⟩,hx3⟩;have hgk:g≠k:=by
  have:=hg.lt.2;have:=hk.lt.1;omega
 have HGA:=hid_ (show Own w3 w1.heap.size 3 g m (iv fun j=> if j < 0 then (dig p m z j + dig p m t j) % (p:Int) else dig p m z j) from (hg.ex hx3).icongr fun j _=> by simp);have HGB:=hid_ (hk.mono (show w1.heap.size≤w2.heap.size from hx2.size));have hx13:=hx2.trans hx3;have HE:=hid_ e0;have HS:=hid_ (e0.size);have s0:=hx13.cell d0;have s1:=hx13.cell d1;have s2:=hx13.cell d2;clear hg hk hx2 hx3 r0 r1 r2 e0 hsz;go_wp2_with fail
 clear s0 s1 s2
 go_loopw [9] (fun i' wr=> ∃i:Nat,i≤m∧i'= .int .i64 i∧Hid (Own wr w1.heap.size 3 g m (iv fun j=> if j < i then (dig p m z j + dig p m t j) % (p:Int) else dig p m z j))∧Hid (Own wr w1.heap.size 3 k m (iv (dig p m t)))∧Ex w1 wr) (fun i' _=> m - (intOf i').toNat)
 case atStart=> exact ⟨0,by omega,rfl,HGA,HGB,hx13⟩
 case round=>
  clear HGA HGB hx13;obtain ⟨i,hi,rfl,hga,hgb,hx⟩:=hrel;have c0:=hx.cell d0;have c1:=hx.cell d1;have c2:=hx.cell d2;by_cases hlt:i < m
  ·have ca:wr.cell? ⟨g,i,none⟩=some (.int .i64 (dig p m z i)):=by rw [hga.out.cell hlt];unfold iv;simp
   have cb:wr.cell? ⟨k,i,none⟩=some (.int .i64 (dig p m t i)):=hgb.out.cell hlt;have fa:=hga.out.frz i;obtain ⟨z1,z2⟩:=HXR.out i;obtain ⟨t1,t2⟩:=HYR.out i;have HSA:=hid_ (hga.out.set i (.int .i64 ((dig p m z i + dig p m t i) % (p:Int))));have HSB:=hid_ (hgb.out.other (a:=⟨g,i,none⟩) hgk.symm (.int .i64 ((dig p m z i + dig p m t i) % (p:Int))));have HSX:=hid_ (hga.out.exSet (Nat.le_refl _) hx i (.int .i64 ((dig p m z i + dig p m t i) % (p:Int))));have HEQ:=hid_ (upd_step (fun j=> (dig p m z j + dig p m t j) % (p:Int)) (fun j=> dig p m z j) i);have HGO:Hid (Own (wr.setCell ⟨g,i,none⟩ (.int .i64 ((dig p m z i + dig p m t i) % (p:Int)))) w1.heap.size 3 g m (iv fun j=> if j < i + 1 then (dig p m z j + dig p m t j) % (p:Int) else dig p m z j)):=hid_ (by
    have:=HSA.out;rw [iv_upd] at this;exact this.icongr fun j _=> HEQ.out j)
   clear HSA HEQ hga hgb;generalize dig p m z i=u at *;generalize dig p m t i=v at *;have i1:IntKind.i64.wrap (u + v)=u + v:=IntWalk.i64_in _ (by omega);have i2:(u + v).tmod (p:Int)=(u + v) % (p:Int):=Int.tmod_eq_emod_of_nonneg (by omega);have p0:¬p=0:=by omega
   go_wp2_with fail
   go_still_tail 15,(by kernel_rfl)
   change wpList _ _ _ _ _ wr.drew
   clear i1 i2;go_wp2_with fail
   go_roundw
   case rel=> exact ⟨i + 1,by omega,by go_num,hid_ HGO.out.drew,hid_ HSB.out.drew,HSX.out.drew⟩
   case measure=> simp [intOf];omega
  ·obtain rfl:i=m:=by omega
   have hown:Own wr w1.heap.size 3 g i (iv fun j=> (dig p i z j + dig p i t j) % (p:Int)):=hga.out.icongr fun j hj=> if_pos hj;have HL:=hid_ hown.isl;have HB:=hid_ (show ∀a∈il i (fun j=> (dig p i z j + dig p i t j) % (p:Int)),0≤a∧a < p from fun a ha=> by
    obtain ⟨j,_,rfl⟩:=il_mem ha;exact ⟨Int.emod_nonneg _ (by omega),Int.emod_lt_of_pos _ (by omega)⟩)
   have HQ2:=hid_ (show p ^ (il i (fun j=> (dig p i z j + dig p i t j) % (p:Int))).length≤65536 by rw [il_length];have:=HQ.out;omega);have HR:=hid_ (show vl p (il i (fun j=> (dig p i z j + dig p i t j) % (p:Int)))=((kadd p i z t:Nat):Int) by rw [vl_il,HK.out]);clear hown hga hgb;go_wp2_with fail
   refine (HVL.out _ _ _ HL.out HB.out HQ2.out).mono ?_;rintro e w4 ⟨rfl,hx4⟩;go_wp2_with fail
   go_ret;exact ⟨ret_int HR.out,(HE.out.trans hx).trans hx4⟩
theorem rNeg_any (w:World) (hf:FSh p m ml) (x:Int):
  Calls Tryz.prog 177 #[.agg #[.int .i64 p,.int .i64 m,mv],.int .i64 x] w fun r w'=> r= .returned (.int .i64 (kneg p m (kin (p ^ m) x):Nat))∧Ex w w':=by
 obtain ⟨d0,d1,d2,e0,hsz⟩:=box_facts w p m mv;have HDX:=hid_ (fun w=> rDigits_any (mv:=mv) w hf x);have HVL:=hid_ (fun w l v h1 h2 h3=> rValue_any (mv:=mv) w hf l v h1 h2 h3);have p2:=hf.p2;have m8:=hf.m8;have p256:=hf.p256;have hq:=hf.q;have HK:=hid_ (kneg_cod (show 1≤p by omega) m (kin (p ^ m) x));generalize kin (p ^ m) x=z at *;obtain ⟨F,hF⟩:∃F:Nat→Int,(fun j=> ((p:Int) - dig p m z j) % (p:Int))=F:=⟨_,rfl⟩;have HFJ:=hid_ (fun j=> congrFun hF j);have HFR:=hid_ (show ∀j,0≤F j∧F j < p from fun j=> by rw [←hF];exact ⟨Int.emod_nonneg _ (by omega),Int.emod_lt_of_pos _ (by omega)⟩);rw [hF] at HK;clear hF;have HXR:=hid_ (dig_rng (show 1≤p by omega) m z);have HQ:=hid_ hq;clear hf hq;go_enter Tryz.func177,Tryz.ntmps177
 go_wp2_with fail
 generalize w.alloc (.cells #[.int .i64 p,.int .i64 m,mv] 24)=w1 at *;refine (HDX.out _).mono ?_;rintro e w2 ⟨v,rfl,⟨g,rfl,hg⟩,hx2⟩;have HGA:=hid_ (show Own w2 w1.heap.size 3 g m (iv fun j=> if j < 0 then F j else dig p m z j) from hg.icongr fun j _=> by simp);have HE:=hid_ e0;have s0:=hx2.cell d0;have s1:=hx2.cell d1;have s2:=hx2.cell d2;clear hg e0 hsz;go_wp2_with fail
 clear s0 s1 s2
 go_loopw [6] (fun i' wr=> ∃i:Nat,i≤m∧i'= .int .i64 i∧Hid (Own wr w1.heap.size 3 g m (iv fun j=> if j < i then F j else dig p m z j))∧Ex w1 wr) (fun i' _=> m - (intOf i').toNat)
 case atStart=> exact ⟨0,by omega,rfl,HGA,hx2⟩
 case round=>
  clear HGA hx2;obtain ⟨i,hi,rfl,hga,hx⟩:=hrel;have c0:=hx.cell d0;have c1:=hx.cell d1;have c2:=hx.cell d2;by_cases hlt:i < m
  ·have ca:wr.cell? ⟨g,i,none⟩=some (.int .i64 (dig p m z i)):=by rw [hga.out.cell hlt];unfold iv;simp
   have fa:=hga.out.frz i;obtain ⟨z1,z2⟩:=HXR.out i;have HSA:=hid_ (hga.out.set i (.int .i64 (F i)));have HSX:=hid_ (hga.out.exSet (Nat.le_refl _) hx i (.int .i64 (F i)));have HEQ:=hid_ (upd_step F (fun j=> dig p m z j) i);have HGO:Hid (Own (wr.setCell ⟨g,i,none⟩ (.int .i64 (F i))) w1.heap.size 3 g m (iv fun j=> if j < i + 1 then F j else dig p m z j)):=hid_ (by
    have:=HSA.out;rw [iv_upd] at this;exact this.icongr fun j _=> HEQ.out j)
   clear HSA HEQ hga;have i3:((p:Int) - dig p m z i) % (p:Int)=F i:=HFJ.out i;have HI3:=hid_ i3;clear i3;generalize dig p m z i=u at *;have i1:IntKind.i64.wrap ((p:Int) - u)=(p:Int) - u:=IntWalk.i64_in _ (by omega);have i2:((p:Int) - u).tmod (p:Int)=F i:=by rw [Int.tmod_eq_emod_of_nonneg (by omega)];exact HI3.out
   have p0:¬p=0:=by omega
   go_wp2_with fail
   go_still_tail 13,(by kernel_rfl)
   change wpList _ _ _ _ _ wr.drew
   clear i1 i2;go_wp2_with fail
   go_roundw
   case rel=> exact ⟨i + 1,by omega,by go_num,hid_ HGO.out.drew,HSX.out.drew⟩
   case measure=> simp [intOf];omega
  ·obtain rfl:i=m:=by omega
   have hown:Own wr w1.heap.size 3 g i (iv F):=hga.out.icongr fun j hj=> if_pos hj;have HL:=hid_ hown.isl;have HB:=hid_ (show ∀a∈il i F,0≤a∧a < p from fun a ha=> by
    obtain ⟨j,_,rfl⟩:=il_mem ha;exact HFR.out j)
   have HQ2:=hid_ (show p ^ (il i F).length≤65536 by rw [il_length];have:=HQ.out;omega);have HR:=hid_ (show vl p (il i F)=((kneg p i z:Nat):Int) by rw [vl_il,HK.out]);clear hown hga;go_wp2_with fail
   refine (HVL.out _ _ _ HL.out HB.out HQ2.out).mono ?_;rintro e w4 ⟨rfl,hx4⟩;go_wp2_with fail
   go_ret;exact ⟨ret_int HR.out,(HE.out.trans hx).trans hx4⟩
end
end
end Go.Proofs.YtgdmlmhpineibaaGreat
