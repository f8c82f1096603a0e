/- Walks of the methods of a field: Is, in, Neg, Add. -/
import Derived.Test.YtgdmlmhpineibaaGreatZg05
namespace Go.Proofs.YtgdmlmhpineibaaGreat
set_option linter.unusedVariables false
set_option linter.unusedSimpArgs false
set_option maxRecDepth 100000
set_option maxHeartbeats 1000000
section
open Go.RowKit
def Qt (w:World) (v:Value) (r:Ending) (w':World):Prop:=r= .returned v∧∃n,w'=w.drewN n
def kin (q:Nat) (x:Int):Nat:=if 0≤x∧x < q then x.toNat else 0
theorem kin_lt {q:Nat} (hq:1≤q) (x:Int):kin q x < q:=by
 unfold kin;split <;> omega
theorem kin_of {q:Nat} {x:Nat} (h:x < q):kin q x=x:=by
 unfold kin;rw [if_pos (by omega)];rfl
def isB (q:Nat) (x:Int):Bool:=decide (0≤x∧x < q)
theorem cod_tail {p:Nat} {v:Vc} {k:Nat} (h:∀j,k≤j→v j=0):∀n,k≤n→cod p n v=cod p k v
 | 0,hk=> by
   obtain rfl:k=0:=by omega
   rfl
 | n + 1,hk=> by
  rcases Nat.eq_or_lt_of_le hk with e | e
  ·rw [e]
  ·simp only [cod];rw [cod_tail h n (by omega),h n (by omega)];simp
theorem kadd_cod {p:Nat} (hp:1≤p) (m x y:Nat):((kadd p m x y:Nat):Int)=cod p m (fun j=> (dig p m x j + dig p m y j) % (p:Int)):=by
 unfold kadd rep;rw [Int.toNat_of_nonneg (cod_rng (fun j=> ⟨Int.emod_nonneg _ (by omega),Int.emod_lt_of_pos _ (by omega)⟩) m).1]
theorem kneg_cod {p:Nat} (hp:1≤p) (m x:Nat):((kneg p m x:Nat):Int)=cod p m (fun j=> ((p:Int) - dig p m x j) % (p:Int)):=by
 unfold kneg rep;rw [Int.toNat_of_nonneg (cod_rng (fun j=> ⟨Int.emod_nonneg _ (by omega),Int.emod_lt_of_pos _ (by omega)⟩) m).1];refine cod_congr m fun j _=> ?_;exact eqm_iff.2 ⟨-1,by grind⟩
theorem dig_at {p m x k:Nat} (hk:k < m):dig p m x k=((x / p ^ k % p:Nat):Int):=by unfold dig;rw [if_pos hk]
theorem dig_done {p m x k:Nat} (h:x / p ^ k=0) (hp:1≤p) {j:Nat} (hj:k≤j):dig p m x j=0:=by
 unfold dig;split
 ·obtain ⟨c,rfl⟩:∃c,j=k + c:=⟨j - k,by omega⟩;rw [Nat.pow_add,←Nat.div_div_eq_div_mul,h,Nat.zero_div];simp
 ·rfl
section
variable {b p m x0:Nat} {ml:List Int}
theorem Is_any (w:World) (hg:GFat w b p m ml x0) (x:Int):
  Calls Tryz.prog 49 #[.pointer (some ⟨b,0,none⟩),.int .i64 x] w (Qt w (.bool (isB (p ^ m) x))):=by
 have c3:=hg.c3;have HB:=hid_ (show isB (p ^ m) x=decide (0≤x∧x < ((p ^ m:Nat):Int)) from rfl);generalize p ^ m=q at *;clear hg;by_cases h0:0≤x
 ·go_enter Tryz.func49,Tryz.ntmps49
  go_wp2
  go_ret;exact ⟨ret_bool (by rw [HB.out];simp [h0]),0,rfl⟩
 ·go_enter Tryz.func49,Tryz.ntmps49
  go_wp2
  go_ret;exact ⟨ret_bool (by rw [HB.out];simp;omega),0,rfl⟩
theorem in_any (w:World) (hg:GFat w b p m ml x0) (x:Int):
  Calls Tryz.prog 91 #[.pointer (some ⟨b,0,none⟩),.int .i64 x] w (Qt w (.int .i64 (kin (p ^ m) x:Nat))):=by
 have HI:=hid_ (Is_any w hg x);by_cases h:0≤x∧x < ((p ^ m:Nat):Int)
 ·have HK:=hid_ (show ((kin (p ^ m) x:Nat):Int)=x by unfold kin;rw [if_pos h];omega);rw [show isB (p ^ m) x=true from decide_eq_true h] at HI;generalize p ^ m=q at *;clear hg h;go_enter Tryz.func91,Tryz.ntmps91
  go_wp2_with fail
  refine HI.out.mono ?_;rintro e w1 ⟨rfl,n,rfl⟩;go_wp2_with fail
  go_ret;exact ⟨ret_int HK.out.symm,n,rfl⟩
 ·have HK:=hid_ (show ((kin (p ^ m) x:Nat):Int)=0 by unfold kin;rw [if_neg h];rfl);rw [show isB (p ^ m) x=false from decide_eq_false h] at HI;generalize p ^ m=q at *;clear hg h;go_enter Tryz.func91,Tryz.ntmps91
  go_wp2_with fail
  refine HI.out.mono ?_;rintro e w1 ⟨rfl,n,rfl⟩;go_wp2_with fail
  go_ret;exact ⟨ret_int HK.out.symm,n,rfl⟩
theorem GFat.drewN {w:World} (h:GFat w b p m ml x0) (n:Nat):GFat (w.drewN n) b p m ml x0:=h.ex ((Ex.refl w).drewN n)
theorem Neg_any (w:World) (hg:GFat w b p m ml x0) (x:Int):
  Calls Tryz.prog 126 #[.pointer (some ⟨b,0,none⟩),.int .i64 x] w (Qt w (.int .i64 (kneg p m (kin (p ^ m) x):Nat))):=by
 have HI:=hid_ (in_any w hg x);have c0:=hg.c0;have p2:=hg.sh.p2;have m1:=hg.sh.m1;have m8:=hg.sh.m8;have hq:=hg.sh.q;have p256:=hg.sh.p256;have hz:kin (p ^ m) x < p ^ m:=kin_lt (Nat.pow_pos (by omega)) x;generalize kin (p ^ m) x=z at *;have HK:=hid_ (kneg_cod (show 1≤p by omega) m z);have HST:=hid_ (show ∀k,k < m→cod p (k + 1) (fun j=> ((p:Int) - dig p m z j) % (p:Int))=cod p k (fun j=> ((p:Int) - dig p m z j) % (p:Int)) + ((p:Int) - ((z / p ^ k % p:Nat):Int)) % (p:Int) * ((p ^ k:Nat):Int) from fun k hk=> by
  simp only [cod];rw [dig_at hk])
 have HR:=hid_ (fun k=> cod_rng (v:=fun j=> ((p:Int) - dig p m z j) % (p:Int)) (fun j=> ⟨Int.emod_nonneg _ (by omega),Int.emod_lt_of_pos _ (by omega)⟩) k);have HE:=hid_ (show ∀k,k≤m→z / p ^ k=0→((kneg p m z:Nat):Int)=cod p k (fun j=> ((p:Int) - dig p m z j) % (p:Int)) from fun k hk h=> by
  rw [HK.out];refine cod_tail (fun j hj=> ?_) m hk;rw [dig_done h (by omega) hj];simp)
 have HPL:=hid_ (show ∀k,k≤m→p ^ k≤256 from fun k hk=> Nat.le_trans (Nat.pow_le_pow_right (by omega) hk) hq);have HM:=hid_ (show ∀k,m≤k→z / p ^ k=0 from fun k hk=> Nat.div_eq_of_lt (Nat.lt_of_lt_of_le hz (Nat.pow_le_pow_right (by omega) hk)));have HD:=hid_ (show ∀k,z / p ^ (k + 1)=z / p ^ k / p from fun k=> by rw [Nat.pow_succ,Nat.div_div_eq_div_mul]);have HPS:=hid_ (fun k=> Nat.pow_succ p k);have z256:z < 256:=by omega
 have HC0:=hid_ c0;clear hg c0 HK;obtain ⟨C,hC⟩:∃C:Nat→Int,(fun k=> cod p k (fun j=> ((p:Int) - dig p m z j) % (p:Int)))=C:=⟨_,rfl⟩;have hCk:∀k,cod p k (fun j=> ((p:Int) - dig p m z j) % (p:Int))=C k:=fun k=> congrFun hC k;simp only [hCk] at HST HR HE;have HC1:=hid_ (show C 0=0 by rw [←hCk];rfl);clear hC hCk hz;go_enter Tryz.func126,Tryz.ntmps126
 go_wp2_with fail
 refine HI.out.mono ?_;rintro e w1 ⟨rfl,n0,rfl⟩;go_wp2_with fail
 go_loopw [1,5,6] (fun z' o' q' wr=> ∃k n:Nat,k≤m∧z'= .int .i64 ((z / p ^ k:Nat):Int)∧o'= .int .i64 (C k)∧q'= .int .i64 ((p ^ k:Nat):Int)∧wr=w.drewN n) (fun _ _ q' _=> 300 - (intOf q').toNat)
 case atStart=> exact ⟨0,n0,by omega,by simp,by rw [HC1.out],by simp,rfl⟩
 case round=>
  obtain ⟨k,n,hk,rfl,rfl,rfl,rfl⟩:=hrel;have hdz:z / p ^ k≤z:=Nat.div_le_self _ _;have hpl:=HPL.out k hk;have hpp:1≤p ^ k:=Nat.pow_pos (by omega);obtain ⟨r1,r2⟩:=HR.out k;have HS:=hid_ (HST.out k);have HE2:=hid_ (HE.out k hk);have HM2:=hid_ (HM.out k);have HD2:=hid_ (HD.out k);have HP2:=hid_ (HPS.out k);have r0:=HC0.out;generalize z / p ^ k=y at *;generalize p ^ k=pk at *;by_cases hy:y=0
  ·subst hy;have HF:=hid_ (HE2.out rfl);go_wp2_with fail
   go_ret;exact ⟨ret_int HF.out.symm,n,rfl⟩
  ·have hkm:k < m:=by
    rcases Nat.lt_or_ge k m with h | h
    ·exact h
    ·exact absurd (HM2.out h) hy
   have HS2:=hid_ (HS.out hkm);have hpl2:=HPL.out (k + 1) hkm;rw [HP2.out] at hpl2;have hy0:0 < y:=by omega
   have hym:=Nat.mod_lt y (show 0 < p by omega);have HYD:=hid_ (Nat.div_lt_self hy0 (show 1 < p by omega));have HYW:=hid_ (w64_div y p (by omega));have i1:(y:Int).tmod (p:Int)=((y % p:Nat):Int):=by rw [Int.tmod_eq_emod_of_nonneg (by omega)];rfl
   generalize y % p=u at *;have d1:=Int.emod_nonneg ((p:Int) - u) (show (p:Int)≠0 by omega);have d2:=Int.emod_lt_of_pos ((p:Int) - u) (show 0 < (p:Int) by omega);have i3:((p:Int) - u).tmod (p:Int)=((p:Int) - u) % (p:Int):=Int.tmod_eq_emod_of_nonneg (by omega);generalize ((p:Int) - u) % (p:Int)=D at *;have d3:0≤D * (pk:Int):=Int.mul_nonneg d1 (by omega);have d4:D * (pk:Int)≤65536:=by
    have:=Int.mul_le_mul (show D≤256 by omega) (show (pk:Int)≤256 by omega) (by omega) (by omega);omega
   have d5:(pk:Int) * (p:Int)=((pk * p:Nat):Int):=by simp
   have d6:0≤(pk:Int) * (p:Int):=by omega
   have d7:(pk:Int) * (p:Int)≤256:=by omega
   have p0:¬p=0:=by omega
   have i2:IntKind.i64.wrap ((p:Int) - u)=(p:Int) - u:=IntWalk.i64_in _ (by omega);have i4:IntKind.i64.wrap (D * (pk:Int))=D * (pk:Int):=IntWalk.i64_in _ (by omega);have i5:IntKind.i64.wrap (C k + D * (pk:Int))=C k + D * (pk:Int):=IntWalk.i64_in _ (by omega);clear HS HE2 HM2 hy;have D5:=hid_ d5;have D8:=hid_ (show (pk:Int) < (pk:Int) * (p:Int) by rw [d5];have:=Nat.mul_le_mul_left pk p2;omega);clear d5;go_wp2_with fail
   go_quiet (fail)
   clear i1 i2 i3 i4 i5;go_wp2_with fail
   go_roundw
   case rel=> exact ⟨k + 1,_,hkm,by rw [HD2.out,←HYW.out],by rw [HS2.out],by rw [HP2.out,D5.out],rfl⟩
   case measure=> have h1:=D8.out;simp [intOf];omega
theorem dig_two {m z j:Nat} (hj:j < m):dig 2 m z j=if z.testBit j then 1 else 0:=by
 rw [dig_at hj,Nat.testBit_eq_decide_div_mod_eq];have:z / 2 ^ j % 2=0∨z / 2 ^ j % 2=1:=by omega
 rcases this with h | h <;> simp [h]
theorem kadd_two {m x y:Nat} (hx:x < 2 ^ m) (hy:y < 2 ^ m):kadd 2 m x y=x ^^^ y:=by
 have hz:x ^^^ y < 2 ^ m:=Nat.xor_lt_two_pow hx hy;unfold kadd;rw [←rep_dig (m:=m) (show 1≤2 by omega) hz];refine rep_congr fun j=> ?_;by_cases hj:j < m
 ·rw [dig_two hj,dig_two hj,dig_two hj,Nat.testBit_xor];cases x.testBit j <;> cases y.testBit j <;> rfl
 ·rw [dig_sup 2 m x j (by omega),dig_sup 2 m y j (by omega),dig_sup 2 m _ j (by omega)];rfl
theorem xor_i64 {x y:Nat} (hx:x < 2 ^ 62) (hy:y < 2 ^ 62):bits BinOp.xor IntKind.i64 (x:Int) (y:Int)=((x ^^^ y:Nat):Int):=by
 have hz:x ^^^ y < 2 ^ 62:=Nat.xor_lt_two_pow hx hy;have h1:(BitVec.ofInt 64 (x:Int)).toNat=x:=by
  rw [BitVec.ofInt_natCast,BitVec.toNat_ofNat];exact Nat.mod_eq_of_lt (by omega)
 have h2:(BitVec.ofInt 64 (y:Int)).toNat=y:=by
  rw [BitVec.ofInt_natCast,BitVec.toNat_ofNat];exact Nat.mod_eq_of_lt (by omega)
 show IntKind.i64.wrap ((BitVec.ofInt 64 (x:Int) ^^^ BitVec.ofInt 64 (y:Int)).toNat:Int)=_
 rw [BitVec.toNat_xor,h1,h2,IntWalk.i64_in _ (by omega)]
theorem Add_any (w:World) (hg:GFat w b p m ml x0) (x y:Int):
  Calls Tryz.prog 94 #[.pointer (some ⟨b,0,none⟩),.int .i64 x,.int .i64 y] w (Qt w (.int .i64 (kadd p m (kin (p ^ m) x) (kin (p ^ m) y):Nat))):=by
 have HI:=hid_ (fun n x=> in_any (w.drewN n) (hg.drewN n) x);have HI0:=hid_ (in_any w hg x);have c0:=hg.c0;have p2:=hg.sh.p2;have m1:=hg.sh.m1;have m8:=hg.sh.m8;have hq:=hg.sh.q;have p256:=hg.sh.p256;have hz:kin (p ^ m) x < p ^ m:=kin_lt (Nat.pow_pos (by omega)) x;have ht:kin (p ^ m) y < p ^ m:=kin_lt (Nat.pow_pos (by omega)) y;have HIY:=hid_ (fun n=> HI.out n y);clear HI;generalize kin (p ^ m) x=z at *;generalize kin (p ^ m) y=s at *;have z256:z < 256:=by omega
 have s256:s < 256:=by omega
 have HC0:=hid_ c0;by_cases h2:p=2
 ·subst h2;have HX:=hid_ (kadd_two hz ht);have HB:=hid_ (xor_i64 (x:=z) (y:=s) (by omega) (by omega));clear hg c0 hz ht hq;go_enter Tryz.func94,Tryz.ntmps94
  go_wp2_with fail
  refine HI0.out.mono ?_;rintro e w1 ⟨rfl,n0,rfl⟩;go_wp2_with fail
  refine (HIY.out n0).mono ?_;rintro e w1 ⟨rfl,n1,rfl⟩;have c0:=HC0.out;go_wp2_with fail
  go_ret;exact ⟨ret_int (by rw [HX.out,←HB.out]),_,rfl⟩
 ·have HK:=hid_ (kadd_cod (show 1≤p by omega) m z s);have HST:=hid_ (show ∀k,k < m→cod p (k + 1) (fun j=> (dig p m z j + dig p m s j) % (p:Int))=cod p k (fun j=> (dig p m z j + dig p m s j) % (p:Int)) + (((z / p ^ k % p:Nat):Int) + ((s / p ^ k % p:Nat):Int)) % (p:Int) * ((p ^ k:Nat):Int) from fun k hk=> by
   simp only [cod];rw [dig_at hk,dig_at hk])
  have HR:=hid_ (fun k=> cod_rng (v:=fun j=> (dig p m z j + dig p m s j) % (p:Int)) (fun j=> ⟨Int.emod_nonneg _ (by omega),Int.emod_lt_of_pos _ (by omega)⟩) k);have HE:=hid_ (show ∀k,k≤m→z / p ^ k=0→s / p ^ k=0→((kadd p m z s:Nat):Int)=cod p k (fun j=> (dig p m z j + dig p m s j) % (p:Int)) from fun k hk h h'=> by
   rw [HK.out];refine cod_tail (fun j hj=> ?_) m hk;rw [dig_done h (by omega) hj,dig_done h' (by omega) hj];simp)
  have HPL:=hid_ (show ∀k,k≤m→p ^ k≤256 from fun k hk=> Nat.le_trans (Nat.pow_le_pow_right (by omega) hk) hq);have HM:=hid_ (show ∀k,m≤k→z / p ^ k=0 from fun k hk=> Nat.div_eq_of_lt (Nat.lt_of_lt_of_le hz (Nat.pow_le_pow_right (by omega) hk)));have HMS:=hid_ (show ∀k,m≤k→s / p ^ k=0 from fun k hk=> Nat.div_eq_of_lt (Nat.lt_of_lt_of_le ht (Nat.pow_le_pow_right (by omega) hk)));have HD:=hid_ (show ∀z k,z / p ^ (k + 1)=z / p ^ k / p from fun z k=> by rw [Nat.pow_succ,Nat.div_div_eq_div_mul]);have HPS:=hid_ (fun k=> Nat.pow_succ p k);have hp2:((p:Int)==2)=false:=by simp;omega
  clear hg c0 HK;obtain ⟨C,hC⟩:∃C:Nat→Int,(fun k=> cod p k (fun j=> (dig p m z j + dig p m s j) % (p:Int)))=C:=⟨_,rfl⟩;have hCk:∀k,cod p k (fun j=> (dig p m z j + dig p m s j) % (p:Int))=C k:=fun k=> congrFun hC k;simp only [hCk] at HST HR HE;have HC1:=hid_ (show C 0=0 by rw [←hCk];rfl);clear hC hCk hz ht h2;go_enter Tryz.func94,Tryz.ntmps94
  go_wp2_with fail
  refine HI0.out.mono ?_;rintro e w1 ⟨rfl,n0,rfl⟩;go_wp2_with fail
  refine (HIY.out n0).mono ?_;rintro e w1 ⟨rfl,n1,rfl⟩;have c0:=HC0.out;go_wp2_with fail
  clear c0
  go_loopw [1,2,7,8] (fun z' s' o' q' wr=> ∃k n:Nat,k≤m∧z'= .int .i64 ((z / p ^ k:Nat):Int)∧s'= .int .i64 ((s / p ^ k:Nat):Int)∧o'= .int .i64 (C k)∧q'= .int .i64 ((p ^ k:Nat):Int)∧wr=w.drewN n) (fun _ _ _ q' _=> 300 - (intOf q').toNat)
  case atStart=> exact ⟨0,_,by omega,by simp,by simp,by rw [HC1.out],by simp,rfl⟩
  case round=>
   obtain ⟨k,n,hk,rfl,rfl,rfl,rfl,rfl⟩:=hrel;have hdz:z / p ^ k≤z:=Nat.div_le_self _ _;have hds:s / p ^ k≤s:=Nat.div_le_self _ _;have hpl:=HPL.out k hk;have hpp:1≤p ^ k:=Nat.pow_pos (by omega);obtain ⟨r1,r2⟩:=HR.out k;have HS:=hid_ (HST.out k);have HE2:=hid_ (HE.out k hk);have HM2:=hid_ (HM.out k);have HM3:=hid_ (HMS.out k);have HD2:=hid_ (HD.out z k);have HD3:=hid_ (HD.out s k);have HP2:=hid_ (HPS.out k);have r0:=HC0.out;generalize z / p ^ k=y at *;generalize s / p ^ k=t at *;generalize p ^ k=pk at *;by_cases hy:y=0∧t=0
   ·obtain ⟨rfl,rfl⟩:=hy;have HF:=hid_ (HE2.out rfl rfl);go_wp2_with fail
    go_ret;exact ⟨ret_int HF.out.symm,n,rfl⟩
   ·have hkm:k < m:=by
     rcases Nat.lt_or_ge k m with h | h
     ·exact h
     ·exact absurd ⟨HM2.out h,HM3.out h⟩ hy
    have HS2:=hid_ (HS.out hkm);have hpl2:=HPL.out (k + 1) hkm;rw [HP2.out] at hpl2;have hc:0 < y∨(y=0∧0 < t):=by omega
    have hym:=Nat.mod_lt y (show 0 < p by omega);have htm:=Nat.mod_lt t (show 0 < p by omega);have HYW:=hid_ (w64_div y p (by omega));have HTW:=hid_ (w64_div t p (by omega));have i1:(y:Int).tmod (p:Int)=((y % p:Nat):Int):=by rw [Int.tmod_eq_emod_of_nonneg (by omega)];rfl
    have i1':(t:Int).tmod (p:Int)=((t % p:Nat):Int):=by rw [Int.tmod_eq_emod_of_nonneg (by omega)];rfl
    obtain ⟨u,hu⟩:∃u,y % p=u:=⟨_,rfl⟩;have HU:=hid_ hu;rw [hu] at hym i1 HS2;clear hu;generalize t % p=v at *;have d1:=Int.emod_nonneg ((u:Int) + v) (show (p:Int)≠0 by omega);have d2:=Int.emod_lt_of_pos ((u:Int) + v) (show 0 < (p:Int) by omega);have i3:((u:Int) + v).tmod (p:Int)=((u:Int) + v) % (p:Int):=Int.tmod_eq_emod_of_nonneg (by omega);obtain ⟨D,hD⟩:∃D,((u:Int) + v) % (p:Int)=D:=⟨_,rfl⟩;have HDD:=hid_ hD;rw [hD] at d1 d2 i3 HS2;clear hD;have d3:0≤D * (pk:Int):=Int.mul_nonneg d1 (by omega);have d4:D * (pk:Int)≤65536:=by
     have:=Int.mul_le_mul (show D≤256 by omega) (show (pk:Int)≤256 by omega) (by omega) (by omega);omega
    have d5:(pk:Int) * (p:Int)=((pk * p:Nat):Int):=by simp
    have d6:0≤(pk:Int) * (p:Int):=by omega
    have d7:(pk:Int) * (p:Int)≤256:=by omega
    have p0:¬p=0:=by omega
    have i2:IntKind.i64.wrap ((u:Int) + v)=(u:Int) + v:=IntWalk.i64_in _ (by omega);have i4:IntKind.i64.wrap (D * (pk:Int))=D * (pk:Int):=IntWalk.i64_in _ (by omega);have i5:IntKind.i64.wrap (C k + D * (pk:Int))=C k + D * (pk:Int):=IntWalk.i64_in _ (by omega);clear HS HE2 HM2 HM3 hy;have D5:=hid_ d5;have D8:=hid_ (show (pk:Int) < (pk:Int) * (p:Int) by rw [d5];have:=Nat.mul_le_mul_left pk p2;omega);clear d5;rcases hc with hc | ⟨hc1,hc2⟩
    ·have hb1:decide (0 < (y:Int))=true:=by simpa using hc
     go_wp2_with fail
     go_quiet (fail)
     clear i1 i1' i2 i3 i4 i5;go_wp2_with fail
     go_roundw
     case rel=> exact ⟨k + 1,_,hkm,by rw [HD2.out,←HYW.out],by rw [HD3.out,←HTW.out],by rw [HS2.out],by rw [HP2.out,D5.out],rfl⟩
     case measure=> have h1:=D8.out;simp [intOf];omega
    ·have hb2:decide (0 < (t:Int))=true:=by simpa using hc2
     subst hc1;obtain rfl:u=0:=by rw [←HU.out,Nat.zero_mod]
     have i6:IntKind.i64.wrap (v:Int)=(v:Int):=IntWalk.i64_in _ (by omega);have i7:(v:Int).tmod (p:Int)=D:=by rw [Int.tmod_eq_emod_of_nonneg (by omega),←HDD.out];simp
     have HZ:=hid_ (show (0:Nat) / p=0 from Nat.zero_div p);clear i1 i2 i3;go_wp2_with fail
     go_quiet (fail)
     clear i1' i4 i5 i6 i7;go_wp2_with fail
     go_roundw
     case rel=> exact ⟨k + 1,_,hkm,by rw [HD2.out,HZ.out];rfl,by rw [HD3.out,←HTW.out],by rw [HS2.out],by rw [HP2.out,D5.out],rfl⟩
     case measure=> have h1:=D8.out;simp [intOf];omega
end
end
section
open Go.RowKit
def kinv (p m:Nat) (ml:List Int) (z:Nat):Nat:=((List.range (p ^ m)).find? fun y=> decide (1≤y) && kmul p m (lw ml) z y==1).getD 0
theorem kinv_eq {p m:Nat} {ml:List Int} (hp:2≤p) (hm:1≤m) (hF:IsF p m (lw ml)) {z y:Nat} (hz:z < p ^ m) (hz1:1≤z) (hy:y < p ^ m) (h:kmul p m (lw ml) z y=1):kinv p m ml z=y:=by
 have hy1:1≤y:=by
  rcases Nat.eq_zero_or_pos y with e | e
  ·subst e;rw [kmul_comm,kmul_zero (by omega)] at h;omega
  ·exact e
 unfold kinv;rcases hf:(List.range (p ^ m)).find? (fun y=> decide (1≤y) && kmul p m (lw ml) z y==1) with _ | i
 ·exfalso;have:=List.find?_eq_none.1 hf y (List.mem_range.2 hy);simp [hy1,h] at this
 ·have h1:=List.find?_some hf;have h2:=List.mem_range.1 (List.mem_of_find?_eq_some hf);simp at h1;exact hF.cancel hp hm hz1 hz h2 hy (by rw [Option.getD_some,kmul_comm i z,h1.2,kmul_comm y z,h])
section
variable {b p m x0:Nat} {ml:List Int}
theorem GFat.isF {w:World} (hg:GFat w b p m ml x0) (h1:1≤x0) (h2:x0 < p ^ m):IsF p m (lw ml):=⟨x0,h1,h2,hg.gen⟩
theorem Mul_any (w:World) (hg:GFat w b p m ml x0) (x y:Int):
  Calls Tryz.prog 59 #[.pointer (some ⟨b,0,none⟩),.int .i64 x,.int .i64 y] w (Qt w (.int .i64 (kmul p m (lw ml) (kin (p ^ m) x) (kin (p ^ m) y):Nat))):=by
 have HI:=hid_ (fun n x=> in_any (w.drewN n) (hg.drewN n) x);have HI0:=hid_ (in_any w hg x);have p2:=hg.sh.p2;have m1:=hg.sh.m1;have hq:=hg.sh.q;have hq1:=one_lt_q p2 m1;have c3:=hg.c3;obtain ⟨ev,c4,he⟩:=hg.c4;obtain ⟨lv,f,c5,hl,hf⟩:=hg.c5;obtain ⟨ea,ec,rfl,e1,e2,e3⟩:=he.open;obtain ⟨la,lc,rfl,l1,l2,l3⟩:=hl.open;rw [il_length] at *;obtain ⟨eb,eo,rfl,e4⟩:=e3 (by omega);obtain ⟨lb,lo,rfl,l4⟩:=l3 (by omega);have hz:kin (p ^ m) x < p ^ m:=kin_lt (by omega) x;have ht:kin (p ^ m) y < p ^ m:=kin_lt (by omega) y;have HIY:=hid_ (fun n=> HI.out n y);clear HI e3 l3 he hl;unfold maxLen at e2 l2;generalize kin (p ^ m) x=z at *;generalize kin (p ^ m) y=t at *;by_cases h0:z=0
 ·subst h0;have HZ:=hid_ (kmul_zero (m:=m) (low:=lw ml) (show 1≤p by omega) t);clear hg c3 c4 c5 hz ht hq hq1 hf e4 l4 e1 e2 l1 l2;go_enter Tryz.func59,Tryz.ntmps59
  go_wp2_with fail
  refine HI0.out.mono ?_;rintro e w1 ⟨rfl,n0,rfl⟩;go_wp2_with fail
  refine (HIY.out n0).mono ?_;rintro e w1 ⟨rfl,n1,rfl⟩;go_wp2_with fail
  go_ret;exact ⟨ret_int (by rw [HZ.out];rfl),_,rfl⟩
 ·have z1:1≤z:=by omega
  have hzb:((z:Int)==0)=false:=by simp;omega
  by_cases h1:t=0
  ·subst h1;have HZ:=hid_ (show kmul p m (lw ml) z 0=0 by rw [kmul_comm];exact kmul_zero (show 1≤p by omega) z);clear hg c3 c4 c5 hz ht hq hq1 hf e4 l4 e1 e2 l1 l2 h0;go_enter Tryz.func59,Tryz.ntmps59
   go_wp2_with fail
   refine HI0.out.mono ?_;rintro e w1 ⟨rfl,n0,rfl⟩;go_wp2_with fail
   refine (HIY.out n0).mono ?_;rintro e w1 ⟨rfl,n1,rfl⟩;go_wp2_with fail
   go_ret;exact ⟨ret_int (by rw [HZ.out];rfl),_,rfl⟩
  ·have t1:1≤t:=by omega
   have htb:((t:Int)==0)=false:=by simp;omega
   obtain ⟨i,hi,hzi⟩:=hg.gen.all p2 m1 z1 hz;obtain ⟨j,hj,htj⟩:=hg.gen.all p2 m1 t1 ht;have hlz:=l4 z (f z) (il_get hz f);have hlt:=l4 t (f t) (il_get ht f);have hfz:=hf i hi;have hft:=hf j hj;rw [hzi] at hfz;rw [htj] at hft;rw [hfz] at hlz;rw [hft] at hlt;obtain ⟨r,hr⟩:∃r,(i + j) % (p ^ m - 1)=r:=⟨_,rfl⟩;have hrq:r < p ^ m - 1:=by rw [←hr];exact Nat.mod_lt _ (by omega)
   have her:=e4 r _ (il_get hrq _);have hpr:pwI p m ml x0 r=((kmul p m (lw ml) z t:Nat):Int):=by
    unfold pwI;rw [←hr,hg.gen.mod p2 m1,kpw_add p2 m1,hzi,htj]
   rw [hpr] at her;have HTM:Hid (((i:Int) + j).tmod (((p ^ m:Nat):Int) - 1)=(r:Int)):=hid_ (by
    rw [Int.tmod_eq_emod_of_nonneg (by omega),←hr,Int.natCast_emod]
    congr 1
    omega)
   generalize kmul p m (lw ml) z t=kz at *;generalize p ^ m=q at *;have C3:=hid_ c3;have C4:=hid_ c4;have C5:=hid_ c5;clear hg hf e4 l4 hfz hft hzi htj hr hpr h0 h1 c3 c4 c5;go_enter Tryz.func59,Tryz.ntmps59
   go_wp2_with fail
   refine HI0.out.mono ?_;rintro e w1 ⟨rfl,n0,rfl⟩;go_wp2_with fail
   refine (HIY.out n0).mono ?_;rintro e w1 ⟨rfl,n1,rfl⟩;have c3:=C3.out;have c4:=C4.out;have c5:=C5.out;have i1:IntKind.i64.wrap ((i:Int) + j)=(i:Int) + j:=IntWalk.i64_in _ (by omega);have i2:IntKind.i64.wrap ((q:Int) - 1)=(q:Int) - 1:=IntWalk.i64_in _ (by omega);have i3:=HTM.out;have i4:¬q=1:=by omega
   have i5:¬((q:Int) - 1=0):=by omega
   go_wp2_with fail
   go_quiet (fail)
   go_wp2_with fail
   go_ret;exact ⟨rfl,_,World.drewN_drewN _ _ _⟩
def invR (p m:Nat) (ml:List Int) (z:Nat):Value:=if z=0 then .tuple #[.int .i64 0,.int .i64 7] else .tuple #[.int .i64 (kinv p m ml z:Nat),.int .i64 0]
theorem Inv_any (w:World) (hg:GFat w b p m ml x0) (hx1:1≤x0) (hx2:x0 < p ^ m) (x:Int):
  Calls Tryz.prog 52 #[.pointer (some ⟨b,0,none⟩),.int .i64 x] w (Qt w (invR p m ml (kin (p ^ m) x))):=by
 have HI0:=hid_ (in_any w hg x);have hF:=hg.isF hx1 hx2;have p2:=hg.sh.p2;have m1:=hg.sh.m1;have hq:=hg.sh.q;have hq1:=one_lt_q p2 m1;have c3:=hg.c3;obtain ⟨ev,c4,he⟩:=hg.c4;obtain ⟨lv,f,c5,hl,hf⟩:=hg.c5;obtain ⟨ea,ec,rfl,e1,e2,e3⟩:=he.open;obtain ⟨la,lc,rfl,l1,l2,l3⟩:=hl.open;rw [il_length] at *;obtain ⟨eb,eo,rfl,e4⟩:=e3 (by omega);obtain ⟨lb,lo,rfl,l4⟩:=l3 (by omega);have hz:kin (p ^ m) x < p ^ m:=kin_lt (by omega) x;clear e3 l3 he hl;unfold maxLen at e2 l2;generalize kin (p ^ m) x=z at *;by_cases h0:z=0
 ·subst h0;have HZ:=hid_ (show invR p m ml 0= .tuple #[.int .i64 0,.int .i64 7] from rfl);clear hg c3 c4 c5 hz hq hq1 hf e4 l4 e1 e2 l1 l2;go_enter Tryz.func52,Tryz.ntmps52
  go_wp2_with fail
  refine HI0.out.mono ?_;rintro e w1 ⟨rfl,n0,rfl⟩;go_wp2_with fail
  go_ret2;exact ⟨by rw [HZ.out];rfl,_,rfl⟩
 ·have z1:1≤z:=by omega
  have hzb:((z:Int)==0)=false:=by simp;omega
  obtain ⟨i,hi,hzi⟩:=hg.gen.all p2 m1 z1 hz;have hlz:=l4 z (f z) (il_get hz f);have hfz:=hf i hi;rw [hzi] at hfz;rw [hfz] at hlz;obtain ⟨r,hr⟩:∃r,(p ^ m - 1 - i) % (p ^ m - 1)=r:=⟨_,rfl⟩;have hrq:r < p ^ m - 1:=by rw [←hr];exact Nat.mod_lt _ (by omega)
  have her:=e4 r _ (il_get hrq _);have hinv:=hg.gen.inv p2 m1 hi;rw [hr,hzi] at hinv;have hk:=kinv_eq p2 m1 hF hz z1 (kpw_lt p2 m1 _ _) hinv;have hpr:pwI p m ml x0 r=((kinv p m ml z:Nat):Int):=by unfold pwI;rw [hk]
  rw [hpr] at her;have HZ:=hid_ (show invR p m ml z= .tuple #[.int .i64 (kinv p m ml z:Nat),.int .i64 0] by unfold invR;rw [if_neg h0]);have HTM:Hid ((((p ^ m:Nat):Int) - 1 - (i:Int)).tmod (((p ^ m:Nat):Int) - 1)=(r:Int)):=hid_ (by
   rw [Int.tmod_eq_emod_of_nonneg (by omega),←hr,Int.natCast_emod]
   congr 1
   ·omega
   ·omega)
  generalize kinv p m ml z=kz at *;generalize p ^ m=q at *;have C3:=hid_ c3;have C4:=hid_ c4;have C5:=hid_ c5;clear hg hF hf e4 l4 hfz hzi hr hpr h0 c3 c4 c5 hinv hk;go_enter Tryz.func52,Tryz.ntmps52
  go_wp2_with fail
  refine HI0.out.mono ?_;rintro e w1 ⟨rfl,n0,rfl⟩;have c3:=C3.out;have c4:=C4.out;have c5:=C5.out;have i1:IntKind.i64.wrap ((q:Int) - 1 - (i:Int))=(q:Int) - 1 - i:=IntWalk.i64_in _ (by omega);have i2:IntKind.i64.wrap ((q:Int) - 1)=(q:Int) - 1:=IntWalk.i64_in _ (by omega);have i3:=HTM.out;have i4:¬q=1:=by omega
  have i5:¬((q:Int) - 1=0):=by omega
  go_wp2_with fail
  go_quiet (fail)
  go_wp2_with fail
  go_ret2;exact ⟨by rw [HZ.out];rfl,_,World.drewN_drewN _ _ _⟩
theorem kinv_lt {p m:Nat} {ml:List Int} (hq:1≤p ^ m) (z:Nat):kinv p m ml z < p ^ m:=by
 unfold kinv;rcases hf:(List.range (p ^ m)).find? (fun y=> decide (1≤y) && kmul p m (lw ml) z y==1) with _ | i
 ·show 0 < p ^ m;omega
 ·exact List.mem_range.1 (List.mem_of_find?_eq_some hf)
def kdot (p m:Nat) (ml:List Int):List Int→List Int→Nat→Nat
 | x :: l,y :: k,s=> kdot p m ml l k (kadd p m s (kmul p m (lw ml) (kin (p ^ m) x) (kin (p ^ m) y)))
 | _,_,s=> s
theorem kdot_step {p m:Nat} {ml:List Int}:∀(l k:List Int) (i:Nat) (s:Nat) (x y:Int),l[i]?=some x→k[i]?=some y→
  kdot p m ml (l.take (i + 1)) (k.take (i + 1)) s=kadd p m (kdot p m ml (l.take i) (k.take i) s) (kmul p m (lw ml) (kin (p ^ m) x) (kin (p ^ m) y))
 | [],k,i,s,x,y,h,_=> by simp at h
 | a :: l, [],i,s,x,y,_,h=> by simp at h
 | a :: l,c :: k,0,s,x,y,h,h'=> by
  simp at h h';subst h;subst h';cases l <;> cases k <;> simp [kdot]
 | a :: l,c :: k,i + 1,s,x,y,h,h'=> by
  simp only [List.take_succ_cons,kdot];exact kdot_step l k i _ x y (by simpa using h) (by simpa using h')
theorem kdot_lt {p m:Nat} {ml:List Int} (hp:1≤p):∀(l k:List Int) (s:Nat),s < p ^ m→kdot p m ml l k s < p ^ m
 | x :: l,y :: k,s,_=> kdot_lt hp l k _ (kadd_lt hp _ _)
 | [],_,s,h=> by simpa [kdot] using h
 | _ :: _, [],s,h=> by simpa [kdot] using h
theorem kdot_take {p m:Nat} {ml:List Int}:∀(l k:List Int) (i s:Nat),min l.length k.length≤i→kdot p m ml (l.take i) (k.take i) s=kdot p m ml l k s
 | [],k,i,s,_=> by simp [kdot]
 | a :: l, [],i,s,_=> by cases i <;> simp [kdot]
 | a :: l,c :: k,0,s,h=> by simp at h
 | a :: l,c :: k,i + 1,s,h=> by
  simp only [List.take_succ_cons,kdot];exact kdot_take l k i _ (by simp at h;omega)
end
end
end Go.Proofs.YtgdmlmhpineibaaGreat
