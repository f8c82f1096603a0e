/- Walks of the methods of a field: Is, in, Neg, Add. -/
import Derived.Test.YtehieobniamagaaGreatZs01
namespace Go.Proofs.YtehieobniamagaaGreat
open Go.RowKit
set_option linter.all false
set_option maxRecDepth 100000
set_option maxHeartbeats 1000000
def Qt(w:World)(v:Value)(r:Ending)(w':World):Prop:=r= .returned v/\∃n,w'=w.drewN n
def Ar(q:Nat)(x:Int):Nat:=if 0<=x/\x<q then x.toNat else 0
theorem B9{q:Nat}(hq:1<=q)(x:Int):Ar q x<q:=by
 unfold Ar;split <;> omega
theorem Ay{q:Nat}{x:Nat}(h:x<q):Ar q x=x:=by
 unfold Ar;rw[if_pos ac];rfl
def Gj(q:Nat)(x:Int):Bool:=decide (0<=x/\x<q)
theorem LQ{p:Nat}{v:Vc}{k:Nat}(h:∀j,k<=j->v j=0):∀n,k<=n->Ey p n v=Ey p k v
 | 0,hk=>by
   obtain rfl:k=0:=ac;rfl
 | n+1,hk=>by
  rcases Nat.eq_or_lt_of_le hk with e|e
  .rw[e]
  .simp only[Ey];rw[LQ h n ac,h n ac];simp
theorem Qd{p:Nat}(hp:1<=p)(m x y:Nat):((AG p m x y:Nat):Int)=Ey p m (fun j=>(AK p m x j+AK p m y j)%(p:Int)):=by
 unfold AG rep;rw[Int.toNat_of_nonneg (Dj (fun j=>⟨Int.emod_nonneg _ ac,Int.emod_lt_of_pos _ ac⟩) m).1]
theorem Qc{p:Nat}(hp:1<=p)(m x:Nat):((CH p m x:Nat):Int)=Ey p m (fun j=>((p:Int)-AK p m x j)%(p:Int)):=by
 unfold CH rep;rw[Int.toNat_of_nonneg (Dj (fun j=>⟨Int.emod_nonneg _ ac,Int.emod_lt_of_pos _ ac⟩) m).1];refine DW m fun j _=>?_;exact Cw.2 ⟨-1,by grind⟩
theorem OQ{p m x k:Nat}(hk:k<m):AK p m x k=((x/p^k%p:Nat):Int):=by unfold AK;rw[if_pos hk]
theorem LD{p m x k:Nat}(h:x/p^k=0)(hp:1<=p){j:Nat}(hj:k<=j):AK p m x j=0:=by
 unfold AK;split
 .obtain⟨c,rfl⟩:∃c,j=k+c:=⟨j-k,ac⟩;rw[Nat.pow_add,<-Nat.div_div_eq_div_mul,h,Nat.zero_div];simp
 .rfl
section
variable {b p m x0:Nat} {ml:List Int}
theorem O3(w:World)(hg:Bh w b p m ml x0)(x:Int):
  Calls Tryz.prog 199 #[.pointer (some (b,0)),x] w (Qt w (.bool (Gj (p^m) x))):=by
 have c3:=hg.c3;have HB:=Aa (show Gj (p^m) x=decide (0<=x/\x<((p^m:Nat):Int)) from rfl);generalize p^m=q at *;clear hg;by_cases h0:0<=x
 .go_enter Tryz.func199,Tryz.ntmps199
  go_wp2
  go_ret;exact⟨Ap (by rw[HB.o];simp[h0]),0,rfl⟩
 .go_enter Tryz.func199,Tryz.ntmps199
  go_wp2
  go_ret;exact⟨Ap (by rw[HB.o];simp;omega),0,rfl⟩
theorem zbu{P:Prop}(h:P:=by
 generalize p^m=q at *;clear hg h;go_enter Tryz.func160,Tryz.ntmps160
 go_wp2_with fail
 refine HI.o.mono ?_;rintro e w1⟨rfl,n,rfl⟩;go_wp2_with fail
 go_ret;exact⟨Af HK.o.symm,n,rfl⟩):P:=h
theorem Hy(w:World)(hg:Bh w b p m ml x0)(x:Int):
  Calls Tryz.prog 160 #[.pointer (some (b,0)),x] w (Qt w (.int .i64 (Ar (p^m) x:Nat))):=by
 have HI:=Aa (O3 w hg x);by_cases h:0<=x/\x<((p^m:Nat):Int)
 .have HK:=Aa (show((Ar (p^m) x:Nat):Int)=x by unfold Ar;rw[if_pos h];omega);rw[show Gj (p^m) x=true from decide_eq_true h]at HI;exact zbu
 .have HK:=Aa (show((Ar (p^m) x:Nat):Int)=0 by unfold Ar;rw[if_neg h];rfl);rw[show Gj (p^m) x=false from decide_eq_false h]at HI;exact zbu
theorem Bh.drewN{w:World}(h:Bh w b p m ml x0)(n:Nat):Bh (w.drewN n) b p m ml x0:=h.ex ((Ex.refl w).drewN n)
theorem zb5{P:Prop}(h:P:=by
 have:=Int.mul_le_mul (show D<=256 by omega) (show(pk:Int)<=256 by omega) (by omega) (by omega);omega):P:=h
theorem OY(w:World)(hg:Bh w b p m ml x0)(x:Int):
  Calls Tryz.prog 158 #[.pointer (some (b,0)),x] w (Qt w (.int .i64 (CH p m (Ar (p^m) x):Nat))):=by
 have HI:=Aa (Hy w hg x);have c0:=hg.c0;have p2:=hg.sh.p2;have m1:=hg.sh.m1;have m8:=hg.sh.m8;have hq:=hg.sh.q;have p256:=hg.sh.p256;have hz:Ar (p^m) x<p^m:=B9 (Nat.pow_pos ac) x;generalize Ar (p^m) x=z at *;have HK:=Aa (Qc (show 1<=p by omega) m z);have aD:=Aa (show ∀k,k<m->Ey p (k+1) (fun j=>((p:Int)-AK p m z j)%(p:Int))=Ey p k (fun j=>((p:Int)-AK p m z j)%(p:Int))+((p:Int)-((z/p^k%p:Nat):Int))%(p:Int)*((p^k:Nat):Int) from fun k hk=>by
  simp only[Ey];rw[OQ hk])
 have HR:=Aa (fun k=>Dj (v:=fun j=>((p:Int)-AK p m z j)%(p:Int)) (fun j=>⟨Int.emod_nonneg _ ac,Int.emod_lt_of_pos _ ac⟩) k);have HE:=Aa (show ∀k,k<=m->z/p^k=0->((CH p m z:Nat):Int)=Ey p k (fun j=>((p:Int)-AK p m z j)%(p:Int)) from fun k hk h=>by
  rw[HK.o];refine LQ (fun j hj=>?_) m hk;rw[LD h ac hj];simp)
 obtain⟨aE,HM,HD,aL⟩:=Eq (show ∀k,k<=m->p^k<=256 from fun k hk=>Nat.le_trans (Nat.pow_le_pow_right ac hk) hq) (show ∀k,m<=k->z/p^k=0 from fun k hk=>Nat.div_eq_of_lt (Nat.lt_of_lt_of_le hz (Nat.pow_le_pow_right ac hk))) (show ∀k,z/p^(k+1)=z/p^k/p from fun k=>by rw[Nat.pow_succ,Nat.div_div_eq_div_mul]) (fun k=>Nat.pow_succ p k);have z256:z<256:=by omega
 have aO:=Aa c0;clear hg c0 HK;obtain⟨C,hC⟩:∃C:Nat->Int,(fun k=>Ey p k (fun j=>((p:Int)-AK p m z j)%(p:Int)))=C:=⟨_,rfl⟩;have aC:∀k,Ey p k (fun j=>((p:Int)-AK p m z j)%(p:Int))=C k:=fun k=>congrFun hC k;simp only[aC]at aD HR HE;have aN:=Aa (show C 0=0 by rw[<-aC];rfl);clear hC aC hz;go_enter Tryz.func158,Tryz.ntmps158
 go_wp2_with fail
 refine HI.o.mono ?_;rintro e w1⟨rfl,n0,rfl⟩;go_wp2_with fail
 go_loopw [1,5,6] (fun z' o' q' wr=>∃k n:Nat,k<=m/\z'= .int .i64 ((z/p^k:Nat):Int)/\o'= .int .i64 (C k)/\q'= .int .i64 ((p^k:Nat):Int)/\wr=w.drewN n) (fun _ _ q' _=>300-(intOf q').toNat)
 case atStart=>exact⟨0,n0,ac,ag,by rw[aN.o],ag,rfl⟩
 case round=>
  obtain⟨k,n,hk,rfl,rfl,rfl,rfl⟩:=hrel;have hdz:z/p^k<=z:=Nat.div_le_self _ _;have hpl:=aE.o k hk;have hpp:1<=p^k:=Nat.pow_pos ac;obtain⟨r1,r2⟩:=HR.o k;obtain⟨HS,aH,aG,aM,aF⟩:=Of (aD.o k) (HE.o k hk) (HM.o k) (HD.o k) (aL.o k);have r0:=aO.o;generalize z/p^k=y at *;generalize p^k=pk at *;by_cases hy:y=0
  .subst hy;have HF:=Aa (aH.o rfl);go_wp2_with fail
   go_ret;exact⟨Af HF.o.symm,n,rfl⟩
  .have aB:k<m:=by
    rcases Nat.lt_or_ge k m with h|h
    .exact h
    .exact absurd (aG.o h) hy
   have aK:=Aa (HS.o aB);have aA:=aE.o (k+1) aB;rw[aF.o]at aA;have aI:0<y:=ac;have hym:=Nat.mod_lt y (show 0<p by omega);have HYD:=Aa (Nat.div_lt_self aI (show 1<p by omega));have aJ:=Aa (Ic y p ac);have i1:(y:Int).tmod (p:Int)=((y%p:Nat):Int):=by rw[Int.tmod_eq_emod_of_nonneg ac];rfl
   generalize y%p=u at *;have d1:=Int.emod_nonneg ((p:Int)-u) (show(p:Int)≠0 by omega);have d2:=Int.emod_lt_of_pos ((p:Int)-u) (show 0<(p:Int) by omega);have i3:((p:Int)-u).tmod (p:Int)=((p:Int)-u)%(p:Int):=Int.tmod_eq_emod_of_nonneg ac;generalize ((p:Int)-u)%(p:Int)=D at *;have d3:0<=D*(pk:Int):=Int.mul_nonneg d1 ac;have d4:D*(pk:Int)<=65536:=by
    exact zb5
   have d5:(pk:Int)*(p:Int)=((pk*p:Nat):Int):=ag;have d6:0<=(pk:Int)*(p:Int):=ac;have d7:(pk:Int)*(p:Int)<=256:=ac;have p0:¬p=0:=ac;have i2:IntKind.i64.wrap ((p:Int)-u)=(p:Int)-u:=IntWalk.i64_in _ ac;have i4:IntKind.i64.wrap (D*(pk:Int))=D*(pk:Int):=IntWalk.i64_in _ ac;have i5:IntKind.i64.wrap (C k+D*(pk:Int))=C k+D*(pk:Int):=IntWalk.i64_in _ ac;clear HS aH aG hy;have D5:=Aa d5;have D8:=Aa (show(pk:Int)<(pk:Int)*(p:Int) by rw[d5];have:=Nat.mul_le_mul_left pk p2;omega);clear d5;go_wp2_with fail
   go_quiet (fail)
   clear i1 i2 i3 i4 i5;go_wp2_with fail
   go_roundw
   case rel=>exact⟨k+1,_,aB,by rw[aM.o,<-aJ.o],by rw[aK.o],by rw[aF.o,D5.o],rfl⟩
   case measure=>have h1:=D8.o;simp[intOf];omega
theorem OO{m z j:Nat}(hj:j<m):AK 2 m z j=if z.testBit j then 1 else 0:=by
 rw[OQ hj,Nat.testBit_eq_decide_div_mod_eq];have:z/2^j%2=0∨z/2^j%2=1:=ac;rcases this with h|h <;> simp[h]
theorem WG{m x y:Nat}(hx:x<2^m)(hy:y<2^m):AG 2 m x y=x ^^^ y:=by
 have hz:x ^^^ y<2^m:=Nat.xor_lt_two_pow hx hy;unfold AG;rw[<-Kb (m:=m) (show 1<=2 by omega) hz];refine Fq fun j=>?_;by_cases hj:j<m
 .rw[OO hj,OO hj,OO hj,Nat.testBit_xor];cases x.testBit j <;> cases y.testBit j <;> rfl
 .rw[Bq 2 m x j ac,Bq 2 m y j ac,Bq 2 m _ j ac];rfl
theorem zcG{P:Prop}(h:P:=by
 rw[BitVec.ofInt_natCast,BitVec.toNat_ofNat];exact Nat.mod_eq_of_lt (by omega)):P:=h
theorem Yj{x y:Nat}(hx:x<2^62)(hy:y<2^62):bits BinOp.xor IntKind.i64 (x:Int) (y:Int)=((x ^^^ y:Nat):Int):=by
 have hz:x ^^^ y<2^62:=Nat.xor_lt_two_pow hx hy;have h1:(BitVec.ofInt 64 (x:Int)).toNat=x:=by
  exact zcG
 have h2:(BitVec.ofInt 64 (y:Int)).toNat=y:=by
  exact zcG
 show IntKind.i64.wrap ((BitVec.ofInt 64 (x:Int) ^^^ BitVec.ofInt 64 (y:Int)).toNat:Int)=_
 rw[BitVec.toNat_xor,h1,h2,IntWalk.i64_in _ ac]
theorem Kr(w:World)(hg:Bh w b p m ml x0)(x y:Int):
  Calls Tryz.prog 163 #[.pointer (some (b,0)),x,y] w (Qt w (.int .i64 (AG p m (Ar (p^m) x) (Ar (p^m) y):Nat))):=by
 have HI:=Aa (fun n x=>Hy (w.drewN n) (hg.drewN n) x);have aN:=Aa (Hy w hg x);have c0:=hg.c0;have p2:=hg.sh.p2;have m1:=hg.sh.m1;have m8:=hg.sh.m8;have hq:=hg.sh.q;have p256:=hg.sh.p256;have hz:Ar (p^m) x<p^m:=B9 (Nat.pow_pos ac) x;have ht:Ar (p^m) y<p^m:=B9 (Nat.pow_pos ac) y;have aM:=Aa (fun n=>HI.o n y);clear HI;generalize Ar (p^m) x=z at *;generalize Ar (p^m) y=s at *;have z256:z<256:=bf;have s256:s<256:=ac;have aF:=Aa c0;by_cases h2:p=2
 .subst h2;have HX:=Aa (WG hz ht);have HB:=Aa (Yj (x:=z) (y:=s) ac ac);clear hg c0 hz ht hq;go_enter Tryz.func163,Tryz.ntmps163
  go_wp2_with fail
  refine aN.o.mono ?_;rintro e w1⟨rfl,n0,rfl⟩;go_wp2_with fail
  refine(aM.o n0).mono ?_;rintro e w1⟨rfl,n1,rfl⟩;have c0:=aF.o;go_wp2_with fail
  go_ret;exact⟨Af (by rw[HX.o,<-HB.o]),_,rfl⟩
 .have HK:=Aa (Qd (show 1<=p by omega) m z s);have aI:=Aa (show ∀k,k<m->Ey p (k+1) (fun j=>(AK p m z j+AK p m s j)%(p:Int))=Ey p k (fun j=>(AK p m z j+AK p m s j)%(p:Int))+(((z/p^k%p:Nat):Int)+((s/p^k%p:Nat):Int))%(p:Int)*((p^k:Nat):Int) from fun k hk=>by
   simp only[Ey];rw[OQ hk,OQ hk])
  have HR:=Aa (fun k=>Dj (v:=fun j=>(AK p m z j+AK p m s j)%(p:Int)) (fun j=>⟨Int.emod_nonneg _ ac,Int.emod_lt_of_pos _ ac⟩) k);have HE:=Aa (show ∀k,k<=m->z/p^k=0->s/p^k=0->((AG p m z s:Nat):Int)=Ey p k (fun j=>(AK p m z j+AK p m s j)%(p:Int)) from fun k hk h h'=>by
   rw[HK.o];refine LQ (fun j hj=>?_) m hk;rw[LD h ac hj,LD h' ac hj];simp)
  obtain⟨aJ,HM,aU,HD,aT⟩:=Of (show ∀k,k<=m->p^k<=256 from fun k hk=>Nat.le_trans (Nat.pow_le_pow_right ac hk) hq) (show ∀k,m<=k->z/p^k=0 from fun k hk=>Nat.div_eq_of_lt (Nat.lt_of_lt_of_le hz (Nat.pow_le_pow_right ac hk))) (show ∀k,m<=k->s/p^k=0 from fun k hk=>Nat.div_eq_of_lt (Nat.lt_of_lt_of_le ht (Nat.pow_le_pow_right ac hk))) (show ∀z k,z/p^(k+1)=z/p^k/p from fun z k=>by rw[Nat.pow_succ,Nat.div_div_eq_div_mul]) (fun k=>Nat.pow_succ p k);have hp2:((p:Int)==2)=false:=by simp;omega
  clear hg c0 HK;obtain⟨C,hC⟩:∃C:Nat->Int,(fun k=>Ey p k (fun j=>(AK p m z j+AK p m s j)%(p:Int)))=C:=⟨_,rfl⟩;have aD:∀k,Ey p k (fun j=>(AK p m z j+AK p m s j)%(p:Int))=C k:=fun k=>congrFun hC k;simp only[aD]at aI HR HE;have aW:=Aa (show C 0=0 by rw[<-aD];rfl);clear hC aD hz ht h2;go_enter Tryz.func163,Tryz.ntmps163
  go_wp2_with fail
  refine aN.o.mono ?_;rintro e w1⟨rfl,n0,rfl⟩;go_wp2_with fail
  refine(aM.o n0).mono ?_;rintro e w1⟨rfl,n1,rfl⟩;have c0:=aF.o;go_wp2_with fail
  clear c0
  go_loopw [1,2,7,8] (fun z' s' o' q' wr=>∃k n:Nat,k<=m/\z'= .int .i64 ((z/p^k:Nat):Int)/\s'= .int .i64 ((s/p^k:Nat):Int)/\o'= .int .i64 (C k)/\q'= .int .i64 ((p^k:Nat):Int)/\wr=w.drewN n) (fun _ _ _ q' _=>300-(intOf q').toNat)
  case atStart=>exact⟨0,_,ac,ag,ag,by rw[aW.o],ag,rfl⟩
  case round=>
   obtain⟨k,n,hk,rfl,rfl,rfl,rfl,rfl⟩:=hrel;have hdz:z/p^k<=z:=Nat.div_le_self _ _;have hds:s/p^k<=s:=Nat.div_le_self _ _;have hpl:=aJ.o k hk;have hpp:1<=p^k:=Nat.pow_pos ac;obtain⟨r1,r2⟩:=HR.o k;obtain⟨HS,aO,aL,aK,aQ,aP,aE⟩:=OK (aI.o k) (HE.o k hk) (HM.o k) (aU.o k) (HD.o z k) (HD.o s k) (aT.o k);have r0:=aF.o;generalize z/p^k=y at *;generalize s/p^k=t at *;generalize p^k=pk at *;by_cases hy:y=0/\t=0
   .obtain⟨rfl,rfl⟩:=hy;have HF:=Aa (aO.o rfl rfl);go_wp2_with fail
    go_ret;exact⟨Af HF.o.symm,n,rfl⟩
   .have aA:k<m:=by
     rcases Nat.lt_or_ge k m with h|h
     .exact h
     .exact absurd ⟨aL.o h,aK.o h⟩ hy
    have aB:=Aa (HS.o aA);have aC:=aJ.o (k+1) aA;rw[aE.o]at aC;have hc:0<y∨(y=0/\0<t):=ac;have aR:=Nat.mod_lt y (show 0<p by omega);have htm:=Nat.mod_lt t (show 0<p by omega);have aS:=Aa (Ic y p ac);have aH:=Aa (Ic t p ac);have i1:(y:Int).tmod (p:Int)=((y%p:Nat):Int):=by rw[Int.tmod_eq_emod_of_nonneg ac];rfl
    have aG:(t:Int).tmod (p:Int)=((t%p:Nat):Int):=by rw[Int.tmod_eq_emod_of_nonneg ac];rfl
    obtain⟨u,hu⟩:=nA (y%p);have HU:=Aa hu;rw[hu]at aR i1 aB;clear hu;generalize t%p=v at *;have d1:=Int.emod_nonneg ((u:Int)+v) (show(p:Int)≠0 by omega);have d2:=Int.emod_lt_of_pos ((u:Int)+v) (show 0<(p:Int) by omega);have i3:((u:Int)+v).tmod (p:Int)=((u:Int)+v)%(p:Int):=Int.tmod_eq_emod_of_nonneg ac;obtain⟨D,hD⟩:=nA (((u:Int)+v)%(p:Int));have aV:=Aa hD;rw[hD]at d1 d2 i3 aB;clear hD;have d3:0<=D*(pk:Int):=Int.mul_nonneg d1 ac;have d4:D*(pk:Int)<=65536:=by
     exact zb5
    have d5:(pk:Int)*(p:Int)=((pk*p:Nat):Int):=ag;have d6:0<=(pk:Int)*(p:Int):=ac;have d7:(pk:Int)*(p:Int)<=256:=ac;have p0:¬p=0:=ac;have i2:IntKind.i64.wrap ((u:Int)+v)=(u:Int)+v:=IntWalk.i64_in _ ac;have i4:IntKind.i64.wrap (D*(pk:Int))=D*(pk:Int):=IntWalk.i64_in _ ac;have i5:IntKind.i64.wrap (C k+D*(pk:Int))=C k+D*(pk:Int):=IntWalk.i64_in _ ac;clear HS aO aL aK hy;have D5:=Aa d5;have D8:=Aa (show(pk:Int)<(pk:Int)*(p:Int) by rw[d5];have:=Nat.mul_le_mul_left pk p2;omega);clear d5;rcases hc with hc|⟨hc1,hc2⟩
    .have hb1:decide (0<(y:Int))=true:=by simpa using hc
     go_wp2_with fail
     go_quiet (fail)
     clear i1 aG i2 i3 i4 i5;go_wp2_with fail
     go_roundw
     case rel=>exact⟨k+1,_,aA,by rw[aQ.o,<-aS.o],by rw[aP.o,<-aH.o],by rw[aB.o],by rw[aE.o,D5.o],rfl⟩
     case measure=>have h1:=D8.o;simp[intOf];omega
    .have hb2:decide (0<(t:Int))=true:=by simpa using hc2
     subst hc1;obtain rfl:u=0:=by rw[<-HU.o,Nat.zero_mod]
     have i6:IntKind.i64.wrap (v:Int)=(v:Int):=IntWalk.i64_in _ ac;have i7:(v:Int).tmod (p:Int)=D:=by rw[Int.tmod_eq_emod_of_nonneg ac,<-aV.o];simp
     have HZ:=Aa (show(0:Nat)/p=0 from Nat.zero_div p);clear i1 i2 i3;go_wp2_with fail
     go_quiet (fail)
     clear aG i4 i5 i6 i7;go_wp2_with fail
     go_roundw
     case rel=>exact⟨k+1,_,aA,by rw[aQ.o,HZ.o];rfl,by rw[aP.o,<-aH.o],by rw[aB.o],by rw[aE.o,D5.o],rfl⟩
     case measure=>have h1:=D8.o;simp[intOf];omega
end
def Ed(p m:Nat)(ml:List Int)(z:Nat):Nat:=((List.range (p^m)).find? fun y=>decide (1<=y)&&Ai p m (lw ml) z y==1).getD 0
theorem Oj{p m:Nat}{ml:List Int}(hp:2<=p)(hm:1<=m)(hF:Hf p m (lw ml)){z y:Nat}(hz:z<p^m)(aA:1<=z)(hy:y<p^m)(h:Ai p m (lw ml) z y=1):Ed p m ml z=y:=by
 have aB:1<=y:=by
  rcases Nat.eq_zero_or_pos y with e|e
  .subst e;rw[AU,BT ac]at h;omega
  .exact e
 unfold Ed;rcases hf:(List.range (p^m)).find? (fun y=>decide (1<=y)&&Ai p m (lw ml) z y==1) with _|i
 .exfalso;have:=List.find?_eq_none.1 hf y (List.mem_range.2 hy);simp[aB,h]at this
 .have h1:=List.find?_some hf;have h2:=List.mem_range.1 (List.mem_of_find?_eq_some hf);simp at h1;exact hF.cancel hp hm aA hz h2 hy (by rw[Option.getD_some,AU i z,h1.2,AU y z,h])
section
variable {b p m x0:Nat} {ml:List Int}
theorem Bh.isF{w:World}(hg:Bh w b p m ml x0)(h1:1<=x0)(h2:x0<p^m):Hf p m (lw ml):=⟨x0,h1,h2,hg.gen⟩
theorem zbn{P:Prop}(h:P:=by
 go_enter Tryz.func106,Tryz.ntmps106
 go_wp2_with fail
 refine aF.o.mono ?_;rintro e w1⟨rfl,n0,rfl⟩;go_wp2_with fail
 refine(aE.o n0).mono ?_;rintro e w1⟨rfl,n1,rfl⟩;go_wp2_with fail
 go_ret;exact⟨Af (by rw[HZ.o];rfl),_,rfl⟩):P:=h
theorem ee{P:Prop}(h:P:=by rw[<-hr];exact Nat.mod_lt _ ac):P:=h
theorem Fa(w:World)(hg:Bh w b p m ml x0)(x y:Int):
  Calls Tryz.prog 106 #[.pointer (some (b,0)),x,y] w (Qt w (.int .i64 (Ai p m (lw ml) (Ar (p^m) x) (Ar (p^m) y):Nat))):=by
 have HI:=Aa (fun n x=>Hy (w.drewN n) (hg.drewN n) x);have aF:=Aa (Hy w hg x);have p2:=hg.sh.p2;have m1:=hg.sh.m1;have hq:=hg.sh.q;have aG:=Bz p2 m1;have c3:=hg.c3;obtain⟨ev,c4,he⟩:=hg.c4;obtain⟨lv,f,c5,hl,hf⟩:=hg.c5;obtain⟨ea,ec,rfl,e1,e2,e3⟩:=he.open;obtain⟨la,lc,rfl,l1,l2,l3⟩:=hl.open;rw[An]at *;obtain⟨eb,eo,rfl,e4⟩:=e3 ac;obtain⟨lb,lo,rfl,l4⟩:=l3 ac;have hz:Ar (p^m) x<p^m:=B9 ac x;have ht:Ar (p^m) y<p^m:=B9 ac y;have aE:=Aa (fun n=>HI.o n y);clear HI e3 l3 he hl;unfold maxLen at e2 l2;generalize Ar (p^m) x=z at *;generalize Ar (p^m) y=t at *;by_cases h0:z=0
 .subst h0;have HZ:=Aa (BT (m:=m) (low:=lw ml) (show 1<=p by omega) t);clear hg c3 c4 c5 hz ht hq aG hf e4 l4 e1 e2 l1 l2;exact zbn
 .have z1:1<=z:=by omega
  have hzb:((z:Int)==0)=false:=aq;by_cases h1:t=0
  .subst h1;have HZ:=Aa (show Ai p m (lw ml) z 0=0 by rw[AU];exact BT (show 1<=p by omega) z);clear hg c3 c4 c5 hz ht hq aG hf e4 l4 e1 e2 l1 l2 h0;exact zbn
  .have t1:1<=t:=by omega
   have htb:((t:Int)==0)=false:=aq;obtain⟨i,hi,aA⟩:=hg.gen.all p2 m1 z1 hz;obtain⟨j,hj,aB⟩:=hg.gen.all p2 m1 t1 ht;have aJ:=l4 z (f z) (AQ hz f);have aK:=l4 t (f t) (AQ ht f);have aC:=hf i hi;have aD:=hf j hj;rw[aA]at aC;rw[aB]at aD;rw[aC]at aJ;rw[aD]at aK;obtain⟨r,hr⟩:=nA ((i+j)%(p^m-1));have aI:r<p^m-1:=ee;have aL:=e4 r _ (AQ aI _);have aH:KX p m ml x0 r=((Ai p m (lw ml) z t:Nat):Int):=by
    unfold KX;rw[<-hr,hg.gen.mod p2 m1,CO p2 m1,aA,aB]
   rw[aH]at aL;have aM:Hia (((i:Int)+j).tmod (((p^m:Nat):Int)-1)=(r:Int)):=Aa (by
    rw[Int.tmod_eq_emod_of_nonneg ac,<-hr,Int.natCast_emod]
    congr 1
    omega)
   generalize Ai p m (lw ml) z t=kz at *;generalize p^m=q at *;have C3:=Aa c3;have C4:=Aa c4;have C5:=Aa c5;clear hg hf e4 l4 aC aD aA aB hr aH h0 h1 c3 c4 c5;go_enter Tryz.func106,Tryz.ntmps106
   go_wp2_with fail
   refine aF.o.mono ?_;rintro e w1⟨rfl,n0,rfl⟩;go_wp2_with fail
   refine(aE.o n0).mono ?_;rintro e w1⟨rfl,n1,rfl⟩;have c3:=C3.o;have c4:=C4.o;have c5:=C5.o;have i1:IntKind.i64.wrap ((i:Int)+j)=(i:Int)+j:=IntWalk.i64_in _ ac;have i2:IntKind.i64.wrap ((q:Int)-1)=(q:Int)-1:=IntWalk.i64_in _ ac;have i3:=aM.o;have i4:¬q=1:=bf;have i5:¬((q:Int)-1=0):=ac;go_wp2_with fail
   go_quiet (fail)
   go_wp2_with fail
   go_ret;exact⟨rfl,_,World.drewN_drewN _ _ _⟩
def RU(p m:Nat)(ml:List Int)(z:Nat):Value:=if z=0 then .tuple #[(0:Int),(7:Int)] else .tuple #[(Ed p m ml z:Nat),(0:Int)]
theorem TZ(w:World)(hg:Bh w b p m ml x0)(aG:1<=x0)(aF:x0<p^m)(x:Int):
  Calls Tryz.prog 250 #[.pointer (some (b,0)),x] w (Qt w (RU p m ml (Ar (p^m) x))):=by
 have aE:=Aa (Hy w hg x);have hF:=hg.isF aG aF;have p2:=hg.sh.p2;have m1:=hg.sh.m1;have hq:=hg.sh.q;have aI:=Bz p2 m1;have c3:=hg.c3;obtain⟨ev,c4,he⟩:=hg.c4;obtain⟨lv,f,c5,hl,hf⟩:=hg.c5;obtain⟨ea,ec,rfl,e1,e2,e3⟩:=he.open;obtain⟨la,lc,rfl,l1,l2,l3⟩:=hl.open;rw[An]at *;obtain⟨eb,eo,rfl,e4⟩:=e3 ac;obtain⟨lb,lo,rfl,l4⟩:=l3 ac;have hz:Ar (p^m) x<p^m:=B9 ac x;clear e3 l3 he hl;unfold maxLen at e2 l2;generalize Ar (p^m) x=z at *;by_cases h0:z=0
 .subst h0;have HZ:=Aa (show RU p m ml 0= .tuple #[(0:Int),(7:Int)] from rfl);clear hg c3 c4 c5 hz hq aI hf e4 l4 e1 e2 l1 l2;go_enter Tryz.func250,Tryz.ntmps250
  go_wp2_with fail
  refine aE.o.mono ?_;rintro e w1⟨rfl,n0,rfl⟩;go_wp2_with fail
  go_ret2;exact⟨by rw[HZ.o];rfl,_,rfl⟩
 .have z1:1<=z:=by omega
  have hzb:((z:Int)==0)=false:=aq;obtain⟨i,hi,aB⟩:=hg.gen.all p2 m1 z1 hz;have aJ:=l4 z (f z) (AQ hz f);have aC:=hf i hi;rw[aB]at aC;rw[aC]at aJ;obtain⟨r,hr⟩:=nA ((p^m-1-i)%(p^m-1));have aH:r<p^m-1:=ee;have aK:=e4 r _ (AQ aH _);have aA:=hg.gen.inv p2 m1 hi;rw[hr,aB]at aA;have hk:=Oj p2 m1 hF hz z1 (Dm p2 m1 _ _) aA;have aD:KX p m ml x0 r=((Ed p m ml z:Nat):Int):=by unfold KX;rw[hk]
  rw[aD]at aK;have HZ:=Aa (show RU p m ml z= .tuple #[(Ed p m ml z:Nat),(0:Int)] by unfold RU;rw[if_neg h0]);have aL:Hia ((((p^m:Nat):Int)-1-(i:Int)).tmod (((p^m:Nat):Int)-1)=(r:Int)):=Aa (by
   rw[Int.tmod_eq_emod_of_nonneg ac,<-hr,Int.natCast_emod]
   congr 1
   .omega
   .omega)
  generalize Ed p m ml z=kz at *;generalize p^m=q at *;have C3:=Aa c3;have C4:=Aa c4;have C5:=Aa c5;clear hg hF hf e4 l4 aC aB hr aD h0 c3 c4 c5 aA hk;go_enter Tryz.func250,Tryz.ntmps250
  go_wp2_with fail
  refine aE.o.mono ?_;rintro e w1⟨rfl,n0,rfl⟩;have c3:=C3.o;have c4:=C4.o;have c5:=C5.o;have i1:IntKind.i64.wrap ((q:Int)-1-(i:Int))=(q:Int)-1-i:=IntWalk.i64_in _ ac;have i2:IntKind.i64.wrap ((q:Int)-1)=(q:Int)-1:=IntWalk.i64_in _ ac;have i3:=aL.o;have i4:¬q=1:=bf;have i5:¬((q:Int)-1=0):=ac;go_wp2_with fail
  go_quiet (fail)
  go_wp2_with fail
  go_ret2;exact⟨by rw[HZ.o];rfl,_,World.drewN_drewN _ _ _⟩
theorem Kg{p m:Nat}{ml:List Int}(hq:1<=p^m)(z:Nat):Ed p m ml z<p^m:=by
 unfold Ed;rcases hf:(List.range (p^m)).find? (fun y=>decide (1<=y)&&Ai p m (lw ml) z y==1) with _|i
 .show 0<p^m;omega
 .exact List.mem_range.1 (List.mem_of_find?_eq_some hf)
def Cb(p m:Nat)(ml:List Int):List Int->List Int->Nat->Nat
 | x :: l,y :: k,s=>Cb p m ml l k (AG p m s (Ai p m (lw ml) (Ar (p^m) x) (Ar (p^m) y)))
 | _,_,s=>s
theorem GZ{p m:Nat}{ml:List Int}:∀(l k:List Int) (i:Nat) (s:Nat) (x y:Int),l[i]?=some x->k[i]?=some y->
  Cb p m ml (l.take (i+1)) (k.take (i+1)) s=AG p m (Cb p m ml (l.take i) (k.take i) s) (Ai p m (lw ml) (Ar (p^m) x) (Ar (p^m) y))
 | [],k,i,s,x,y,h,_=>by simp at h
 | a :: l, [],i,s,x,y,_,h=>by simp at h
 | a :: l,c :: k,0,s,x,y,h,h'=>by
  simp at h h';subst h;subst h';cases l <;> cases k <;> simp[Cb]
 | a :: l,c :: k,i+1,s,x,y,h,h'=>by
  simp only[List.take_succ_cons,Cb];exact GZ l k i _ x y (by simpa using h) (by simpa using h')
theorem Kh{p m:Nat}{ml:List Int}(hp:1<=p):∀(l k:List Int) (s:Nat),s<p^m->Cb p m ml l k s<p^m
 | x :: l,y :: k,s,_=>Kh hp l k _ (E4 hp _ _)
 | [],_,s,h=>by simpa[Cb]using h
 | _ :: _, [],s,h=>by simpa[Cb]using h
theorem Jn{p m:Nat}{ml:List Int}:∀(l k:List Int) (i s:Nat),min l.length k.length<=i->Cb p m ml (l.take i) (k.take i) s=Cb p m ml l k s
 | [],k,i,s,_=>by simp[Cb]
 | a :: l, [],i,s,_=>by cases i <;> simp[Cb]
 | a :: l,c :: k,0,s,h=>by simp at h
 | a :: l,c :: k,i+1,s,h=>by
  simp only[List.take_succ_cons,Cb];exact Jn l k i _ (by simp at h;omega)
end
theorem gt_div{q p:Int}(hp:1<=p):256/p<q↔256<q*p:=by
 constructor
 .intro h;exact Int.lt_mul_of_ediv_lt ac h
 .intro h;exact Int.ediv_lt_of_lt_mul ac h
theorem DP(p m:Int)(mv:Value)(w:World):
  Calls Tryz.prog 14 #[.agg #[p,m,mv]] w fun r w'=>r= .returned (.int .i64 (CG p m))/\Ex w w':=by
 obtain⟨xb,aA⟩:=nA w.heap.size;have d0:(w.alloc (.cells #[p,m,mv] 24)).cell? (xb,0)=some (.int .i64 p):=by rw[<-aA];simp
 have d1:(w.alloc (.cells #[p,m,mv] 24)).cell? (xb,1)=some (.int .i64 m):=by rw[<-aA];simp
 have e0:Ex w (w.alloc (.cells #[p,m,mv] 24)):=(Ex.refl _).alloc _;have D0:=Aa d0;have D1:=Aa d1;clear d0 d1;by_cases h:2<=p/\1<=m/\m<=8
 .obtain⟨h1,h3,h4⟩:=h;have HO:=Aa (show CG p m=if p^m.toNat<=256 then p^m.toNat else 0 by unfold CG;by_cases h:p^m.toNat<=256 <;> simp[h,h1,h3,h4]);go_enter Tryz.func14,Tryz.ntmps14
  have d0:=D0.o;have d1:=D1.o
  go_wp2
  clear aA D0 D1;generalize w.alloc (.cells #[p,m,mv] 24)=w1 at *
  go_loop [3,4] (fun q' i'=>∃i:Nat,i<=m.toNat/\i'= .int .i64 i/\q'= .int .i64 (p^i)/\1<=p^i/\p^i<=256) (fun _ i'=>m.toNat-(intOf i').toNat)
  case atStart=>exact⟨0,ac,rfl,ag,ag,ag⟩
  case round=>
   obtain⟨i,hi,rfl,rfl,q1,q2⟩:=hrel;have HS:=Aa (Int.pow_succ p i);have HM:=Aa (show i<m.toNat->p^(i+1)<=p^m.toNat from fun h=>Jf h1 h);have HG:=Aa (gt_div (q:=p^i) (show 1<=p by omega));have q4:1<=p^i*p:=by
    exact zcY
   have e1:=Int.ediv_nonneg (show(0:Int)<=256 by omega) (show 0<=p by omega);have e2:256/p<=256:=Int.ediv_le_self _ ac;by_cases hlt:(i:Int)<m
   .by_cases hq:256<p^i*p
    .have HB:=HM.o ac;rw[HS.o]at HB;have HN:=Aa (show ¬p^m.toNat<=256 by omega);have hg:=HG.o.2 hq;clear HB HM HG;generalize p^i=y at *
     go_wp2
     go_ret;exact⟨Af (by rw[HO.o,if_neg (by have:=HN.o;omega)]),e0⟩
    .have HE:=Aa (show p^(i+1)=p^i*p from HS.o);have hg:¬256/p<p^i:=fun h=>hq (HG.o.1 h);have hg':p^i<=256/p:=by omega
     clear HM HS HG hg;exact zby
   .have aB:i=m.toNat:=by omega
    have HN:=Aa (show p^m.toNat=p^i by rw[aB]);clear HM HS HG;generalize p^i=y at *
    go_wp2
    go_ret;exact⟨Af (by rw[HO.o,HN.o,if_pos q2]),e0⟩
 .have HO:=Aa (show CG p m=0 by
   unfold CG;rw[if_neg];rintro⟨h1,h2,h3,h4⟩;exact h ⟨h1,h2,h3⟩)
  have c:p<2∨(2<=p/\m<1)∨(2<=p/\1<=m/\8<m):=ac;clear h;rcases c with c|⟨c1,c2⟩|⟨c1,c2,c3⟩
  all_goals
   go_enter Tryz.func14,Tryz.ntmps14
   have d0:=D0.o;have d1:=D1.o
   go_wp2
   go_ret;exact⟨Af HO.o.symm,e0⟩
theorem Y6{n:Nat}(hn:2<=n):Je n=true↔∀d,2<=d->d<n->n%d≠0:=by
 unfold Je;rw[decide_eq_true_iff];exact⟨fun h d a b=>h.2 d b a,fun h=>⟨hn,fun d a b=>h d b a⟩⟩
theorem Rm(n:Nat)(w:World)(h1:2<=n)(h2:n<=256):
  Calls Tryz.prog 118 #[n] w fun r w'=>r= .returned (.bool (Je n))/\w=w':=by
 have HI:=Aa (Y6 h1);go_enter Tryz.func118,Tryz.ntmps118
 go_wp2
 go_loop [3] (fun d'=>∃d:Nat,2<=d/\d<=n/\d'= .int .i64 d/\Hia (∀c,2<=c->c<d->n%c≠0)) (fun d'=>n-(intOf d').toNat)
 case atStart=>exact⟨2,ac,ac,rfl,Aa (fun c a b=>ac)⟩
 case round=>
  obtain⟨d,d1,d2,rfl,aA⟩:=hrel;by_cases hlt:d<n
  .by_cases hd:n%d=0
   .have aB:((n:Int)%(d:Int)==0)=true:=by simp;omega
    have HR:=Aa (show Je n=false by
     rw[<-Bool.not_eq_true];exact fun h=>HI.o.1 h d d1 hlt hd)
    clear hd;exact zdl
   .have aB:((n:Int)%(d:Int)==0)=false:=by simp;omega
    have HA:=Aa (show ∀c,2<=c->c<d+1->n%c≠0 from fun c a b=>by
     by_cases e:c=d
     .subst e;exact hd
     .exact aA.o c a ac)
    clear hd;exact zbZ
  .have HR:=Aa (HI.o.2 fun c a b=>aA.o c a ac);exact zdl
theorem JP(x p m:Nat)(w:World)(hx:x<=65536)(hp:1<=p)(hp':p<=256)(hm:m<=256):
  Calls Tryz.prog 171 #[x,p,m] w fun r w'=>∃v,r= .returned v/\(∃g,v= .slice (some ⟨g,0,none⟩) m m/\w.heap.size<=g/\AH w' w.heap.size 3 g m (iv (AK p m x)))/\Ex w w':=by
 go_enter Tryz.func171,Tryz.ntmps171
 go_wp2_with (at_make;refine Au _ rfl _ _ 22 rfl 3 (.int .i64 0) 8 Tryz.underlying22 AC rfl _ m rfl rfl rfl ac ai ?_)
 intro w1 aA aD;obtain⟨g,hg⟩:=nA w.heap.size;have aB:AH w1 g 3 g m (iv fun j=>if j<0 then AK p m x j else 0):=by
  rw[hg]at aA;exact aA.congr fun j _=>by simp[iv]
 have HG:=Aa hg;simp only[hg];clear aA hg;go_wp2_with fail
 go_loopw [0,8] (fun x' k' wr=>∃k:Nat,k<=m/\k'= .int .i64 k/\x'= .int .i64 ((x/p^k:Nat):Int)/\AH wr g 3 g m (iv fun j=>if j<k then AK p m x j else 0)/\Ex w wr) (fun _ k' _=>m-(intOf k').toNat)
 case atStart=>exact⟨0,ac,rfl,ag,aB,aD⟩
 case round=>
  clear aB aD;obtain⟨k,hk,rfl,rfl,aA,aD⟩:=hrel;have hxk:x/p^k<=65536:=Nat.le_trans (Nat.div_le_self _ _) hx;have HS:=Aa (show x/p^(k+1)=x/p^k/p by rw[Nat.pow_succ,Nat.div_div_eq_div_mul]);have HD:=Aa (show k<m->AK p m x k=((x/p^k%p:Nat):Int) from fun h=>by unfold AK;rw[if_pos h]);generalize x/p^k=y at *;by_cases hlt:k<m
  .exact zag
  .obtain rfl:k=m:=by omega
   have aC:AH wr g 3 g k (iv (AK p k x)):=aA.icongr fun j hj=>by rw[if_pos hj]
   have HO:=Aa aC;clear aA aC HD HS;go_wp2_with fail
   go_ret;exact⟨_,rfl,⟨g,rfl,by rw[HG.o];exact Nat.le_refl _,by rw[HG.o];exact HO.o⟩,aD⟩
theorem AA(w:World)(p m:Int)(mv:Value):(w.alloc (.cells #[p,m,mv] 24)).cell? (w.heap.size,0)=some (.int .i64 p)/\
  (w.alloc (.cells #[p,m,mv] 24)).cell? (w.heap.size,1)=some (.int .i64 m)/\
  (w.alloc (.cells #[p,m,mv] 24)).cell? (w.heap.size,2)=some mv/\Ex w (w.alloc (.cells #[p,m,mv] 24))/\
  (w.alloc (.cells #[p,m,mv] 24)).heap.size=w.heap.size+1:=
 ⟨ag,ag,ag,(Ex.refl _).alloc _,ag⟩
def isI(p m x:Int):Bool:=decide (0<=x/\x<CG p m)
theorem SY(p m x:Int)(mv:Value)(w:World):
  Calls Tryz.prog 200 #[.agg #[p,m,mv],x] w fun r w'=>r= .returned (.bool (isI p m x))/\Ex w w':=by
 obtain⟨d0,d1,d2,e0,_⟩:=AA w p m mv;have HO:=Aa (fun w=>DP p m mv w);have HI:=Aa (show isI p m x=decide (0<=x/\x<CG p m) from rfl);generalize CG p m=q at *;by_cases h0:0<=x
 .go_enter Tryz.func200,Tryz.ntmps200
  go_wp2_with fail
  generalize w.alloc (.cells #[p,m,mv] 24)=w1 at *;refine(HO.o _).mono ?_;rintro e w2⟨rfl,hx⟩;go_wp2_with fail
  go_ret;exact⟨Ap (by rw[HI.o];simp[h0]),e0.trans hx⟩
 .go_enter Tryz.func200,Tryz.ntmps200
  go_wp2_with fail
  go_ret;exact⟨Ap (by rw[HI.o];simp;omega),e0⟩
theorem Ha.ord{p m:Nat}{ml:List Int}(h:Ha p m ml):CG p m=((p^m:Nat):Int):=by
 obtain⟨a,b,c,d,e,f⟩:=h;exact zbI
section
variable {p m:Nat} {ml:List Int} {mv:Value}
theorem zbl{P:Prop}(h:P:=by
 clear h ho hf;go_enter Tryz.func207,Tryz.ntmps207
 go_wp2_with fail
 generalize w.alloc (.cells #[p,m,mv] 24)=w1 at *;refine(HI.o _).mono ?_;rintro e w2⟨rfl,hx⟩;go_wp2_with fail
 go_ret;exact⟨Af HK.o.symm,e0.trans hx⟩):P:=h
theorem YV(w:World)(hf:Ha p m ml)(x:Int):
  Calls Tryz.prog 207 #[.agg #[p,m,mv],x] w fun r w'=>r= .returned (.int .i64 (Ar (p^m) x:Nat))/\Ex w w':=by
 obtain⟨d0,d1,d2,e0,_⟩:=AA w p m mv;have HI:=Aa (fun w=>SY p m x mv w);have ho:=hf.ord;by_cases h:0<=x/\x<((p^m:Nat):Int)
 .have HK:=Aa (show((Ar (p^m) x:Nat):Int)=x by unfold Ar;rw[if_pos h];omega);rw[show isI p m x=true from decide_eq_true (by rw[ho];exact h)]at HI;exact zbl
 .have HK:=Aa (show((Ar (p^m) x:Nat):Int)=0 by unfold Ar;rw[if_neg h];rfl);rw[show isI p m x=false from decide_eq_false (by rw[ho];exact h)]at HI;exact zbl
def DgOut(p m:Nat)(x:Nat)(w w':World)(v:Value):Prop:=∃g,v= .slice (some ⟨g,0,none⟩) m m/\AH w' w.heap.size 3 g m (iv (AK p m x))
theorem Ec(w:World)(hf:Ha p m ml)(x:Int):
  Calls Tryz.prog 167 #[.agg #[p,m,mv],x] w fun r w'=>∃v,r= .returned v/\DgOut p m (Ar (p^m) x) w w' v/\Ex w w':=by
 obtain⟨d0,d1,d2,e0,_⟩:=AA w p m mv;have HI:=Aa (fun w=>YV (mv:=mv) w hf x);have p2:=hf.p2;have m8:=hf.m8;have p256:=hf.p256;have hq:=hf.q;have hz:=B9 (show 1<=p^m from Nat.pow_pos ac) x;generalize Ar (p^m) x=z at *;have aB:z<=65536:=bf;clear hz hf hq;go_enter Tryz.func167,Tryz.ntmps167
 go_wp2_with fail
 generalize w.alloc (.cells #[p,m,mv] 24)=w1 at *;have HW:=Aa e0.size;obtain⟨xb,aA⟩:=nA w.heap.size;rw[aA]at d0 d1 d2
 try simp only[aA]
 have HXB:=Aa aA;clear aA
 go_region_held3 (fun w'=>w'.cell? (xb,0)=some (.int .i64 p)/\w'.cell? (xb,1)=some (.int .i64 m)/\w'.cell? (xb,2)=some mv/\Ex w w')
  (first|exact⟨d0,d1,d2,e0.drew⟩|exact⟨hx1.cell d0,hx1.cell d1,hx1.cell d2,e0.drew.trans hx1⟩|(obtain⟨k0,k1,k2,k3⟩:=‹_/\_/\_/\Ex w _›;exact⟨hx1.cell k0,hx1.cell k1,hx1.cell k2,k3.trans hx1⟩))
  ((first
      | (go_at_call 207;refine(HI.o _).mono ?_;rintro e w2⟨rfl,hx1⟩)
      | (go_at_call 171;refine(JP _ _ _ _ aB ac ac ac).mono ?_;rintro e w3⟨v,rfl,⟨g,rfl,hg1,hg2⟩,hx1⟩)))
 go_wp2_with fail
 go_ret;have hE:=(‹_/\_/\_/\Ex w _›).2.2.2;exact⟨_,rfl,⟨g,rfl,hg2.mono (by
  have:=hx1.size;have h1:=(e0.drew.trans ‹Ex w1.drew w2›).size;omega)⟩,hE⟩
theorem zc7{P:Prop}(h:P:=by
 go_wp2_with fail
 go_ret;exact⟨Af HF.o.symm,e0.trans hx⟩):P:=h
theorem Hs(w:World)(hf:Ha p m ml)(l:List Int)(v:Value)(hl:Al w v l)(hb:∀x∈l,0<=x/\x<p)(hq:p^l.length<=65536):
  Calls Tryz.prog 168 #[.agg #[p,m,mv],v] w fun r w'=>r= .returned (.int .i64 (vl p l))/\Ex w w':=by
 obtain⟨d0,d1,d2,e0,_⟩:=AA w p m mv;obtain⟨a,cap,rfl,s1,s2,s3⟩:=(hl.ex e0).open;have p2:=hf.p2;have p256:=hf.p256;have hp:1<=p:=ac;unfold maxLen at s2;have S3:=Aa s3;have HV:=Aa (show vl p l=vl p (l.drop 0) from rfl);have HR:=Aa (show ∀k,0<=vl p (l.drop k)/\vl p (l.drop k)*(p:Int)<=16777216/\vl p (l.drop k)<=65536 from fun k=>by
  obtain⟨h1,h2⟩:=Ra hp (l.drop k) fun x hx=>hb x (List.mem_of_mem_drop hx);have h3:p^(l.drop k).length<=p^l.length:=Nat.pow_le_pow_right hp (by rw[List.length_drop];omega);have h4:=Int.mul_le_mul (show vl p (l.drop k)<=65536 by omega) (show(p:Int)<=256 by omega) ac ac;exact⟨h1,h4,ac⟩)
 have HX:=Aa (show ∀(k:Nat) (x:Int),l[k]?=some x->0<=x/\x<=256 from fun k x h=>by have:=hb x (List.mem_of_getElem? h);omega);have HN:=Aa (show vl p (l.drop l.length)=0 by rw[List.drop_length];rfl);clear hl s3 hb hq hf;go_enter Tryz.func168,Tryz.ntmps168
 go_wp2_with fail
 generalize w.alloc (.cells #[p,m,mv] 24)=w1 at *
 go_loopw [5,6] (fun x' i' wr=>∃k:Nat,k<=l.length/\i'= .int .i64 ((k:Int)-1)/\x'= .int .i64 (vl p (l.drop k))/\Ex w1 wr) (fun _ i' _=>(intOf i'+1).toNat)
 case atStart=>exact⟨l.length,ac,rfl,by rw[HN.o],Ex.refl _⟩
 case round=>
  obtain⟨k,hk,rfl,rfl,hx⟩:=hrel;obtain⟨r1,r2,r3⟩:=HR.o k;rcases k with _|k
  .have HF:=Aa HV.o;generalize vl p (l.drop 0)=y at *;exact zc7
  .have r0:0<=vl p (l.drop (k+1))*(p:Int):=Int.mul_nonneg r1 ac;obtain⟨x,aA⟩:∃x,l[k]?=some x:=⟨_,List.getElem?_eq_getElem ac⟩;obtain⟨b,o,rfl,hc⟩:=S3.o ac;have c1:=hx.cell (hc k x aA);have c0:=hx.cell d0;obtain⟨x1,x2⟩:=HX.o k x aA;have HG:=Aa (codGo p l k x aA);have e:(((k+1:Nat)):Int)-1=k:=by omega
   rw[e];have hkl:k<l.length:=ac;clear hc aA e;generalize vl p (l.drop (k+1))=y at *;have i1:IntKind.i64.wrap (y*(p:Int))=y*(p:Int):=IntWalk.i64_in _ ac;have i2:IntKind.i64.wrap (y*(p:Int)+x)=y*(p:Int)+x:=IntWalk.i64_in _ ac;go_wp2_with fail
   go_quiet (fail)
   clear i1 i2;go_wp2_with fail
   go_roundw
   case rel=>exact⟨k,ac,rfl,by rw[HG.o],hx.drewN _⟩
   case measure=>simp[intOf]
end
section
variable {p m:Nat} {ml:List Int} {mv:Value}
theorem Ot{n:Nat}{f:Nat->Int}{z:Int}(h:z∈il n f):∃j,j<n/\f j=z:=by
 obtain⟨j,hj,rfl⟩:=List.mem_map.1 h;exact⟨j,List.mem_range.1 hj,rfl⟩
theorem Pj{α:Type}(A B:Nat->α)(i:Nat):∀j,Az (fun j=>if j<i then A j else B j) i (A i) j=if j<i+1 then A j else B j:=fun j=>by
 unfold Az;by_cases h:j=i
 .subst h;rw[if_pos rfl,if_pos ac]
 .rw[if_neg h];dsimp only;by_cases h2:j<i
  .rw[if_pos h2,if_pos ac]
  .rw[if_neg h2,if_neg ac]
theorem VW(w:World)(hf:Ha p m ml)(aM:Al w mv ml)(x y:Int):
  Calls Tryz.prog 266 #[.agg #[p,m,mv],x,y] w fun r w'=>r= .returned (.int .i64 (AG p m (Ar (p^m) x) (Ar (p^m) y):Nat))/\Ex w w':=by
 obtain⟨d0,d1,d2,e0,aL⟩:=AA w p m mv;have aW:=Aa (fun w=>Ec (mv:=mv) w hf x);have aV:=Aa (fun w=>Ec (mv:=mv) w hf y);have aQ:=Aa (fun w l v h1 h2 h3=>Hs (mv:=mv) w hf l v h1 h2 h3);have p2:=hf.p2;have m8:=hf.m8;have p256:=hf.p256;have hq:=hf.q;have HK:=Aa (Qd (show 1<=p by omega) m (Ar (p^m) x) (Ar (p^m) y));generalize Ar (p^m) x=z at *;generalize Ar (p^m) y=t at *;have aP:=Aa (Dy (show 1<=p by omega) m z);have aO:=Aa (Dy (show 1<=p by omega) m t);have HQ:=Aa hq;clear hf aM hq;go_enter Tryz.func266,Tryz.ntmps266
 go_wp2_with fail
 generalize w.alloc (.cells #[p,m,mv] 24)=w1 at *;refine(aW.o _).mono ?_;rintro e w2⟨v,rfl,⟨g,rfl,hg⟩,aC⟩;have r0:=aC.cell d0;have r1:=aC.cell d1;have r2:=aC.cell d2;go_wp2_with fail
 refine(aV.o _).mono ?_;rintro e w3⟨v,rfl,⟨k,rfl,hk⟩,aF⟩;have aN:g≠k:=by
  have:=hg.lt.2;have:=hk.lt.1;omega
 have aI:=Aa (show AH w3 w1.heap.size 3 g m (iv fun j=>if j<0 then(AK p m z j+AK p m t j)%(p:Int) else AK p m z j) from(hg.ex aF).icongr fun j _=>ag);have aH:=Aa (hk.mono (show w1.heap.size<=w2.heap.size from aC.size));have aA:=aC.trans aF;have HE:=Aa e0;have HS:=Aa (e0.size);have s0:=aA.cell d0;have s1:=aA.cell d1;have s2:=aA.cell d2;clear hg hk aC aF r0 r1 r2 e0 aL;go_wp2_with fail
 clear s0 s1 s2
 go_loopw [9] (fun i' wr=>∃i:Nat,i<=m/\i'= .int .i64 i/\Hia (AH wr w1.heap.size 3 g m (iv fun j=>if j<i then(AK p m z j+AK p m t j)%(p:Int) else AK p m z j))/\Hia (AH wr w1.heap.size 3 k m (iv (AK p m t)))/\Ex w1 wr) (fun i' _=>m-(intOf i').toNat)
 case atStart=>exact⟨0,ac,rfl,aI,aH,aA⟩
 case round=>
  clear aI aH aA;obtain⟨i,hi,rfl,aB,aE,hx⟩:=hrel;have c0:=hx.cell d0;have c1:=hx.cell d1;have c2:=hx.cell d2;by_cases hlt:i<m
  .have ca:wr.cell? (g,i)=some (.int .i64 (AK p m z i)):=by rw[aB.o.cell hlt];unfold iv;simp
   have cb:wr.cell? (k,i)=some (.int .i64 (AK p m t i)):=aE.o.cell hlt;have fa:=aB.o.frz i;obtain⟨z1,z2⟩:=aP.o i;obtain⟨t1,t2⟩:=aO.o i;obtain⟨aG,aS,aR,aJ⟩:=Eq (aB.o.set i (.int .i64 ((AK p m z i+AK p m t i)%(p:Int)))) (aE.o.other (a:=(g,i)) aN.symm (.int .i64 ((AK p m z i+AK p m t i)%(p:Int)))) (aB.o.exSet (Nat.le_refl _) hx i (.int .i64 ((AK p m z i+AK p m t i)%(p:Int)))) (Pj (fun j=>(AK p m z j+AK p m t j)%(p:Int)) (fun j=>AK p m z j) i);have aU:Hia (AH (wr.setCell (g,i) (.int .i64 ((AK p m z i+AK p m t i)%(p:Int)))) w1.heap.size 3 g m (iv fun j=>if j<i+1 then(AK p m z j+AK p m t j)%(p:Int) else AK p m z j)):=Aa (by
    have:=aG.o;rw[CC]at this;exact this.icongr fun j _=>aJ.o j)
   clear aG aJ aB aE;generalize AK p m z i=u at *;generalize AK p m t i=v at *;have i1:IntKind.i64.wrap (u+v)=u+v:=IntWalk.i64_in _ ac;have i2:(u+v).tmod (p:Int)=(u+v)%(p:Int):=Int.tmod_eq_emod_of_nonneg ac;have p0:¬p=0:=bf;go_wp2_with fail
   go_still_tail 15,ah
   change wpList _ _ _ _ _ wr.drew
   clear i1 i2;go_wp2_with fail
   go_roundw
   case rel=>exact⟨i+1,ac,by go_num,Aa aU.o.drew,Aa aS.o.drew,aR.o.drew⟩
   case measure=>simp[intOf];omega
  .obtain rfl:i=m:=by omega
   have aD:AH wr w1.heap.size 3 g i (iv fun j=>(AK p i z j+AK p i t j)%(p:Int)):=aB.o.icongr fun j hj=>if_pos hj;have HL:=Aa aD.isl;have HB:=Aa (show ∀a∈il i (fun j=>(AK p i z j+AK p i t j)%(p:Int)),0<=a/\a<p from fun a ha=>by
    obtain⟨j,_,rfl⟩:=Ot ha;exact⟨Int.emod_nonneg _ ac,Int.emod_lt_of_pos _ ac⟩)
   have aT:=Aa (show p^(il i (fun j=>(AK p i z j+AK p i t j)%(p:Int))).length<=65536 by rw[An];have:=HQ.o;omega);have HR:=Aa (show vl p (il i (fun j=>(AK p i z j+AK p i t j)%(p:Int)))=((AG p i z t:Nat):Int) by rw[Pf,HK.o]);clear aD aB aE;go_wp2_with fail
   refine(aQ.o _ _ _ HL.o HB.o aT.o).mono ?_;rintro e w4⟨rfl,aK⟩;go_wp2_with fail
   go_ret;exact⟨Af HR.o,(HE.o.trans hx).trans aK⟩
theorem VS(w:World)(hf:Ha p m ml)(x:Int):
  Calls Tryz.prog 246 #[.agg #[p,m,mv],x] w fun r w'=>r= .returned (.int .i64 (CH p m (Ar (p^m) x):Nat))/\Ex w w':=by
 obtain⟨d0,d1,d2,e0,aH⟩:=AA w p m mv;have aQ:=Aa (fun w=>Ec (mv:=mv) w hf x);have aJ:=Aa (fun w l v h1 h2 h3=>Hs (mv:=mv) w hf l v h1 h2 h3);have p2:=hf.p2;have m8:=hf.m8;have p256:=hf.p256;have hq:=hf.q;have HK:=Aa (Qc (show 1<=p by omega) m (Ar (p^m) x));generalize Ar (p^m) x=z at *;obtain⟨F,hF⟩:∃F:Nat->Int,(fun j=>((p:Int)-AK p m z j)%(p:Int))=F:=⟨_,rfl⟩;have aP:=Aa (fun j=>congrFun hF j);have aO:=Aa (show ∀j,0<=F j/\F j<p from fun j=>by rw[<-hF];exact⟨Int.emod_nonneg _ ac,Int.emod_lt_of_pos _ ac⟩);rw[hF]at HK;clear hF;have aI:=Aa (Dy (show 1<=p by omega) m z);have HQ:=Aa hq;clear hf hq;go_enter Tryz.func246,Tryz.ntmps246
 go_wp2_with fail
 generalize w.alloc (.cells #[p,m,mv] 24)=w1 at *;refine(aQ.o _).mono ?_;rintro e w2⟨v,rfl,⟨g,rfl,hg⟩,aB⟩;have aE:=Aa (show AH w2 w1.heap.size 3 g m (iv fun j=>if j<0 then F j else AK p m z j) from hg.icongr fun j _=>ag);have HE:=Aa e0;have s0:=aB.cell d0;have s1:=aB.cell d1;have s2:=aB.cell d2;clear hg e0 aH;go_wp2_with fail
 clear s0 s1 s2
 go_loopw [6] (fun i' wr=>∃i:Nat,i<=m/\i'= .int .i64 i/\Hia (AH wr w1.heap.size 3 g m (iv fun j=>if j<i then F j else AK p m z j))/\Ex w1 wr) (fun i' _=>m-(intOf i').toNat)
 case atStart=>exact⟨0,ac,rfl,aE,aB⟩
 case round=>
  clear aE aB;obtain⟨i,hi,rfl,aA,hx⟩:=hrel;have c0:=hx.cell d0;have c1:=hx.cell d1;have c2:=hx.cell d2;by_cases hlt:i<m
  .have ca:wr.cell? (g,i)=some (.int .i64 (AK p m z i)):=by rw[aA.o.cell hlt];unfold iv;simp
   have fa:=aA.o.frz i;obtain⟨z1,z2⟩:=aI.o i;have aD:=Aa (aA.o.set i (.int .i64 (F i)));have aK:=Aa (aA.o.exSet (Nat.le_refl _) hx i (.int .i64 (F i)));have aF:=Aa (Pj F (fun j=>AK p m z j) i);have aN:Hia (AH (wr.setCell (g,i) (.int .i64 (F i))) w1.heap.size 3 g m (iv fun j=>if j<i+1 then F j else AK p m z j)):=Aa (by
    have:=aD.o;rw[CC]at this;exact this.icongr fun j _=>aF.o j)
   clear aD aF aA;have i3:((p:Int)-AK p m z i)%(p:Int)=F i:=aP.o i;have aM:=Aa i3;clear i3;generalize AK p m z i=u at *;have i1:IntKind.i64.wrap ((p:Int)-u)=(p:Int)-u:=IntWalk.i64_in _ ac;have i2:((p:Int)-u).tmod (p:Int)=F i:=by rw[Int.tmod_eq_emod_of_nonneg ac];exact aM.o
   have p0:¬p=0:=ac;go_wp2_with fail
   go_still_tail 13,ah
   change wpList _ _ _ _ _ wr.drew
   clear i1 i2;go_wp2_with fail
   go_roundw
   case rel=>exact⟨i+1,ac,by go_num,Aa aN.o.drew,aK.o.drew⟩
   case measure=>simp[intOf];omega
  .obtain rfl:i=m:=by omega
   have aC:AH wr w1.heap.size 3 g i (iv F):=aA.o.icongr fun j hj=>if_pos hj;have HL:=Aa aC.isl;have HB:=Aa (show ∀a∈il i F,0<=a/\a<p from fun a ha=>by
    obtain⟨j,_,rfl⟩:=Ot ha;exact aO.o j)
   have aL:=Aa (show p^(il i F).length<=65536 by rw[An];have:=HQ.o;omega);have HR:=Aa (show vl p (il i F)=((CH p i z:Nat):Int) by rw[Pf,HK.o]);clear aC aA;go_wp2_with fail
   refine(aJ.o _ _ _ HL.o HB.o aL.o).mono ?_;rintro e w4⟨rfl,aG⟩;go_wp2_with fail
   go_ret;exact⟨Af HR.o,(HE.o.trans hx).trans aG⟩
end
end Go.Proofs.YtehieobniamagaaGreat
