/- Walks of tower.prime, tower.Frobenius, the field's Sub, Order, Same, Check. -/
import Derived.Test.YtehieobniamagaaGreatZa09
namespace Go.Proofs.YtehieobniamagaaGreat
open Go.RowKit
set_option linter.all false
set_option maxRecDepth 100000
set_option maxHeartbeats 2000000
def QA(p m:Nat)(low:Vc)(x:Nat):Nat->Nat
 | 0=>x
 | k+1=>Bm p m low (QA p m low x k) p
theorem Mm{p m:Nat}{low:Vc}(hp:2<=p)(hm:1<=m){x:Nat}(hx:x<p^m):∀k,QA p m low x k<p^m
 | 0=>hx
 | k+1=>CA hp hm _ _
section
variable {b p m x0:Nat} {ml:List Int}
theorem Rp(w:World)(hg:AP w b p m ml x0):
  Calls Tryz.prog 161 #[.pointer (some ⟨b,0,none⟩)] w fun r w'=>r= .returned (.tuple #[.int .i64 p,.int .i64 m])/\Ex w w':=by
 have HF:=Aa (R8 w hg);go_enter Tryz.func161,Tryz.ntmps161
 go_wp2_with fail
 refine HF.o.mono ?_;rintro e w1⟨v,rfl,hv,hx⟩;obtain⟨va,vc,rfl,_,_,_⟩:=hv.open;have d0:(w1.alloc (.cells #[.int .i64 p,.int .i64 m,.slice va ml.length vc] 24)).cell? ⟨w1.heap.size,0,none⟩=some (.int .i64 p):=ag;have d1:(w1.alloc (.cells #[.int .i64 p,.int .i64 m,.slice va ml.length vc] 24)).cell? ⟨w1.heap.size,1,none⟩=some (.int .i64 m):=ag;have HX:=Aa (hx.alloc (.cells #[.int .i64 p,.int .i64 m,.slice va ml.length vc] 24));clear hx hv;go_wp2_with fail
 obtain⟨q,hq⟩:=nA w1.heap.size;rw[hq]at d0 d1
 try simp only[hq]
 clear hq;generalize w1.alloc (.cells #[.int .i64 p,.int .i64 m,.slice va ml.length vc] 24)=w2 at *
 go_quiet (fail)
 go_wp2_with fail
 go_ret2;exact⟨rfl,HX.o.drewN _⟩
theorem Ga(w:World)(hg:AP w b p m ml x0)(x:Int)(k:Nat)(hk:k<m):
  Calls Tryz.prog 107 #[.pointer (some ⟨b,0,none⟩),.int .i64 x,.int .i64 k] w fun r w'=>r= .returned (.int .i64 (QA p m (lw ml) (Az (p^m) x) k:Nat))/\Ex w w':=by
 have HG:=Aa hg;have HP:=Aa (Rp w hg);have p2:=hg.sh.p2;have m1:=hg.sh.m1;have m8:=hg.sh.m8;have hp256:=hg.sh.p256;have aD:0<p^m:=Nat.pow_pos ac;have T1:(k:Int).tmod (m:Int)=(k:Int):=by
  rw[Int.tmod_eq_emod_of_nonneg ac];exact Int.emod_eq_of_lt ac ac
 have T2:((k:Int)+(m:Int)).tmod (m:Int)=(k:Int):=by
  rw[Int.tmod_eq_emod_of_nonneg ac,Int.add_emod_right];exact Int.emod_eq_of_lt ac ac
 have i4:¬m=0:=ac;have i5:¬((m:Int)=0):=ac;have i1:IntKind.i64.wrap ((k:Int)+(m:Int))=(k:Int)+(m:Int):=IntWalk.i64_in _ ac;clear hg;go_enter Tryz.func107,Tryz.ntmps107
 go_wp2_with fail
 refine HP.o.mono ?_;rintro e w1⟨rfl,hx⟩;have HX:=Aa hx;clear hx;go_wp2_with fail
 go_loopw [1,21] (fun x' j' wr=>∃(j:Nat) (y:Int),j<=k/\j'= .int .i64 j/\x'= .int .i64 y/\Hia (Az (p^m) y=QA p m (lw ml) (Az (p^m) x) j)/\Hia (Ex w wr)) (fun _ j' _=>k-(intOf j').toNat)
 case atStart=>exact⟨0,x,ac,rfl,rfl,Aa rfl,HX⟩
 case round=>
  obtain⟨j,y,hj,rfl,rfl,hy,aB⟩:=hrel;by_cases hjk:j<k
  .have aA:=Wv wr (HG.o.ex aB.o) y p ac ac;rw[hy.o]at aA;obtain⟨z,hz⟩:=nA (Bm p m (lw ml) (QA p m (lw ml) (Az (p^m) x) j) p);have HZ:=Aa (show Az (p^m) ((z:Nat):Int)=QA p m (lw ml) (Az (p^m) x) (j+1) from by
    rw[<-hz,Bj (CA p2 m1 _ _)];rfl)
   rw[hz]at aA;have aE:=Aa aA;clear aA hz hy;go_wp2_with fail
   refine aE.o.mono ?_;rintro e w2⟨rfl,n2,rfl⟩;go_wp2_with fail
   go_roundw
   case rel=>exact⟨j+1,_,ac,by go_num,rfl,HZ,Aa (aB.o.drewN _)⟩
   case measure=>simp[intOf];omega
  .obtain rfl:j=k:=by omega
   have aC:=IZ wr (HG.o.ex aB.o) y 0;rw[hy.o,Dm,Ck ac (Mm p2 m1 (Cr aD _) _)]at aC;have aF:=Aa aC;clear aC;go_wp2_with fail
   refine aF.o.mono ?_;rintro e w2⟨rfl,n2,rfl⟩;go_wp2_with fail
   go_ret;exact⟨rfl,aB.o.drewN _⟩
theorem Wt(w:World)(hg:AP w b p m ml x0)(x y:Int):
  Calls Tryz.prog 268 #[.pointer (some ⟨b,0,none⟩),.int .i64 x,.int .i64 y] w (Qt w (.int .i64 (A5 p m (Az (p^m) x) (Dy p m (Az (p^m) y)):Nat))):=by
 have p2:=hg.sh.p2;have HN:=Aa (MO w hg y);have ha:=fun n=>IZ (w.drewN n) (hg.drewN n) x ((Dy p m (Az (p^m) y):Nat):Int);rw[show Az (p^m) ((Dy p m (Az (p^m) y):Nat):Int)=Dy p m (Az (p^m) y) from Bj (DX ac _)]at ha;have HA:=Aa ha;clear ha hg;go_enter Tryz.func268,Tryz.ntmps268
 go_wp2_with fail
 refine HN.o.mono ?_;rintro e w1⟨rfl,n1,rfl⟩;go_wp2_with fail
 refine(HA.o n1).mono ?_;rintro e w2⟨rfl,n2,rfl⟩;go_wp2_with fail
 go_ret;exact⟨rfl,_,rfl⟩
theorem zcT{P:Prop}(h:P:=by
 go_wp2_with fail
 go_ret;exact⟨rfl,rfl⟩):P:=h
theorem BN(w:World)(hg:AP w b p m ml x0):
  Calls Tryz.prog 54 #[.pointer (some ⟨b,0,none⟩)] w fun r w'=>r= .returned (.int .i64 ((p^m:Nat):Int))/\w=w':=by
 have c3:=hg.c3;generalize p^m=q at *;clear hg;go_enter Tryz.func54,Tryz.ntmps54
 exact zcT
end
theorem zaC{P:Prop}(h:P:=by
 obtain rfl:i=n:=by omega
 have HF:=Aa (BL aA.o);go_wp2_with fail
 go_ret;exact⟨Ag HF.o.symm,aB.o⟩):P:=h
theorem zbJ{P:Prop}(h:P:=by
 go_roundg (n-(i+1))
 case measure=>omega
 case rel=>exact⟨i+1,by omega,by omega,by go_num,HX,HA⟩):P:=h
theorem zcV{P:Prop}(h:P:=by
 go_ret;exact⟨Ag HF.o.symm,HX.o⟩):P:=h
theorem az{P:Prop}(h:P:=by rw[HL.o];exact hlt):P:=h
theorem Kq(w:World)(p0:Value)(v:Value)(n:Nat)(us:List Value)(hv:Sl w v n 1 us)(pr:Nat->Bool)
  (hp:∀(w1:World) (i:Nat) (u:Value),Ex w w1->us[i]?=some u->Calls Tryz.prog 197 #[u,p0] w1 fun e w'=>e= .returned (.bool (pr i))/\Ex w1 w'):
  Calls Tryz.prog 169 #[v,.func (.func 197) #[] #[p0]] w fun r w'=>r= .returned (.int .i64 (CD pr n))/\Ex w w':=by
 obtain⟨hl,a,cap,rfl,s1,s2,s3⟩:=hv;rw[Nat.mul_one]at hl;have S3:=Aa s3;have HP:=Aa hp;have HL:=Aa hl;unfold maxLen at s2;clear s3 hp hl;go_enter Tryz.func169,Tryz.ntmps169
 go_wp2_with fail
 go_loopg [5,8] n (fun gg _ i' wr=>∃i:Nat,i<=n/\n-i<=gg/\i'= .int .i64 i/\Hia (Ex w wr)/\Hia (∀j,j<i->pr j=false))
 case atStart=>exact⟨0,ac,ac,rfl,Aa (Ex.refl _),Aa (fun j hj=>ac)⟩
 case round=>
  obtain⟨i,hi,hg,rfl,aB,aA⟩:=hrel;by_cases hlt:i<n
  .obtain⟨u,hu⟩:∃u,us[i]?=some u:=⟨_,List.getElem?_eq_getElem az⟩;obtain⟨bb,o,rfl,hc⟩:=S3.o ac;have c1:=aB.o.cell (hc i u hu);have HC:=Aa (HP.o wr i u aB.o hu);have hlt':(i:Int)<(n:Int):=by omega
   clear hc hu
   cases hb:pr i with
   | true=>
    rw[hb]at HC;have HF:=Aa (Cg hlt hb aA.o);clear hb;go_wp2_with (go_at_call 197;refine HC.o.mono ?_;rintro e w'⟨rfl,hx⟩;have HX:=Aa (aB.o.trans hx);clear hx)
    exact zcV
   | false=>
    rw[hb]at HC;have HA:=Aa (show ∀j,j<i+1->pr j=false from fun j hj=>by
     by_cases e:j=i
     .subst e;exact hb
     .exact aA.o j ac)
    clear hb;go_wp2_with (go_at_call 197;refine HC.o.mono ?_;rintro e w'⟨rfl,hx⟩;have HX:=Aa (aB.o.trans hx);clear hx)
    exact zbJ
  .exact zaC
theorem zbb{P:Prop}(h:P:=by
 have HB:=Aa (DL pr n);obtain⟨z,hz⟩:=nA (CD pr n);rw[hz]at HC HB;clear hz hp hv;go_enter Tryz.func116,Tryz.ntmps116
 go_wp2_with (go_at_call 169;refine HC.o.mono ?_;rintro e w'⟨rfl,hx⟩;have HX:=Aa hx;clear hx)
 go_ret;exact⟨Ao HB.o.symm,HX.o⟩):P:=h
theorem Hz(w:World)(p0:Value)(v:Value)(n:Nat)(us:List Value)(hv:Sl w v n 1 us)(pr:Nat->Bool)
  (hp:∀(w1:World) (i:Nat) (u:Value),Ex w w1->us[i]?=some u->Calls Tryz.prog 197 #[u,p0] w1 fun e w'=>e= .returned (.bool (pr i))/\Ex w1 w'):
  Calls Tryz.prog 116 #[v,.func (.func 197) #[] #[p0]] w fun r w'=>r= .returned (.bool ((List.range n).any pr))/\Ex w w':=by
 have HC:=Aa (Kq w p0 v n us hv pr hp);exact zbb
theorem Kr(w:World)(p0:Value)(v:Value)(n:Nat)(us:List Value)(hv:Sl w v n 1 us)(pr:Nat->Bool)
  (hp:∀(w1:World) (i:Nat) (u:Value),Ex w w1->us[i]?=some u->Calls Tryz.prog 198 #[u,p0] w1 fun e w'=>e= .returned (.bool (pr i))/\Ex w1 w'):
  Calls Tryz.prog 169 #[v,.func (.func 198) #[] #[p0]] w fun r w'=>r= .returned (.int .i64 (CD pr n))/\Ex w w':=by
 obtain⟨hl,a,cap,rfl,s1,s2,s3⟩:=hv;rw[Nat.mul_one]at hl;have S3:=Aa s3;have HP:=Aa hp;have HL:=Aa hl;unfold maxLen at s2;clear s3 hp hl;go_enter Tryz.func169,Tryz.ntmps169
 go_wp2_with fail
 go_loopg [5,8] n (fun gg _ i' wr=>∃i:Nat,i<=n/\n-i<=gg/\i'= .int .i64 i/\Hia (Ex w wr)/\Hia (∀j,j<i->pr j=false))
 case atStart=>exact⟨0,ac,ac,rfl,Aa (Ex.refl _),Aa (fun j hj=>ac)⟩
 case round=>
  obtain⟨i,hi,hg,rfl,aB,aA⟩:=hrel;by_cases hlt:i<n
  .obtain⟨u,hu⟩:∃u,us[i]?=some u:=⟨_,List.getElem?_eq_getElem az⟩;obtain⟨bb,o,rfl,hc⟩:=S3.o ac;have c1:=aB.o.cell (hc i u hu);have HC:=Aa (HP.o wr i u aB.o hu);have hlt':(i:Int)<(n:Int):=by omega
   clear hc hu
   cases hb:pr i with
   | true=>
    rw[hb]at HC;have HF:=Aa (Cg hlt hb aA.o);clear hb;go_wp2_with (go_at_call 198;refine HC.o.mono ?_;rintro e w'⟨rfl,hx⟩;have HX:=Aa (aB.o.trans hx);clear hx)
    exact zcV
   | false=>
    rw[hb]at HC;have HA:=Aa (show ∀j,j<i+1->pr j=false from fun j hj=>by
     by_cases e:j=i
     .subst e;exact hb
     .exact aA.o j ac)
    clear hb;go_wp2_with (go_at_call 198;refine HC.o.mono ?_;rintro e w'⟨rfl,hx⟩;have HX:=Aa (aB.o.trans hx);clear hx)
    exact zbJ
  .exact zaC
theorem HJ(w:World)(p0:Value)(v:Value)(n:Nat)(us:List Value)(hv:Sl w v n 1 us)(pr:Nat->Bool)
  (hp:∀(w1:World) (i:Nat) (u:Value),Ex w w1->us[i]?=some u->Calls Tryz.prog 198 #[u,p0] w1 fun e w'=>e= .returned (.bool (pr i))/\Ex w1 w'):
  Calls Tryz.prog 116 #[v,.func (.func 198) #[] #[p0]] w fun r w'=>r= .returned (.bool ((List.range n).any pr))/\Ex w w':=by
 have HC:=Aa (Kr w p0 v n us hv pr hp);exact zbb
theorem Kk(w:World)(p0:Value)(v:Value)(n:Nat)(us:List Value)(hv:Sl w v n 1 us)(pr:Nat->Bool)
  (hp:∀(w1:World) (i:Nat) (u:Value),Ex w w1->us[i]?=some u->Calls Tryz.prog 223 #[u,p0] w1 fun e w'=>e= .returned (.bool (pr i))/\Ex w1 w'):
  Calls Tryz.prog 169 #[v,.func (.func 223) #[] #[p0]] w fun r w'=>r= .returned (.int .i64 (CD pr n))/\Ex w w':=by
 obtain⟨hl,a,cap,rfl,s1,s2,s3⟩:=hv;rw[Nat.mul_one]at hl;have S3:=Aa s3;have HP:=Aa hp;have HL:=Aa hl;unfold maxLen at s2;clear s3 hp hl;go_enter Tryz.func169,Tryz.ntmps169
 go_wp2_with fail
 go_loopg [5,8] n (fun gg _ i' wr=>∃i:Nat,i<=n/\n-i<=gg/\i'= .int .i64 i/\Hia (Ex w wr)/\Hia (∀j,j<i->pr j=false))
 case atStart=>exact⟨0,ac,ac,rfl,Aa (Ex.refl _),Aa (fun j hj=>ac)⟩
 case round=>
  obtain⟨i,hi,hg,rfl,aB,aA⟩:=hrel;by_cases hlt:i<n
  .obtain⟨u,hu⟩:∃u,us[i]?=some u:=⟨_,List.getElem?_eq_getElem az⟩;obtain⟨bb,o,rfl,hc⟩:=S3.o ac;have c1:=aB.o.cell (hc i u hu);have HC:=Aa (HP.o wr i u aB.o hu);have hlt':(i:Int)<(n:Int):=by omega
   clear hc hu
   cases hb:pr i with
   | true=>
    rw[hb]at HC;have HF:=Aa (Cg hlt hb aA.o);clear hb;go_wp2_with (go_at_call 223;refine HC.o.mono ?_;rintro e w'⟨rfl,hx⟩;have HX:=Aa (aB.o.trans hx);clear hx)
    exact zcV
   | false=>
    rw[hb]at HC;have HA:=Aa (show ∀j,j<i+1->pr j=false from fun j hj=>by
     by_cases e:j=i
     .subst e;exact hb
     .exact aA.o j ac)
    clear hb;go_wp2_with (go_at_call 223;refine HC.o.mono ?_;rintro e w'⟨rfl,hx⟩;have HX:=Aa (aB.o.trans hx);clear hx)
    exact zbJ
  .exact zaC
theorem Hw(w:World)(p0:Value)(v:Value)(n:Nat)(us:List Value)(hv:Sl w v n 1 us)(pr:Nat->Bool)
  (hp:∀(w1:World) (i:Nat) (u:Value),Ex w w1->us[i]?=some u->Calls Tryz.prog 223 #[u,p0] w1 fun e w'=>e= .returned (.bool (pr i))/\Ex w1 w'):
  Calls Tryz.prog 116 #[v,.func (.func 223) #[] #[p0]] w fun r w'=>r= .returned (.bool ((List.range n).any pr))/\Ex w w':=by
 have HC:=Aa (Kk w p0 v n us hv pr hp);exact zbb
theorem F9(w:World)(v:Value)(n:Nat)(us:List Value)(hv:Sl w v n 1 us)(pr:Nat->Bool)
  (hp:∀(w1:World) (i:Nat) (u:Value),Ex w w1->us[i]?=some u->Calls Tryz.prog 269 #[u] w1 fun e w'=>e= .returned (.bool (pr i))/\Ex w1 w'):
  Calls Tryz.prog 169 #[v,.func (.func 269) #[] #[]] w fun r w'=>r= .returned (.int .i64 (CD pr n))/\Ex w w':=by
 obtain⟨hl,a,cap,rfl,s1,s2,s3⟩:=hv;rw[Nat.mul_one]at hl;have S3:=Aa s3;have HP:=Aa hp;have HL:=Aa hl;unfold maxLen at s2;clear s3 hp hl;go_enter Tryz.func169,Tryz.ntmps169
 go_wp2_with fail
 go_loopg [5,8] n (fun gg _ i' wr=>∃i:Nat,i<=n/\n-i<=gg/\i'= .int .i64 i/\Hia (Ex w wr)/\Hia (∀j,j<i->pr j=false))
 case atStart=>exact⟨0,ac,ac,rfl,Aa (Ex.refl _),Aa (fun j hj=>ac)⟩
 case round=>
  obtain⟨i,hi,hg,rfl,aB,aA⟩:=hrel;by_cases hlt:i<n
  .obtain⟨u,hu⟩:∃u,us[i]?=some u:=⟨_,List.getElem?_eq_getElem az⟩;obtain⟨bb,o,rfl,hc⟩:=S3.o ac;have c1:=aB.o.cell (hc i u hu);have HC:=Aa (HP.o wr i u aB.o hu);have hlt':(i:Int)<(n:Int):=by omega
   clear hc hu
   cases hb:pr i with
   | true=>
    rw[hb]at HC;have HF:=Aa (Cg hlt hb aA.o);clear hb;go_wp2_with (go_at_call 269;refine HC.o.mono ?_;rintro e w'⟨rfl,hx⟩;have HX:=Aa (aB.o.trans hx);clear hx)
    exact zcV
   | false=>
    rw[hb]at HC;have HA:=Aa (show ∀j,j<i+1->pr j=false from fun j hj=>by
     by_cases e:j=i
     .subst e;exact hb
     .exact aA.o j ac)
    clear hb;go_wp2_with (go_at_call 269;refine HC.o.mono ?_;rintro e w'⟨rfl,hx⟩;have HX:=Aa (aB.o.trans hx);clear hx)
    exact zbJ
  .exact zaC
theorem Km(w:World)(p0:Value)(v:Value)(n:Nat)(us:List Value)(hv:Sl w v n 1 us)(pr:Nat->Bool)
  (hp:∀(w1:World) (i:Nat) (u:Value),Ex w w1->us[i]?=some u->Calls Tryz.prog 262 #[u,p0] w1 fun e w'=>e= .returned (.bool (pr i))/\Ex w1 w'):
  Calls Tryz.prog 129 #[v,.func (.func 262) #[] #[p0]] w fun r w'=>r= .returned (.int .i64 (CD pr n))/\Ex w w':=by
 obtain⟨hl,a,cap,rfl,s1,s2,s3⟩:=hv;rw[Nat.mul_one]at hl;have S3:=Aa s3;have HP:=Aa hp;have HL:=Aa hl;unfold maxLen at s2;clear s3 hp hl;go_enter Tryz.func129,Tryz.ntmps129
 go_wp2_with fail
 go_loopg [5,8] n (fun gg _ i' wr=>∃i:Nat,i<=n/\n-i<=gg/\i'= .int .i64 i/\Hia (Ex w wr)/\Hia (∀j,j<i->pr j=false))
 case atStart=>exact⟨0,ac,ac,rfl,Aa (Ex.refl _),Aa (fun j hj=>ac)⟩
 case round=>
  obtain⟨i,hi,hg,rfl,aB,aA⟩:=hrel;by_cases hlt:i<n
  .obtain⟨u,hu⟩:∃u,us[i]?=some u:=⟨_,List.getElem?_eq_getElem az⟩;obtain⟨bb,o,rfl,hc⟩:=S3.o ac;have c1:=aB.o.cell (hc i u hu);have HC:=Aa (HP.o wr i u aB.o hu);have hlt':(i:Int)<(n:Int):=by omega
   clear hc hu
   cases hb:pr i with
   | true=>
    rw[hb]at HC;have HF:=Aa (Cg hlt hb aA.o);clear hb;go_wp2_with (go_at_call 262;refine HC.o.mono ?_;rintro e w'⟨rfl,hx⟩;have HX:=Aa (aB.o.trans hx);clear hx)
    exact zcV
   | false=>
    rw[hb]at HC;have HA:=Aa (show ∀j,j<i+1->pr j=false from fun j hj=>by
     by_cases e:j=i
     .subst e;exact hb
     .exact aA.o j ac)
    clear hb;go_wp2_with (go_at_call 262;refine HC.o.mono ?_;rintro e w'⟨rfl,hx⟩;have HX:=Aa (aB.o.trans hx);clear hx)
    exact zbJ
  .exact zaC
theorem TC{w:World}{a:Option Addr}{n cap:Nat}{l:List Int}(h:Aj w (.slice a n cap) l){i:Nat}(hi:i<=l.length):Aj w (.slice a i cap) (l.take i):=by
 obtain⟨a',cap',e,h1,h2,h3⟩:=h.open;injection e with e1 e2 e3;subst e1 e3;have hl:(l.take i).length=i:=cd;unfold Aj;rw[hl];refine⟨by rw[AS,hl];omega,a,cap,rfl,ac,h2,fun hn=>?_⟩;obtain⟨b,o,rfl,h4⟩:=h3 ac;refine⟨b,o,rfl,fun j u hu=>?_⟩;simp only[Al,List.getElem?_map,List.getElem?_take]at hu;split at hu
 .obtain⟨y,hy,rfl⟩:=Option.map_eq_some_iff.1 hu;exact h4 j y hy
 .cases hu
def Kd(l:List Int)(k:Nat):Bool:=(List.range k).any fun i=>(l.take i).contains (l.getD i 0)
def Dt(l:List Int):Bool:=Kd l l.length
theorem RS(l:List Int)(k:Nat):Kd l (k+1)=(Kd l k||(l.take k).contains (l.getD k 0)):=by
 unfold Kd;rw[List.range_succ,List.any_append];simp
theorem RT{l:List Int}{k n:Nat}(h:k<=n)(hd:Kd l k=true):Kd l n=true:=by
 unfold Kd at *;obtain⟨i,hi,hb⟩:=List.any_eq_true.1 hd;exact List.any_eq_true.2 ⟨i,List.mem_range.2 (by have:=List.mem_range.1 hi;omega),hb⟩
def Bz(l:List Int)(n:Int):Bool:=l.all fun x=>decide (0<=x/\x<n)
def EJ(l:List Int)(n:Int):Int:=if Bz l n=false then 6 else if Dt l=true then 18 else 0
theorem JZ(l:List Int)(f:Int->Bool):((List.range l.length).any fun j=>f (l.getD j 0))=l.any f:=by
 rw[Bool.eq_iff_iff,List.any_eq_true,List.any_eq_true];constructor
 .rintro⟨j,hj,h⟩;have hj:=List.mem_range.1 hj;refine⟨l[j],List.getElem_mem hj,?_⟩
  rwa[List.getD_eq_getElem?_getD,List.getElem?_eq_getElem hj]at h
 .rintro⟨x,hx,h⟩;obtain⟨j,hj,rfl⟩:=List.getElem_of_mem hx;exact⟨j,List.mem_range.2 hj,by rw[List.getD_eq_getElem?_getD,List.getElem?_eq_getElem hj];exact h⟩
theorem Mi{l:List Int}{i:Nat}{u:Value}(h:(Al l)[i]?=some u):∃x,l[i]?=some x/\u= .int .i64 x/\l.getD i 0=x:=by
 unfold Al at h;rw[List.getElem?_map]at h;obtain⟨x,hx,rfl⟩:=Option.map_eq_some_iff.1 h;exact⟨x,hx,rfl,by rw[List.getD_eq_getElem?_getD,hx];rfl⟩
theorem zbU{P:Prop}(h:P:=by
 go_enter Tryz.func197,Tryz.ntmps197
 go_wp2_with fail
 go_ret;exact⟨Ao HR.o,Ex.refl _⟩):P:=h
theorem zbL{P:Prop}(h:P:=by
 clear h0 h1;exact zbU):P:=h
theorem TF(w:World)(B:Nat)(n x:Int)(c0:w.cell? ⟨B,0,none⟩=some (.int .i64 n)):
  Calls Tryz.prog 197 #[.int .i64 x,.pointer (some ⟨B,0,none⟩)] w fun r w'=>r= .returned (.bool (!decide (0<=x/\x<n)))/\Ex w w':=by
 by_cases h0:x<0
 .have HR:=Aa (show true=!decide (0<=x/\x<n) from by simp;omega);have b1:decide (x<0)=true:=decide_eq_true h0;clear h0;exact zbU
 .have b1:decide (x<0)=false:=decide_eq_false h0;by_cases h1:n<=x
  .have HR:=Aa (show true=!decide (0<=x/\x<n) from by simp;omega);have b2:decide (n<=x)=true:=decide_eq_true h1;exact zbL
  .have HR:=Aa (show false=!decide (0<=x/\x<n) from by simp;omega);have b2:decide (n<=x)=false:=decide_eq_false h1;exact zbL
theorem zcN{P:Prop}(h:P:=by
 go_ret;exact⟨Ag HR.o,aF.o.trans aB.o⟩):P:=h
theorem F7(w:World)(l:List Int)(v:Value)(n:Int)(hl:Aj w v l):
  Calls Tryz.prog 150 #[v,.int .i64 n] w fun r w'=>r= .returned (.int .i64 (EJ l n))/\Ex w w':=by
 have ea:Ex w (w.alloc (.cells #[.int .i64 n] 3)):=(Ex.refl _).alloc _;have q0:(w.alloc (.cells #[.int .i64 n] 3)).cell? ⟨w.heap.size,0,none⟩=some (.int .i64 n):=ag;have HL:=Aa (hl.ex ea);have HC:=Aa (Hz (w.alloc (.cells #[.int .i64 n] 3)) (.pointer (some ⟨w.heap.size,0,none⟩)) v l.length (Al l) (hl.ex ea) (fun j=> !decide (0<=l.getD j 0/\l.getD j 0<n)) fun w1 i u hx hu=>by
  obtain⟨x,_,rfl,aA⟩:=Mi hu;rw[aA];exact TF w1 w.heap.size n x (hx.cell q0))
 have hc:=HC.o;rw[JZ l fun x=> !decide (0<=x/\x<n)]at hc;have HC:=Aa hc;obtain⟨a,cap,rfl,s1,s2,s3⟩:=hl.open;unfold maxLen at s2;have aF:=Aa ea;clear hl s3 hc ea;by_cases hr:Bz l n=true
 .have h1:(l.any fun x=> !decide (0<=x/\x<n))=false:=by
   unfold Bz at hr;rw[List.any_eq_false];intro x hx;have:=List.all_eq_true.1 hr x hx;simpa using this
  rw[h1]at HC;have aJ:=Aa (show EJ l n=if Dt l=true then 18 else 0 from by unfold EJ;rw[hr,if_neg ae]);clear hr h1;go_enter Tryz.func150,Tryz.ntmps150
  go_wp2_with fail
  obtain⟨q,hq⟩:=nA w.heap.size;rw[hq]at HC q0
  try simp only[hq]
  clear hq;generalize w.alloc (.cells #[.int .i64 n] 3)=w1 at *;refine HC.o.mono ?_;rintro e w2⟨rfl,aA⟩;have aB:=Aa aA;clear aA;go_wp2_with fail
  go_loopw [12] (fun i' wr=>∃(i:Nat),i<=l.length/\i'= .int .i64 i/\Hia (Kd l i=false)/\Hia (Ex w2 wr)) (fun i' _=>l.length-(intOf i').toNat)
  case atStart=>exact⟨0,ac,rfl,Aa rfl,Aa (Ex.refl _)⟩
  case round=>
   obtain⟨i,hi,rfl,hd,aE⟩:=hrel;have aB:=Aa (aB.o.trans aE.o);by_cases hil:i<l.length
   .obtain⟨x,hx⟩:∃x,l[i]?=some x:=⟨_,List.getElem?_eq_getElem hil⟩;have aI:=Aa (HL.o.ex aB.o);obtain⟨_,_,e1,_,_,h3⟩:=aI.o.open;injection e1 with e1 e2 e3;subst e1;clear e2 e3;obtain⟨zb,zo,rfl,aG⟩:=h3 ac;have c1:=aG i x hx;have aH:l.getD i 0=x:=by rw[List.getD_eq_getElem?_getD,hx];rfl
    have i1:(0:Int)<=(i:Int):=ac;have i2:(i:Int)<(l.length:Int):=ac;have i3:i<=cap:=ac;have i4:(i:Int)<=(cap:Int):=ac;have aD:=Aa (CY wr (l.take i) _ x (TC aI.o ac));have aC:=Aa (RS l i);rw[aH,hd.o,Bool.false_or]at aC;clear hx h3 aG aH hd
    cases hb:(l.take i).contains x with
    | true=>
     rw[hb]at aD aC;have HR:=Aa (show(18:Int)=EJ l n from by
      have aK:Dt l=true:=RT (show i+1<=l.length by omega) aC.o;rw[aJ.o,if_pos aK])
     clear hb;go_wp2_with (go_at_call 132;refine aD.o.mono ?_;rintro e w5⟨rfl,rfl⟩)
     exact zcN
    | false=>
     rw[hb]at aD aC;clear hb;go_wp2_with (go_at_call 132;refine aD.o.mono ?_;rintro e w5⟨rfl,rfl⟩)
     go_roundw
     case rel=>first|exact⟨i+1,ac,by go_num,aC,aE⟩|((repeat apply Exists.intro);exact⟨⟨i+1,ac,by go_num,aC,aE⟩,rfl⟩)
     case measure=>simp[intOf];omega
   .obtain rfl:i=l.length:=by omega
    have HR:=Aa (show(0:Int)=EJ l n from by
     rw[aJ.o,if_neg (by show ¬Kd l l.length=true;rw[hd.o];decide)])
    go_wp2_with fail
    exact zcN
 .have hr:Bz l n=false:=by simpa using hr
  have h1:(l.any fun x=> !decide (0<=x/\x<n))=true:=by
   unfold Bz at hr;rw[List.all_eq_false]at hr;obtain⟨x,hx,h⟩:=hr;exact List.any_eq_true.2 ⟨x,hx,by simp at h ⊢;omega⟩
  rw[h1]at HC;have HR:=Aa (show(6:Int)=EJ l n from by unfold EJ;rw[if_pos hr]);clear hr h1;go_enter Tryz.func150,Tryz.ntmps150
  go_wp2_with (go_at_call 116;refine HC.o.mono ?_;rintro e w2⟨rfl,aA⟩;have aB:=Aa aA;clear aA)
  exact zcN
def DS(q:Nat)(l:List Int):Int:=if (l.any fun x=> !Fa q x)=true then 2 else if l.contains 0=true then 7 else 0
section
variable {b p m x0:Nat} {ml:List Int}
theorem zbB{P:Prop}(h:P:=by
 go_wp2_with (go_at_call 199;refine HI.o.mono ?_;rintro e w1⟨rfl,n1,rfl⟩)
 go_ret;exact⟨rfl,(Ex.refl w).drewN _⟩):P:=h
theorem TZ(w:World)(B:Nat)(hg:AP w b p m ml x0)(x:Int)(c0:w.cell? ⟨B,0,none⟩=some (.pointer (some ⟨b,0,none⟩))):
  Calls Tryz.prog 198 #[.int .i64 x,.pointer (some ⟨B,0,none⟩)] w fun r w'=>r= .returned (.bool (!Fa (p^m) x))/\Ex w w':=by
 have HI:=Aa (MR w hg x);obtain⟨z,hz⟩:=nA (Fa (p^m) x);rw[hz]at HI ⊢;clear hg hz;go_enter Tryz.func198,Tryz.ntmps198
 exact zbB
theorem za9{P:Prop}(h:P:=by
 subst aB;go_enter Tryz.func151,Tryz.ntmps151
 go_wp2_with (first|(go_at_call 116;refine HC.o.mono ?_;rintro e w2⟨rfl,aA⟩;have aC:=Aa (aD.o.trans aA);clear aA)|(go_at_call 132;refine(aE.o _ aC.o).mono ?_;rintro e w5⟨rfl,rfl⟩))
 go_ret;exact⟨rfl,aC.o⟩):P:=h
theorem Io(w:World)(hg:AP w b p m ml x0)(l:List Int)(v:Value)(hl:Aj w v l):
  Calls Tryz.prog 151 #[.pointer (some ⟨b,0,none⟩),v] w fun r w'=>r= .returned (.int .i64 (DS (p^m) l))/\Ex w w':=by
 have ea:Ex w (w.alloc (.cells #[.pointer (some ⟨b,0,none⟩)] 97)):=(Ex.refl _).alloc _;have q0:(w.alloc (.cells #[.pointer (some ⟨b,0,none⟩)] 97)).cell? ⟨w.heap.size,0,none⟩=some (.pointer (some ⟨b,0,none⟩)):=ag;have hc:=HJ (w.alloc (.cells #[.pointer (some ⟨b,0,none⟩)] 97)) (.pointer (some ⟨w.heap.size,0,none⟩)) v l.length (Al l) (hl.ex ea) (fun j=> !Fa (p^m) (l.getD j 0)) fun w1 i u hx hu=>by
  obtain⟨x,_,rfl,aA⟩:=Mi hu;rw[aA];exact TZ w1 w.heap.size (hg.ex (ea.trans hx)) x (hx.cell q0)
 rw[JZ l fun x=> !Fa (p^m) x]at hc;have HC:=Aa hc;have aE:=Aa (fun w1 (hx:Ex w w1)=>CY w1 l v 0 (hl.ex hx));obtain⟨a,cap,rfl,s1,s2,s3⟩:=hl.open;unfold maxLen at s2;have aD:=Aa ea;obtain⟨R,hR⟩:=nA (DS (p^m) l);have aB:=hR;unfold DS at aB;rw[hR];obtain⟨y,hy⟩:∃y,(l.any fun x=> !Fa (p^m) x)=y:=⟨_,rfl⟩;obtain⟨z,hz⟩:=nA (l.contains 0);rw[hy]at HC aB;rw[hz]at aB aE;clear hl s3 hc ea hy hz hR hg
 cases y with
 | true=>
  rw[if_pos rfl]at aB;subst aB;go_enter Tryz.func151,Tryz.ntmps151
  go_wp2_with (go_at_call 116;refine HC.o.mono ?_;rintro e w2⟨rfl,aA⟩;have aC:=Aa aA;clear aA)
  go_ret;exact⟨rfl,aD.o.trans aC.o⟩
 | false=>
  rw[if_neg ae]at aB
  cases z with
  | true=>
   rw[if_pos rfl]at aB;exact za9
  | false=>
   rw[if_neg ae]at aB;exact za9
end
def BF(p m:Int)(ml:List Int)(n:Int)(pl sl:List Int)(fr:Int):Int:=
 if BY p m ml≠0 then 1 else if n<1∨64<n then 4 else if (pl.length:Int)≠n∨(sl.length:Int)≠n then 3 else
 if Bz pl n=false∨fr<0∨m<=fr then 6 else if Dt pl=true then 18 else DS (p.toNat^m.toNat) sl
theorem Da(w:World)(p m:Int)(v:Value):(w.alloc (.cells #[.int .i64 p,.int .i64 m,v] 24)).cell? ⟨w.heap.size,0,none⟩=some (.int .i64 p)/\(w.alloc (.cells #[.int .i64 p,.int .i64 m,v] 24)).cell? ⟨w.heap.size,1,none⟩=some (.int .i64 m)/\
  (w.alloc (.cells #[.int .i64 p,.int .i64 m,v] 24)).cell? ⟨w.heap.size,2,none⟩=some v/\Ex w (w.alloc (.cells #[.int .i64 p,.int .i64 m,v] 24)):=⟨ag,ag,ag,(Ex.refl _).alloc _⟩
theorem Ay(w:World)(u v:Value)(fr:Int):(w.alloc (.cells #[u,v,.int .i64 fr] 26)).cell? ⟨w.heap.size,0,none⟩=some u/\(w.alloc (.cells #[u,v,.int .i64 fr] 26)).cell? ⟨w.heap.size,1,none⟩=some v/\
  (w.alloc (.cells #[u,v,.int .i64 fr] 26)).cell? ⟨w.heap.size,2,none⟩=some (.int .i64 fr)/\Ex w (w.alloc (.cells #[u,v,.int .i64 fr] 26)):=⟨ag,ag,ag,(Ex.refl _).alloc _⟩
def Za(p m:Int)(ml:List Int)(e:Int)(r:Ending)(w':World):Prop:=
 (e=0/\∃(b pn mn x0:Nat),p=pn/\m=mn/\r= .returned (.tuple #[.pointer (some ⟨b,0,none⟩),.int .i64 0])/\AP w' b pn mn ml x0/\1<=x0/\x0<pn^mn)∨
 (e≠0/\∃ptr:Option Addr,r= .returned (.tuple #[.pointer ptr,.int .i64 e]))
theorem Ea{p m:Int}{ml:List Int}{e:Int}(h:e≠0)(aA:Option Addr)(w':World):Za p m ml e (.returned (.tuple #[.pointer aA,.int .i64 e])) w':= .inr ⟨h,aA,rfl⟩
section
variable {p m:Nat} {ml:List Int} {N R:Nat}
def ks(p m:Nat)(g:Nat->Nat):Nat->Nat
 | 0=>0
 | n+1=>A5 p m (ks p m g n) (g n)
structure Iz(N:Nat)(π:Nat->Nat):Prop where
 lt:∀i,i<N->π i<N
 inj:∀i j,i<N->j<N->π i=π j->i=j
theorem Iz.perm{π:Nat->Nat}(h:Iz N π):((List.range N).map π).Perm (List.range N):=by
 have aB:((List.range N).map π).Nodup:=Cy fun i j hj aC e=>by
  have:=h.inj i j ac hj e;omega
 have aA:∀x,x<N->x∈(List.range N).map π:=fun x hx=>by
  have:=O9 N (((List.range N).map π).map (·+ 1)) (by
   rw[List.map_map];exact Cy fun i j hj aC e=>by
    have e:π i+1=π j+1:=e;have:=h.inj i j ac hj ac;omega) ag (fun y hy=>by
   obtain⟨z,hz,rfl⟩:=List.mem_map.1 hy;obtain⟨i,hi,rfl⟩:=List.mem_map.1 hz;have:=h.lt i (List.mem_range.1 hi);omega) (x+1) ac ac
  obtain⟨z,hz,e⟩:=List.mem_map.1 this;have:z=x:=by have e:z+1=x+1:=e;omega
  rw[<-this];exact hz
 refine(List.perm_ext_iff_of_nodup aB List.nodup_range).2 fun x=>⟨fun hx=>?_,fun hx=>aA x (List.mem_range.1 hx)⟩;obtain⟨i,hi,rfl⟩:=List.mem_map.1 hx;exact List.mem_range.2 (h.lt i (List.mem_range.1 hi))
theorem Iz.surj{π:Nat->Nat}(h:Iz N π){j:Nat}(hj:j<N):∃i,i<N/\π i=j:=by
 have:=h.perm.mem_iff.2 (List.mem_range.2 hj);obtain⟨i,hi,e⟩:=List.mem_map.1 this;exact⟨i,List.mem_range.1 hi,e⟩
def plc(π:Nat->Nat)(v:Nat->Int):Nat->Nat->Int
 | 0=>fun _=>0
 | k+1=>Ax (plc π v k) (π k) (v k)
theorem SW{π:Nat->Nat}(h:Iz N π)(v:Nat->Int):∀k,k<=N->∀i,i<k->plc π v k (π i)=v i
 | 0,_,i,hi=>by omega
 | k+1,hk,i,hi=>by
  show Ax (plc π v k) (π k) (v k) (π i)=v i
  by_cases e:i=k
  .subst e;exact Ad _ _ _
  .rw[Ae _ _ fun e2=>e (h.inj i k (by omega) (by omega) e2)];exact SW h v k (by omega) i (by omega)
end
def pI(piv:List Nat):List Int:=piv.map fun (x:Nat)=>(x:Int)
theorem S2(piv:List Nat):(pI piv).length=piv.length:=by unfold pI;simp
theorem LR{w w':World}{base:Nat}{e:TypeId}{size:Nat}{v:Value}{n:Nat}{xs:List Value}(h:w.ownsRow base e size v n xs)(hk:∀b,v.ownBlock=some b->w'.heap[b]?=w.heap[b]?):w'.ownsRow base e size v n xs:=by
 refine⟨h.1,?_⟩;rcases h.2 with h1|⟨g,cap,cur,rfl,hb,hg,h3⟩
 .exact .inl h1
 .exact .inr ⟨g,cap,cur,rfl,hb,by rw[hk g rfl];exact hg,h3⟩
def AV(pv:Value)(B4 B5 B7:Nat):List Nat:=pv.ownBlock.toList ++ [B4,B5,B7]
structure EB(w0 w:World)(base g R N:Nat)(blk cap:Nat->Nat)(a:Nat->Nat->Int)(avs:List Nat)(B4 B5 B7 b:Nat)(pv:Value)(piv:List Nat):Prop where
 em:EM w base g R N blk cap a avs
 i4:B4∈avs
 i5:B5∈avs
 i7:B7∈avs
 c4:w.cell? ⟨B4,0,none⟩=some (.pointer (some ⟨b,0,none⟩))
 c5:w.cell? ⟨B5,0,none⟩=some (.slice (some ⟨g,0,none⟩) R R)
 c7:w.cell? ⟨B7,0,none⟩=some (.slice none 0 0)
 pvo:w.ownsRow base 3 1 pv piv.length (Al (pI piv))
 pvi:∀B,pv.ownBlock=some B->B∈avs/\B≠B4/\B≠B5/\B≠B7
 ex:Ex w0 w
 bs:w0.heap.size<=base
section
variable {w0 w:World} {base g R N:Nat} {blk cap:Nat->Nat} {a:Nat->Nat->Int} {avs:List Nat} {B4 B5 B7 b:Nat} {pv:Value} {piv:List Nat}
theorem EB.later(h:EB w0 w base g R N blk cap a avs B4 B5 B7 b pv piv){w':World}(hx:Ex w w'):EB w0 w' base g R N blk cap a avs B4 B5 B7 b pv piv:=
 ⟨h.em.ex hx,h.i4,h.i5,h.i7,hx.cell h.c4,hx.cell h.c5,hx.cell h.c7,Ai h.pvo hx,h.pvi,h.ex.trans hx,h.bs⟩
theorem EB.box(h:EB w0 w base g R N blk cap a avs B4 B5 B7 b pv piv)(o:Obj):EB w0 (w.alloc o) base g R N blk cap a (w.heap.size :: avs) B4 B5 B7 b pv piv:=by
 have h1:=h.later ((Ex.refl w).alloc o);exact⟨h.em.box o,List.mem_cons_of_mem _ h.i4,List.mem_cons_of_mem _ h.i5,List.mem_cons_of_mem _ h.i7,h1.c4,h1.c5,h1.c7,h1.pvo,fun B hB=>by obtain⟨k1,k2⟩:=h.pvi B hB;exact⟨List.mem_cons_of_mem _ k1,k2⟩,h1.ex,h1.bs⟩
theorem EB.less(h:EB w0 w base g R N blk cap a avs B4 B5 B7 b pv piv){bvs:List Nat}(hs:∀B∈bvs,B∈avs)(h4:B4∈bvs)(h5:B5∈bvs)(h7:B7∈bvs)(hp:∀B,pv.ownBlock=some B->B∈bvs):EB w0 w base g R N blk cap a bvs B4 B5 B7 b pv piv:=
 ⟨h.em.less hs,h4,h5,h7,h.c4,h.c5,h.c7,h.pvo,fun B hB=>⟨hp B hB,(h.pvi B hB).2⟩,h.ex,h.bs⟩
theorem a8{P:Prop}(h:P:=by unfold AV;simp):P:=h
theorem EB.toAV(h:EB w0 w base g R N blk cap a avs B4 B5 B7 b pv piv):EB w0 w base g R N blk cap a (AV pv B4 B5 B7) B4 B5 B7 b pv piv:=by
 refine h.less (fun B hB=>?_) a8 a8 a8 (fun B hB=>by unfold AV;rw[hB];simp);unfold AV at hB;rcases List.mem_append.1 hB with hB|hB
 .have:pv.ownBlock=some B:=by
   cases e:pv.ownBlock with
   | none=>rw[e]at hB;simp at hB
   | some C=>rw[e]at hB;simp at hB;rw[hB]
  exact(h.pvi B this).1
 .simp at hB;rcases hB with rfl|rfl|rfl
  .exact h.i4
  .exact h.i5
  .exact h.i7
theorem EB.step(h:EB w0 w base g R N blk cap a avs B4 B5 B7 b pv piv){a':Nat->Nat->Int}{r:Ending}{w':World}(hs:Yh w base g R N a' avs r w'):∃aB aA,EB w0 w' base g R N aB aA a' avs B4 B5 B7 b pv piv:=by
 obtain⟨_,⟨aB,aA,he⟩,hk,hx⟩:=hs;exact⟨aB,aA,he,h.i4,h.i5,h.i7,hk.cell h.i4 h.c4,hk.cell h.i5 h.c5,hk.cell h.i7 h.c7,LR h.pvo fun B hB=>hk B (h.pvi B hB).1,h.pvi,hx w0 h.ex h.bs,h.bs⟩
theorem EB.setB(h:EB w0 w base g R N blk cap a avs B4 B5 B7 b pv piv){B:Nat}(hB:B∈avs)(h4:B≠B4)(h5:B≠B5)(h7:B≠B7)(hp:pv.ownBlock≠some B)(hw:w0.heap.size<=B)(u:Value):EB w0 (w.setCell ⟨B,0,none⟩ u) base g R N blk cap a avs B4 B5 B7 b pv piv:=
 ⟨h.em.setBox hB u,h.i4,h.i5,h.i7,by rw[Ah h4];exact h.c4,by rw[Ah h5];exact h.c5,by rw[Ah h7];exact h.c7,Ac h.pvo hp u,h.pvi,h.ex.setCell (p:=⟨B,0,none⟩) hw u,h.bs⟩
theorem EB.app(h:EB w0 w base g R N blk cap a avs B4 B5 B7 b pv piv){c:Nat}{w':World}{pv':Value}(ha:AZ w w' base 3 1 pv pv' piv.length (Al (pI piv)) [.int .i64 c]):EB w0 w' base g R N blk cap a (AV pv' B4 B5 B7) B4 B5 B7 b pv' (piv ++ [c]):=by
 have hne:∀B∈avs,(∀C,pv.ownBlock=some C->C≠B)->some B≠pv.ownBlock:=fun B _ hn e=>hn B e.symm rfl;have n4:some B4≠pv.ownBlock:=fun e=>(h.pvi B4 e.symm).2.1 rfl;have n5:some B5≠pv.ownBlock:=fun e=>(h.pvi B5 e.symm).2.2.1 rfl;have n7:some B7≠pv.ownBlock:=fun e=>(h.pvi B7 e.symm).2.2.2 rfl;have ng:pv.ownBlock≠some g:=fun e=>(h.em.av g (h.pvi g e).1).2.1 rfl;have nb:∀i,i<R->pv.ownBlock≠some (blk i):=fun i hi e=>(h.em.av _ (h.pvi _ e).1).2.2 i hi rfl;have hsz:=ha.grow;have l4:=(h.em.av B4 h.i4);have l5:=(h.em.av B5 h.i5);have l7:=(h.em.av B7 h.i7);have aA:∀B,pv'.ownBlock=some B->(pv.ownBlock=some B)∨B=w.heap.size+1:=fun B hB=>by
  rcases ha.at_ with k|k
  .exact .inl (by rw[<-k];exact hB)
  .rw[k]at hB;injection hB with hB;exact .inr hB.symm
 have aB:∀i,i<R->AO w' base 3 (blk i) N (cap i) (iv (a i)):=fun i hi=>(ha.row (h.em.row i hi) (.inr (fun e=>nb i hi e.symm))).1;have aD:AI w' base 22 g R (Dr blk cap N):=(ha.arr h.em.arr ng).1;refine⟨⟨aD,aB,h.em.apart,h.em.off,fun B hB=>?_⟩,by unfold AV;simp,by unfold AV;simp,by unfold AV;simp,ha.cell h.c4 n4,ha.cell h.c5 n5,ha.cell h.c7 n7,?_,fun B hB=>⟨by unfold AV;rw[hB];simp,?_⟩,ha.ex h.ex h.bs,h.bs⟩
 .unfold AV at hB;rcases List.mem_append.1 hB with hB|hB
  .have aC:pv'.ownBlock=some B:=by
    cases e:pv'.ownBlock with
    | none=>rw[e]at hB;simp at hB
    | some C=>rw[e]at hB;simp at hB;rw[hB]
   refine⟨(ha.own.lt B aC).2,?_,fun i hi=>?_⟩
   .rcases aA B aC with k|k
    .exact(h.em.av B (h.pvi B k).1).2.1
    .have:=h.em.arr.lt.2;omega
   .rcases aA B aC with k|k
    .exact(h.em.av B (h.pvi B k).1).2.2 i hi
    .have:=(h.em.row i hi).lt.2;omega
  .simp at hB;rcases hB with rfl|rfl|rfl
   .exact⟨ac,l4.2⟩
   .exact⟨ac,l5.2⟩
   .exact⟨ac,l7.2⟩
 .have:=ha.own;rw[List.length_append,List.length_singleton];have e:Al (pI (piv ++ [c]))=Al (pI piv) ++ [.int .i64 c]:=by simp[pI,Al]
  rw[e];exact this
 .rcases aA B hB with k|k
  .exact(h.pvi B k).2
  .omega
end
end Go.Proofs.YtehieobniamagaaGreat
