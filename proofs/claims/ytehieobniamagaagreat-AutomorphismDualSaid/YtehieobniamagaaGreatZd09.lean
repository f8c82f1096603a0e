/- Walks of tower.prime, tower.Frobenius, the field's Sub, Order, Same, Check. -/
import Derived.Test.YtehieobniamagaaGreatZd08
namespace Go.Proofs.YtehieobniamagaaGreat
open Go.RowKit
set_option linter.all false
set_option maxRecDepth 100000
set_option maxHeartbeats 4000000
def SV(p m:Nat)(low:Vc)(x:Nat):Nat->Nat
 | 0=>x
 | k+1=>BF p m low (SV p m low x k) p
theorem NX{p m:Nat}{low:Vc}(hp:2<=p)(hm:1<=m){x:Nat}(hx:x<p^m):∀k,SV p m low x k<p^m
 | 0=>hx
 | k+1=>Df hp hm _ _
section
variable {b p m x0:Nat} {ml:List Int}
theorem TN(w:World)(hg:A9 w b p m ml x0):
  Calls Tryz.prog 161 #[.pointer (some ⟨b,0,none⟩)] w fun r w'=>r= .returned (.tuple #[.int .i64 p,.int .i64 m])/\Ex w w':=by
 have HF:=Aa (Uw w hg);go_enter Tryz.func161,Tryz.ntmps161
 go_wp2_with fail
 refine HF.o.mono ?_;rintro e w1⟨v,rfl,hv,hx⟩;obtain⟨va,vc,rfl,_,_,_⟩:=hv.open;have d0:(w1.alloc (.cells #[.int .i64 p,.int .i64 m,.slice va ml.length vc] 24)).cell? ⟨w1.heap.size,0,none⟩=some (.int .i64 p):=ag;have d1:(w1.alloc (.cells #[.int .i64 p,.int .i64 m,.slice va ml.length vc] 24)).cell? ⟨w1.heap.size,1,none⟩=some (.int .i64 m):=ag;have HX:=Aa (hx.alloc (.cells #[.int .i64 p,.int .i64 m,.slice va ml.length vc] 24));clear hx hv;go_wp2_with fail
 obtain⟨q,hq⟩:=nA w1.heap.size;rw[hq]at d0 d1
 try simp only[hq]
 clear hq;generalize w1.alloc (.cells #[.int .i64 p,.int .i64 m,.slice va ml.length vc] 24)=w2 at *
 go_quiet (fail)
 go_wp2_with fail
 go_ret2;exact⟨rfl,HX.o.drewN _⟩
theorem L8(w:World)(hg:A9 w b p m ml x0)(x:Int)(k:Nat)(hk:k<m):
  Calls Tryz.prog 107 #[.pointer (some ⟨b,0,none⟩),.int .i64 x,.int .i64 k] w fun r w'=>r= .returned (.int .i64 (SV p m (lw ml) (Au (p^m) x) k:Nat))/\Ex w w':=by
 have HG:=Aa hg;have HP:=Aa (TN w hg);have p2:=hg.sh.p2;have m1:=hg.sh.m1;have m8:=hg.sh.m8;have hp256:=hg.sh.p256;have aD:0<p^m:=Nat.pow_pos ac;have T1:(k:Int).tmod (m:Int)=(k:Int):=by
  rw[Int.tmod_eq_emod_of_nonneg ac];exact Int.emod_eq_of_lt ac ac
 have T2:((k:Int)+(m:Int)).tmod (m:Int)=(k:Int):=by
  rw[Int.tmod_eq_emod_of_nonneg ac,Int.add_emod_right];exact Int.emod_eq_of_lt ac ac
 have i4:¬m=0:=ac;have i5:¬((m:Int)=0):=ac;have i1:IntKind.i64.wrap ((k:Int)+(m:Int))=(k:Int)+(m:Int):=IntWalk.i64_in _ ac;clear hg;go_enter Tryz.func107,Tryz.ntmps107
 go_wp2_with fail
 refine HP.o.mono ?_;rintro e w1⟨rfl,hx⟩;have HX:=Aa hx;clear hx;go_wp2_with fail
 go_loopw [1,21] (fun x' j' wr=>∃(j:Nat) (y:Int),j<=k/\j'= .int .i64 j/\x'= .int .i64 y/\Hia (Au (p^m) y=SV p m (lw ml) (Au (p^m) x) j)/\Hia (Ex w wr)) (fun _ j' _=>k-(intOf j').toNat)
 case atStart=>exact⟨0,x,ac,rfl,rfl,Aa rfl,HX⟩
 case round=>
  obtain⟨j,y,hj,rfl,rfl,hy,aB⟩:=hrel;by_cases hjk:j<k
  .have aA:=Zi wr (HG.o.ex aB.o) y p ac ac;rw[hy.o]at aA;obtain⟨z,hz⟩:=nA (BF p m (lw ml) (SV p m (lw ml) (Au (p^m) x) j) p);have HZ:=Aa (show Au (p^m) ((z:Nat):Int)=SV p m (lw ml) (Au (p^m) x) (j+1) from by
    rw[<-hz,Ax (Df p2 m1 _ _)];rfl)
   rw[hz]at aA;have aE:=Aa aA;clear aA hz hy;go_wp2_with fail
   refine aE.o.mono ?_;rintro e w2⟨rfl,n2,rfl⟩;go_wp2_with fail
   go_roundw
   case rel=>exact⟨j+1,_,ac,by go_num,rfl,HZ,Aa (aB.o.drewN _)⟩
   case measure=>simp[intOf];omega
  .obtain rfl:j=k:=by omega
   have aC:=JR wr (HG.o.ex aB.o) y 0;rw[hy.o,CG,BY ac (NX p2 m1 (BB aD _) _)]at aC;have aF:=Aa aC;clear aC;go_wp2_with fail
   refine aF.o.mono ?_;rintro e w2⟨rfl,n2,rfl⟩;go_wp2_with fail
   go_ret;exact⟨rfl,aB.o.drewN _⟩
theorem Zg(w:World)(hg:A9 w b p m ml x0)(x y:Int):
  Calls Tryz.prog 268 #[.pointer (some ⟨b,0,none⟩),.int .i64 x,.int .i64 y] w (Qt w (.int .i64 (AI p m (Au (p^m) x) (Ct p m (Au (p^m) y)):Nat))):=by
 have p2:=hg.sh.p2;have HN:=Aa (JQ w hg y);have ha:=fun n=>JR (w.drewN n) (hg.drewN n) x ((Ct p m (Au (p^m) y):Nat):Int);rw[show Au (p^m) ((Ct p m (Au (p^m) y):Nat):Int)=Ct p m (Au (p^m) y) from Ax (CD ac _)]at ha;have HA:=Aa ha;clear ha hg;go_enter Tryz.func268,Tryz.ntmps268
 go_wp2_with fail
 refine HN.o.mono ?_;rintro e w1⟨rfl,n1,rfl⟩;go_wp2_with fail
 refine(HA.o n1).mono ?_;rintro e w2⟨rfl,n2,rfl⟩;go_wp2_with fail
 go_ret;exact⟨rfl,_,rfl⟩
theorem zc4{P:Prop}(h:P:=by
 go_wp2_with fail
 go_ret;exact⟨rfl,rfl⟩):P:=h
theorem Cr(w:World)(hg:A9 w b p m ml x0):
  Calls Tryz.prog 54 #[.pointer (some ⟨b,0,none⟩)] w fun r w'=>r= .returned (.int .i64 ((p^m:Nat):Int))/\w=w':=by
 have c3:=hg.c3;generalize p^m=q at *;clear hg;go_enter Tryz.func54,Tryz.ntmps54
 exact zc4
end
theorem zaD{P:Prop}(h:P:=by
 obtain rfl:i=n:=by omega
 have HF:=Aa (B9 aA.o);go_wp2_with fail
 go_ret;exact⟨Ah HF.o.symm,aB.o⟩):P:=h
theorem zbR{P:Prop}(h:P:=by
 go_roundg (n-(i+1))
 case measure=>omega
 case rel=>exact⟨i+1,by omega,by omega,by go_num,HX,HA⟩):P:=h
theorem zc6{P:Prop}(h:P:=by
 go_ret;exact⟨Ah HF.o.symm,HX.o⟩):P:=h
theorem a8{P:Prop}(h:P:=by rw[HL.o];exact hlt):P:=h
theorem L5(w:World)(p0:Value)(v:Value)(n:Nat)(us:List Value)(hv:Sl w v n 1 us)(pr:Nat->Bool)
  (hp:∀(w1:World) (i:Nat) (u:Value),Ex w w1->us[i]?=some u->Calls Tryz.prog 197 #[u,p0] w1 fun e w'=>e= .returned (.bool (pr i))/\Ex w1 w'):
  Calls Tryz.prog 169 #[v,.func (.func 197) #[] #[p0]] w fun r w'=>r= .returned (.int .i64 (Cz pr n))/\Ex w w':=by
 obtain⟨hl,a,cap,rfl,s1,s2,s3⟩:=hv;rw[Nat.mul_one]at hl;have S3:=Aa s3;have HP:=Aa hp;have HL:=Aa hl;unfold maxLen at s2;clear s3 hp hl;go_enter Tryz.func169,Tryz.ntmps169
 go_wp2_with fail
 go_loopg [5,8] n (fun gg _ i' wr=>∃i:Nat,i<=n/\n-i<=gg/\i'= .int .i64 i/\Hia (Ex w wr)/\Hia (∀j,j<i->pr j=false))
 case atStart=>exact⟨0,ac,ac,rfl,Aa (Ex.refl _),Aa (fun j hj=>ac)⟩
 case round=>
  obtain⟨i,hi,hg,rfl,aB,aA⟩:=hrel;by_cases hlt:i<n
  .obtain⟨u,hu⟩:∃u,us[i]?=some u:=⟨_,List.getElem?_eq_getElem a8⟩;obtain⟨bb,o,rfl,hc⟩:=S3.o ac;have c1:=aB.o.cell (hc i u hu);have HC:=Aa (HP.o wr i u aB.o hu);have hlt':(i:Int)<(n:Int):=by omega
   clear hc hu
   cases hb:pr i with
   | true=>
    rw[hb]at HC;have HF:=Aa (CH hlt hb aA.o);clear hb;go_wp2_with (go_at_call 197;refine HC.o.mono ?_;rintro e w'⟨rfl,hx⟩;have HX:=Aa (aB.o.trans hx);clear hx)
    exact zc6
   | false=>
    rw[hb]at HC;have HA:=Aa (show ∀j,j<i+1->pr j=false from fun j hj=>by
     by_cases e:j=i
     .subst e;exact hb
     .exact aA.o j ac)
    clear hb;go_wp2_with (go_at_call 197;refine HC.o.mono ?_;rintro e w'⟨rfl,hx⟩;have HX:=Aa (aB.o.trans hx);clear hx)
    exact zbR
  .exact zaD
theorem zbe{P:Prop}(h:P:=by
 have HB:=Aa (DZ pr n);obtain⟨z,hz⟩:=nA (Cz pr n);rw[hz]at HC HB;clear hz hp hv;go_enter Tryz.func116,Tryz.ntmps116
 go_wp2_with (go_at_call 169;refine HC.o.mono ?_;rintro e w'⟨rfl,hx⟩;have HX:=Aa hx;clear hx)
 go_ret;exact⟨Ap HB.o.symm,HX.o⟩):P:=h
theorem I6(w:World)(p0:Value)(v:Value)(n:Nat)(us:List Value)(hv:Sl w v n 1 us)(pr:Nat->Bool)
  (hp:∀(w1:World) (i:Nat) (u:Value),Ex w w1->us[i]?=some u->Calls Tryz.prog 197 #[u,p0] w1 fun e w'=>e= .returned (.bool (pr i))/\Ex w1 w'):
  Calls Tryz.prog 116 #[v,.func (.func 197) #[] #[p0]] w fun r w'=>r= .returned (.bool ((List.range n).any pr))/\Ex w w':=by
 have HC:=Aa (L5 w p0 v n us hv pr hp);exact zbe
theorem L6(w:World)(p0:Value)(v:Value)(n:Nat)(us:List Value)(hv:Sl w v n 1 us)(pr:Nat->Bool)
  (hp:∀(w1:World) (i:Nat) (u:Value),Ex w w1->us[i]?=some u->Calls Tryz.prog 198 #[u,p0] w1 fun e w'=>e= .returned (.bool (pr i))/\Ex w1 w'):
  Calls Tryz.prog 169 #[v,.func (.func 198) #[] #[p0]] w fun r w'=>r= .returned (.int .i64 (Cz pr n))/\Ex w w':=by
 obtain⟨hl,a,cap,rfl,s1,s2,s3⟩:=hv;rw[Nat.mul_one]at hl;have S3:=Aa s3;have HP:=Aa hp;have HL:=Aa hl;unfold maxLen at s2;clear s3 hp hl;go_enter Tryz.func169,Tryz.ntmps169
 go_wp2_with fail
 go_loopg [5,8] n (fun gg _ i' wr=>∃i:Nat,i<=n/\n-i<=gg/\i'= .int .i64 i/\Hia (Ex w wr)/\Hia (∀j,j<i->pr j=false))
 case atStart=>exact⟨0,ac,ac,rfl,Aa (Ex.refl _),Aa (fun j hj=>ac)⟩
 case round=>
  obtain⟨i,hi,hg,rfl,aB,aA⟩:=hrel;by_cases hlt:i<n
  .obtain⟨u,hu⟩:∃u,us[i]?=some u:=⟨_,List.getElem?_eq_getElem a8⟩;obtain⟨bb,o,rfl,hc⟩:=S3.o ac;have c1:=aB.o.cell (hc i u hu);have HC:=Aa (HP.o wr i u aB.o hu);have hlt':(i:Int)<(n:Int):=by omega
   clear hc hu
   cases hb:pr i with
   | true=>
    rw[hb]at HC;have HF:=Aa (CH hlt hb aA.o);clear hb;go_wp2_with (go_at_call 198;refine HC.o.mono ?_;rintro e w'⟨rfl,hx⟩;have HX:=Aa (aB.o.trans hx);clear hx)
    exact zc6
   | false=>
    rw[hb]at HC;have HA:=Aa (show ∀j,j<i+1->pr j=false from fun j hj=>by
     by_cases e:j=i
     .subst e;exact hb
     .exact aA.o j ac)
    clear hb;go_wp2_with (go_at_call 198;refine HC.o.mono ?_;rintro e w'⟨rfl,hx⟩;have HX:=Aa (aB.o.trans hx);clear hx)
    exact zbR
  .exact zaD
theorem I7(w:World)(p0:Value)(v:Value)(n:Nat)(us:List Value)(hv:Sl w v n 1 us)(pr:Nat->Bool)
  (hp:∀(w1:World) (i:Nat) (u:Value),Ex w w1->us[i]?=some u->Calls Tryz.prog 198 #[u,p0] w1 fun e w'=>e= .returned (.bool (pr i))/\Ex w1 w'):
  Calls Tryz.prog 116 #[v,.func (.func 198) #[] #[p0]] w fun r w'=>r= .returned (.bool ((List.range n).any pr))/\Ex w w':=by
 have HC:=Aa (L6 w p0 v n us hv pr hp);exact zbe
theorem LR(w:World)(p0:Value)(v:Value)(n:Nat)(us:List Value)(hv:Sl w v n 1 us)(pr:Nat->Bool)
  (hp:∀(w1:World) (i:Nat) (u:Value),Ex w w1->us[i]?=some u->Calls Tryz.prog 223 #[u,p0] w1 fun e w'=>e= .returned (.bool (pr i))/\Ex w1 w'):
  Calls Tryz.prog 169 #[v,.func (.func 223) #[] #[p0]] w fun r w'=>r= .returned (.int .i64 (Cz pr n))/\Ex w w':=by
 obtain⟨hl,a,cap,rfl,s1,s2,s3⟩:=hv;rw[Nat.mul_one]at hl;have S3:=Aa s3;have HP:=Aa hp;have HL:=Aa hl;unfold maxLen at s2;clear s3 hp hl;go_enter Tryz.func169,Tryz.ntmps169
 go_wp2_with fail
 go_loopg [5,8] n (fun gg _ i' wr=>∃i:Nat,i<=n/\n-i<=gg/\i'= .int .i64 i/\Hia (Ex w wr)/\Hia (∀j,j<i->pr j=false))
 case atStart=>exact⟨0,ac,ac,rfl,Aa (Ex.refl _),Aa (fun j hj=>ac)⟩
 case round=>
  obtain⟨i,hi,hg,rfl,aB,aA⟩:=hrel;by_cases hlt:i<n
  .obtain⟨u,hu⟩:∃u,us[i]?=some u:=⟨_,List.getElem?_eq_getElem a8⟩;obtain⟨bb,o,rfl,hc⟩:=S3.o ac;have c1:=aB.o.cell (hc i u hu);have HC:=Aa (HP.o wr i u aB.o hu);have hlt':(i:Int)<(n:Int):=by omega
   clear hc hu
   cases hb:pr i with
   | true=>
    rw[hb]at HC;have HF:=Aa (CH hlt hb aA.o);clear hb;go_wp2_with (go_at_call 223;refine HC.o.mono ?_;rintro e w'⟨rfl,hx⟩;have HX:=Aa (aB.o.trans hx);clear hx)
    exact zc6
   | false=>
    rw[hb]at HC;have HA:=Aa (show ∀j,j<i+1->pr j=false from fun j hj=>by
     by_cases e:j=i
     .subst e;exact hb
     .exact aA.o j ac)
    clear hb;go_wp2_with (go_at_call 223;refine HC.o.mono ?_;rintro e w'⟨rfl,hx⟩;have HX:=Aa (aB.o.trans hx);clear hx)
    exact zbR
  .exact zaD
theorem I3(w:World)(p0:Value)(v:Value)(n:Nat)(us:List Value)(hv:Sl w v n 1 us)(pr:Nat->Bool)
  (hp:∀(w1:World) (i:Nat) (u:Value),Ex w w1->us[i]?=some u->Calls Tryz.prog 223 #[u,p0] w1 fun e w'=>e= .returned (.bool (pr i))/\Ex w1 w'):
  Calls Tryz.prog 116 #[v,.func (.func 223) #[] #[p0]] w fun r w'=>r= .returned (.bool ((List.range n).any pr))/\Ex w w':=by
 have HC:=Aa (LR w p0 v n us hv pr hp);exact zbe
theorem GR(w:World)(v:Value)(n:Nat)(us:List Value)(hv:Sl w v n 1 us)(pr:Nat->Bool)
  (hp:∀(w1:World) (i:Nat) (u:Value),Ex w w1->us[i]?=some u->Calls Tryz.prog 269 #[u] w1 fun e w'=>e= .returned (.bool (pr i))/\Ex w1 w'):
  Calls Tryz.prog 169 #[v,.func (.func 269) #[] #[]] w fun r w'=>r= .returned (.int .i64 (Cz pr n))/\Ex w w':=by
 obtain⟨hl,a,cap,rfl,s1,s2,s3⟩:=hv;rw[Nat.mul_one]at hl;have S3:=Aa s3;have HP:=Aa hp;have HL:=Aa hl;unfold maxLen at s2;clear s3 hp hl;go_enter Tryz.func169,Tryz.ntmps169
 go_wp2_with fail
 go_loopg [5,8] n (fun gg _ i' wr=>∃i:Nat,i<=n/\n-i<=gg/\i'= .int .i64 i/\Hia (Ex w wr)/\Hia (∀j,j<i->pr j=false))
 case atStart=>exact⟨0,ac,ac,rfl,Aa (Ex.refl _),Aa (fun j hj=>ac)⟩
 case round=>
  obtain⟨i,hi,hg,rfl,aB,aA⟩:=hrel;by_cases hlt:i<n
  .obtain⟨u,hu⟩:∃u,us[i]?=some u:=⟨_,List.getElem?_eq_getElem a8⟩;obtain⟨bb,o,rfl,hc⟩:=S3.o ac;have c1:=aB.o.cell (hc i u hu);have HC:=Aa (HP.o wr i u aB.o hu);have hlt':(i:Int)<(n:Int):=by omega
   clear hc hu
   cases hb:pr i with
   | true=>
    rw[hb]at HC;have HF:=Aa (CH hlt hb aA.o);clear hb;go_wp2_with (go_at_call 269;refine HC.o.mono ?_;rintro e w'⟨rfl,hx⟩;have HX:=Aa (aB.o.trans hx);clear hx)
    exact zc6
   | false=>
    rw[hb]at HC;have HA:=Aa (show ∀j,j<i+1->pr j=false from fun j hj=>by
     by_cases e:j=i
     .subst e;exact hb
     .exact aA.o j ac)
    clear hb;go_wp2_with (go_at_call 269;refine HC.o.mono ?_;rintro e w'⟨rfl,hx⟩;have HX:=Aa (aB.o.trans hx);clear hx)
    exact zbR
  .exact zaD
theorem LW(w:World)(p0:Value)(v:Value)(n:Nat)(us:List Value)(hv:Sl w v n 1 us)(pr:Nat->Bool)
  (hp:∀(w1:World) (i:Nat) (u:Value),Ex w w1->us[i]?=some u->Calls Tryz.prog 262 #[u,p0] w1 fun e w'=>e= .returned (.bool (pr i))/\Ex w1 w'):
  Calls Tryz.prog 129 #[v,.func (.func 262) #[] #[p0]] w fun r w'=>r= .returned (.int .i64 (Cz pr n))/\Ex w w':=by
 obtain⟨hl,a,cap,rfl,s1,s2,s3⟩:=hv;rw[Nat.mul_one]at hl;have S3:=Aa s3;have HP:=Aa hp;have HL:=Aa hl;unfold maxLen at s2;clear s3 hp hl;go_enter Tryz.func129,Tryz.ntmps129
 go_wp2_with fail
 go_loopg [5,8] n (fun gg _ i' wr=>∃i:Nat,i<=n/\n-i<=gg/\i'= .int .i64 i/\Hia (Ex w wr)/\Hia (∀j,j<i->pr j=false))
 case atStart=>exact⟨0,ac,ac,rfl,Aa (Ex.refl _),Aa (fun j hj=>ac)⟩
 case round=>
  obtain⟨i,hi,hg,rfl,aB,aA⟩:=hrel;by_cases hlt:i<n
  .obtain⟨u,hu⟩:∃u,us[i]?=some u:=⟨_,List.getElem?_eq_getElem a8⟩;obtain⟨bb,o,rfl,hc⟩:=S3.o ac;have c1:=aB.o.cell (hc i u hu);have HC:=Aa (HP.o wr i u aB.o hu);have hlt':(i:Int)<(n:Int):=by omega
   clear hc hu
   cases hb:pr i with
   | true=>
    rw[hb]at HC;have HF:=Aa (CH hlt hb aA.o);clear hb;go_wp2_with (go_at_call 262;refine HC.o.mono ?_;rintro e w'⟨rfl,hx⟩;have HX:=Aa (aB.o.trans hx);clear hx)
    exact zc6
   | false=>
    rw[hb]at HC;have HA:=Aa (show ∀j,j<i+1->pr j=false from fun j hj=>by
     by_cases e:j=i
     .subst e;exact hb
     .exact aA.o j ac)
    clear hb;go_wp2_with (go_at_call 262;refine HC.o.mono ?_;rintro e w'⟨rfl,hx⟩;have HX:=Aa (aB.o.trans hx);clear hx)
    exact zbR
  .exact zaD
theorem VR{w:World}{a:Option Addr}{n cap:Nat}{l:List Int}(h:Am w (.slice a n cap) l){i:Nat}(hi:i<=l.length):Am w (.slice a i cap) (l.take i):=by
 obtain⟨a',cap',e,h1,h2,h3⟩:=h.open;injection e with e1 e2 e3;subst e1 e3;have hl:(l.take i).length=i:=bn;unfold Am;rw[hl];refine⟨by rw[A7,hl];omega,a,cap,rfl,ac,h2,fun hn=>?_⟩;obtain⟨b,o,rfl,h4⟩:=h3 ac;refine⟨b,o,rfl,fun j u hu=>?_⟩;simp only[Ao,List.getElem?_map,List.getElem?_take]at hu;split at hu
 .obtain⟨y,hy,rfl⟩:=Option.map_eq_some_iff.1 hu;exact h4 j y hy
 .cases hu
def LB(l:List Int)(k:Nat):Bool:=(List.range k).any fun i=>(l.take i).contains (l.getD i 0)
def Ib(l:List Int):Bool:=LB l l.length
theorem Ui(l:List Int)(k:Nat):LB l (k+1)=(LB l k||(l.take k).contains (l.getD k 0)):=by
 unfold LB;rw[List.range_succ,List.any_append];simp
theorem Uj{l:List Int}{k n:Nat}(h:k<=n)(hd:LB l k=true):LB l n=true:=by
 unfold LB at *;obtain⟨i,hi,hb⟩:=List.any_eq_true.1 hd;exact List.any_eq_true.2 ⟨i,List.mem_range.2 (by have:=List.mem_range.1 hi;omega),hb⟩
def BU(l:List Int)(n:Int):Bool:=l.all fun x=>decide (0<=x/\x<n)
def FE(l:List Int)(n:Int):Int:=if BU l n=false then 6 else if Ib l=true then 18 else 0
theorem Lf(l:List Int)(f:Int->Bool):((List.range l.length).any fun j=>f (l.getD j 0))=l.any f:=by
 rw[Bool.eq_iff_iff,List.any_eq_true,List.any_eq_true];constructor
 .rintro⟨j,hj,h⟩;have hj:=List.mem_range.1 hj;refine⟨l[j],List.getElem_mem hj,?_⟩
  rwa[List.getD_eq_getElem?_getD,List.getElem?_eq_getElem hj]at h
 .rintro⟨x,hx,h⟩;obtain⟨j,hj,rfl⟩:=List.getElem_of_mem hx;exact⟨j,List.mem_range.2 hj,by rw[List.getD_eq_getElem?_getD,List.getElem?_eq_getElem hj];exact h⟩
theorem NN{l:List Int}{i:Nat}{u:Value}(h:(Ao l)[i]?=some u):∃x,l[i]?=some x/\u= .int .i64 x/\l.getD i 0=x:=by
 unfold Ao at h;rw[List.getElem?_map]at h;obtain⟨x,hx,rfl⟩:=Option.map_eq_some_iff.1 h;exact⟨x,hx,rfl,by rw[List.getD_eq_getElem?_getD,hx];rfl⟩
theorem zb2{P:Prop}(h:P:=by
 go_enter Tryz.func197,Tryz.ntmps197
 go_wp2_with fail
 go_ret;exact⟨Ap HR.o,Ex.refl _⟩):P:=h
theorem zbT{P:Prop}(h:P:=by
 clear h0 h1;exact zb2):P:=h
theorem VV(w:World)(B:Nat)(n x:Int)(c0:w.cell? ⟨B,0,none⟩=some (.int .i64 n)):
  Calls Tryz.prog 197 #[.int .i64 x,.pointer (some ⟨B,0,none⟩)] w fun r w'=>r= .returned (.bool (!decide (0<=x/\x<n)))/\Ex w w':=by
 by_cases h0:x<0
 .have HR:=Aa (show true=!decide (0<=x/\x<n) from by simp;omega);have b1:decide (x<0)=true:=decide_eq_true h0;clear h0;exact zb2
 .have b1:decide (x<0)=false:=decide_eq_false h0;by_cases h1:n<=x
  .have HR:=Aa (show true=!decide (0<=x/\x<n) from by simp;omega);have b2:decide (n<=x)=true:=decide_eq_true h1;exact zbT
  .have HR:=Aa (show false=!decide (0<=x/\x<n) from by simp;omega);have b2:decide (n<=x)=false:=decide_eq_false h1;exact zbT
theorem zcY{P:Prop}(h:P:=by
 go_ret;exact⟨Ah HR.o,aF.o.trans aB.o⟩):P:=h
theorem GP(w:World)(l:List Int)(v:Value)(n:Int)(hl:Am w v l):
  Calls Tryz.prog 150 #[v,.int .i64 n] w fun r w'=>r= .returned (.int .i64 (FE l n))/\Ex w w':=by
 have ea:Ex w (w.alloc (.cells #[.int .i64 n] 3)):=(Ex.refl _).alloc _;have q0:(w.alloc (.cells #[.int .i64 n] 3)).cell? ⟨w.heap.size,0,none⟩=some (.int .i64 n):=ag;have HL:=Aa (hl.ex ea);have HC:=Aa (I6 (w.alloc (.cells #[.int .i64 n] 3)) (.pointer (some ⟨w.heap.size,0,none⟩)) v l.length (Ao l) (hl.ex ea) (fun j=> !decide (0<=l.getD j 0/\l.getD j 0<n)) fun w1 i u hx hu=>by
  obtain⟨x,_,rfl,aA⟩:=NN hu;rw[aA];exact VV w1 w.heap.size n x (hx.cell q0))
 have hc:=HC.o;rw[Lf l fun x=> !decide (0<=x/\x<n)]at hc;have HC:=Aa hc;obtain⟨a,cap,rfl,s1,s2,s3⟩:=hl.open;unfold maxLen at s2;have aF:=Aa ea;clear hl s3 hc ea;by_cases hr:BU l n=true
 .have h1:(l.any fun x=> !decide (0<=x/\x<n))=false:=by
   unfold BU at hr;rw[List.any_eq_false];intro x hx;have:=List.all_eq_true.1 hr x hx;simpa using this
  rw[h1]at HC;have aJ:=Aa (show FE l n=if Ib l=true then 18 else 0 from by unfold FE;rw[hr,if_neg ae]);clear hr h1;go_enter Tryz.func150,Tryz.ntmps150
  go_wp2_with fail
  obtain⟨q,hq⟩:=nA w.heap.size;rw[hq]at HC q0
  try simp only[hq]
  clear hq;generalize w.alloc (.cells #[.int .i64 n] 3)=w1 at *;refine HC.o.mono ?_;rintro e w2⟨rfl,aA⟩;have aB:=Aa aA;clear aA;go_wp2_with fail
  go_loopw [12] (fun i' wr=>∃(i:Nat),i<=l.length/\i'= .int .i64 i/\Hia (LB l i=false)/\Hia (Ex w2 wr)) (fun i' _=>l.length-(intOf i').toNat)
  case atStart=>exact⟨0,ac,rfl,Aa rfl,Aa (Ex.refl _)⟩
  case round=>
   obtain⟨i,hi,rfl,hd,aE⟩:=hrel;have aB:=Aa (aB.o.trans aE.o);by_cases hil:i<l.length
   .obtain⟨x,hx⟩:∃x,l[i]?=some x:=⟨_,List.getElem?_eq_getElem hil⟩;have aI:=Aa (HL.o.ex aB.o);obtain⟨_,_,e1,_,_,h3⟩:=aI.o.open;injection e1 with e1 e2 e3;subst e1;clear e2 e3;obtain⟨zb,zo,rfl,aG⟩:=h3 ac;have c1:=aG i x hx;have aH:l.getD i 0=x:=by rw[List.getD_eq_getElem?_getD,hx];rfl
    have i1:(0:Int)<=(i:Int):=ac;have i2:(i:Int)<(l.length:Int):=ac;have i3:i<=cap:=ac;have i4:(i:Int)<=(cap:Int):=ac;have aD:=Aa (CM wr (l.take i) _ x (VR aI.o ac));have aC:=Aa (Ui l i);rw[aH,hd.o,Bool.false_or]at aC;clear hx h3 aG aH hd
    cases hb:(l.take i).contains x with
    | true=>
     rw[hb]at aD aC;have HR:=Aa (show(18:Int)=FE l n from by
      have aK:Ib l=true:=Uj (show i+1<=l.length by omega) aC.o;rw[aJ.o,if_pos aK])
     clear hb;go_wp2_with (go_at_call 132;refine aD.o.mono ?_;rintro e w5⟨rfl,rfl⟩)
     exact zcY
    | false=>
     rw[hb]at aD aC;clear hb;go_wp2_with (go_at_call 132;refine aD.o.mono ?_;rintro e w5⟨rfl,rfl⟩)
     go_roundw
     case rel=>first|exact⟨i+1,ac,by go_num,aC,aE⟩|((repeat apply Exists.intro);exact⟨⟨i+1,ac,by go_num,aC,aE⟩,rfl⟩)
     case measure=>simp[intOf];omega
   .obtain rfl:i=l.length:=by omega
    have HR:=Aa (show(0:Int)=FE l n from by
     rw[aJ.o,if_neg (by show ¬LB l l.length=true;rw[hd.o];decide)])
    go_wp2_with fail
    exact zcY
 .have hr:BU l n=false:=by simpa using hr
  have h1:(l.any fun x=> !decide (0<=x/\x<n))=true:=by
   unfold BU at hr;rw[List.all_eq_false]at hr;obtain⟨x,hx,h⟩:=hr;exact List.any_eq_true.2 ⟨x,hx,by simp at h ⊢;omega⟩
  rw[h1]at HC;have HR:=Aa (show(6:Int)=FE l n from by unfold FE;rw[if_pos hr]);clear hr h1;go_enter Tryz.func150,Tryz.ntmps150
  go_wp2_with (go_at_call 116;refine HC.o.mono ?_;rintro e w2⟨rfl,aA⟩;have aB:=Aa aA;clear aA)
  exact zcY
def H4(q:Nat)(l:List Int):Int:=if (l.any fun x=> !Gx q x)=true then 2 else if l.contains 0=true then 7 else 0
section
variable {b p m x0:Nat} {ml:List Int}
theorem zbH{P:Prop}(h:P:=by
 go_wp2_with (go_at_call 199;refine HI.o.mono ?_;rintro e w1⟨rfl,n1,rfl⟩)
 go_ret;exact⟨rfl,(Ex.refl w).drewN _⟩):P:=h
theorem Wj(w:World)(B:Nat)(hg:A9 w b p m ml x0)(x:Int)(c0:w.cell? ⟨B,0,none⟩=some (.pointer (some ⟨b,0,none⟩))):
  Calls Tryz.prog 198 #[.int .i64 x,.pointer (some ⟨B,0,none⟩)] w fun r w'=>r= .returned (.bool (!Gx (p^m) x))/\Ex w w':=by
 have HI:=Aa (Ou w hg x);obtain⟨z,hz⟩:=nA (Gx (p^m) x);rw[hz]at HI ⊢;clear hg hz;go_enter Tryz.func198,Tryz.ntmps198
 exact zbH
theorem zbc{P:Prop}(h:P:=by
 subst aB;go_enter Tryz.func151,Tryz.ntmps151
 go_wp2_with (first|(go_at_call 116;refine HC.o.mono ?_;rintro e w2⟨rfl,aA⟩;have aC:=Aa (aD.o.trans aA);clear aA)|(go_at_call 132;refine(aE.o _ aC.o).mono ?_;rintro e w5⟨rfl,rfl⟩))
 go_ret;exact⟨rfl,aC.o⟩):P:=h
theorem Jo(w:World)(hg:A9 w b p m ml x0)(l:List Int)(v:Value)(hl:Am w v l):
  Calls Tryz.prog 151 #[.pointer (some ⟨b,0,none⟩),v] w fun r w'=>r= .returned (.int .i64 (H4 (p^m) l))/\Ex w w':=by
 have ea:Ex w (w.alloc (.cells #[.pointer (some ⟨b,0,none⟩)] 97)):=(Ex.refl _).alloc _;have q0:(w.alloc (.cells #[.pointer (some ⟨b,0,none⟩)] 97)).cell? ⟨w.heap.size,0,none⟩=some (.pointer (some ⟨b,0,none⟩)):=ag;have hc:=I7 (w.alloc (.cells #[.pointer (some ⟨b,0,none⟩)] 97)) (.pointer (some ⟨w.heap.size,0,none⟩)) v l.length (Ao l) (hl.ex ea) (fun j=> !Gx (p^m) (l.getD j 0)) fun w1 i u hx hu=>by
  obtain⟨x,_,rfl,aA⟩:=NN hu;rw[aA];exact Wj w1 w.heap.size (hg.ex (ea.trans hx)) x (hx.cell q0)
 rw[Lf l fun x=> !Gx (p^m) x]at hc;have HC:=Aa hc;have aE:=Aa (fun w1 (hx:Ex w w1)=>CM w1 l v 0 (hl.ex hx));obtain⟨a,cap,rfl,s1,s2,s3⟩:=hl.open;unfold maxLen at s2;have aD:=Aa ea;obtain⟨R,hR⟩:=nA (H4 (p^m) l);have aB:=hR;unfold H4 at aB;rw[hR];obtain⟨y,hy⟩:∃y,(l.any fun x=> !Gx (p^m) x)=y:=⟨_,rfl⟩;obtain⟨z,hz⟩:=nA (l.contains 0);rw[hy]at HC aB;rw[hz]at aB aE;clear hl s3 hc ea hy hz hR hg
 cases y with
 | true=>
  rw[if_pos rfl]at aB;subst aB;go_enter Tryz.func151,Tryz.ntmps151
  go_wp2_with (go_at_call 116;refine HC.o.mono ?_;rintro e w2⟨rfl,aA⟩;have aC:=Aa aA;clear aA)
  go_ret;exact⟨rfl,aD.o.trans aC.o⟩
 | false=>
  rw[if_neg ae]at aB
  cases z with
  | true=>
   rw[if_pos rfl]at aB;exact zbc
  | false=>
   rw[if_neg ae]at aB;exact zbc
end
def Ey(p m:Int)(ml:List Int)(n:Int)(pl sl:List Int)(fr:Int):Int:=
 if Cp p m ml≠0 then 1 else if n<1∨64<n then 4 else if (pl.length:Int)≠n∨(sl.length:Int)≠n then 3 else
 if BU pl n=false∨fr<0∨m<=fr then 6 else if Ib pl=true then 18 else H4 (p.toNat^m.toNat) sl
theorem He(w:World)(p m:Int)(v:Value):(w.alloc (.cells #[.int .i64 p,.int .i64 m,v] 24)).cell? ⟨w.heap.size,0,none⟩=some (.int .i64 p)/\(w.alloc (.cells #[.int .i64 p,.int .i64 m,v] 24)).cell? ⟨w.heap.size,1,none⟩=some (.int .i64 m)/\
  (w.alloc (.cells #[.int .i64 p,.int .i64 m,v] 24)).cell? ⟨w.heap.size,2,none⟩=some v/\Ex w (w.alloc (.cells #[.int .i64 p,.int .i64 m,v] 24)):=⟨ag,ag,ag,(Ex.refl _).alloc _⟩
theorem Bo(w:World)(u v:Value)(fr:Int):(w.alloc (.cells #[u,v,.int .i64 fr] 26)).cell? ⟨w.heap.size,0,none⟩=some u/\(w.alloc (.cells #[u,v,.int .i64 fr] 26)).cell? ⟨w.heap.size,1,none⟩=some v/\
  (w.alloc (.cells #[u,v,.int .i64 fr] 26)).cell? ⟨w.heap.size,2,none⟩=some (.int .i64 fr)/\Ex w (w.alloc (.cells #[u,v,.int .i64 fr] 26)):=⟨ag,ag,ag,(Ex.refl _).alloc _⟩
def OpnR(p m:Int)(ml:List Int)(e:Int)(r:Ending)(w':World):Prop:=
 (e=0/\∃(b pn mn x0:Nat),p=pn/\m=mn/\r= .returned (.tuple #[.pointer (some ⟨b,0,none⟩),.int .i64 0])/\A9 w' b pn mn ml x0/\1<=x0/\x0<pn^mn)∨
 (e≠0/\∃ptr:Option Addr,r= .returned (.tuple #[.pointer ptr,.int .i64 e]))
theorem EZ{p m:Int}{ml:List Int}{e:Int}(h:e≠0)(aA:Option Addr)(w':World):OpnR p m ml e (.returned (.tuple #[.pointer aA,.int .i64 e])) w':= .inr ⟨h,aA,rfl⟩
section
variable {p m:Nat} {ml:List Int} {N R:Nat}
def ks(p m:Nat)(g:Nat->Nat):Nat->Nat
 | 0=>0
 | n+1=>AI p m (ks p m g n) (g n)
theorem ks_lt(hp:1<=p)(g:Nat->Nat):∀n,ks p m g n<p^m
 | 0=>Nat.pow_pos (by omega)
 | n+1=>FC hp _ _
theorem Ep{g h:Nat->Nat}:∀n,(∀j,j<n->g j=h j)->ks p m g n=ks p m h n
 | 0,_=>rfl
 | n+1,e=>by
  show AI p m _ _=AI p m _ _
  rw[Ep n fun j hj=>e j (by omega),e n (by omega)]
theorem EP(f x:Nat->Int):dt p m ml N f x=ks p m (fun j=>Ai p m (lw ml) (Au (p^m) (f j)) (Au (p^m) (x j))) N:=by
 have aA:∀n,n<=N->Ry p m ml N f x n=ks p m (fun j=>Ai p m (lw ml) (Au (p^m) (f j)) (Au (p^m) (x j))) n:=fun n=>by
  induction n with
  | zero=>intro _;rw[Dr];rfl
  | succ n ih=>
   intro hn;rw[Ds _ _ ac,ih ac];rfl
 rw[<-Eh,aA N (Nat.le_refl _)]
def NF(p m:Nat)(g:Nat->Nat)(l:List Nat):Nat:=l.foldr (fun j s=>AI p m s (g j)) 0
theorem ksL_lt(hp:1<=p)(g:Nat->Nat):∀l,NF p m g l<p^m
 | []=>Nat.pow_pos (by omega)
 | j :: l=>FC hp _ _
theorem SD(hp:1<=p)(g:Nat->Nat):∀l k,NF p m g (l++k)=AI p m (NF p m g l) (NF p m g k)
 | [],k=>by
  show NF p m g k=AI p m 0 _
  rw[DA hp (ksL_lt hp g k)]
 | j :: l,k=>by
  show AI p m (NF p m g (l++k)) (g j)=AI p m (AI p m (NF p m g l) (g j)) _
  rw[SD hp g l k,BI hp,BI hp,DL (NF p m g k)]
theorem IM(hp:1<=p){g:Nat->Nat}(hg:∀j,g j<p^m):∀n,NF p m g (List.range n)=ks p m g n
 | 0=>rfl
 | n+1=>by
  rw[List.range_succ,SD hp,IM hp hg n];show AI p m _ (AI p m 0 (g n))=AI p m _ _
  rw[DA hp (hg n)]
theorem VL(hp:1<=p)(g:Nat->Nat){l k:List Nat}(h:l.Perm k):NF p m g l=NF p m g k:=by
 induction h with
 | nil=>rfl
 | @cons x l1 l2 _ ih=>show AI p m (NF p m g l1) (g x)=AI p m (NF p m g l2) (g x);rw[ih]
 | swap x y l=>
  show AI p m (AI p m (NF p m g l) (g x)) (g y)=AI p m (AI p m (NF p m g l) (g y)) (g x)
  rw[BI hp,BI hp,DL (g x)]
 | trans _ _ i1 i2=>rw[i1,i2]
theorem SC(g:Nat->Nat)(f:Nat->Nat):∀l:List Nat,NF p m g (l.map f)=NF p m (fun j=>g (f j)) l
 | []=>rfl
 | j :: l=>by show AI p m (NF p m g (l.map f)) (g (f j))=AI p m (NF p m (fun j=>g (f j)) l) (g (f j));rw[SC g f l]
structure FO(N:Nat)(π:Nat->Nat):Prop where
 lt:∀i,i<N->π i<N
 inj:∀i j,i<N->j<N->π i=π j->i=j
theorem FO.perm{π:Nat->Nat}(h:FO N π):((List.range N).map π).Perm (List.range N):=by
 have aB:((List.range N).map π).Nodup:=Db fun i j hj aC e=>by
  have:=h.inj i j ac hj e;omega
 have aA:∀x,x<N->x∈(List.range N).map π:=fun x hx=>by
  have:=Q4 N (((List.range N).map π).map (·+ 1)) (by
   rw[List.map_map];exact Db fun i j hj aC e=>by
    have e:π i+1=π j+1:=e;have:=h.inj i j ac hj ac;omega) ag (fun y hy=>by
   obtain⟨z,hz,rfl⟩:=List.mem_map.1 hy;obtain⟨i,hi,rfl⟩:=List.mem_map.1 hz;have:=h.lt i (List.mem_range.1 hi);omega) (x+1) ac ac
  obtain⟨z,hz,e⟩:=List.mem_map.1 this;have:z=x:=by have e:z+1=x+1:=e;omega
  rw[<-this];exact hz
 refine(List.perm_ext_iff_of_nodup aB List.nodup_range).2 fun x=>⟨fun hx=>?_,fun hx=>aA x (List.mem_range.1 hx)⟩;obtain⟨i,hi,rfl⟩:=List.mem_map.1 hx;exact List.mem_range.2 (h.lt i (List.mem_range.1 hi))
theorem FO.surj{π:Nat->Nat}(h:FO N π){j:Nat}(hj:j<N):∃i,i<N/\π i=j:=by
 have:=h.perm.mem_iff.2 (List.mem_range.2 hj);obtain⟨i,hi,e⟩:=List.mem_map.1 this;exact⟨i,List.mem_range.1 hi,e⟩
theorem FO.sum(hp:1<=p){π:Nat->Nat}(h:FO N π){g:Nat->Nat}(hg:∀j,g j<p^m):ks p m (fun i=>g (π i)) N=ks p m g N:=by
 rw[<-IM hp hg,<-IM hp fun i=>hg (π i),<-SC,VL hp g h.perm]
def plc(π:Nat->Nat)(v:Nat->Int):Nat->Nat->Int
 | 0=>fun _=>0
 | k+1=>Az (plc π v k) (π k) (v k)
theorem IG{π:Nat->Nat}(h:FO N π)(v:Nat->Int):∀k,k<=N->∀i,i<k->plc π v k (π i)=v i
 | 0,_,i,hi=>by omega
 | k+1,hk,i,hi=>by
  show Az (plc π v k) (π k) (v k) (π i)=v i
  by_cases e:i=k
  .subst e;exact Ab _ _ _
  .rw[Ae _ _ fun e2=>e (h.inj i k (by omega) (by omega) e2)];exact IG h v k (by omega) i (by omega)
theorem N6(hp:1<=p){π:Nat->Nat}(h:FO N π)(v x:Nat->Int):dt p m ml N (plc π v N) x=dt p m ml N v (fun i=>x (π i)):=by
 rw[EP,EP,<-h.sum hp fun j=>AR hp _ _];exact Ep N fun i hi=>by rw[IG h v N (Nat.le_refl _) i hi]
end
theorem VX:(Tryz.prog.info? 22).map (fun i=>(i.zero,i.size,i.bytes))=some (some (.slice none 0 0),1,24):=ah
def Ak(rows:List (List Int))(i j:Nat):Int:=(rows.getD i []).getD j 0
structure EK(w0 w:World)(g R N:Nat)(blk cap:Nat->Nat)(a:Nat->Nat->Int)(k:Nat):Prop where
 arr:AG w w0.heap.size 22 g R (fun i=>if i<k then DW blk cap N i else .slice none 0 0)
 row:∀i,i<k->A6 w w0.heap.size 3 (blk i) N (cap i) (iv (a i))
 apart:∀i j,i<k->j<k->i≠j->blk i≠blk j
 off:∀i,i<k->blk i≠g
 ex:Ex w0 w
theorem EK.later{w0 w w':World}{g R N:Nat}{blk cap:Nat->Nat}{a:Nat->Nat->Int}{k:Nat}(h:EK w0 w g R N blk cap a k)(hx:Ex w w'):EK w0 w' g R N blk cap a k:=
 ⟨h.arr.ex hx,fun i hi=>(h.row i hi).ex hx,h.apart,h.off,h.ex.trans hx⟩
theorem za3{P:Prop}(h:P:=by
 rw[if_neg h,if_neg (by omega)]):P:=h
theorem EK.put{w0 w:World}{g R N:Nat}{blk cap:Nat->Nat}{a:Nat->Nat->Int}{k:Nat}(h:EK w0 w g R N blk cap a k){w':World}(hx:Ex w w'){nb nc:Nat}(hn:A6 w' w.heap.size 3 nb N nc (iv (a k)))(hw:w0.heap.size<=w.heap.size):
  EK w0 (w'.setCell ⟨g,k,none⟩ (.slice (some ⟨nb,0,none⟩) N nc)) g R N (Az blk k nb) (Az cap k nc) a (k+1):=by
 have h1:=h.later hx;have hgl:=h.arr.lt.2;have hnl:=hn.lt.1;have aA:nb≠g:=ac;refine⟨(h1.arr.set k _).congr fun i hi=>?_,fun i hi=>?_,fun i j hi hj aB=>?_,fun i hi=>?_,h1.arr.exSet (Nat.le_refl _) h1.ex k _⟩
 .by_cases e:i=k
  .subst e;rw[Ab];show _=(if i<i+1 then DW (Az blk i nb) (Az cap i nc) N i else .slice none 0 0)
   rw[if_pos ac];unfold DW;rw[Ab,Ab]
  .rw[Ae _ _ e];show(if i<k then DW blk cap N i else .slice none 0 0)=(if i<k+1 then DW (Az blk k nb) (Az cap k nc) N i else .slice none 0 0)
   by_cases h:i<k
   .rw[if_pos h,if_pos ac];unfold DW;rw[Ae _ _ e,Ae _ _ e]
   .exact za3
 .by_cases e:i=k
  .subst e;rw[Ab,Ab];exact(show A6 w' w0.heap.size 3 nb N nc (iv (a i)) from A5 hn hw).other aA _
  .rw[Ae _ _ e,Ae _ _ e];exact(h1.row i ac).other (h.off i ac) _
 .by_cases e:i=k
  .subst e;rw[Ab,Ae _ _ (fun e=>aB e.symm)];have:=(h.row j ac).lt.2;omega
  .by_cases e2:j=k
   .subst e2;rw[Ab,Ae _ _ e];have:=(h.row i ac).lt.2;omega
   .rw[Ae _ _ e,Ae _ _ e2];exact h.apart i j ac ac aB
 .by_cases e:i=k
  .subst e;rw[Ab];exact aA
  .rw[Ae _ _ e];exact h.off i ac
theorem EK.done{w0 w:World}{g R N:Nat}{blk cap:Nat->Nat}{a:Nat->Nat->Int}(h:EK w0 w g R N blk cap a R):EM w w0.heap.size g R N blk cap a []:=
 ⟨h.arr.congr fun i hi=>by show(if i<R then DW blk cap N i else .slice none 0 0)=_;rw[if_pos hi],h.row,h.apart,h.off,fun B hB=>by cases hB⟩
theorem Um(w:World)(N R:Nat)(rows:List (List Int))(v:Value)(hv:BO w v rows)(hR:rows.length=R)(hR2:R<=256)(hN1:1<=N)(hN:N<=256)(hr:∀(i:Nat) (r:List Int),rows[i]?=some r->r.length=N):
  Calls Tryz.prog 202 #[v] w fun r w'=>∃g blk cap,r= .returned (.slice (some ⟨g,0,none⟩) R R)/\EM w' w.heap.size g R N blk cap (Ak rows) []/\Ex w w':=by
 obtain⟨za,zc,rfl,z1,z2,z3⟩:=hv.open;rw[hR]at z1 z3 ⊢;unfold maxLen at z2;have Z3:=Aa z3;have aN:=Aa hr;have aM:=Aa hR;clear z3 hr hv hR;go_enter Tryz.func202,Tryz.ntmps202
 go_wp2_with (at_make;refine Aq _ rfl _ _ 37 rfl 22 (.slice none 0 0) 24 Tryz.underlying37 VX rfl _ R rfl rfl rfl ac ai ?_)
 intro w3 aA aI;obtain⟨g,aD⟩:=nA w.heap.size;have HSZ:=Aa aD;have aG:=Aa (show EK w w3 w.heap.size R N (fun _=>0) (fun _=>0) (Ak rows) 0 from⟨aA.congr fun i hi=>ag,fun i hi=>ac,fun i j hi=>ac,fun i hi=>ac,aI⟩);rw[aD]at aG
 try simp only[aD]
 clear aA aI aD;go_wp2_with fail
 go_loopw [11] (fun k' wr=>∃(k:Nat) (blk cap:Nat->Nat),k<=R/\k'= .int .i64 k/\Hia (EK w wr g R N blk cap (Ak rows) k)) (fun k' _=>R-(intOf k').toNat)
 case atStart=>exact⟨0,_,_,ac,rfl,aG⟩
 case round=>
  clear aG;obtain⟨k,blk,cap,hk,rfl,aB⟩:=hrel;by_cases hkR:k<R
  .obtain⟨zb,zo,rfl,aH⟩:=Z3.o ac;obtain⟨r,aC⟩:∃r,rows[k]?=some r:=⟨_,List.getElem?_eq_getElem (by rw[aM.o];exact hkR)⟩;obtain⟨uz,c1,aF⟩:=aH k r aC;have c1:=aB.o.ex.cell c1;have aJ:=aN.o k r aC;have HC:=Aa (MX wr r uz (aF.ex aB.o.ex) ac ac);obtain⟨ua,uc,rfl,_,u2,_⟩:=aF.open;rw[aJ]at HC c1;have i1:(0:Int)<=(k:Int):=by omega
   have i2:(k:Int)<(R:Int):=ac;have aO:=Aa (show(fun j=>r.getD j 0)=Ak rows k from by
    funext j;unfold Ak;rw[List.getD_eq_getElem?_getD (l:=rows),aC];rfl)
   have aK:=aB.o.arr.cell hkR;have aL:=aB.o.arr.frz k;clear aH aF aC aJ;go_wp2_with (go_at_call 154;refine HC.o.mono ?_;rintro e w4⟨gg,cc,rfl,aA,aE⟩;have hcg2:=aE.cell aK;have hfg2:=aE.frz aK aL)
   rw[aO.o]at aA;have HP:=Aa (aB.o.put aE aA aB.o.ex.size);go_roundw
   case rel=>first|exact⟨k+1,_,_,ac,by go_num,HP⟩|((repeat apply Exists.intro);exact⟨⟨k+1,_,_,ac,by go_num,HP⟩,rfl⟩)
   case measure=>simp[intOf];omega
  .obtain rfl:R=k:=by omega
   have HE:=Aa aB.o.done;have HX:=Aa aB.o.ex;clear aB;go_wp2_with fail
   go_ret;exact⟨g,blk,cap,rfl,HE.o,HX.o⟩
theorem EM.low{w:World}{base g R N:Nat}{blk cap:Nat->Nat}{a:Nat->Nat->Int}(h:EM w base g R N blk cap a []){A:Addr}(hA:A.block<base)(u:Value):EM (w.setCell A u) base g R N blk cap a []:=
 ⟨h.arr.other (by have:=h.arr.lt;omega) u,fun i hi=>(h.row i hi).other (by have:=(h.row i hi).lt;omega) u,h.apart,h.off,fun B hB=>by cases hB⟩
def Av(N k:Nat)(a:Nat->Nat->Int):List (List Int):=(List.range k).map fun i=>il N (a i)
theorem Cx{N k i:Nat}{a:Nat->Nat->Int}(h:i<k):(Av N k a)[i]?=some (il N (a i)):=by unfold Av;simp[h]
theorem AE(N k:Nat)(a:Nat->Nat->Int):(Av N k a).length=k:=by unfold Av;simp
theorem EM.msl{w:World}{base g R N k:Nat}{blk cap:Nat->Nat}{a:Nat->Nat->Int}{avs:List Nat}(h:EM w base g R N blk cap a avs)(hk:k<=R)(hR:R<=256):BO w (.slice (some ⟨g,0,none⟩) k k) (Av N k a):=by
 refine⟨(List.range k).map fun i=>DW blk cap N i,?_,fun i r u h1 h2=>?_⟩
 .rw[AE];refine⟨ag,some ⟨g,0,none⟩,k,rfl,Nat.le_refl _,by unfold maxLen;omega,fun h0=>⟨g,0,rfl,fun i z hz=>?_⟩⟩;have hi:i<k:=by have:=(List.getElem?_eq_some_iff.1 hz).1;simpa using this
  simp[hi]at hz;subst hz;rw[Nat.zero_add];exact h.cell ac
 .have hi:i<k:=by have:=(List.getElem?_eq_some_iff.1 h1).1;rw[AE]at this;exact this
  rw[Cx hi]at h1;injection h1 with h1;subst h1;simp[hi]at h2;subst h2;exact(h.row i ac).isl
theorem zbM{P:Prop}(h:P:=by
 refine KV h2 _ ?_;rw[List.getD_eq_getElem?_getD,List.getElem?_eq_getElem (by omega)];exact List.getElem_mem _):P:=h
theorem K9{p m:Nat}{ml:List Int}{b x0:Nat}(w:World)(hg:A9 w b p m ml x0)(aL:1<=x0)(aK:x0<p^m)(N R:Nat)(rows:List (List Int))(v:Value)(hv:BO w v rows)(hR:rows.length=R)(aE:R<=256)(aM:1<=N)(hN:N<=256)(hr:∀(i:Nat) (r:List Int),rows[i]?=some r->r.length=N/\B3 (p^m) r=0):
  Calls Tryz.prog 157 #[.pointer (some ⟨b,0,none⟩),v,.int .i64 N] w fun r w'=>∃piv pv rv a',r= .returned (.tuple #[rv,pv])/\Iq p m ml N R (Ak rows) a' piv/\BO w' rv (Av N piv.length a')/\Am w' pv (pI piv)/\Ex w w'/\∃g blk cap,rv= .slice (some ⟨g,0,none⟩) piv.length piv.length/\EM w' w.heap.size g R N blk cap a' []/\∀B,pv.ownBlock=some B->w.heap.size<=B:=by
 have aA:Qp p m R N (Ak rows):=fun i hi j hj=>by
  obtain⟨r,aF⟩:∃r,rows[i]?=some r:=⟨_,List.getElem?_eq_getElem ac⟩;obtain⟨h1,h2⟩:=hr i r aF;have e:Ak rows i j=r.getD j 0:=by unfold Ak;rw[List.getD_eq_getElem?_getD (l:=rows),aF];rfl
  rw[e];exact zbM
 have HC:=Aa (Um w N R rows v hv hR aE aM hN fun i r h=>(hr i r h).1);have HG:=Aa hg;have aN:=Aa aA;clear hv hr aA hg;go_enter Tryz.func157,Tryz.ntmps157
 go_wp2_with (go_at_call 202;refine HC.o.mono ?_;rintro e w1⟨g,blk,cap,rfl,hem,hx1_⟩)
 refine(Wn w w1 HG.o aL aK hx1_ hem (Nat.le_refl _) hN aE aN.o).mono ?_;rintro e w2⟨piv,pv,det,blk',cap',a',rfl,aB,aD,aC,hx2_,aG⟩;obtain⟨aJ,aP,HX,aH,aI⟩:=Of aB aD hx2_ aC aG;have hk:piv.length<=R:=by obtain⟨c,_,h,_⟩:=aD;exact h.le
 obtain⟨pa,pc,rfl,_,p2_,_⟩:=aC.open;rw[Kl]at aH aI ⊢;clear hem aB aD aC hx1_ hx2_ HC aG;have k1:(0:Int)<=(piv.length:Int):=ac;have k2:(piv.length:Int)<=(R:Int):=ac;have aO:=Aa (aJ.o.msl hk aE);go_wp2_with fail
 go_ret2;exact⟨piv,_,_,a',rfl,aP.o,aO.o,aH.o,HX.o,g,blk',cap',rfl,aJ.o,aI.o⟩
theorem MO{p m:Nat}{ml:List Int}{b x0:Nat}(w:World)(hg:A9 w b p m ml x0)(aB:1<=x0)(aA:x0<p^m)(N R:Nat)(rows:List (List Int))(v:Value)(hv:BO w v rows)(hR:rows.length=R)(aC:R<=256)(aD:1<=N)(hN:N<=256)(hr:∀(i:Nat) (r:List Int),rows[i]?=some r->r.length=N/\B3 (p^m) r=0):
  Calls Tryz.prog 157 #[.pointer (some ⟨b,0,none⟩),v,.int .i64 N] w fun r w'=>∃piv pv rv a',r= .returned (.tuple #[rv,pv])/\Iq p m ml N R (Ak rows) a' piv/\BO w' rv (Av N piv.length a')/\Am w' pv (pI piv)/\Ex w w'/\∃g blk cap,rv= .slice (some ⟨g,0,none⟩) piv.length piv.length/\EM w' w.heap.size g R N blk cap a' []:=by
 refine(K9 w hg aB aA N R rows v hv hR aC aD hN hr).mono ?_;rintro e w'⟨piv,pv,rv,a',h1,h2,h3,h4,h5,g,blk,cap,h6,h7,_⟩;exact⟨piv,pv,rv,a',h1,h2,h3,h4,h5,g,blk,cap,h6,h7⟩
end Go.Proofs.YtehieobniamagaaGreat
