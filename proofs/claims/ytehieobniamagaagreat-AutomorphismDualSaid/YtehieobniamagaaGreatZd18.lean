/- Slices of slices; the reference's SameInts, SameRows, Few; slices.Index and Clone at Ao. -/
import Derived.Test.YtehieobniamagaaGreatZd17
namespace Go.Proofs.YtehieobniamagaaGreat
open Go.RowKit
set_option linter.all false
set_option maxRecDepth 100000
set_option maxHeartbeats 16000000
theorem zaE{P:Prop}(h:P:=by
 obtain rfl:i=n:=by omega
 have HF:=Aa (B9 aA.o);go_wp2_with fail
 go_ret;exact⟨Ah HF.o.symm,q,rfl⟩):P:=h
theorem zbK{P:Prop}(h:P:=by
 go_roundg (n-(i+1))
 case measure=>omega
 case rel=>exact⟨i+1,q+q',by omega,by omega,by go_num,rfl,HA⟩):P:=h
theorem LT(w:World)(p0:Value)(v:Value)(n:Nat)(us:List Value)(hv:Sl w v n 1 us)(pr:Nat->Bool)
  (hp:∀(q i:Nat) (u:Value),us[i]?=some u->Calls Tryz.prog 117 #[u,p0] (w.drewN q) fun e w'=>e= .returned (.bool (pr i))/\∃q',w'=(w.drewN q).drewN q'):
  Calls Tryz.prog 169 #[v,.func (.func 117) #[] #[p0]] w fun r w'=>r= .returned (.int .i64 (Cz pr n))/\∃q,w'=w.drewN q:=by
 obtain⟨hl,a,cap,rfl,s1,s2,s3⟩:=hv;rw[Nat.mul_one]at hl;have S3:=Aa s3;have HP:=Aa hp;have HL:=Aa hl;unfold maxLen at s2;clear s3 hp hl;go_enter Tryz.func169,Tryz.ntmps169
 go_wp2_with fail
 go_loopg [5,8] n (fun gg _ i' wr=>∃i q:Nat,i<=n/\n-i<=gg/\i'= .int .i64 i/\wr=w.drewN q/\Hia (∀j,j<i->pr j=false))
 case atStart=>exact⟨0,0,ac,ac,rfl,rfl,Aa (fun j hj=>ac)⟩
 case round=>
  obtain⟨i,q,hi,hg,rfl,rfl,aA⟩:=hrel;by_cases hlt:i<n
  .obtain⟨u,hu⟩:∃u,us[i]?=some u:=⟨_,List.getElem?_eq_getElem a8⟩;obtain⟨bb,o,rfl,hc⟩:=S3.o ac;have c1:=hc i u hu;have HC:=Aa (HP.o q i u hu);have hlt':(i:Int)<(n:Int):=by omega
   clear hc hu
   cases hb:pr i with
   | true=>
    rw[hb]at HC;have HF:=Aa (CH hlt hb aA.o);clear hb;go_wp2_with (go_at_call 117;refine HC.o.mono ?_;rintro e w'⟨rfl,q',rfl⟩)
    go_ret;exact⟨Ah HF.o.symm,q+q',rfl⟩
   | false=>
    rw[hb]at HC;have HA:=Aa (show ∀j,j<i+1->pr j=false from fun j hj=>by
     by_cases e:j=i
     .subst e;exact hb
     .exact aA.o j ac)
    clear hb;go_wp2_with (go_at_call 117;refine HC.o.mono ?_;rintro e w'⟨rfl,q',rfl⟩)
    exact zbK
  .exact zaE
theorem I4(w:World)(p0:Value)(v:Value)(n:Nat)(us:List Value)(hv:Sl w v n 1 us)(pr:Nat->Bool)
  (hp:∀(q i:Nat) (u:Value),us[i]?=some u->Calls Tryz.prog 117 #[u,p0] (w.drewN q) fun e w'=>e= .returned (.bool (pr i))/\∃q',w'=(w.drewN q).drewN q'):
  Calls Tryz.prog 116 #[v,.func (.func 117) #[] #[p0]] w fun r w'=>r= .returned (.bool ((List.range n).any pr))/\∃q,w'=w.drewN q:=by
 have HC:=Aa (LT w p0 v n us hv pr hp);have HB:=Aa (DZ pr n);obtain⟨z,hz⟩:=nA (Cz pr n);rw[hz]at HC HB;clear hz hp hv;go_enter Tryz.func116,Tryz.ntmps116
 go_wp2_with (go_at_call 169;refine HC.o.mono ?_;rintro e w'⟨rfl,q,rfl⟩)
 go_ret;exact⟨Ap HB.o.symm,q,rfl⟩
theorem L3(w:World)(p0:Value)(v:Value)(n:Nat)(us:List Value)(hv:Sl w v n 1 us)(pr:Nat->Bool)
  (hp:∀(q i:Nat) (u:Value),us[i]?=some u->Calls Tryz.prog 176 #[u,p0] (w.drewN q) fun e w'=>e= .returned (.bool (pr i))/\∃q',w'=(w.drewN q).drewN q'):
  Calls Tryz.prog 129 #[v,.func (.func 176) #[] #[p0]] w fun r w'=>r= .returned (.int .i64 (Cz pr n))/\∃q,w'=w.drewN q:=by
 obtain⟨hl,a,cap,rfl,s1,s2,s3⟩:=hv;rw[Nat.mul_one]at hl;have S3:=Aa s3;have HP:=Aa hp;have HL:=Aa hl;unfold maxLen at s2;clear s3 hp hl;go_enter Tryz.func129,Tryz.ntmps129
 go_wp2_with fail
 go_loopg [5,8] n (fun gg _ i' wr=>∃i q:Nat,i<=n/\n-i<=gg/\i'= .int .i64 i/\wr=w.drewN q/\Hia (∀j,j<i->pr j=false))
 case atStart=>exact⟨0,0,ac,ac,rfl,rfl,Aa (fun j hj=>ac)⟩
 case round=>
  obtain⟨i,q,hi,hg,rfl,rfl,aA⟩:=hrel;by_cases hlt:i<n
  .obtain⟨u,hu⟩:∃u,us[i]?=some u:=⟨_,List.getElem?_eq_getElem a8⟩;obtain⟨bb,o,rfl,hc⟩:=S3.o ac;have c1:=hc i u hu;have HC:=Aa (HP.o q i u hu);have hlt':(i:Int)<(n:Int):=by omega
   clear hc hu
   cases hb:pr i with
   | true=>
    rw[hb]at HC;have HF:=Aa (CH hlt hb aA.o);clear hb;go_wp2_with (go_at_call 176;refine HC.o.mono ?_;rintro e w'⟨rfl,q',rfl⟩)
    go_ret;exact⟨Ah HF.o.symm,q+q',rfl⟩
   | false=>
    rw[hb]at HC;have HA:=Aa (show ∀j,j<i+1->pr j=false from fun j hj=>by
     by_cases e:j=i
     .subst e;exact hb
     .exact aA.o j ac)
    clear hb;go_wp2_with (go_at_call 176;refine HC.o.mono ?_;rintro e w'⟨rfl,q',rfl⟩)
    exact zbK
  .exact zaE
theorem I5(w:World)(p0:Value)(v:Value)(n:Nat)(us:List Value)(hv:Sl w v n 1 us)(pr:Nat->Bool)
  (hp:∀(q i:Nat) (u:Value),us[i]?=some u->Calls Tryz.prog 176 #[u,p0] (w.drewN q) fun e w'=>e= .returned (.bool (pr i))/\∃q',w'=(w.drewN q).drewN q'):
  Calls Tryz.prog 71 #[v,.func (.func 176) #[] #[p0]] w fun r w'=>r= .returned (.bool ((List.range n).any pr))/\∃q,w'=w.drewN q:=by
 have HC:=Aa (L3 w p0 v n us hv pr hp);have HB:=Aa (DZ pr n);obtain⟨z,hz⟩:=nA (Cz pr n);rw[hz]at HC HB;clear hz hp hv;go_enter Tryz.func71,Tryz.ntmps71
 go_wp2_with (go_at_call 129;refine HC.o.mono ?_;rintro e w'⟨rfl,q,rfl⟩)
 go_ret;exact⟨Ap HB.o.symm,q,rfl⟩
theorem Kk(n:Nat)(f:Nat->Int):(il n f).length=n:=An n f
theorem V2{N:Nat}{f g:Nat->Int}(h:∀j,j<N->f j=g j):il N f=il N g:=by
 apply List.ext_getElem?;intro j;by_cases hj:j<N
 .rw[AH hj,AH hj,h j hj]
 .rw[List.getElem?_eq_none (by rw[Kk];omega),List.getElem?_eq_none (by rw[Kk];omega)]
theorem Vm{n:Nat}{f:Nat->Int}{x:Int}(h:x∈il n f):∃j,j<n/\f j=x:=by
 unfold il at h;obtain⟨j,hj,e⟩:=List.mem_map.1 h;exact⟨j,List.mem_range.1 hj,e⟩
def li(n:Nat)(f:Nat->Nat):List Int:=il n fun i=>(f i:Int)
theorem E6(n:Nat)(f:Nat->Nat):(li n f).length=n:=Kk _ _
theorem DK{n i:Nat}(h:i<n)(f:Nat->Nat):(li n f)[i]?=some (f i:Int):=AH h _
theorem VH{n:Nat}{f g:Nat->Nat}(h:∀i,i<n->f i=g i):li n f=li n g:=V2 fun i hi=>by rw[h i hi]
theorem E9{w:World}{v:Value}{n:Nat}{f:Nat->Nat}(h:Am w v (li n f)):∃a cap,v= .slice a n cap/\n<=cap/\cap<=maxLen/\
  (0<n->∃b o,a=some ⟨b,o,none⟩/\∀j,j<n->w.cell? ⟨b,o+j,none⟩=some (.int .i64 (f j:Int))):=by
 obtain⟨a,cap,h1,h2,h3,h4⟩:=h.open;rw[E6]at h1 h2 h4;refine⟨a,cap,h1,h2,h3,fun hn=>?_⟩;obtain⟨b,o,h5,h6⟩:=h4 hn;exact⟨b,o,h5,fun j hj=>h6 j _ (DK hj f)⟩
theorem AG.li{w:World}{base:Nat}{e:TypeId}{g n:Nat}{f:Nat->Nat}(h:AG w base e g n (iv fun i=>(f i:Int))):Am w (.slice (some ⟨g,0,none⟩) n n) (Go.Proofs.YtehieobniamagaaGreat.li n f):=h.isl
theorem zbL{P:Prop}(h:P:=by
 go_wp2_with fail
 go_roundw
 case rel=>exact⟨k+1,by omega,by go_num,HO,HX⟩
 case measure=>simp[intOf];omega):P:=h
theorem zcQ{P:Prop}(h:P:=by
 clear aA;go_wp2_with fail
 go_ret;exact⟨g,rfl,HO.o,hx.o⟩):P:=h
theorem F5(w:World)(n:Nat)(f h:Nat->Nat)(u v:Value)(hu:Am w u (li n f))(hv:Am w v (li n h))(hn:n<=100)(hf:∀i,i<n->f i<n):
  Calls Tryz.prog 108 #[u,v] w fun r w'=>∃g,r= .returned (.slice (some ⟨g,0,none⟩) n n)/\AG w' w.heap.size 3 g n (iv fun i=>(Ar f h i:Int))/\Ex w w':=by
 obtain⟨ua,uc,rfl,_,u2,u3⟩:=E9 hu;obtain⟨va,vc,rfl,_,v2,v3⟩:=E9 hv;unfold maxLen at u2 v2;have U3:=Aa u3;have V3:=Aa v3;have HF:=Aa hf;clear hu hv u3 v3 hf;go_enter Tryz.func108,Tryz.ntmps108
 go_wp2_with (at_make;refine Aq _ rfl _ _ 22 rfl 3 (.int .i64 0) 8 Tryz.underlying22 AA rfl _ n rfl rfl rfl ac ai ?_)
 intro w3 aA aC;obtain⟨g,aB⟩:=nA w.heap.size;have aH:=Aa (show AG w3 g 3 g n (iv fun i=>if i<0 then(Ar f h i:Int) else 0) from by rw[<-aB];exact aA.icongr fun i _=>rfl);have aF:=Aa aC;have aG:=Aa aB;rw[aB]at ⊢;clear aA aC aB;go_wp2_with fail
 go_loopw [13] (fun k' wr=>∃(k:Nat),k<=n/\k'= .int .i64 k/\Hia (AG wr g 3 g n (iv fun i=>if i<k then(Ar f h i:Int) else 0))/\Hia (Ex w wr)) (fun k' _=>n-(intOf k').toNat)
 case atStart=>exact⟨0,ac,rfl,aH,aF⟩
 case round=>
  clear aH aF;obtain⟨k,hk,rfl,aA,hx⟩:=hrel;by_cases hkn:k<n
  .obtain⟨ub,uo,rfl,aE⟩:=U3.o ac;obtain⟨vb,vo,rfl,aD⟩:=V3.o ac;have aI:=HF.o k hkn;have c1:=hx.o.cell (aE k hkn);have c2:=hx.o.cell (aD (f k) aI);have c3:=aA.o.cell hkn;have c4:=aA.o.frz k;have i1:(0:Int)<=(k:Int):=by omega
   have i2:(k:Int)<(n:Int):=ac;have i3:(0:Int)<=(f k:Int):=ac;have i4:(f k:Int)<(n:Int):=ac;have HO:=Aa (show AG (wr.setCell ⟨g,k,none⟩ (.int .i64 (h (f k):Int))) g 3 g n (iv fun i=>if i<k+1 then(Ar f h i:Int) else 0) from by
    refine(aA.o.set k _).congr fun i hi=>?_;by_cases e:i=k
    .subst e;rw[Ab];show _=Value.int .i64 (if i<i+1 then(Ar f h i:Int) else 0);rw[if_pos ac];rfl
    .rw[Ae _ _ e];show Value.int .i64 (if i<k then(Ar f h i:Int) else 0)=Value.int .i64 (if i<k+1 then(Ar f h i:Int) else 0)
     by_cases h:i<k
     .exact za2
     .rw[if_neg h,if_neg ac])
   have HX:=Aa (aA.o.exSet (a:=w) (by have:=aG.o;omega) hx.o k (.int .i64 (h (f k):Int)));clear aE aD aA hx;exact zbL
  .obtain rfl:k=n:=by omega
   have HO:=Aa (show AG wr w.heap.size 3 g k (iv fun i=>(Ar f h i:Int)) from by
    rw[aG.o];exact aA.o.icongr fun i hi=>if_pos hi)
   exact zcQ
theorem Jl(w:World)(n:Nat)(f:Nat->Nat)(u:Value)(hu:Am w u (li n f))(hn:n<=100)(hf:Bw n f):
  Calls Tryz.prog 109 #[u] w fun r w'=>∃g,r= .returned (.slice (some ⟨g,0,none⟩) n n)/\AG w' w.heap.size 3 g n (iv fun i=>(A8 n f i:Int))/\Ex w w':=by
 obtain⟨ua,uc,rfl,_,u2,u3⟩:=E9 hu;unfold maxLen at u2;have U3:=Aa u3;have HF:=Aa hf;clear hu u3 hf;go_enter Tryz.func109,Tryz.ntmps109
 go_wp2_with (at_make;refine Aq _ rfl _ _ 22 rfl 3 (.int .i64 0) 8 Tryz.underlying22 AA rfl _ n rfl rfl rfl ac ai ?_)
 intro w3 aA aC;obtain⟨g,aB⟩:=nA w.heap.size;have aG:=Aa (show AG w3 g 3 g n (iv fun i=>if A8 n f i<0 then(A8 n f i:Int) else 0) from by rw[<-aB];exact aA.icongr fun i _=>rfl);have aE:=Aa aC;have aF:=Aa aB;rw[aB]at ⊢;clear aA aC aB;go_wp2_with fail
 go_loopw [11] (fun k' wr=>∃(k:Nat),k<=n/\k'= .int .i64 k/\Hia (AG wr g 3 g n (iv fun i=>if A8 n f i<k then(A8 n f i:Int) else 0))/\Hia (Ex w wr)) (fun k' _=>n-(intOf k').toNat)
 case atStart=>exact⟨0,ac,rfl,aG,aE⟩
 case round=>
  clear aG aE;obtain⟨k,hk,rfl,aA,hx⟩:=hrel;by_cases hkn:k<n
  .obtain⟨ub,uo,rfl,aD⟩:=U3.o ac;have aH:=HF.o.lt k hkn;have c1:=hx.o.cell (aD k hkn);have c3:=aA.o.cell aH;have c4:=aA.o.frz (f k);have i1:(0:Int)<=(k:Int):=by omega
   have i2:(k:Int)<(n:Int):=ac;have i3:(0:Int)<=(f k:Int):=ac;have i4:(f k:Int)<(n:Int):=ac;have HO:=Aa (show AG (wr.setCell ⟨g,f k,none⟩ (.int .i64 (k:Int))) g 3 g n (iv fun i=>if A8 n f i<k+1 then(A8 n f i:Int) else 0) from by
    refine(aA.o.set (f k) _).congr fun i hi=>?_;by_cases e:i=f k
    .subst e;rw[Ab];show _=Value.int .i64 (if A8 n f (f k)<k+1 then(A8 n f (f k):Int) else 0);rw[HF.o.inv_l,if_pos ac]
    .rw[Ae _ _ e];show Value.int .i64 (if A8 n f i<k then(A8 n f i:Int) else 0)=Value.int .i64 (if A8 n f i<k+1 then(A8 n f i:Int) else 0)
     have h1:A8 n f i≠k:=fun h=>e (by rw[<-h,HF.o.inv_r]);by_cases h:A8 n f i<k
     .exact za2
     .rw[if_neg h,if_neg ac])
   have HX:=Aa (aA.o.exSet (a:=w) (by have:=aF.o;omega) hx.o (f k) (.int .i64 (k:Int)));clear aD aA hx;exact zbL
  .obtain rfl:k=n:=by omega
   have HO:=Aa (show AG wr w.heap.size 3 g k (iv fun i=>(A8 k f i:Int)) from by
    rw[aF.o];exact aA.o.icongr fun i hi=>if_pos (HF.o.inv.lt i hi))
   exact zcQ
theorem NO(w:World)(n:Nat)(hn:n<=100):
  Calls Tryz.prog 102 #[.int .i64 n] w fun r w'=>∃g,r= .returned (.slice (some ⟨g,0,none⟩) n n)/\AG w' w.heap.size 3 g n (iv fun i=>(EN i:Int))/\Ex w w':=by
 go_enter Tryz.func102,Tryz.ntmps102
 go_wp2_with (at_make;refine Aq _ rfl _ _ 22 rfl 3 (.int .i64 0) 8 Tryz.underlying22 AA rfl _ n rfl rfl rfl ac ai ?_)
 intro w3 aA aC;obtain⟨g,aB⟩:=nA w.heap.size;have aF:=Aa (show AG w3 g 3 g n (iv fun i=>if i<0 then(i:Int) else 0) from by rw[<-aB];exact aA.icongr fun i _=>rfl);have aD:=Aa aC;have aE:=Aa aB;rw[aB]at ⊢;clear aA aC aB;go_wp2_with fail
 go_loopw [9] (fun k' wr=>∃(k:Nat),k<=n/\k'= .int .i64 k/\Hia (AG wr g 3 g n (iv fun i=>if i<k then(i:Int) else 0))/\Hia (Ex w wr)) (fun k' _=>n-(intOf k').toNat)
 case atStart=>exact⟨0,ac,rfl,aF,aD⟩
 case round=>
  clear aF aD;obtain⟨k,hk,rfl,aA,hx⟩:=hrel;by_cases hkn:k<n
  .have c3:=aA.o.cell hkn;have c4:=aA.o.frz k;have i1:(0:Int)<=(k:Int):=by omega
   have i2:(k:Int)<(n:Int):=ac;have HO:=Aa (show AG (wr.setCell ⟨g,k,none⟩ (.int .i64 (k:Int))) g 3 g n (iv fun i=>if i<k+1 then(i:Int) else 0) from by
    refine(aA.o.set k _).congr fun i hi=>?_;by_cases e:i=k
    .subst e;rw[Ab];show _=Value.int .i64 (if i<i+1 then(i:Int) else 0);rw[if_pos ac]
    .rw[Ae _ _ e];show Value.int .i64 (if i<k then(i:Int) else 0)=Value.int .i64 (if i<k+1 then(i:Int) else 0)
     by_cases h:i<k
     .exact za2
     .rw[if_neg h,if_neg ac])
   have HX:=Aa (aA.o.exSet (a:=w) (by have:=aE.o;omega) hx.o k (.int .i64 (k:Int)));clear aA hx;exact zbL
  .obtain rfl:k=n:=by omega
   have HO:=Aa (show AG wr w.heap.size 3 g k (iv fun i=>(EN i:Int)) from by
    rw[aE.o];exact aA.o.icongr fun i hi=>if_pos hi)
   exact zcQ
def BolR(P:Prop)(r:Ending):Prop:=∃b:Bool,r= .returned (.bool b)/\(b=true↔P)
theorem Tf{P:Prop}(h:¬P):BolR P (.returned (.bool false)):=⟨false,rfl,⟨fun h=>bi,fun k=>absurd k h⟩⟩
theorem La{P:Prop}(h:P):BolR P (.returned (.bool true)):=⟨true,rfl,⟨fun _=>h,fun _=>rfl⟩⟩
theorem QT(w:World)(p m:Int)(mv:Value)(n:Int)(rows:List (List Int))(v:Value)(hv:BO w v rows)(aA:Int)(aD:0<=aA)(aC:aA<=100000):
  Calls Tryz.prog 61 #[.agg #[.int .i64 p,.int .i64 m,mv,.int .i64 n,v],.int .i64 aA] w fun r w'=>r= .returned (.bool (PR 0 rows aA))/\Ex w w':=by
 obtain⟨a0,a1,a2,a3,a4,ea⟩:=DP w p m mv n v;have aB:=Aa (fun (w':World) (h:Ex w w')=>TJ w' 0 rows v (hv.ex h) aA aD aC);obtain⟨za,zc,rfl,-,z2,-⟩:=hv.open;have HE:=Aa ea;clear hv ea z2;obtain⟨F,hF⟩:=nA (PR 0 rows aA);rw[hF]at aB ⊢;clear hF;go_enter Tryz.func61,Tryz.ntmps61
 go_wp2_with fail
 generalize w.alloc (.cells #[.int .i64 p,.int .i64 m,mv,.int .i64 n,.slice za rows.length zc] 39)=w1 at *;refine(aB.o w1 HE.o).mono ?_;rintro e w2⟨rfl,hx⟩;have HX:=Aa (HE.o.trans hx);clear hx;exact zc0
theorem zc8{P:Prop}(h:P:=by
 clear T;go_simp;exact hK _ (.refl w)):P:=h
theorem zar{P:Prop}(h:P:=by
 have e3:=T 3 _ rfl;have q1:=(aF.o.trans hx).cell A0.o;have q2:=(aF.o.trans hx).cell A1.o;have q3:=(aF.o.trans hx).cell A2.o;exact zc8):P:=h
theorem zaS{P:Prop}(h:P:=by
 have cC:=T 10 _ rfl;exact zc8):P:=h
theorem zaT{P:Prop}(h:P:=by
 have dB:=T 13 _ rfl;exact zc8):P:=h
theorem zaW{P:Prop}(h:P:=by
 have e8:=T 8 _ rfl;exact zc8):P:=h
theorem zbj{P:Prop}(h:P:=by
 go_wp2_with fail
 go_roundw
 case rel=>first|exact⟨i+1,aC,a4,by omega,by go_num,aA,aD,aE,aQ,aP⟩|((repeat apply Exists.intro);exact⟨⟨i+1,aC,a4,by omega,by go_num,aA,aD,aE,aQ,aP⟩,rfl⟩)
 case measure=>simp[intOf];omega):P:=h
theorem zbN{P:Prop}(h:P:=by
 go_wp2_with fail
 go_ret2;exact⟨⟨[],none,0,ca,cc,rfl,a,dN.o,Bj _,D6.nil dR.o⟩,aY.o.trans cI.o⟩):P:=h
theorem zb0{P:Prop}(h:P:=by
 rw[hs]at HR ⊢;have HS:=Aa hs;clear hs aJ aT aK bA aH;go_wp2_with fail
 go_ret2;exact HR.o):P:=h
theorem zci{P:Prop}(h:P:=by
 go_region
 all_goals go_wp2_with fail
 all_goals go_meet
 all_goals exact⟨_,bB⟩):P:=h
theorem zcy{P:Prop}(h:P:=by
 rintro e w'⟨g7,rfl,ho,h5⟩;exact hK _ _ h5 ⟨g7,rfl,ho.mono hx.size⟩):P:=h
theorem zcA{P:Prop}(h:P:=by
 have q1:=aG.o.1;have q2:=aG.o.2.1;exact zc8):P:=h
theorem zcB{P:Prop}(h:P:=by
 have q1:=aX.o.1;have q2:=aX.o.2.1;exact zc8):P:=h
theorem TK{p m:Nat}{ml:List Int}{mv:Value}(w:World)(hf:GD p m ml)(hF:FZ p m (lw ml))(bV:Am w mv ml)(N R:Nat)(hN:N<=256)(hR:R<=256)(a:Nat->Nat->Int)(bE:Qp p m R N a)(v:Value)(hv:BO w v (Av N R a)):
  Calls Tryz.prog 195 #[.agg #[.int .i64 p,.int .i64 m,mv],v,.int .i64 N] w fun r w'=>(∃piv pa pc la lc a',r= .returned (.tuple #[.slice la R lc,.slice pa piv.length pc])/\Iq p m ml N R a a' piv/\Am w' (.slice pa piv.length pc) (pI piv)/\R<=lc/\∀k,k<=R->D6 w.heap.size w' (.slice la k lc) (Av N k a'))/\Ex w w':=by
 obtain⟨a0,a1,a2,ea,eF⟩:=AC w p m mv;have p2:=hf.p2;have m1:=hf.m1;have dY:0<p^m:=Nat.pow_pos ac;have dQ:=Aa (TL _ (Av N R a) v (hv.ex ea) (by rw[AE];omega) (fun r hr=>by
  unfold Av at hr;obtain⟨i,_,rfl⟩:=List.mem_map.1 hr;rw[AF];omega))
 obtain⟨va,vc,cW,v1,v2,-⟩:=hv.open;rw[AE]at cW v1;subst cW;obtain⟨HF,cL,dI,aY⟩:=Eq (And.intro hf hF) bV bE ea;obtain⟨ma,mc,rfl,-,-,-⟩:=bV.open;obtain⟨B,hB⟩:=nA w.heap.size;rw[hB]at a0 a1 a2 eF;clear hf hF bV hv bE ea;go_enter Tryz.func195,Tryz.ntmps195
 go_wp2_with fail
 try simp only[hB]
 have HBW:=Aa hB;clear hB;generalize w.alloc (.cells #[.int .i64 p,.int .i64 m,.slice ma ml.length mc] 24)=w1 at *;have A0:=Aa a0;have A1:=Aa a1;have A2:=Aa a2;clear a0 a1 a2;refine dQ.o.mono ?_;rintro e w2⟨cv,vl,rfl,hm,cV⟩;have cI:=Aa cV;have HM:=Aa hm;clear cV hm dQ;by_cases hR0:R=0
 .subst hR0;obtain⟨ca,cc,bY⟩:=Ad HM.o.cvo;subst bY;have eI:=Aa (show BO w2 (.slice ca 0 cc) (Av N 0 a) from by have:=HM.o.msl;exact this);obtain⟨_,c9,e9,l9,l8,-⟩:=eI.o.open;have dR:=Aa (show cc<=maxLen from by injection e9 with _ _ h3;rw[h3];exact l8);have dN:=Aa (show Iq p m ml N 0 a a [] from⟨0,ac,PV.init dI.o,.inl rfl,fun x=>Iff.rfl⟩);have cX:(Av N 0 a).length=0:=AE N 0 a;rw[cX];clear e9 l9 l8 cX;go_wp2_with fail
  go_loop [9,10,11] (fun pv cH c'=>pv= .slice none 0 0/\cH= .int .i64 ((0:Nat):Int)/\∃c:Nat,c<=N/\c'= .int .i64 c) (fun _ _ c'=>N-(intOf c').toNat)
  case atStart=>exact⟨rfl,rfl,0,ac,rfl⟩
  case round=>
   obtain⟨rfl,rfl,c,hc,rfl⟩:=hrel;by_cases hcN:c<N
   .have k1:decide ((0:Nat)<0)=false:=by simp
    exact zbN
   .have k1:decide (c<N)=false:=by simpa using hcN
    exact zbN
 .obtain⟨g,cap,bY,bX⟩:=L9.of HM.o ac;subst bY;obtain⟨base,bG⟩:∃b,w1.heap.size=b:=⟨_,rfl⟩;rw[bG]at bX;obtain⟨aA,aD,aE,aF⟩:=Eq (show Lp w1 w2 base g R N cap (fun i=>vl.getD i undef) a [] (.slice none 0 0) from⟨bX,World.ownsRow_nil _ _ _ _,by simp[Value.ownBlock],fun i hi=>(AQ.nil _).symm,ac,cI.o⟩) (show PV p m R N a [] 0 from PV.init dI.o) (show ∀x,Bz p m ml N R a x↔Bz p m ml N R a x from fun x=>Iff.rfl) (Ex.refl w1);clear bX HM;go_wp2_with fail
  go_loopw [9,10,11] (fun pv cH c' wr=>∃(c:Nat) (piv:List Nat) (vals:Nat->Value) (a1:Nat->Nat->Int),c<=N/\c'= .int .i64 c/\cH= .int .i64 piv.length/\Hia (Lp w1 wr base g R N cap vals a1 piv pv)/\Hia (PV p m R N a1 piv c)/\Hia (∀x,Bz p m ml N R a1 x↔Bz p m ml N R a x)) (fun _ _ c' _=>N-(intOf c').toNat)
  case atStart=>exact⟨0, [],_,a,ac,rfl,rfl,aA,aD,Aa (fun x=>Iff.rfl)⟩
  case round=>
   clear aA aD aE;obtain⟨c,piv,vals,a1,hc,rfl,rfl,aK,bA,aH⟩:=hrel;obtain⟨pa,pc,bU⟩:=Ad aK.o.po;subst bU;have aT:=bA.o.le;obtain⟨eE,eD⟩:=aK.o.em.o.caps;unfold maxLen at eD;have aJ:=Aa (show(piv.length=R∨c=N)->(∃aL cQ cP la lc a',Ending.returned (.tuple #[.slice (some ⟨g,0,none⟩) R cap,.slice pa piv.length pc])= .returned (.tuple #[.slice la R lc,.slice cQ aL.length cP])/\Iq p m ml N R a a' aL/\Am wr (.slice cQ aL.length cP) (pI aL)/\R<=lc/\∀k,k<=R->D6 w.heap.size wr (.slice la k lc) (Av N k a'))/\Ex w wr from fun h=>⟨⟨piv,pa,pc,_,cap,a1,rfl,⟨c,hc,bA.o,h,aH.o⟩,by
    have:=Sl.own aK.o.po;unfold Am;rw[Kl];exact this,eE,fun k hk=>aK.o.em.mslF (by have h1:=aK.o.hb;have h2:=aY.o.size;omega) hk⟩,aY.o.trans aK.o.ex⟩)
   obtain⟨s,hs⟩:=nA piv.length;by_cases hcN:c<N
   .by_cases hsR:s<R
    .have k1:decide (s<R)=true:=by simpa using hsR
     have HS:=Aa hs;have aA:=Aa (show Lp w1 wr base g R N cap vals a1 piv (.slice pa s pc) from by rw[<-hs];exact aK.o);rw[hs];clear hs aT aJ;have aD:=Aa bA.o;have aE:=Aa aH.o;clear aK bA aH;go_wp2_with fail
     go_loop [12] (fun k'=>∃(k:Nat),s<=k/\k<=R/\k'= .int .i64 k/\Hia (∀j,s<=j->j<k->a1 j c=0)) (fun k'=>R-(intOf k').toNat)
     case atStart=>exact⟨s,ac,ac,rfl,Aa (fun j h1 h2=>ac)⟩
     case round=>
      obtain⟨k,bW,dZ,rfl,hz⟩:=hrel;by_cases hkR:k<R
      .obtain⟨gk,ck,bS,cY,k3,k4⟩:=aA.o.em.at ac hkR hcN;have dC:=aA.o.em.o.cell hkR;rw[bS]at dC;unfold maxLen at k4;obtain⟨y,hy⟩:=nA (a1 k c);rw[hy]at cY;have i1:(0:Int)<=(k:Int):=by omega
       have i2:(k:Int)<(R:Int):=ac;have i3:(0:Int)<=(c:Int):=ac;have i4:(c:Int)<(N:Int):=ac;have b1:decide (k<R)=true:=by simpa using hkR
       by_cases aO:y=0
       .subst aO;have HZ:=Aa (show ∀j,s<=j->j<k+1->a1 j c=0 from fun j h1 h2=>by
         by_cases e:j=k
         .subst e;exact hy
         .exact hz.o j h1 ac)
        clear hy;go_wp2_with fail
        go_round
        case rel=>exact⟨k+1,ac,ac,by go_num,HZ⟩
        case measure=>simp[intOf];omega
       .have kb:(y==0)=false:=by simpa using aO
        have HY:=Aa (And.intro hy aO);have b2:((k:Int)==(R:Int))=false:=aq;have b3:(k==R)=false:=aq;have HKR:=Aa (show s<R/\k<R/\s<=k from⟨hsR,hkR,bW⟩);have dE:=Aa bS;clear hy aO bS k3 k4;have cE:=aA.o.em.o.cell hsR;have eB:=aA.o.em.o.frz s;have dA:=aA.o.em.o.frz k;have j1:(0:Int)<=(s:Int):=ac;have j2:(s:Int)<(R:Int):=ac;have bB:=Aa ((aA.o.swp hsR hkR).later (Ex.refl _).drew);rw[dE.o]at bB;go_upto_region 11 with fail
        clear cY
        go_cut [48] from 48 to 61 (fun _ wx=>∃aN,Hia (Lp w1 wx base g R N cap aN (Dx a1 s k) piv (.slice pa s pc)))
        case first=>
         by_cases hsk:s=k
         .subst hsk;rw[dE.o]at bB;clear cE dA;exact zci
         .obtain⟨gs,cs,aZ,-⟩:=aA.o.em.at ac hsR hcN;rw[aZ]at cE bB;have n1:¬s=k:=hsk;have n2:¬k=s:=fun e=>hsk e.symm;clear aZ;exact zci
        case rest=>
         obtain⟨aN,bF⟩:=hcut;obtain⟨aA,aD,aE,bJ⟩:=Eq bF.o (show PV p m R N (Dx a1 s k) piv c from by have:=aD.o.swp (k:=k) (by rw[HS.o];exact bW) hkR;rw[HS.o]at this;exact this) (show ∀x,Bz p m ml N R (Dx a1 s k) x↔Bz p m ml N R a x from fun x=>(Bz.swp hsR hkR).trans (aE.o x)) (show Dx a1 s k s c=a1 k c from by unfold Dx;rw[if_pos rfl]);clear bF bB cE eB dA dC i1 i2;obtain⟨a2,cZ⟩:=nA (Dx a1 s k);rw[cZ]at aA aD aE bJ;clear cZ;obtain⟨gs,cs,aZ,bZ,k3,k4⟩:=aA.o.em.at ac hsR hcN;have cD:=aA.o.em.o.cell hsR;rw[aZ]at cD;unfold maxLen at k4;have cN:=Aa cD;rw[bJ.o,HY.o.1]at bZ;have dV:=Aa bZ;have hy:=aD.o.rng s hsR c hcN;rw[bJ.o,HY.o.1]at hy;obtain⟨yn,rfl⟩:∃yn:Nat,y=yn:=⟨y.toNat,ac⟩;have bR:yn<p^m:=by omega
         have bQ:1<=yn:=by have:=HY.o.2;omega
         have aG:=Aa (show(0:Int)<=(s:Int)/\(s:Int)<(R:Int)/\(0:Int)<=(c:Int)/\(c:Int)<(N:Int)/\s<R from⟨ac,ac,ac,ac,hsR⟩);have cM:=Aa (fun (w':World) (h:Ex wc w')=>by
          have:=Ve (mv:= .slice ma ml.length mc) w' HF.o.1 (cL.o.ex (aY.o.trans (aA.o.ex.trans h))) (yn:Int);rw[Ax bR]at this;exact this)
         have bL:=Kx p2 m1 HF.o.2 bQ bR;have bM:=JG (ml:=ml) dY yn;obtain⟨z,cT⟩:=nA (DY p m ml yn);rw[cT]at cM bL bM;have dG:=Aa (fun (w':World) (h:Ex wc w')=>by
          have:=Vb w' p m ml (.slice ma ml.length mc) HF.o.1 (cL.o.ex (aY.o.trans (aA.o.ex.trans h))) (z:Int) N ac (a2 s) _ ((aA.o.em.isl hsR).ex h);rw[Ax bM,aZ]at this;exact this)
         have cS:1<=z:=by
          rcases Nat.eq_zero_or_pos z with e|e
          .subst e;rw[AX ac]at bL;omega
          .omega
         have aF:=Aa aA.o.ex;have eG:=Aa (show ∀f:Nat->Int,f c=(yn:Int)->BR p m ml z f c=1 from fun f hf=>by
          unfold BR;rw[hf,Ax bR,AS,bL];rfl)
         have dD:=Aa (And.intro cS bM);have dT:=Aa (show a2 s c=(yn:Int) from by rw[bJ.o,HY.o.1]);clear bL cT aZ k3 k4 hy hz bW dZ hkR cS bM bJ HY;go_upto_if 69 with fail
         go_cut [70] from 69 to 87 (fun _ wx=>∃aB a3,Hia (Lp w1 wx base g R N cap aB a3 piv (.slice pa s pc))/\Hia (PV p m R N a3 piv c)/\Hia (∀x,Bz p m ml N R a3 x↔Bz p m ml N R a x)/\Hia (a3 s c=1))
         case first=>
          by_cases hy1:yn=1
          .have kb:((yn:Int) !=1)=false:=by simp[hy1]
           subst hy1;have bC:=Aa (show a2 s c=1 from dT.o);go_wp2_with fail
           go_meet
           exact⟨_,a2,aA,aD,aE,bC⟩
          .have kb:((yn:Int) !=1)=true:=by simp;omega
           have hy2:¬((yn:Int)=1):=ac;clear hy1;go_upto_region 13 with fail
           refine Hf (fun k=>([.slice (some ⟨g,0,none⟩) R cap,.int .i64 (s:Int),.agg #[.int .i64 (p:Int),.int .i64 (m:Int),.slice ma ml.length mc],.agg #[.int .i64 (p:Int),.int .i64 (m:Int),.slice ma ml.length mc],.slice (some ⟨g,0,none⟩) R cap,.int .i64 (s:Int),.pointer (some ⟨g,s,none⟩),.slice (some ⟨gs,0,none⟩) N cs,.int .i64 (c:Int),.pointer (some ⟨gs,c,none⟩),.int .i64 (yn:Int),.int .i64 (z:Int),.slice (some ⟨g,0,none⟩) R cap,.int .i64 (s:Int),.pointer (some ⟨g,s,none⟩),.slice (some ⟨gs,0,none⟩) N cs,undef,.pointer (some ⟨g,s,none⟩)]:List Value).getD k undef) 16 18 (fun v w'=>∃g7,v= .slice (some ⟨g7,0,none⟩) N N/\AG w' wc.heap.size 3 g7 N (iv (BR p m ml z (a2 s)))) (fun v w'=>∃aB,Hia (Lp w1 w' base g R N cap aB (Az a2 s (BR p m ml z (a2 s))) piv (.slice pa s pc))) (fun v wa wb ⟨g7,h1,h2⟩ hx=>⟨g7,h1,h2.ex hx⟩) ah ah ah ?_ (fun v k=>([.slice (some ⟨g,0,none⟩) R cap,.int .i64 (s:Int),.agg #[.int .i64 (p:Int),.int .i64 (m:Int),.slice ma ml.length mc],.agg #[.int .i64 (p:Int),.int .i64 (m:Int),.slice ma ml.length mc],.slice (some ⟨g,0,none⟩) R cap,.int .i64 (s:Int),.pointer (some ⟨g,s,none⟩),.slice (some ⟨gs,0,none⟩) N cs,.int .i64 (c:Int),.pointer (some ⟨gs,c,none⟩),.int .i64 (yn:Int),.int .i64 (z:Int),.slice (some ⟨g,0,none⟩) R cap,.int .i64 (s:Int),.pointer (some ⟨g,s,none⟩),.slice (some ⟨gs,0,none⟩) N cs,v,.pointer (some ⟨g,s,none⟩)]:List Value).getD k undef) (fun _=>rfl) ?_
           .simp only[AL];refine⟨?_,?_,?_,?_,?_,?_,?_,?_,?_,?_,?_,?_,?_,?_,?_,?_,?_,?_,?_,trivial⟩
            all_goals first|refine Ij.go ae fun a w T hx K hK=>?_|refine Ij.ap ae fun a w T hx K hK=>?_|refine Ij.st ae fun a w T hx K v hA hv hK=>?_
            .exact zaW
            .exact zaS
            .exact zar
            .exact zar
            .exact zaW
            .exact zaS
            .have e74:=T 74 _ rfl;have e75:=T 75 _ rfl;exact zcA
            .have e76:=T 76 _ rfl;have q1:=hx.cell cN.o;exact zc8
            .have eC:=T 11 _ rfl;exact zc8
            .have e77:=T 77 _ rfl;have e78:=T 78 _ rfl;have q1:=aG.o.2.2.1;have q2:=aG.o.2.2.2;exact zc8
            .have e79:=T 79 _ rfl;have q1:=hx.cell dV.o;exact zc8
            .have e73:=T 73 _ rfl;have e80:=T 80 _ rfl;clear T;go_simp;refine(cM.o w hx).mono ?_;rintro e w'⟨rfl,h5⟩;exact hK _ h5
            .exact zaW
            .exact zaS
            .have e82:=T 82 _ rfl;have e83:=T 83 _ rfl;exact zcA
            .have e84:=T 84 _ rfl;have q1:=hx.cell cN.o;exact zc8
            .have e72:=T 72 _ rfl;have e81:=T 81 _ rfl;have e85:=T 85 _ rfl;clear T;go_simp;refine(dG.o w hx).mono ?_;exact zcy
            .have e70:=T 70 _ rfl;have e71:=T 71 _ rfl;exact zcA
            .have e87:=T 87 _ rfl;have e86:=hv 86 _ rfl rfl;clear T;obtain⟨g7,rfl,ho⟩:=hA;have H5:=(aA.o.later hx);have aU:=aA.o.fresh (b':=0) (u:= .slice (some ⟨g7,0,none⟩) N N) ho;have aI:=H5.set (i:=s) (u:= .slice (some ⟨g7,0,none⟩) N N) (f:=BR p m ml z (a2 s)) (by have h:=A5 ho (show base<=wc.heap.size from by have:=aA.o.em.o.lt;omega);rw[Cf];exact h) aU.1 aU.2;have q1:=H5.em.o.cell aG.o.2.2.2.2;have q2:=H5.em.o.frz s;have cJ:=Aa aI;clear ho H5 aU aI;go_simp;exact hK _ ⟨_,cJ⟩
           .intro v w9 hF;obtain⟨aB,bP⟩:=hF;have bO:=Aa (show PV p m R N (Az a2 s (BR p m ml z (a2 s))) piv c from by have:=aD.o.scl (ml:=ml) (k:=z) ac (by rw[HS.o];exact hsR);rw[HS.o]at this;exact this);have bN:=Aa (show ∀x,Bz p m ml N R (Az a2 s (BR p m ml z (a2 s))) x↔Bz p m ml N R a x from fun x=>(Bz.scl p2 m1 HF.o.2 hsR dD.o.1 dD.o.2).trans (aE.o x));have bC:=Aa (show Az a2 s (BR p m ml z (a2 s)) s c=1 from by rw[Ab];exact eG.o _ dT.o);simp only[Ck,Act.put,List.setIfInBounds_toArray,List.set_cons_zero,List.set_cons_succ];go_wp2_with fail
            go_meet
            exact⟨aB,_,bP,bO,bN,bC⟩
         case rest=>
          obtain⟨aB,a3,bP,bO,bN,bC⟩:=hcut;clear dG cM cN dV cD bZ aF aA aD aE;go_wp2_with fail
          go_loopw [13] (fun i' wr=>∃(i:Nat) (aC:Nat->Value) (a4:Nat->Nat->Int),i<=R/\i'= .int .i64 i/\Hia (Lp w1 wr base g R N cap aC a4 piv (.slice pa s pc))/\Hia (PV p m R N a4 piv c)/\Hia (∀x,Bz p m ml N R a4 x↔Bz p m ml N R a x)/\Hia (a4 s c=1)/\Hia (∀j,j<i->j≠s->a4 j c=0)) (fun i' _=>R-(intOf i').toNat)
          case atStart=>exact⟨0,aB,a3,ac,rfl,bP,bO,bN,bC,Aa (fun j h=>ac)⟩
          case round=>
           clear bP bO bN bC;obtain⟨i,aC,a4,hi,rfl,aA,aD,aE,aQ,bH⟩:=hrel;by_cases hiR:i<R
           .have b1:decide (i<R)=true:=by simpa using hiR
            by_cases his:i=s
            .have b2:((i:Int) !=(s:Int))=false:=by simp;omega
             have b3:(i !=s)=false:=aq;have aP:=Aa (show ∀j,j<i+1->j≠s->a4 j c=0 from fun j h1 h2=>bH.o j ac h2);clear his;exact zbj
            .have b2:((i:Int) !=(s:Int))=true:=by simp;omega
             have b3:(i !=s)=true:=aq;have n1:¬((i:Int)=(s:Int)):=ac;obtain⟨gi,ci,bT,cA,k3,k4⟩:=aA.o.em.at ac hiR hcN;have cG:=aA.o.em.o.cell hiR;rw[bT]at cG;unfold maxLen at k4;obtain⟨y,hy⟩:=nA (a4 i c);rw[hy]at cA;have i1:(0:Int)<=(i:Int):=br;have i2:(i:Int)<(R:Int):=ac;have i3:(0:Int)<=(c:Int):=ac;have i4:(c:Int)<(N:Int):=ac;by_cases aO:y=0
             .subst aO;have b4:((0:Int) !=0)=false:=by simp
              have aP:=Aa (show ∀j,j<i+1->j≠s->a4 j c=0 from fun j h1 h2=>by
               by_cases e:j=i
               .subst e;exact hy
               .exact bH.o j ac h2)
              clear hy his;exact zbj
             .have kb:(y !=0)=true:=by simpa using aO
              have cU:=aD.o.rng i hiR c hcN;rw[hy]at cU;obtain⟨aR,rfl⟩:∃n:Nat,y=n:=⟨y.toNat,ac⟩;have bD:aR<p^m:=br;obtain⟨cB,cF,aS,-,-,k5⟩:=aA.o.em.at ac hsR hcN;have aW:=aA.o.em.o.cell hsR;rw[aS]at aW;obtain⟨cO,dW,dU,aX,aF⟩:=Of cG cA aW (show(0:Int)<=(i:Int)/\(i:Int)<(R:Int)/\i<R from⟨ac,ac,hiR⟩) aA.o.ex;have cK:=Aa (fun (w':World) (h:Ex wr w')=>by
               have:=Vd (mv:= .slice ma ml.length mc) w' HF.o.1 (aR:Int);rw[Ax bD]at this;exact this)
              have bK:=CD (m:=m) (show 1<=p by omega) aR;have dM:=Aa (Cy (m:=m) (show 1<=p by omega) aR);obtain⟨z4,cR⟩:∃z,Ct p m aR=z:=⟨_,rfl⟩;rw[cR]at cK bK dM;have bI:=Aa (fun (w':World) (h:Ex wr w')=>(QW p m ml (.slice ma ml.length mc) w' HF.o.1 (cL.o.ex (aY.o.trans (aA.o.ex.trans h))) (il N (a4 i)) (il N (a4 s)) _ _ ((aA.o.em.isl hiR).ex h) ((aA.o.em.isl hsR).ex h) (z4:Int) (by rw[AF,AF];omega) (by rw[AF];omega)));have eK:=Aa (fun (w':World) (h:Ex wr w')=>show Calls Tryz.prog 245 #[.agg #[.int .i64 p,.int .i64 m,.slice ma ml.length mc],.slice (some ⟨gi,0,none⟩) N ci,.int .i64 (z4:Int),.slice (some ⟨cB,0,none⟩) N cF] w' fun r w''=>∃g7,r= .returned (.slice (some ⟨g7,0,none⟩) N N)/\AG w'' w'.heap.size 3 g7 N (iv (BT p m ml (a4 i) z4 (a4 s)))/\Ex w' w'' from by
               have:=bI.o w' h;rw[bT,aS]at this;refine this.mono fun r w'' ⟨g7,h1,h2,h3⟩=>?_;rw[AF]at h1 h2;refine⟨g7,h1,h2.icongr fun j hj=>?_,h3⟩;rw[WJ ac hj,Ax bK])
              have aP:=Aa (show ∀j,j<i+1->j≠s->Az a4 i (BT p m ml (a4 i) z4 (a4 s)) j c=0 from fun j h1 h2=>by
               by_cases e:j=i
               .subst e;rw[Ab];unfold BT;rw[aQ.o,if_neg ae,hy,Ax bD,(show Au (p^m) 1=1 from Ax (q:=p^m) (x:=1) (Bb p2 m1)),Bh p2 m1 bK,dM.o];rfl
               .rw[Ae _ _ e];exact bH.o j ac h2)
              have dS:=Aa (show Az a4 i (BT p m ml (a4 i) z4 (a4 s)) s c=1 from by rw[Ae _ _ (fun e=>his e.symm)];exact aQ.o);have dL:=Aa (show PV p m R N (Az a4 i (BT p m ml (a4 i) z4 (a4 s))) piv c from by have:=aD.o.add (ml:=ml) (k:=z4) ac (by rw[HS.o];exact hsR) hiR (by rw[HS.o];exact his);rw[HS.o]at this;exact this);have dH:=Aa (show ∀x,Bz p m ml N R (Az a4 i (BT p m ml (a4 i) z4 (a4 s))) x↔Bz p m ml N R a x from fun x=>(Bz.add p2 hsR hiR his).trans (aE.o x));clear bT aS cR bK hy aO his cU k5 aW bI;go_upto_region 18 with fail
              refine Hf (fun k=>([.slice (some ⟨g,0,none⟩) R cap,.int .i64 (i:Int),.agg #[.int .i64 (p:Int),.int .i64 (m:Int),.slice ma ml.length mc],.slice (some ⟨g,0,none⟩) R cap,.int .i64 (i:Int),.pointer (some ⟨g,i,none⟩),.slice (some ⟨gi,0,none⟩) N ci,.agg #[.int .i64 (p:Int),.int .i64 (m:Int),.slice ma ml.length mc],.slice (some ⟨g,0,none⟩) R cap,.int .i64 (i:Int),.pointer (some ⟨g,i,none⟩),.slice (some ⟨gi,0,none⟩) N ci,.int .i64 (c:Int),.pointer (some ⟨gi,c,none⟩),.int .i64 (aR:Int),.int .i64 (z4:Int),.slice (some ⟨g,0,none⟩) R cap,.int .i64 (s:Int),.pointer (some ⟨g,s,none⟩),.slice (some ⟨cB,0,none⟩) N cF,undef,.pointer (some ⟨g,i,none⟩)]:List Value).getD k undef) 20 22 (fun v w'=>∃g7,v= .slice (some ⟨g7,0,none⟩) N N/\AG w' wr.heap.size 3 g7 N (iv (BT p m ml (a4 i) z4 (a4 s)))) (fun v w'=>∃aB,Hia (Lp w1 w' base g R N cap aB (Az a4 i (BT p m ml (a4 i) z4 (a4 s))) piv (.slice pa s pc))) (fun v wa wb ⟨g7,h1,h2⟩ hx=>⟨g7,h1,h2.ex hx⟩) ah ah ah ?_ (fun v k=>([.slice (some ⟨g,0,none⟩) R cap,.int .i64 (i:Int),.agg #[.int .i64 (p:Int),.int .i64 (m:Int),.slice ma ml.length mc],.slice (some ⟨g,0,none⟩) R cap,.int .i64 (i:Int),.pointer (some ⟨g,i,none⟩),.slice (some ⟨gi,0,none⟩) N ci,.agg #[.int .i64 (p:Int),.int .i64 (m:Int),.slice ma ml.length mc],.slice (some ⟨g,0,none⟩) R cap,.int .i64 (i:Int),.pointer (some ⟨g,i,none⟩),.slice (some ⟨gi,0,none⟩) N ci,.int .i64 (c:Int),.pointer (some ⟨gi,c,none⟩),.int .i64 (aR:Int),.int .i64 (z4:Int),.slice (some ⟨g,0,none⟩) R cap,.int .i64 (s:Int),.pointer (some ⟨g,s,none⟩),.slice (some ⟨cB,0,none⟩) N cF,v,.pointer (some ⟨g,i,none⟩)]:List Value).getD k undef) (fun _=>rfl) ?_
              .simp only[AL];refine⟨?_,?_,?_,?_,?_,?_,?_,?_,?_,?_,?_,?_,?_,?_,?_,?_,?_,?_,?_,?_,?_,?_,?_,trivial⟩
               all_goals first|refine Ij.go ae fun a w T hx K hK=>?_|refine Ij.ap ae fun a w T hx K hK=>?_|refine Ij.st ae fun a w T hx K v hA hv hK=>?_
               .exact zaW
               .exact zaT
               .exact zar
               .exact zaW
               .exact zaT
               .have e110:=T 110 _ rfl;have e111:=T 111 _ rfl;exact zcB
               .have e112:=T 112 _ rfl;have q1:=hx.cell cO.o;exact zc8
               .exact zar
               .exact zaW
               .exact zaT
               .have e115:=T 115 _ rfl;have e116:=T 116 _ rfl;exact zcB
               .have e117:=T 117 _ rfl;have q1:=hx.cell cO.o;exact zc8
               .have eC:=T 11 _ rfl;exact zc8
               .have e118:=T 118 _ rfl;have e119:=T 119 _ rfl;have q1:=aG.o.2.2.1;have q2:=aG.o.2.2.2.1;exact zc8
               .have e120:=T 120 _ rfl;have q1:=hx.cell dW.o;exact zc8
               .have e114:=T 114 _ rfl;have e121:=T 121 _ rfl;clear T;go_simp;refine(cK.o w hx).mono ?_;rintro e w'⟨rfl,h5⟩;exact hK _ h5
               .exact zaW
               .exact zaS
               .have e123:=T 123 _ rfl;have e124:=T 124 _ rfl;exact zcA
               .have e125:=T 125 _ rfl;have q1:=hx.cell dU.o;exact zc8
               .have e109:=T 109 _ rfl;have e113:=T 113 _ rfl;have e122:=T 122 _ rfl;have e126:=T 126 _ rfl;clear T;go_simp;refine(eK.o w hx).mono ?_;exact zcy
               .have e107:=T 107 _ rfl;have e108:=T 108 _ rfl;exact zcB
               .have e128:=T 128 _ rfl;have e127:=hv 127 _ rfl rfl;clear T;obtain⟨g7,rfl,ho⟩:=hA;have H5:=(aA.o.later hx);have aU:=aA.o.fresh (b':=0) (u:= .slice (some ⟨g7,0,none⟩) N N) ho;have aI:=H5.set (i:=i) (u:= .slice (some ⟨g7,0,none⟩) N N) (f:=BT p m ml (a4 i) z4 (a4 s)) (by have h:=A5 ho (show base<=wr.heap.size from by have:=aA.o.em.o.lt;omega);rw[Cf];exact h) aU.1 aU.2;have q1:=H5.em.o.cell aX.o.2.2;have q2:=H5.em.o.frz i;have cJ:=Aa aI;clear ho H5 aU aI;go_simp;exact hK _ ⟨_,cJ⟩
              .intro v w9 hF;obtain⟨aM,dP⟩:=hF;clear cG cA cO dW dU cK;simp only[Ck,Act.put,List.setIfInBounds_toArray,List.set_cons_zero,List.set_cons_succ];go_wp2_with fail
               go_roundw
               case rel=>first|exact⟨i+1,aM,_,ac,by go_num,dP,dL,dH,dS,aP⟩|((repeat apply Exists.intro);exact⟨⟨i+1,aM,_,ac,by go_num,dP,dL,dH,dS,aP⟩,rfl⟩)
               case measure=>simp[intOf];omega
           .obtain rfl:i=R:=by omega
            have b1:decide (i<i)=false:=ag;obtain⟨eH,eJ,dK,dF⟩:=Eq (show wr.ownsRow base 3 1 (.slice pa s pc) s (Ao (pI piv)) from by have:=aA.o.po;rw[HS.o]at this;exact this) (show base<=wr.heap.size from by have:=aA.o.em.o.lt;omega) (aD.o.done (by rw[HS.o];exact hsR) (by rw[HS.o];exact aQ.o) (fun j hj eA=>bH.o j hj (by rw[<-HS.o];exact eA))) (show(piv ++ [c]).length=s+1 from by rw[List.length_append,HS.o];rfl);clear aQ bH aD;go_wp2_with (at_builtin;refine Al _ rfl _ _ 22 rfl base 3 (.int .i64 0) 1 8 Tryz.underlying22 AA rfl ae _ s _ rfl eH.o [.int .i64 c] 3 _ rfl ag rfl aj ai ac eJ.o ?_)
            intro v2 w9 aV;have dO:=Aa (aA.o.app (by rw[HS.o];exact aV));obtain⟨xa,xc,dX⟩:=Ad aV.own;subst dX;clear aV aA;go_wp2_with fail
            go_roundw
            case rel=>first|exact⟨c+1,piv ++ [c],_,_,ac,by go_num,by rw[dF.o];go_num,dO,dK,aE⟩|((repeat apply Exists.intro);exact⟨⟨c+1,piv ++ [c],_,_,ac,by go_num,by rw[dF.o];go_num,dO,dK,aE⟩,rfl⟩)
            case measure=>simp[intOf];omega
      .obtain rfl:k=R:=by omega
       have dJ:=Aa (aD.o.none fun k' h1 h2=>hz.o k' (by rw[<-HS.o];exact h1) h2);have b1:decide (k<k)=false:=by simp
       have b2:((k:Int)==(k:Int))=true:=ag;go_wp2_with fail
       go_roundw
       case rel=>first|exact⟨c+1,piv,vals,a1,ac,by go_num,by rw[HS.o],aA,dJ,aE⟩|((repeat apply Exists.intro);exact⟨⟨c+1,piv,vals,a1,ac,by go_num,by rw[HS.o],aA,dJ,aE⟩,rfl⟩)
       case measure=>simp[intOf];omega
    .have k1:decide (s<R)=false:=by simpa using hsR
     have HR:=Aa (aJ.o (.inl ac));exact zb0
   .have k1:decide (c<N)=false:=by simpa using hcN
    have HR:=Aa (aJ.o (.inr ac));exact zb0
theorem Iq.le{p m N R:Nat}{ml:List Int}{a a':Nat->Nat->Int}{piv:List Nat}(h:Iq p m ml N R a a' piv):piv.length<=R:=by
 obtain⟨c,_,h,_⟩:=h;exact h.le
theorem O9{p m:Nat}{ml:List Int}{mv:Value}(w:World)(hf:GD p m ml)(hF:FZ p m (lw ml))(aB:Am w mv ml)(N R:Nat)(hN:N<=256)(hR:R<=256)(a:Nat->Nat->Int)(aA:Qp p m R N a)(v:Value)(hv:BO w v (Av N R a)):
  Calls Tryz.prog 146 #[.agg #[.int .i64 p,.int .i64 m,mv],v,.int .i64 N] w fun r w'=>∃piv pv rv a',r= .returned (.tuple #[rv,pv])/\Iq p m ml N R a a' piv/\BO w' rv (Av N piv.length a')/\Am w' pv (pI piv)/\Ex w w'/\D6 w.heap.size w' rv (Av N piv.length a'):=by
 obtain⟨a0,a1,a2,ea,aK⟩:=AC w p m mv;have aI:=Aa (TK (w.alloc (.cells #[.int .i64 p,.int .i64 m,mv] 24)) hf hF (aB.ex ea) N R hN hR a aA v (hv.ex ea));have HE:=Aa ea;obtain⟨va,vc,aF,v1,v2,-⟩:=hv.open;rw[AE]at aF v1;subst aF;obtain⟨ma,mc,rfl,-,-,-⟩:=aB.open;clear hf hF aB hv aA ea;go_enter Tryz.func146,Tryz.ntmps146
 go_wp2_with fail
 refine aI.o.mono ?_;rintro e w2⟨⟨piv,pa,pc,la,lc,a',rfl,aD,aG,hlc,aC⟩,hx⟩;have hk:=aD.le;have aE:=Aa aD;have aH:=Aa ((aC _ hk).mono (by have:=HE.o.size;omega:w.heap.size<=_));have aM:=Aa aH.o.msl;have aL:=Aa aG;have HX:=Aa (HE.o.trans hx);have l2:lc<=maxLen:=by
  obtain⟨l3,l4,aJ,l1,l2,_⟩:=(aC _ (Nat.le_refl R)).msl.open;injection aJ with _ _ h3;rw[h3];exact l2
 unfold maxLen at l2;have k1:(0:Int)<=(piv.length:Int):=ac;have k2:(piv.length:Int)<=(lc:Int):=ac;clear aD aC aG hx aI HE a0 a1 a2 aK;go_wp2_with fail
 go_ret2;exact⟨piv,_,_,a',rfl,aE.o,aM.o,aL.o,HX.o,aH.o⟩
theorem QV{p m:Nat}{ml:List Int}{mv:Value}(w:World)(hf:GD p m ml)(hF:FZ p m (lw ml))(aB:Am w mv ml)(N R:Nat)(hN:N<=256)(hR:R<=256)(a:Nat->Nat->Int)(aA:Qp p m R N a)(v:Value)(hv:BO w v (Av N R a)):
  Calls Tryz.prog 146 #[.agg #[.int .i64 p,.int .i64 m,mv],v,.int .i64 N] w fun r w'=>∃piv pv rv a',r= .returned (.tuple #[rv,pv])/\Iq p m ml N R a a' piv/\BO w' rv (Av N piv.length a')/\Am w' pv (pI piv)/\Ex w w':=
 (O9 w hf hF aB N R hN hR a aA v hv).mono fun r w' ⟨piv,pv,rv,a',h1,h2,h3,h4,h5,_⟩=>⟨piv,pv,rv,a',h1,h2,h3,h4,h5⟩
end Go.Proofs.YtehieobniamagaaGreat
