/- slices.IndexFunc and slices.ContainsFunc at the chapter's closures (printed by gen_finde.py). -/
import Derived.Test.YtehieobniamagaaGreatZi11
namespace Go.Proofs.YtehieobniamagaaGreat
open Nat renaming mul_one→δq
open List renaming getElem?_eq_getElem→γ,range→ξ,getElem?_map→ϖ,any_eq_true→ϗ,mem_range→κ,getD_eq_getElem?_getD→δ,getElem?_eq_some_iff→θ,getElem?_eq_none→ϛ,map_append→δe
open Go.RowKit
set_option linter.all false
set_option maxRecDepth 100000
set_option maxHeartbeats 4000000
theorem zaK{P:Prop}(h:P:=by
 obtain rfl:i=n:=by omega
 have HF:=Aa (Cf aA.o);go_wp2_with fail
 go_ret;exact⟨Ai HF.o.symm,aB.o⟩):P:=h
theorem zb4{P:Prop}(h:P:=by
 go_roundg (n-(i+1))
 case measure=>omega
 case rel=>exact⟨i+1,by omega,by omega,by go_num,HX,HA⟩):P:=h
theorem zdl{P:Prop}(h:P:=by
 go_ret;exact⟨Ai HF.o.symm,HX.o⟩):P:=h
theorem bc{P:Prop}(h:P:=by rw[HL.o];exact hlt):P:=h
theorem MH(w:World)(p0:Value)(v:Value)(n:Nat)(us:List Value)(hv:Sl w v n 1 us)(pr:Nat->Bool)
  (hp:∀(w1:World) (i:Nat) (u:Value),Ex w w1->us[i]?=some u->Calls Tryz.prog 197 #[u,p0] w1 fun e w'=>e= .returned (.bool (pr i))/\Ex w1 w'):
  Calls Tryz.prog 169 #[v,.func (.func 197) #[] #[p0]] w fun r w'=>r= .returned (.int .i64 (CG pr n))/\Ex w w':=by
 obtain⟨hl,a,cap,rfl,s1,s2,s3⟩:=hv;rw[δq]at hl;have S3:=Aa s3;have HP:=Aa hp;have HL:=Aa hl;unfold maxLen at s2;clear s3 hp hl;go_enter Tryz.func169,Tryz.ntmps169
 go_wp2_with fail
 go_loopg [5,8] n (fun gg _ i' wr=>∃i:Nat,i<=n/\n-i<=gg/\i'= .int .i64 i/\Hia (Ex w wr)/\Hia (∀j,j<i->pr j=false))
 case atStart=>exact⟨0,ac,ac,rfl,Aa (Ex.refl _),Aa (fun j hj=>ac)⟩
 case round=>
  obtain⟨i,hi,hg,rfl,aB,aA⟩:=hrel;by_cases hlt:i<n
  .obtain⟨u,hu⟩:∃u,us[i]?=some u:=⟨_,γ bc⟩;obtain⟨bb,o,rfl,hc⟩:=S3.o ac;have c1:=aB.o.cell (hc i u hu);have HC:=Aa (HP.o wr i u aB.o hu);have hlt':(i:Int)<(n:Int):=by omega
   clear hc hu
   cases hb:pr i with
   | true=>
    rw[hb]at HC;have HF:=Aa (CO hlt hb aA.o);clear hb;go_wp2_with (go_at_call 197;refine HC.o.mono ?_;rintro e w'⟨rfl,hx⟩;have HX:=Aa (aB.o.trans hx);clear hx)
    exact zdl
   | false=>
    rw[hb]at HC;have HA:Hia (∀j,j<i+1->pr j=false):=Aa (fun j hj=>by
     by_cases e:j=i
     .subst e;exact hb
     .exact aA.o j ac)
    clear hb;go_wp2_with (go_at_call 197;refine HC.o.mono ?_;rintro e w'⟨rfl,hx⟩;have HX:=Aa (aB.o.trans hx);clear hx)
    exact zb4
  .exact zaK
theorem zbn{P:Prop}(h:P:=by
 have HB:=Aa (Eh pr n);obtain⟨z,hz⟩:=nA (CG pr n);rw[hz]at HC HB;clear hz hp hv;go_enter Tryz.func116,Tryz.ntmps116
 go_wp2_with (go_at_call 169;refine HC.o.mono ?_;rintro e w'⟨rfl,hx⟩;have HX:=Aa hx;clear hx)
 go_ret;exact⟨Aq HB.o.symm,HX.o⟩):P:=h
theorem Jx(w:World)(p0:Value)(v:Value)(n:Nat)(us:List Value)(hv:Sl w v n 1 us)(pr:Nat->Bool)
  (hp:∀(w1:World) (i:Nat) (u:Value),Ex w w1->us[i]?=some u->Calls Tryz.prog 197 #[u,p0] w1 fun e w'=>e= .returned (.bool (pr i))/\Ex w1 w'):
  Calls Tryz.prog 116 #[v,.func (.func 197) #[] #[p0]] w fun r w'=>r= .returned (.bool ((ξ n).any pr))/\Ex w w':=by
 have HC:=Aa (MH w p0 v n us hv pr hp);exact zbn
theorem MI(w:World)(p0:Value)(v:Value)(n:Nat)(us:List Value)(hv:Sl w v n 1 us)(pr:Nat->Bool)
  (hp:∀(w1:World) (i:Nat) (u:Value),Ex w w1->us[i]?=some u->Calls Tryz.prog 198 #[u,p0] w1 fun e w'=>e= .returned (.bool (pr i))/\Ex w1 w'):
  Calls Tryz.prog 169 #[v,.func (.func 198) #[] #[p0]] w fun r w'=>r= .returned (.int .i64 (CG pr n))/\Ex w w':=by
 obtain⟨hl,a,cap,rfl,s1,s2,s3⟩:=hv;rw[δq]at hl;have S3:=Aa s3;have HP:=Aa hp;have HL:=Aa hl;unfold maxLen at s2;clear s3 hp hl;go_enter Tryz.func169,Tryz.ntmps169
 go_wp2_with fail
 go_loopg [5,8] n (fun gg _ i' wr=>∃i:Nat,i<=n/\n-i<=gg/\i'= .int .i64 i/\Hia (Ex w wr)/\Hia (∀j,j<i->pr j=false))
 case atStart=>exact⟨0,ac,ac,rfl,Aa (Ex.refl _),Aa (fun j hj=>ac)⟩
 case round=>
  obtain⟨i,hi,hg,rfl,aB,aA⟩:=hrel;by_cases hlt:i<n
  .obtain⟨u,hu⟩:∃u,us[i]?=some u:=⟨_,γ bc⟩;obtain⟨bb,o,rfl,hc⟩:=S3.o ac;have c1:=aB.o.cell (hc i u hu);have HC:=Aa (HP.o wr i u aB.o hu);have hlt':(i:Int)<(n:Int):=by omega
   clear hc hu
   cases hb:pr i with
   | true=>
    rw[hb]at HC;have HF:=Aa (CO hlt hb aA.o);clear hb;go_wp2_with (go_at_call 198;refine HC.o.mono ?_;rintro e w'⟨rfl,hx⟩;have HX:=Aa (aB.o.trans hx);clear hx)
    exact zdl
   | false=>
    rw[hb]at HC;have HA:Hia (∀j,j<i+1->pr j=false):=Aa (fun j hj=>by
     by_cases e:j=i
     .subst e;exact hb
     .exact aA.o j ac)
    clear hb;go_wp2_with (go_at_call 198;refine HC.o.mono ?_;rintro e w'⟨rfl,hx⟩;have HX:=Aa (aB.o.trans hx);clear hx)
    exact zb4
  .exact zaK
theorem Jy(w:World)(p0:Value)(v:Value)(n:Nat)(us:List Value)(hv:Sl w v n 1 us)(pr:Nat->Bool)
  (hp:∀(w1:World) (i:Nat) (u:Value),Ex w w1->us[i]?=some u->Calls Tryz.prog 198 #[u,p0] w1 fun e w'=>e= .returned (.bool (pr i))/\Ex w1 w'):
  Calls Tryz.prog 116 #[v,.func (.func 198) #[] #[p0]] w fun r w'=>r= .returned (.bool ((ξ n).any pr))/\Ex w w':=by
 have HC:=Aa (MI w p0 v n us hv pr hp);exact zbn
theorem MA(w:World)(p0:Value)(v:Value)(n:Nat)(us:List Value)(hv:Sl w v n 1 us)(pr:Nat->Bool)
  (hp:∀(w1:World) (i:Nat) (u:Value),Ex w w1->us[i]?=some u->Calls Tryz.prog 223 #[u,p0] w1 fun e w'=>e= .returned (.bool (pr i))/\Ex w1 w'):
  Calls Tryz.prog 169 #[v,.func (.func 223) #[] #[p0]] w fun r w'=>r= .returned (.int .i64 (CG pr n))/\Ex w w':=by
 obtain⟨hl,a,cap,rfl,s1,s2,s3⟩:=hv;rw[δq]at hl;have S3:=Aa s3;have HP:=Aa hp;have HL:=Aa hl;unfold maxLen at s2;clear s3 hp hl;go_enter Tryz.func169,Tryz.ntmps169
 go_wp2_with fail
 go_loopg [5,8] n (fun gg _ i' wr=>∃i:Nat,i<=n/\n-i<=gg/\i'= .int .i64 i/\Hia (Ex w wr)/\Hia (∀j,j<i->pr j=false))
 case atStart=>exact⟨0,ac,ac,rfl,Aa (Ex.refl _),Aa (fun j hj=>ac)⟩
 case round=>
  obtain⟨i,hi,hg,rfl,aB,aA⟩:=hrel;by_cases hlt:i<n
  .obtain⟨u,hu⟩:∃u,us[i]?=some u:=⟨_,γ bc⟩;obtain⟨bb,o,rfl,hc⟩:=S3.o ac;have c1:=aB.o.cell (hc i u hu);have HC:=Aa (HP.o wr i u aB.o hu);have hlt':(i:Int)<(n:Int):=by omega
   clear hc hu
   cases hb:pr i with
   | true=>
    rw[hb]at HC;have HF:=Aa (CO hlt hb aA.o);clear hb;go_wp2_with (go_at_call 223;refine HC.o.mono ?_;rintro e w'⟨rfl,hx⟩;have HX:=Aa (aB.o.trans hx);clear hx)
    exact zdl
   | false=>
    rw[hb]at HC;have HA:Hia (∀j,j<i+1->pr j=false):=Aa (fun j hj=>by
     by_cases e:j=i
     .subst e;exact hb
     .exact aA.o j ac)
    clear hb;go_wp2_with (go_at_call 223;refine HC.o.mono ?_;rintro e w'⟨rfl,hx⟩;have HX:=Aa (aB.o.trans hx);clear hx)
    exact zb4
  .exact zaK
theorem Ju(w:World)(p0:Value)(v:Value)(n:Nat)(us:List Value)(hv:Sl w v n 1 us)(pr:Nat->Bool)
  (hp:∀(w1:World) (i:Nat) (u:Value),Ex w w1->us[i]?=some u->Calls Tryz.prog 223 #[u,p0] w1 fun e w'=>e= .returned (.bool (pr i))/\Ex w1 w'):
  Calls Tryz.prog 116 #[v,.func (.func 223) #[] #[p0]] w fun r w'=>r= .returned (.bool ((ξ n).any pr))/\Ex w w':=by
 have HC:=Aa (MA w p0 v n us hv pr hp);exact zbn
theorem Hl(w:World)(v:Value)(n:Nat)(us:List Value)(hv:Sl w v n 1 us)(pr:Nat->Bool)
  (hp:∀(w1:World) (i:Nat) (u:Value),Ex w w1->us[i]?=some u->Calls Tryz.prog 269 #[u] w1 fun e w'=>e= .returned (.bool (pr i))/\Ex w1 w'):
  Calls Tryz.prog 169 #[v,.func (.func 269) #[] #[]] w fun r w'=>r= .returned (.int .i64 (CG pr n))/\Ex w w':=by
 obtain⟨hl,a,cap,rfl,s1,s2,s3⟩:=hv;rw[δq]at hl;have S3:=Aa s3;have HP:=Aa hp;have HL:=Aa hl;unfold maxLen at s2;clear s3 hp hl;go_enter Tryz.func169,Tryz.ntmps169
 go_wp2_with fail
 go_loopg [5,8] n (fun gg _ i' wr=>∃i:Nat,i<=n/\n-i<=gg/\i'= .int .i64 i/\Hia (Ex w wr)/\Hia (∀j,j<i->pr j=false))
 case atStart=>exact⟨0,ac,ac,rfl,Aa (Ex.refl _),Aa (fun j hj=>ac)⟩
 case round=>
  obtain⟨i,hi,hg,rfl,aB,aA⟩:=hrel;by_cases hlt:i<n
  .obtain⟨u,hu⟩:∃u,us[i]?=some u:=⟨_,γ bc⟩;obtain⟨bb,o,rfl,hc⟩:=S3.o ac;have c1:=aB.o.cell (hc i u hu);have HC:=Aa (HP.o wr i u aB.o hu);have hlt':(i:Int)<(n:Int):=by omega
   clear hc hu
   cases hb:pr i with
   | true=>
    rw[hb]at HC;have HF:=Aa (CO hlt hb aA.o);clear hb;go_wp2_with (go_at_call 269;refine HC.o.mono ?_;rintro e w'⟨rfl,hx⟩;have HX:=Aa (aB.o.trans hx);clear hx)
    exact zdl
   | false=>
    rw[hb]at HC;have HA:Hia (∀j,j<i+1->pr j=false):=Aa (fun j hj=>by
     by_cases e:j=i
     .subst e;exact hb
     .exact aA.o j ac)
    clear hb;go_wp2_with (go_at_call 269;refine HC.o.mono ?_;rintro e w'⟨rfl,hx⟩;have HX:=Aa (aB.o.trans hx);clear hx)
    exact zb4
  .exact zaK
theorem MD(w:World)(p0:Value)(v:Value)(n:Nat)(us:List Value)(hv:Sl w v n 1 us)(pr:Nat->Bool)
  (hp:∀(w1:World) (i:Nat) (u:Value),Ex w w1->us[i]?=some u->Calls Tryz.prog 262 #[u,p0] w1 fun e w'=>e= .returned (.bool (pr i))/\Ex w1 w'):
  Calls Tryz.prog 129 #[v,.func (.func 262) #[] #[p0]] w fun r w'=>r= .returned (.int .i64 (CG pr n))/\Ex w w':=by
 obtain⟨hl,a,cap,rfl,s1,s2,s3⟩:=hv;rw[δq]at hl;have S3:=Aa s3;have HP:=Aa hp;have HL:=Aa hl;unfold maxLen at s2;clear s3 hp hl;go_enter Tryz.func129,Tryz.ntmps129
 go_wp2_with fail
 go_loopg [5,8] n (fun gg _ i' wr=>∃i:Nat,i<=n/\n-i<=gg/\i'= .int .i64 i/\Hia (Ex w wr)/\Hia (∀j,j<i->pr j=false))
 case atStart=>exact⟨0,ac,ac,rfl,Aa (Ex.refl _),Aa (fun j hj=>ac)⟩
 case round=>
  obtain⟨i,hi,hg,rfl,aB,aA⟩:=hrel;by_cases hlt:i<n
  .obtain⟨u,hu⟩:∃u,us[i]?=some u:=⟨_,γ bc⟩;obtain⟨bb,o,rfl,hc⟩:=S3.o ac;have c1:=aB.o.cell (hc i u hu);have HC:=Aa (HP.o wr i u aB.o hu);have hlt':(i:Int)<(n:Int):=by omega
   clear hc hu
   cases hb:pr i with
   | true=>
    rw[hb]at HC;have HF:=Aa (CO hlt hb aA.o);clear hb;go_wp2_with (go_at_call 262;refine HC.o.mono ?_;rintro e w'⟨rfl,hx⟩;have HX:=Aa (aB.o.trans hx);clear hx)
    exact zdl
   | false=>
    rw[hb]at HC;have HA:Hia (∀j,j<i+1->pr j=false):=Aa (fun j hj=>by
     by_cases e:j=i
     .subst e;exact hb
     .exact aA.o j ac)
    clear hb;go_wp2_with (go_at_call 262;refine HC.o.mono ?_;rintro e w'⟨rfl,hx⟩;have HX:=Aa (aB.o.trans hx);clear hx)
    exact zb4
  .exact zaK
theorem Xi{w:World}{a:Option Addr}{n cap:Nat}{l:List Int}(h:Ak w (.slice a n cap) l){i:Nat}(hi:i<=l.length):Ak w (.slice a i cap) (l.take i):=by
 obtain⟨a',cap',e,h1,h2,h3⟩:=h.open;injection e with e1 e2 e3;subst e1 e3;have hl:(l.take i).length=i:=bh;unfold Ak;rw[hl];refine⟨by rw[Be,hl];omega,a,cap,rfl,ac,h2,fun hn=>?_⟩;obtain⟨b,o,rfl,h4⟩:=h3 ac;refine⟨b,o,rfl,fun j u hu=>?_⟩;simp only[Aj,ϖ,List.getElem?_take]at hu;split at hu
 .obtain⟨y,hy,rfl⟩:=Option.map_eq_some_iff.1 hu;exact h4 j y hy
 .cases hu
def Mr(l:List Int)(k:Nat):Bool:=(ξ k).any fun i=>(l.take i).contains (l.getD i 0)
def G8(l:List Int):Bool:=Mr l l.length
theorem Vw(l:List Int)(k:Nat):Mr l (k+1)=(Mr l k||(l.take k).contains (l.getD k 0)):=by
 unfold Mr;rw[List.range_succ,List.any_append];simp
theorem Vx{l:List Int}{k n:Nat}(h:k<=n)(hd:Mr l k=true):Mr l n=true:=by
 unfold Mr at *;obtain⟨i,hi,hb⟩:=ϗ.1 hd;exact ϗ.2 ⟨i,κ.2 (by have:=κ.1 hi;omega),hb⟩
def BW(l:List Int)(n:Int):Bool:=l.all fun x=>decide (0<=x/\x<n)
def FP(l:List Int)(n:Int):Int:=if BW l n=false then 6 else if G8 l=true then 18 else 0
theorem L8(l:List Int)(f:Int->Bool):((ξ l.length).any fun j=>f (l.getD j 0))=l.any f:=by
 rw[Bool.eq_iff_iff,ϗ,ϗ];constructor
 .rintro⟨j,hj,h⟩;have hj:=κ.1 hj;refine⟨l[j],List.getElem_mem hj,?_⟩
  rwa[δ,γ hj]at h
 .rintro⟨x,hx,h⟩;obtain⟨j,hj,rfl⟩:=List.getElem_of_mem hx;exact⟨j,κ.2 hj,by rw[δ,γ hj];exact h⟩
theorem Oy{l:List Int}{i:Nat}{u:Value}(h:(Aj l)[i]?=some u):∃x,l[i]?=some x/\u= .int .i64 x/\l.getD i 0=x:=by
 unfold Aj at h;rw[ϖ]at h;obtain⟨x,hx,rfl⟩:=Option.map_eq_some_iff.1 h;exact⟨x,hx,rfl,by rw[δ,hx];rfl⟩
theorem zch{P:Prop}(h:P:=by
 go_enter Tryz.func197,Tryz.ntmps197
 go_wp2_with fail
 go_ret;exact⟨Aq HR.o,Ex.refl _⟩):P:=h
theorem zb6{P:Prop}(h:P:=by
 clear h0 h1;exact zch):P:=h
theorem Xm(w:World)(B:Nat)(n x:Int)(c0:w.cell? (B,0)=some (.int .i64 n)):
  Calls Tryz.prog 197 #[x,(B,0)] w fun r w'=>r= .returned (.bool (!decide (0<=x/\x<n)))/\Ex w w':=by
 by_cases h0:x<0
 .have HR:Hia (true=!decide (0<=x/\x<n)):=Aa (by simp;omega);have b1:decide (x<0)=true:=decide_eq_true h0;clear h0;exact zch
 .have b1:decide (x<0)=false:=decide_eq_false h0;by_cases h1:n<=x
  .have HR:Hia (true=!decide (0<=x/\x<n)):=Aa (by simp;omega);have b2:decide (n<=x)=true:=decide_eq_true h1;exact zb6
  .have HR:Hia (false=!decide (0<=x/\x<n)):=Aa (by simp;omega);have b2:decide (n<=x)=false:=decide_eq_false h1;exact zb6
theorem zdd{P:Prop}(h:P:=by
 go_ret;exact⟨Ai HR.o,aE.o.trans aB.o⟩):P:=h
theorem Hh(w:World)(l:List Int)(v:Value)(n:Int)(hl:Ak w v l):
  Calls Tryz.prog 150 #[v,n] w fun r w'=>r= .returned (.int .i64 (FP l n))/\Ex w w':=by
 have ea:Ex w (w.alloc (.cells #[n] 3)):=(Ex.refl _).alloc _;have q0:(w.alloc (.cells #[n] 3)).cell? (w.heap.size,0)=some (.int .i64 n):=ag;have HL:=Aa (hl.ex ea);have HC:=Aa (Jx (w.alloc (.cells #[n] 3)) (.pointer (some (w.heap.size,0))) v l.length (Aj l) (hl.ex ea) (fun j=> !decide (0<=l.getD j 0/\l.getD j 0<n)) fun w1 i u hx hu=>by
  obtain⟨x,_,rfl,aA⟩:=Oy hu;rw[aA];exact Xm w1 w.heap.size n x (hx.cell q0))
 have hc:=HC.o;rw[L8 l fun x=> !decide (0<=x/\x<n)]at hc;have HC:=Aa hc;obtain⟨a,cap,rfl,s1,s2,s3⟩:=hl.open;unfold maxLen at s2;have aE:=Aa ea;clear hl s3 hc ea;by_cases hr:BW l n=true
 .have h1:(l.any fun x=> !decide (0<=x/\x<n))=false:=by
   unfold BW at hr;rw[List.any_eq_false];intro x hx;have:=List.all_eq_true.1 hr x hx;simpa using this
  rw[h1]at HC;have aJ:Hia (FP l n=if G8 l=true then 18 else 0):=Aa (by unfold FP;rw[hr,if_neg ae]);clear hr h1;go_enter Tryz.func150,Tryz.ntmps150
  go_wp2_with fail
  obtain⟨q,hq⟩:=nA w.heap.size;rw[hq]at HC q0
  try simp only[hq]
  clear hq;generalize w.alloc (.cells #[n] 3)=w1 at *;refine HC.o.mono ?_;rintro e w2⟨rfl,aA⟩;have aB:=Aa aA;clear aA;go_wp2_with fail
  go_loopw [12] (fun i' wr=>∃(i:Nat),i<=l.length/\i'= .int .i64 i/\Hia (Mr l i=false)/\Hia (Ex w2 wr)) (fun i' _=>l.length-(intOf i').toNat)
  case atStart=>exact⟨0,ac,rfl,Aa rfl,Aa (Ex.refl _)⟩
  case round=>
   obtain⟨i,hi,rfl,hd,aH⟩:=hrel;have aB:=Aa (aB.o.trans aH.o);by_cases hil:i<l.length
   .obtain⟨x,hx⟩:∃x,l[i]?=some x:=⟨_,γ hil⟩;have aI:=Aa (HL.o.ex aB.o);obtain⟨_,_,e1,_,_,h3⟩:=aI.o.open;injection e1 with e1 e2 e3;subst e1;clear e2 e3;obtain⟨zb,zo,rfl,aF⟩:=h3 ac;have c1:=aF i x hx;have aG:l.getD i 0=x:=by rw[δ,hx];rfl
    have i1:(0:Int)<=(i:Int):=ac;have i2:(i:Int)<(l.length:Int):=ac;have i3:i<=cap:=ac;have i4:(i:Int)<=(cap:Int):=ac;have aD:=Aa (DL wr (l.take i) _ x (Xi aI.o ac));have aC:=Aa (Vw l i);rw[aG,hd.o,Bool.false_or]at aC;clear hx h3 aF aG hd
    cases hb:(l.take i).contains x with
    | true=>
     rw[hb]at aD aC;have HR:=Aa (show(18:Int)=FP l n from by
      have aK:G8 l=true:=Vx (show i+1<=l.length by omega) aC.o;rw[aJ.o,if_pos aK])
     clear hb;go_wp2_with (go_at_call 132;refine aD.o.mono ?_;rintro e w5⟨rfl,rfl⟩)
     exact zdd
    | false=>
     rw[hb]at aD aC;clear hb;go_wp2_with (go_at_call 132;refine aD.o.mono ?_;rintro e w5⟨rfl,rfl⟩)
     go_roundw
     case rel=>exact⟨i+1,ac,by go_num,aC,aH⟩
     case measure=>exact Ωm
   .obtain rfl:i=l.length:=by omega
    have HR:=Aa (show(0:Int)=FP l n from by
     rw[aJ.o,if_neg (by show ¬Mr l l.length=true;rw[hd.o];decide)])
    go_wp2_with fail
    exact zdd
 .have hr:BW l n=false:=by simpa using hr
  have h1:(l.any fun x=> !decide (0<=x/\x<n))=true:=by
   unfold BW at hr;rw[List.all_eq_false]at hr;obtain⟨x,hx,h⟩:=hr;exact ϗ.2 ⟨x,hx,by simp at h ⊢;omega⟩
  rw[h1]at HC;have HR:=Aa (show(6:Int)=FP l n from by unfold FP;rw[if_pos hr]);clear hr h1;go_enter Tryz.func150,Tryz.ntmps150
  go_wp2_with (go_at_call 116;refine HC.o.mono ?_;rintro e w2⟨rfl,aA⟩;have aB:=Aa aA;clear aA)
  exact zdd
def Iz(q:Nat)(l:List Int):Int:=if (l.any fun x=> !GU q x)=true then 2 else if l.contains 0=true then 7 else 0
section
variable {b p m x0:Nat} {ml:List Int}
theorem zbU{P:Prop}(h:P:=by
 go_wp2_with (go_at_call 199;refine HI.o.mono ?_;rintro e w1⟨rfl,n1,rfl⟩)
 go_ret;exact⟨rfl,(Ex.refl w).drewN _⟩):P:=h
theorem XJ(w:World)(B:Nat)(hg:Bh w b p m ml x0)(x:Int)(c0:w.cell? (B,0)=some (.pointer (some (b,0)))):
  Calls Tryz.prog 198 #[x,(B,0)] w fun r w'=>r= .returned (.bool (!GU (p^m) x))/\Ex w w':=by
 have HI:=Aa (Pd w hg x);obtain⟨z,hz⟩:=nA (GU (p^m) x);rw[hz]at HI ⊢;clear hg hz;go_enter Tryz.func198,Tryz.ntmps198
 exact zbU
theorem zbl{P:Prop}(h:P:=by
 subst aB;go_enter Tryz.func151,Tryz.ntmps151
 go_wp2_with (first|(go_at_call 116;refine HC.o.mono ?_;rintro e w2⟨rfl,aA⟩;have aC:=Aa (aD.o.trans aA);clear aA)|(go_at_call 132;refine(aE.o _ aC.o).mono ?_;rintro e w5⟨rfl,rfl⟩))
 go_ret;exact⟨rfl,aC.o⟩):P:=h
theorem JP(w:World)(hg:Bh w b p m ml x0)(l:List Int)(v:Value)(hl:Ak w v l):
  Calls Tryz.prog 151 #[(b,0),v] w fun r w'=>r= .returned (.int .i64 (Iz (p^m) l))/\Ex w w':=by
 have ea:Ex w (w.alloc (.cells #[(b,0)] 97)):=(Ex.refl _).alloc _;have q0:(w.alloc (.cells #[(b,0)] 97)).cell? (w.heap.size,0)=some (.pointer (some (b,0))):=ag;have hc:=Jy (w.alloc (.cells #[(b,0)] 97)) (.pointer (some (w.heap.size,0))) v l.length (Aj l) (hl.ex ea) (fun j=> !GU (p^m) (l.getD j 0)) fun w1 i u hx hu=>by
  obtain⟨x,_,rfl,aA⟩:=Oy hu;rw[aA];exact XJ w1 w.heap.size (hg.ex (ea.trans hx)) x (hx.cell q0)
 rw[L8 l fun x=> !GU (p^m) x]at hc;have HC:=Aa hc;have aE:=Aa (fun w1 (hx:Ex w w1)=>DL w1 l v 0 (hl.ex hx));obtain⟨a,cap,rfl,s1,s2,s3⟩:=hl.open;unfold maxLen at s2;have aD:=Aa ea;obtain⟨R,hR⟩:=nA (Iz (p^m) l);have aB:=hR;unfold Iz at aB;rw[hR];obtain⟨y,hy⟩:∃y,(l.any fun x=> !GU (p^m) x)=y:=⟨_,rfl⟩;obtain⟨z,hz⟩:=nA (l.contains 0);rw[hy]at HC aB;rw[hz]at aB aE;clear hl s3 hc ea hy hz hR hg
 cases y with
 | true=>
  rw[if_pos rfl]at aB;subst aB;go_enter Tryz.func151,Tryz.ntmps151
  go_wp2_with (go_at_call 116;refine HC.o.mono ?_;rintro e w2⟨rfl,aA⟩;have aC:=Aa aA;clear aA)
  go_ret;exact⟨rfl,aD.o.trans aC.o⟩
 | false=>
  rw[if_neg ae]at aB
  cases z with
  | true=>
   rw[if_pos rfl]at aB;exact zbl
  | false=>
   rw[if_neg ae]at aB;exact zbl
end
def Ef(p m:Int)(ml:List Int)(n:Int)(pl sl:List Int)(fr:Int):Int:=
 if Cm p m ml≠0 then 1 else if n<1∨64<n then 4 else if (pl.length:Int)≠n∨(sl.length:Int)≠n then 3 else
 if BW pl n=false∨fr<0∨m<=fr then 6 else if G8 pl=true then 18 else Iz (p.toNat^m.toNat) sl
theorem H6(w:World)(p m:Int)(v:Value):(w.alloc (.cells #[p,m,v] 24)).cell? (w.heap.size,0)=some (.int .i64 p)/\(w.alloc (.cells #[p,m,v] 24)).cell? (w.heap.size,1)=some (.int .i64 m)/\
  (w.alloc (.cells #[p,m,v] 24)).cell? (w.heap.size,2)=some v/\Ex w (w.alloc (.cells #[p,m,v] 24)):=⟨ag,ag,ag,(Ex.refl _).alloc _⟩
theorem BA(w:World)(u v:Value)(fr:Int):(w.alloc (.cells #[u,v,fr] 26)).cell? (w.heap.size,0)=some u/\(w.alloc (.cells #[u,v,fr] 26)).cell? (w.heap.size,1)=some v/\
  (w.alloc (.cells #[u,v,fr] 26)).cell? (w.heap.size,2)=some (.int .i64 fr)/\Ex w (w.alloc (.cells #[u,v,fr] 26)):=⟨ag,ag,ag,(Ex.refl _).alloc _⟩
def OpnR(p m:Int)(ml:List Int)(e:Int)(r:Ending)(w':World):Prop:=
 (e=0/\∃(b pn mn x0:Nat),p=pn/\m=mn/\r= .returned (.tuple #[(b,0),Ω])/\Bh w' b pn mn ml x0/\1<=x0/\x0<pn^mn)∨
 (e≠0/\∃ptr:Option Addr,r= .returned (.tuple #[.pointer ptr,e]))
theorem E7{p m:Int}{ml:List Int}{e:Int}(h:e≠0)(aA:Option Addr)(w':World):OpnR p m ml e (.returned (.tuple #[.pointer aA,e])) w':= .inr ⟨h,aA,rfl⟩
theorem zbr{P:Prop}(h:P:=by
 go_wp2_with (go_at_call 150;refine aB.o.mono ?_;rintro e w3⟨rfl,aA⟩;have aC:=Aa (HX.o.trans aA);have a1:=aA.cell a1;have b1:=aA.cell b1;have b2:=aA.cell b2;clear aA)
 go_ret2;exact⟨E7 (by decide) (some ⟨b,0,none⟩) _,aC.o⟩):P:=h
theorem zc5{P:Prop}(h:P:=by
 go_wp2_with fail
 go_ret2;exact⟨E7 (by decide) none _,HX.o⟩):P:=h
theorem zcK{P:Prop}(h:P:=by
 clear hn1 h1;exact zc5):P:=h
theorem Np(w:World)(p m:Int)(ml:List Int)(mv:Value)(aH:Ak w mv ml)(n:Int)(pl sl:List Int)(pv sv:Value)(hp:Ak w pv pl)(hs:Ak w sv sl)(fr:Int):
  Calls Tryz.prog 91 #[.agg #[p,m,mv],n,.agg #[pv,sv,fr]] w fun r w'=>OpnR p m ml (Ef p m ml n pl sl fr) r w'/\Ex w w':=by
 obtain⟨a0,a1,a2,ea⟩:=H6 w p m mv;obtain⟨b0,b1,b2,eb⟩:=BA (w.alloc (.cells #[p,m,mv] 24)) pv sv fr;have a0:=eb.cell a0;have a1:=eb.cell a1;have a2:=eb.cell a2;have aI:(w.alloc (.cells #[p,m,mv] 24)).heap.size=w.heap.size+1:=ag;rw[aI]at b0 b1 b2;have HE:=Aa (ea.trans eb);have aM:=Aa (FV p m ml mv _ (aH.ex HE.o));have aO:=Aa (fun w1 (hx:Ex w w1)=>Hh w1 pl pv n (hp.ex hx));have aR:=Aa (fun w1 (hx:Ex w w1) (b pn mn x0:Nat) (hg:Bh w1 b pn mn ml x0)=>JP w1 hg sl sv (hs.ex hx));obtain⟨ma,mc,rfl,_,_,_⟩:=aH.open;obtain⟨pa,pc,rfl,_,p2,_⟩:=hp.open;obtain⟨sa,sc,rfl,_,s2,_⟩:=hs.open;unfold maxLen at p2 s2;obtain⟨E,hE⟩:=nA (Ef p m ml n pl sl fr);have hM:=hE;unfold Ef at hM;rw[hE];clear aH hp hs hE aI ea eb;go_enter Tryz.func91,Tryz.ntmps91
 go_wp2_with fail
 obtain⟨q,hq⟩:=nA w.heap.size;rw[hq]at a0 a1 a2 b0 b1 b2
 try simp only[hq]
 clear hq;generalize (w.alloc (.cells #[p,m,(ma,ml.length,mc)] 24)).alloc (.cells #[(pa,pl.length,pc),(sa,sl.length,sc),fr] 26)=w1 at *;obtain⟨A0,A1,B0,B1,B2⟩:=On a0 a1 b0 b1 b2;clear a0 a1 a2 b0 b1 b2;refine aM.o.mono ?_;rintro e w2⟨hn,aD⟩;rcases hn with⟨pn,mn,x0,b,rfl,rfl,rfl,hg,x1,x2⟩|⟨hno,rfl⟩
 .have aF:Cm pn mn ml=0:=(BU _ _ _).2 (hg.fldB x1 x2);rw[if_neg (by rw[aF];decide),Int.toNat_natCast,Int.toNat_natCast]at hM;have HG:=Aa hg;have HX:=Aa (HE.o.trans aD);have a1:=aD.cell A1.o;have b0:=aD.cell B0.o;have b1:=aD.cell B1.o;have b2:=aD.cell B2.o;have HX2:=Aa aD;have aJ:=Aa (show 1<=x0/\x0<pn^mn from⟨x1,x2⟩);clear aF hg aD x1 x2;by_cases hn1:n<1∨64<n
  .rw[if_pos hn1]at hM;subst hM;by_cases h1:n<1
   .have e1:decide (n<1)=true:=decide_eq_true h1;exact zcK
   .have e1:decide (n<1)=false:=decide_eq_false h1;have e2:decide (64<n)=true:=decide_eq_true ac;exact zcK
  .rw[if_neg hn1]at hM;have e1:decide (n<1)=false:=decide_eq_false ac;have e2:decide (64<n)=false:=decide_eq_false ac;by_cases hln:(pl.length:Int)≠n∨(sl.length:Int)≠n
   .rw[if_pos hln]at hM;subst hM;by_cases h1:(pl.length:Int)=n
    .have e3:((pl.length:Int) !=n)=false:=by simpa using h1
     have e4:((sl.length:Int) !=n)=true:=aq;clear hln h1 hn1;exact zc5
    .have e3:((pl.length:Int) !=n)=true:=by simpa using h1
     clear hln h1 hn1;exact zc5
   .rw[if_neg hln]at hM;have e3:((pl.length:Int) !=n)=false:=by simp;omega
    have e4:((sl.length:Int) !=n)=false:=aq;have aB:=Aa (aO.o w2 HX.o);clear hln hn1;by_cases hr:BW pl n=true
    .obtain⟨D,hD⟩:=nA (G8 pl);have aE:FP pl n=if D=true then 18 else 0:=by unfold FP;rw[if_neg (by rw[hr];decide),hD]
     rw[hD]at hM;rw[aE]at aB;by_cases hf:fr<0∨(mn:Int)<=fr
     .rw[if_pos (.inr hf)]at hM;subst hM;cases D <;> (
       first|rw[if_pos rfl]at aB|rw[if_neg ae]at aB
       by_cases h1:fr<0
       .have e5:decide (fr<0)=true:=decide_eq_true h1;clear hf h1 aE hD;exact zbr
       .have e5:decide (fr<0)=false:=decide_eq_false h1;have e6:decide ((mn:Int)<=fr)=true:=decide_eq_true ac;clear hf h1 aE hD;go_wp2_with (go_at_call 150;refine aB.o.mono ?_;rintro e w3⟨rfl,aA⟩;have aC:=Aa (HX.o.trans aA);have a1:=aA.cell a1;have b1:=aA.cell b1;have b2:=aA.cell b2;clear aA)
        go_ret2;exact⟨E7 ae (some ⟨b,0,none⟩) _,aC.o⟩)
     .rw[if_neg (by
        rintro (h|h);·rw[hr]at h;cases h
        .exact hf h)]at hM
      have e5:decide (fr<0)=false:=decide_eq_false ac;have e6:decide ((mn:Int)<=fr)=false:=decide_eq_false ac
      cases D with
      | true=>
       rw[if_pos rfl]at aB hM;subst hM;clear hf aE hD;exact zbr
      | false=>
       rw[if_neg ae]at aB hM;have aN:=Aa hM;clear hf aE hD hM;go_wp2_with (go_at_call 150;refine aB.o.mono ?_;rintro e w3⟨rfl,aA⟩;have aC:=Aa (HX.o.trans aA);have a1:=aA.cell a1;have b1:=aA.cell b1;have b2:=aA.cell b2;have aK:=Aa (HG.o.ex aA);have aQ:=Aa (aR.o w3 aC.o b pn mn x0 aK.o);clear aA)
       refine aQ.o.mono ?_;rintro e w4⟨rfl,aG⟩;have aL:=Aa (aC.o.trans aG);have aP:=Aa (aK.o.ex aG);rw[aN.o];clear aG;go_wp2_with fail
       go_ret2;refine⟨?_,aL.o⟩;by_cases h0:E=0
       .subst h0;exact .inl ⟨rfl,b,pn,mn,x0,rfl,rfl,rfl,aP.o,aJ.o.1,aJ.o.2⟩
       .exact E7 h0 (some ⟨b,0,none⟩) _
    .have hr:BW pl n=false:=by simpa using hr
     have aE:FP pl n=6:=by unfold FP;rw[if_pos hr]
     rw[aE]at aB;rw[if_pos (.inl hr)]at hM;subst hM;clear aE hr;exact zbr
 .have aF:Cm p m ml≠0:=fun h=>hno ((BU _ _ _).1 h);rw[if_pos aF]at hM;subst hM;clear aF hno;go_wp2_with fail
  go_ret2;exact⟨E7 ae none _,HE.o.trans aD⟩
theorem zdf{P:Prop}(h:P:=by
 go_wp2_with fail
 go_ret;exact⟨rfl,HX.o⟩):P:=h
theorem Sq(w:World)(p m:Int)(ml:List Int)(mv:Value)(aB:Ak w mv ml)(n:Int)(pl sl:List Int)(pv sv:Value)(hp:Ak w pv pl)(hs:Ak w sv sl)(fr:Int):
  Calls Tryz.prog 51 #[.agg #[p,m,mv],n,.agg #[pv,sv,fr]] w fun r w'=>r= .returned (.int .i64 (Ef p m ml n pl sl fr))/\Ex w w':=by
 obtain⟨ma,mc,rfl,_,_,_⟩:=aB.open;obtain⟨pa,pc,rfl,_,_,_⟩:=hp.open;obtain⟨sa,sc,rfl,_,_,_⟩:=hs.open;have HO:=Aa (fun w1 (hx:Ex w w1)=>Np w1 p m ml _ (aB.ex hx) n pl sl _ _ (hp.ex hx) (hs.ex hx) fr);obtain⟨E,hE⟩:=nA (Ef p m ml n pl sl fr);rw[hE]at HO ⊢;clear hE aB hp hs;go_enter Tryz.func51,Tryz.ntmps51
 go_wp2_with fail
 refine(HO.o _ (((Ex.refl w).alloc _).alloc _)).mono ?_;rintro e w2⟨hr,aA⟩;have HX:=Aa ((((Ex.refl w).alloc _).alloc _).trans aA);rcases hr with⟨rfl,b,pn,mn,x0,rfl,rfl,rfl,hg,_,_⟩|⟨h0,ptr,rfl⟩
 .clear hg aA;exact zdf
 .clear aA h0;exact zdf
structure MO(w:World)(base g R N cap:Nat)(vals:Nat->Value)(a:Nat->Nat->Int):Prop where
 o:Bb w base 22 g R cap vals
 row:∀i,i<R->w.ownsRow base 3 1 (vals i) N (Aj (il N (a i)))
 ap:∀i,i<R->(vals i).ownBlock≠some g
section
variable {w w':World} {base g R N cap:Nat} {vals:Nat->Value} {a:Nat->Nat->Int}
theorem MO.ex(h:MO w base g R N cap vals a)(hx:Ex w w'):MO w' base g R N cap vals a:=
 ⟨h.o.ex hx,fun i hi=>Ag (h.row i hi) hx,h.ap⟩
theorem MO.set(h:MO w base g R N cap vals a){i:Nat}{u:Value}{f:Nat->Int}(hu:w.ownsRow base 3 1 u N (Aj (il N f)))(hg:u.ownBlock≠some g):MO (w.setCell (g,i) u) base g R N cap (Ay vals i u) (Ay a i f) where
 o:=h.o.set i u
 row:=fun j hj=>by
  by_cases e:j=i
  .subst e;rw[Ab,Ab];exact Ae hu hg u
  .rw[Ac _ _ e,Ac _ _ e];exact Ae (h.row j hj) (h.ap j hj) u
 ap:=fun j hj=>by
  by_cases e:j=i
  .subst e;rw[Ab];exact hg
  .rw[Ac _ _ e];exact h.ap j hj
theorem Za(a:Nat->Nat->Int)(s k:Nat):Ay (Ay a s (a k)) k (a s)=DO a s k:=by
 funext i;unfold Ay DO;by_cases e1:i=k
 .subst e1;rw[if_pos rfl];by_cases e2:i=s
  .subst e2;rw[if_pos rfl]
  .rw[if_neg e2,if_pos rfl]
 .rw[if_neg e1,if_neg e1]
theorem MO.swp(h:MO w base g R N cap vals a){s k:Nat}(hs:s<R)(hk:k<R):MO ((w.setCell (g,s) (vals k)).setCell (g,k) (vals s)) base g R N cap (Ay (Ay vals s (vals k)) k (vals s)) (DO a s k):=by
 have h1:=h.set (i:=s) (h.row k hk) (h.ap k hk);have h2:=h1.set (i:=k) (u:=vals s) (f:=a s) (Ae (h.row s hs) (h.ap s hs) _) (h.ap s hs);rw[Za]at h2;exact h2
theorem MO.exSet{w0:World}(h:MO w base g R N cap vals a)(hb:w0.heap.size<=base)(hx:Ex w0 w)(i:Nat)(u:Value):Ex w0 (w.setCell (g,i) u):=h.o.exSet hb hx i u
theorem MO.at(h:MO w base g R N cap vals a)(hN:1<=N){i c:Nat}(hi:i<R)(hc:c<N):∃gi ci,vals i= .slice (some ⟨gi,0,none⟩) N ci/\w.cell? ⟨gi,c,none⟩=some (.int .i64 (a i c))/\N<=ci/\ci<=maxLen:=by
 have hr:=h.row i hi;obtain⟨gi,ci,e,h1,h2⟩:=Dz hr hN;refine⟨gi,ci,e,?_,h1,h2⟩;rw[e,Cy]at hr;have:=Bb.cell (show Bb w base 3 gi N ci (iv (a i)) from hr) hc;exact this
theorem MO.isl(h:MO w base g R N cap vals a){i:Nat}(hi:i<R):Ak w (vals i) (il N (a i)):=by
 have:=Sl.own (h.row i hi);unfold Ak;rw[AM];exact this
def Hb(b0:Nat)(w:World)(v:Value)(rows:List (List Int)):Prop:=∀w':World,(∀B,b0<=B->B<w.heap.size->w'.heap[B]?=w.heap[B]?)->B6 w' v rows
theorem Hb.msl{b0:Nat}{w:World}{v:Value}{rows:List (List Int)}(h:Hb b0 w v rows):B6 w v rows:=h w fun _ _ _=>rfl
theorem Hb.mono{b0 b1:Nat}{w:World}{v:Value}{rows:List (List Int)}(h:Hb b0 w v rows)(hb:b1<=b0):Hb b1 w v rows:=fun w' aA=>h w' fun B h1 h2=>aA B ac h2
theorem Hb.nil{b0:Nat}{w:World}{a:Option Addr}{c:Nat}(hc:c<=maxLen):Hb b0 w (.slice a 0 c) []:=fun w' _=>⟨[],⟨rfl,a,c,rfl,Nat.zero_le _,hc,fun h=>absurd h ag⟩,fun i r u h1 _=>by simp at h1⟩
theorem GY{w w':World}{B o:Nat}{v:Value}(h:w'.heap[B]?=w.heap[B]?)(hc:w.cell? (B,o)=some v):w'.cell? (B,o)=some v:=by
 simp only[World.cell?]at hc ⊢;rw[h];exact hc
theorem MO.mslF(h:MO w base g R N cap vals a){b0:Nat}(hb:b0<=base){k:Nat}(hk:k<=R):Hb b0 w (.slice (some (g,0)) k cap) (Au N k a):=fun w' aA=>by
 obtain⟨c1,c2⟩:=h.o.caps;refine⟨vs k vals,?_,fun i r u h1 h2=>?_⟩
 .rw[AI];refine⟨by rw[Bl,δq],some ⟨g,0,none⟩,cap,rfl,ac,c2,fun hn=>⟨g,0,rfl,fun j u hu=>?_⟩⟩;have hj:j<k:=by have:=(θ.1 hu).1;rw[Bl]at this;exact this
  rw[Dn hj]at hu;injection hu with hu;subst hu;rw[Nat.zero_add];have hc:=h.o.cell (j:=j) ac;exact GY (aA g (by have:=h.o.lt.1;omega) (World.block_lt_of_cell? _ _ hc)) hc
 .have hi:i<k:=by have:=(θ.1 h1).1;rw[AI]at this;exact this
  rw[CR hi]at h1;rw[Dn hi]at h2;injection h1 with h1;injection h2 with h2;subst h1 h2;have hr:=h.row i ac;obtain⟨g1,c,cc,g2,g3,g4,g5⟩:=h.isl (i:=i) ac;refine⟨g1,c,cc,g2,g3,g4,fun hn=>?_⟩;obtain⟨b,o,rfl,g7⟩:=g5 hn;refine⟨b,o,rfl,fun j u hu=>?_⟩;have hc:=g7 j u hu;exact GY (aA b (by have:=(hr.lt b (by rw[g2];rfl)).1;omega) (World.block_lt_of_cell? _ _ hc)) hc
theorem MO.of{cv:Value}{vl:List Value}(h:BI w base cv (Au N R a) vl)(hR:1<=R):∃g cap,cv= .slice (some ⟨g,0,none⟩) R cap/\MO w base g R N cap (fun i=>vl.getD i undef) a:=by
 have hl:vl.length=R:=by rw[h.len,AI]
 have aA:vl=vs R (fun i=>vl.getD i undef):=by
  refine List.ext_getElem? fun j=>?_;by_cases hj:j<R
  .rw[Dn hj,δ,γ ac];rfl
  .rw[ϛ ac,ϛ (by rw[Bl];omega)]
 have hc:=h.cvo;rw[AI,aA]at hc;obtain⟨g,cap,e,ho⟩:=J7 hc hR;have hv:∀i,i<R->vl[i]?=some (vl.getD i undef):=fun i hi=>by
  exact zc2
 refine⟨g,cap,e,ho,fun i hi=>?_,fun i hi e2=>?_⟩
 .have:=h.row i _ _ (CR hi) (hv i hi);rw[AM]at this;exact this
 .have:=h.apart _ (List.mem_of_getElem? (hv i hi));rcases this with h1|h1
  .rw[h1]at e2;cases e2
  .rw[e,e2]at h1;exact h1 rfl
structure Mi(w1 wr:World)(base g R N cap:Nat)(vals:Nat->Value)(a:Nat->Nat->Int)(piv:List Nat)(pv:Value):Prop where
 em:MO wr base g R N cap vals a
 po:wr.ownsRow base 3 1 pv piv.length (Aj (pI piv))
 pg:pv.ownBlock≠some g
 pa:∀i,i<R->AD (vals i) pv
 hb:w1.heap.size<=base
 ex:Ex w1 wr
variable {w1 wr:World} {piv:List Nat} {pv pv' u:Value} {f:Nat->Int}
theorem Mi.later(h:Mi w1 wr base g R N cap vals a piv pv)(hx:Ex wr w'):Mi w1 w' base g R N cap vals a piv pv:=
 ⟨h.em.ex hx,Ag h.po hx,h.pg,h.pa,h.hb,h.ex.trans hx⟩
theorem Mi.fresh(h:Mi w1 wr base g R N cap vals a piv pv){b' n:Nat}{e:TypeId}{xs:List Value}(hu:w'.ownsRow wr.heap.size e 1 u n xs):u.ownBlock≠some g/\AD u pv:=by
 have hg:=h.em.o.lt.2;refine⟨fun e2=>?_,?_⟩
 .have:=(hu.lt g e2).1;omega
 .cases e2:u.ownBlock with
  | none=>exact .inl e2
  | some B=>
   right;rw[e2];intro e3;have h1:=(h.po.lt B e3.symm).2;have h2:=(hu.lt B e2).1;omega
theorem Mi.set(h:Mi w1 wr base g R N cap vals a piv pv){i:Nat}(hu:wr.ownsRow base 3 1 u N (Aj (il N f)))(hg:u.ownBlock≠some g)(ha:AD u pv):Mi w1 (wr.setCell (g,i) u) base g R N cap (Ay vals i u) (Ay a i f) piv pv where
 em:=h.em.set hu hg
 po:=Ae h.po h.pg u
 pg:=h.pg
 pa:=fun j hj=>by
  by_cases e:j=i
  .subst e;rw[Ab];exact ha
  .rw[Ac _ _ e];exact h.pa j hj
 hb:=h.hb
 ex:=h.em.exSet h.hb h.ex i u
theorem Mi.swp(h:Mi w1 wr base g R N cap vals a piv pv){s k:Nat}(hs:s<R)(hk:k<R):Mi w1 ((wr.setCell (g,s) (vals k)).setCell (g,k) (vals s)) base g R N cap (Ay (Ay vals s (vals k)) k (vals s)) (DO a s k) piv pv where
 em:=h.em.swp hs hk
 po:=Ae (Ae h.po h.pg _) h.pg _
 pg:=h.pg
 pa:=fun j hj=>by
  by_cases e:j=k
  .subst e;rw[Ab];exact h.pa s hs
  .rw[Ac _ _ e];by_cases e:j=s
   .subst e;rw[Ab];exact h.pa k hk
   .rw[Ac _ _ e];exact h.pa j hj
 hb:=h.hb
 ex:=(h.em.set (i:=s) (h.em.row k hk) (h.em.ap k hk)).exSet h.hb (h.em.exSet h.hb h.ex s _) k _
theorem Mi.app(h:Mi w1 wr base g R N cap vals a piv pv){c:Nat}(ha:Bz wr w' base 3 1 pv pv' piv.length (Aj (pI piv)) [.int .i64 (c:Int)]):Mi w1 w' base g R N cap vals a (piv ++ [c]) pv':=by
 have ho:AD (.slice (some (g,0)) R cap) pv:= .inr fun e=>h.pg e.symm;have h1:=ha.row h.em.o ho;have h2:=fun i hi=>ha.row (h.em.row i hi) (h.pa i hi);refine⟨⟨h1.1,fun i hi=>(h2 i hi).1,h.em.ap⟩,?_,?_,fun i hi=>(h2 i hi).2,h.hb,ha.ex h.ex h.hb⟩
 .have:=ha.own;rw[List.length_append];unfold pI at *;rw[δe];unfold Aj at *;rw[δe];exact this
 .rcases h1.2 with h3|h3
  .cases h3
  .exact fun e=>h3 e.symm
end
end Go.Proofs.YtehieobniamagaaGreat
