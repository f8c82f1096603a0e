/- Walks of tower.prime, tower.Frobenius, the field's Sub, Order, Same, Check. -/
import Derived.Test.YtehieobniamagaaGreatZc08
namespace Go.Proofs.YtehieobniamagaaGreat
open Go.RowKit
set_option linter.all false
set_option maxRecDepth 100000
set_option maxHeartbeats 16000000
def TQ(p m:Nat)(low:Vc)(x:Nat):Nat->Nat
 | 0=>x
 | k+1=>BO p m low (TQ p m low x k) p
theorem OP{p m:Nat}{low:Vc}(hp:2<=p)(hm:1<=m){x:Nat}(hx:x<p^m):∀k,TQ p m low x k<p^m
 | 0=>hx
 | k+1=>Dn hp hm _ _
section
variable {b p m x0:Nat} {ml:List Int}
theorem UN(w:World)(hg:Bj w b p m ml x0):
  Calls Tryz.prog 161 #[.pointer (some (b,0))] w fun r w'=>r= .returned (.tuple #[p,m])/\Ex w w':=by
 have HF:=Aa (Vw w hg);go_enter Tryz.func161,Tryz.ntmps161
 go_wp2_with fail
 refine HF.o.mono ?_;rintro e w1⟨v,rfl,hv,hx⟩;obtain⟨va,vc,rfl,_,_,_⟩:=hv.open;have d0:(w1.alloc (.cells #[p,m,.slice va ml.length vc] 24)).cell? (w1.heap.size,0)=some (.int .i64 p):=ag;have d1:(w1.alloc (.cells #[p,m,.slice va ml.length vc] 24)).cell? (w1.heap.size,1)=some (.int .i64 m):=ag;have HX:=Aa (hx.alloc (.cells #[p,m,.slice va ml.length vc] 24));clear hx hv;go_wp2_with fail
 obtain⟨q,hq⟩:=nA w1.heap.size;rw[hq]at d0 d1
 try simp only[hq]
 clear hq;generalize w1.alloc (.cells #[p,m,.slice va ml.length vc] 24)=w2 at *
 go_quiet (fail)
 go_wp2_with fail
 go_ret2;exact⟨rfl,HX.o.drewN _⟩
theorem M8(w:World)(hg:Bj w b p m ml x0)(x:Int)(k:Nat)(hk:k<m):
  Calls Tryz.prog 107 #[.pointer (some (b,0)),x,k] w fun r w'=>r= .returned (.int .i64 (TQ p m (lw ml) (Av (p^m) x) k:Nat))/\Ex w w':=by
 have HG:=Aa hg;have HP:=Aa (UN w hg);have p2:=hg.sh.p2;have m1:=hg.sh.m1;have m8:=hg.sh.m8;have hp256:=hg.sh.p256;have aD:0<p^m:=Nat.pow_pos ac;have T1:(k:Int).tmod (m:Int)=(k:Int):=by
  rw[Int.tmod_eq_emod_of_nonneg ac];exact Int.emod_eq_of_lt ac ac
 have T2:((k:Int)+(m:Int)).tmod (m:Int)=(k:Int):=by
  rw[Int.tmod_eq_emod_of_nonneg ac,Int.add_emod_right];exact Int.emod_eq_of_lt ac ac
 have i4:¬m=0:=ac;have i5:¬((m:Int)=0):=ac;have i1:IntKind.i64.wrap ((k:Int)+(m:Int))=(k:Int)+(m:Int):=IntWalk.i64_in _ ac;clear hg;go_enter Tryz.func107,Tryz.ntmps107
 go_wp2_with fail
 refine HP.o.mono ?_;rintro e w1⟨rfl,hx⟩;have HX:=Aa hx;clear hx;go_wp2_with fail
 go_loopw [1,21] (fun x' j' wr=>∃(j:Nat) (y:Int),j<=k/\j'= .int .i64 j/\x'= .int .i64 y/\Hia (Av (p^m) y=TQ p m (lw ml) (Av (p^m) x) j)/\Hia (Ex w wr)) (fun _ j' _=>k-(intOf j').toNat)
 case atStart=>exact⟨0,x,ac,rfl,rfl,Aa rfl,HX⟩
 case round=>
  obtain⟨j,y,hj,rfl,rfl,hy,aB⟩:=hrel;by_cases hjk:j<k
  .have aA:=Pow_any wr (HG.o.ex aB.o) y p ac ac;rw[hy.o]at aA;obtain⟨z,hz⟩:=nA (BO p m (lw ml) (TQ p m (lw ml) (Av (p^m) x) j) p);have HZ:=Aa (show Av (p^m) ((z:Nat):Int)=TQ p m (lw ml) (Av (p^m) x) (j+1) from by
    rw[<-hz,AA (Dn p2 m1 _ _)];rfl)
   rw[hz]at aA;have aE:=Aa aA;clear aA hz hy;go_wp2_with fail
   refine aE.o.mono ?_;rintro e w2⟨rfl,n2,rfl⟩;go_wp2_with fail
   go_roundw
   case rel=>exact⟨j+1,_,ac,by go_num,rfl,HZ,Aa (aB.o.drewN _)⟩
   case measure=>simp[intOf];omega
  .obtain rfl:j=k:=by omega
   have aC:=KB wr (HG.o.ex aB.o) y 0;rw[hy.o,CM,Cg ac (OP p2 m1 (Cc aD _) _)]at aC;have aF:=Aa aC;clear aC;go_wp2_with fail
   refine aF.o.mono ?_;rintro e w2⟨rfl,n2,rfl⟩;go_wp2_with fail
   go_ret;exact⟨rfl,aB.o.drewN _⟩
theorem Sub_any(w:World)(hg:Bj w b p m ml x0)(x y:Int):
  Calls Tryz.prog 268 #[.pointer (some (b,0)),x,y] w (Qt w (.int .i64 (AH p m (Av (p^m) x) (CI p m (Av (p^m) y)):Nat))):=by
 have p2:=hg.sh.p2;have HN:=Aa (Pa w hg y);have ha:=fun n=>KB (w.drewN n) (hg.drewN n) x ((CI p m (Av (p^m) y):Nat):Int);rw[show Av (p^m) ((CI p m (Av (p^m) y):Nat):Int)=CI p m (Av (p^m) y) from AA (Dg ac _)]at ha;have HA:=Aa ha;clear ha hg;go_enter Tryz.func268,Tryz.ntmps268
 go_wp2_with fail
 refine HN.o.mono ?_;rintro e w1⟨rfl,n1,rfl⟩;go_wp2_with fail
 refine(HA.o n1).mono ?_;rintro e w2⟨rfl,n2,rfl⟩;go_wp2_with fail
 go_ret;exact⟨rfl,_,rfl⟩
theorem zdd{P:Prop}(h:P:=by
 go_wp2_with fail
 go_ret;exact⟨rfl,rfl⟩):P:=h
theorem Cu(w:World)(hg:Bj w b p m ml x0):
  Calls Tryz.prog 54 #[.pointer (some (b,0))] w fun r w'=>r= .returned (.int .i64 ((p^m:Nat):Int))/\w=w':=by
 have c3:=hg.c3;generalize p^m=q at *;clear hg;go_enter Tryz.func54,Tryz.ntmps54
 exact zdd
end
theorem W5{w:World}{a:Option Addr}{n cap:Nat}{l:List Int}(h:Aj w (.slice a n cap) l){i:Nat}(hi:i<=l.length):Aj w (.slice a i cap) (l.take i):=by
 obtain⟨a',cap',e,h1,h2,h3⟩:=h.open;injection e with e1 e2 e3;subst e1 e3;have hl:(l.take i).length=i:=bp;unfold Aj;rw[hl];refine⟨by rw[Bf,hl];omega,a,cap,rfl,ac,h2,fun hn=>?_⟩;obtain⟨b,o,rfl,h4⟩:=h3 ac;refine⟨b,o,rfl,fun j u hu=>?_⟩;simp only[Ap,List.getElem?_map,List.getElem?_take]at hu;split at hu
 .obtain⟨y,hy,rfl⟩:=Option.map_eq_some_iff.1 hu;exact h4 j y hy
 .cases hu
def MO(l:List Int)(k:Nat):Bool:=(List.range k).any fun i=>(l.take i).contains (l.getD i 0)
def ET(l:List Int):Bool:=MO l l.length
theorem Vj(l:List Int)(k:Nat):MO l (k+1)=(MO l k||(l.take k).contains (l.getD k 0)):=by
 unfold MO;rw[List.range_succ,List.any_append];simp
theorem Vk{l:List Int}{k n:Nat}(h:k<=n)(hd:MO l k=true):MO l n=true:=by
 unfold MO at *;obtain⟨i,hi,hb⟩:=List.any_eq_true.1 hd;exact List.any_eq_true.2 ⟨i,List.mem_range.2 (by have:=List.mem_range.1 hi;omega),hb⟩
def BD(l:List Int)(n:Int):Bool:=l.all fun x=>decide (0<=x/\x<n)
def F4(l:List Int)(n:Int):Int:=if BD l n=false then 6 else if ET l=true then 18 else 0
theorem Mp(l:List Int)(f:Int->Bool):((List.range l.length).any fun j=>f (l.getD j 0))=l.any f:=by
 rw[Bool.eq_iff_iff,List.any_eq_true,List.any_eq_true];constructor
 .rintro⟨j,hj,h⟩;have hj:=List.mem_range.1 hj;refine⟨l[j],List.getElem_mem hj,?_⟩
  rwa[List.getD_eq_getElem?_getD,List.getElem?_eq_getElem hj]at h
 .rintro⟨x,hx,h⟩;obtain⟨j,hj,rfl⟩:=List.getElem_of_mem hx;exact⟨j,List.mem_range.2 hj,by rw[List.getD_eq_getElem?_getD,List.getElem?_eq_getElem hj];exact h⟩
theorem OG{l:List Int}{i:Nat}{u:Value}(h:(Ap l)[i]?=some u):∃x,l[i]?=some x/\u= .int .i64 x/\l.getD i 0=x:=by
 unfold Ap at h;rw[List.getElem?_map]at h;obtain⟨x,hx,rfl⟩:=Option.map_eq_some_iff.1 h;exact⟨x,hx,rfl,by rw[List.getD_eq_getElem?_getD,hx];rfl⟩
theorem zb6{P:Prop}(h:P:=by
 go_enter Tryz.func197,Tryz.ntmps197
 go_wp2_with fail
 go_ret;exact⟨Aq HR.o,Ex.refl _⟩):P:=h
theorem zbW{P:Prop}(h:P:=by
 clear h0 h1;exact zb6):P:=h
theorem Xa(w:World)(B:Nat)(n x:Int)(c0:w.cell? (B,0)=some (.int .i64 n)):
  Calls Tryz.prog 197 #[x,.pointer (some (B,0))] w fun r w'=>r= .returned (.bool (!decide (0<=x/\x<n)))/\Ex w w':=by
 by_cases h0:x<0
 .have HR:=Aa (show true=!decide (0<=x/\x<n) from by simp;omega);have b1:decide (x<0)=true:=decide_eq_true h0;clear h0;exact zb6
 .have b1:decide (x<0)=false:=decide_eq_false h0;by_cases h1:n<=x
  .have HR:=Aa (show true=!decide (0<=x/\x<n) from by simp;omega);have b2:decide (n<=x)=true:=decide_eq_true h1;exact zbW
  .have HR:=Aa (show false=!decide (0<=x/\x<n) from by simp;omega);have b2:decide (n<=x)=false:=decide_eq_false h1;exact zbW
theorem zc7{P:Prop}(h:P:=by
 go_ret;exact⟨Af HR.o,aF.o.trans aB.o⟩):P:=h
theorem Hv(w:World)(l:List Int)(v:Value)(n:Int)(hl:Aj w v l):
  Calls Tryz.prog 150 #[v,n] w fun r w'=>r= .returned (.int .i64 (F4 l n))/\Ex w w':=by
 have ea:Ex w (w.alloc (.cells #[n] 3)):=(Ex.refl _).alloc _;have q0:(w.alloc (.cells #[n] 3)).cell? (w.heap.size,0)=some (.int .i64 n):=ag;have HL:=Aa (hl.ex ea);have HC:=Aa (JH (w.alloc (.cells #[n] 3)) (.pointer (some (w.heap.size,0))) v l.length (Ap l) (hl.ex ea) (fun j=> !decide (0<=l.getD j 0/\l.getD j 0<n)) fun w1 i u hx hu=>by
  obtain⟨x,_,rfl,aA⟩:=OG hu;rw[aA];exact Xa w1 w.heap.size n x (hx.cell q0))
 have hc:=HC.o;rw[Mp l fun x=> !decide (0<=x/\x<n)]at hc;have HC:=Aa hc;obtain⟨a,cap,rfl,s1,s2,s3⟩:=hl.open;unfold maxLen at s2;have aF:=Aa ea;clear hl s3 hc ea;by_cases hr:BD l n=true
 .have h1:(l.any fun x=> !decide (0<=x/\x<n))=false:=by
   unfold BD at hr;rw[List.any_eq_false];intro x hx;have:=List.all_eq_true.1 hr x hx;simpa using this
  rw[h1]at HC;have aJ:=Aa (show F4 l n=if ET l=true then 18 else 0 from by unfold F4;rw[hr,if_neg ae]);clear hr h1;go_enter Tryz.func150,Tryz.ntmps150
  go_wp2_with fail
  obtain⟨q,hq⟩:=nA w.heap.size;rw[hq]at HC q0
  try simp only[hq]
  clear hq;generalize w.alloc (.cells #[n] 3)=w1 at *;refine HC.o.mono ?_;rintro e w2⟨rfl,aA⟩;have aB:=Aa aA;clear aA;go_wp2_with fail
  go_loopw [12] (fun i' wr=>∃(i:Nat),i<=l.length/\i'= .int .i64 i/\Hia (MO l i=false)/\Hia (Ex w2 wr)) (fun i' _=>l.length-(intOf i').toNat)
  case atStart=>exact⟨0,ac,rfl,Aa rfl,Aa (Ex.refl _)⟩
  case round=>
   obtain⟨i,hi,rfl,hd,aE⟩:=hrel;have aB:=Aa (aB.o.trans aE.o);by_cases hil:i<l.length
   .obtain⟨x,hx⟩:∃x,l[i]?=some x:=⟨_,List.getElem?_eq_getElem hil⟩;have aI:=Aa (HL.o.ex aB.o);obtain⟨_,_,e1,_,_,h3⟩:=aI.o.open;injection e1 with e1 e2 e3;subst e1;clear e2 e3;obtain⟨zb,zo,rfl,aG⟩:=h3 ac;have c1:=aG i x hx;have aH:l.getD i 0=x:=by rw[List.getD_eq_getElem?_getD,hx];rfl
    have i1:(0:Int)<=(i:Int):=ac;have i2:(i:Int)<(l.length:Int):=ac;have i3:i<=cap:=ac;have i4:(i:Int)<=(cap:Int):=ac;have aD:=Aa (DJ wr (l.take i) _ x (W5 aI.o ac));have aC:=Aa (Vj l i);rw[aH,hd.o,Bool.false_or]at aC;clear hx h3 aG aH hd
    cases hb:(l.take i).contains x with
    | true=>
     rw[hb]at aD aC;have HR:=Aa (show(18:Int)=F4 l n from by
      have aK:ET l=true:=Vk (show i+1<=l.length by omega) aC.o;rw[aJ.o,if_pos aK])
     clear hb;go_wp2_with (go_at_call 132;refine aD.o.mono ?_;rintro e w5⟨rfl,rfl⟩)
     exact zc7
    | false=>
     rw[hb]at aD aC;clear hb;go_wp2_with (go_at_call 132;refine aD.o.mono ?_;rintro e w5⟨rfl,rfl⟩)
     go_roundw
     case rel=>first|exact⟨i+1,ac,by go_num,aC,aE⟩|((repeat apply Exists.intro);exact⟨⟨i+1,ac,by go_num,aC,aE⟩,rfl⟩)
     case measure=>simp[intOf];omega
   .obtain rfl:i=l.length:=by omega
    have HR:=Aa (show(0:Int)=F4 l n from by
     rw[aJ.o,if_neg (by show ¬MO l l.length=true;rw[hd.o];decide)])
    go_wp2_with fail
    exact zc7
 .have hr:BD l n=false:=by simpa using hr
  have h1:(l.any fun x=> !decide (0<=x/\x<n))=true:=by
   unfold BD at hr;rw[List.all_eq_false]at hr;obtain⟨x,hx,h⟩:=hr;exact List.any_eq_true.2 ⟨x,hx,by simp at h ⊢;omega⟩
  rw[h1]at HC;have HR:=Aa (show(6:Int)=F4 l n from by unfold F4;rw[if_pos hr]);clear hr h1;go_enter Tryz.func150,Tryz.ntmps150
  go_wp2_with (go_at_call 116;refine HC.o.mono ?_;rintro e w2⟨rfl,aA⟩;have aB:=Aa aA;clear aA)
  exact zc7
def E4(q:Nat)(l:List Int):Int:=if (l.any fun x=> !Gt q x)=true then 2 else if l.contains 0=true then 7 else 0
section
variable {b p m x0:Nat} {ml:List Int}
theorem zbK{P:Prop}(h:P:=by
 go_wp2_with (go_at_call 199;refine HI.o.mono ?_;rintro e w1⟨rfl,n1,rfl⟩)
 go_ret;exact⟨rfl,(Ex.refl w).drewN _⟩):P:=h
theorem Xx(w:World)(B:Nat)(hg:Bj w b p m ml x0)(x:Int)(c0:w.cell? (B,0)=some (.pointer (some (b,0)))):
  Calls Tryz.prog 198 #[x,.pointer (some (B,0))] w fun r w'=>r= .returned (.bool (!Gt (p^m) x))/\Ex w w':=by
 have HI:=Aa (Pd w hg x);obtain⟨z,hz⟩:=nA (Gt (p^m) x);rw[hz]at HI ⊢;clear hg hz;go_enter Tryz.func198,Tryz.ntmps198
 exact zbK
theorem zbd{P:Prop}(h:P:=by
 subst aB;go_enter Tryz.func151,Tryz.ntmps151
 go_wp2_with (first|(go_at_call 116;refine HC.o.mono ?_;rintro e w2⟨rfl,aA⟩;have aC:=Aa (aD.o.trans aA);clear aA)|(go_at_call 132;refine(aE.o _ aC.o).mono ?_;rintro e w5⟨rfl,rfl⟩))
 go_ret;exact⟨rfl,aC.o⟩):P:=h
theorem JY(w:World)(hg:Bj w b p m ml x0)(l:List Int)(v:Value)(hl:Aj w v l):
  Calls Tryz.prog 151 #[.pointer (some (b,0)),v] w fun r w'=>r= .returned (.int .i64 (E4 (p^m) l))/\Ex w w':=by
 have ea:Ex w (w.alloc (.cells #[.pointer (some (b,0))] 97)):=(Ex.refl _).alloc _;have q0:(w.alloc (.cells #[.pointer (some (b,0))] 97)).cell? (w.heap.size,0)=some (.pointer (some (b,0))):=ag;have hc:=JI (w.alloc (.cells #[.pointer (some (b,0))] 97)) (.pointer (some (w.heap.size,0))) v l.length (Ap l) (hl.ex ea) (fun j=> !Gt (p^m) (l.getD j 0)) fun w1 i u hx hu=>by
  obtain⟨x,_,rfl,aA⟩:=OG hu;rw[aA];exact Xx w1 w.heap.size (hg.ex (ea.trans hx)) x (hx.cell q0)
 rw[Mp l fun x=> !Gt (p^m) x]at hc;have HC:=Aa hc;have aE:=Aa (fun w1 (hx:Ex w w1)=>DJ w1 l v 0 (hl.ex hx));obtain⟨a,cap,rfl,s1,s2,s3⟩:=hl.open;unfold maxLen at s2;have aD:=Aa ea;obtain⟨R,hR⟩:=nA (E4 (p^m) l);have aB:=hR;unfold E4 at aB;rw[hR];obtain⟨y,hy⟩:∃y,(l.any fun x=> !Gt (p^m) x)=y:=⟨_,rfl⟩;obtain⟨z,hz⟩:=nA (l.contains 0);rw[hy]at HC aB;rw[hz]at aB aE;clear hl s3 hc ea hy hz hR hg
 cases y with
 | true=>
  rw[if_pos rfl]at aB;subst aB;go_enter Tryz.func151,Tryz.ntmps151
  go_wp2_with (go_at_call 116;refine HC.o.mono ?_;rintro e w2⟨rfl,aA⟩;have aC:=Aa aA;clear aA)
  go_ret;exact⟨rfl,aD.o.trans aC.o⟩
 | false=>
  rw[if_neg ae]at aB
  cases z with
  | true=>
   rw[if_pos rfl]at aB;exact zbd
  | false=>
   rw[if_neg ae]at aB;exact zbd
end
def CL(p m:Int)(ml:List Int)(n:Int)(pl sl:List Int)(fr:Int):Int:=
 if B6 p m ml≠0 then 1 else if n<1∨64<n then 4 else if (pl.length:Int)≠n∨(sl.length:Int)≠n then 3 else
 if BD pl n=false∨fr<0∨m<=fr then 6 else if ET pl=true then 18 else E4 (p.toNat^m.toNat) sl
theorem Gb(w:World)(p m:Int)(v:Value):(w.alloc (.cells #[p,m,v] 24)).cell? (w.heap.size,0)=some (.int .i64 p)/\(w.alloc (.cells #[p,m,v] 24)).cell? (w.heap.size,1)=some (.int .i64 m)/\
  (w.alloc (.cells #[p,m,v] 24)).cell? (w.heap.size,2)=some v/\Ex w (w.alloc (.cells #[p,m,v] 24)):=⟨ag,ag,ag,(Ex.refl _).alloc _⟩
theorem Bh(w:World)(u v:Value)(fr:Int):(w.alloc (.cells #[u,v,fr] 26)).cell? (w.heap.size,0)=some u/\(w.alloc (.cells #[u,v,fr] 26)).cell? (w.heap.size,1)=some v/\
  (w.alloc (.cells #[u,v,fr] 26)).cell? (w.heap.size,2)=some (.int .i64 fr)/\Ex w (w.alloc (.cells #[u,v,fr] 26)):=⟨ag,ag,ag,(Ex.refl _).alloc _⟩
def OpnR(p m:Int)(ml:List Int)(e:Int)(r:Ending)(w':World):Prop:=
 (e=0/\∃(b pn mn x0:Nat),p=pn/\m=mn/\r= .returned (.tuple #[.pointer (some (b,0)),(0:Int)])/\Bj w' b pn mn ml x0/\1<=x0/\x0<pn^mn)∨
 (e≠0/\∃ptr:Option Addr,r= .returned (.tuple #[.pointer ptr,e]))
theorem Fl{p m:Int}{ml:List Int}{e:Int}(h:e≠0)(aA:Option Addr)(w':World):OpnR p m ml e (.returned (.tuple #[.pointer aA,e])) w':= .inr ⟨h,aA,rfl⟩
theorem zbj{P:Prop}(h:P:=by
 go_wp2_with (go_at_call 150;refine aB.o.mono ?_;rintro e w3⟨rfl,aA⟩;have aC:=Aa (HX.o.trans aA);have a1:=aA.cell a1;have b1:=aA.cell b1;have b2:=aA.cell b2;clear aA)
 go_ret2;exact⟨Fl (by decide) (some ⟨b,0,none⟩) _,aC.o⟩):P:=h
theorem zcX{P:Prop}(h:P:=by
 go_wp2_with fail
 go_ret2;exact⟨Fl (by decide) none _,HX.o⟩):P:=h
theorem zcA{P:Prop}(h:P:=by
 clear hn1 h1;exact zcX):P:=h
theorem ND(w:World)(p m:Int)(ml:List Int)(mv:Value)(aH:Aj w mv ml)(n:Int)(pl sl:List Int)(pv sv:Value)(hp:Aj w pv pl)(hs:Aj w sv sl)(fr:Int):
  Calls Tryz.prog 91 #[.agg #[p,m,mv],n,.agg #[pv,sv,fr]] w fun r w'=>OpnR p m ml (CL p m ml n pl sl fr) r w'/\Ex w w':=by
 obtain⟨a0,a1,a2,ea⟩:=Gb w p m mv;obtain⟨b0,b1,b2,eb⟩:=Bh (w.alloc (.cells #[p,m,mv] 24)) pv sv fr;have a0:=eb.cell a0;have a1:=eb.cell a1;have a2:=eb.cell a2;have aI:(w.alloc (.cells #[p,m,mv] 24)).heap.size=w.heap.size+1:=ag;rw[aI]at b0 b1 b2;have HE:=Aa (ea.trans eb);have aM:=Aa (Gf p m ml mv _ (aH.ex HE.o));have aO:=Aa (fun w1 (hx:Ex w w1)=>Hv w1 pl pv n (hp.ex hx));have aR:=Aa (fun w1 (hx:Ex w w1) (b pn mn x0:Nat) (hg:Bj w1 b pn mn ml x0)=>JY w1 hg sl sv (hs.ex hx));obtain⟨ma,mc,rfl,_,_,_⟩:=aH.open;obtain⟨pa,pc,rfl,_,p2,_⟩:=hp.open;obtain⟨sa,sc,rfl,_,s2,_⟩:=hs.open;unfold maxLen at p2 s2;obtain⟨E,hE⟩:=nA (CL p m ml n pl sl fr);have hM:=hE;unfold CL at hM;rw[hE];clear aH hp hs hE aI ea eb;go_enter Tryz.func91,Tryz.ntmps91
 go_wp2_with fail
 obtain⟨q,hq⟩:=nA w.heap.size;rw[hq]at a0 a1 a2 b0 b1 b2
 try simp only[hq]
 clear hq;generalize (w.alloc (.cells #[p,m,.slice ma ml.length mc] 24)).alloc (.cells #[.slice pa pl.length pc,.slice sa sl.length sc,fr] 26)=w1 at *;obtain⟨A0,A1,B0,B1,B2⟩:=Of a0 a1 b0 b1 b2;clear a0 a1 a2 b0 b1 b2;refine aM.o.mono ?_;rintro e w2⟨hn,aD⟩;rcases hn with⟨pn,mn,x0,b,rfl,rfl,rfl,hg,x1,x2⟩|⟨hno,rfl⟩
 .have aF:B6 pn mn ml=0:=(BU _ _ _).2 (hg.fldB x1 x2);rw[if_neg (by rw[aF];decide),Int.toNat_natCast,Int.toNat_natCast]at hM;have HG:=Aa hg;have HX:=Aa (HE.o.trans aD);have a1:=aD.cell A1.o;have b0:=aD.cell B0.o;have b1:=aD.cell B1.o;have b2:=aD.cell B2.o;have HX2:=Aa aD;have aJ:=Aa (show 1<=x0/\x0<pn^mn from⟨x1,x2⟩);clear aF hg aD x1 x2;by_cases hn1:n<1∨64<n
  .rw[if_pos hn1]at hM;subst hM;by_cases h1:n<1
   .have e1:decide (n<1)=true:=decide_eq_true h1;exact zcA
   .have e1:decide (n<1)=false:=decide_eq_false h1;have e2:decide (64<n)=true:=decide_eq_true ac;exact zcA
  .rw[if_neg hn1]at hM;have e1:decide (n<1)=false:=decide_eq_false ac;have e2:decide (64<n)=false:=decide_eq_false ac;by_cases hln:(pl.length:Int)≠n∨(sl.length:Int)≠n
   .rw[if_pos hln]at hM;subst hM;by_cases h1:(pl.length:Int)=n
    .have e3:((pl.length:Int) !=n)=false:=by simpa using h1
     have e4:((sl.length:Int) !=n)=true:=aq;clear hln h1 hn1;exact zcX
    .have e3:((pl.length:Int) !=n)=true:=by simpa using h1
     clear hln h1 hn1;exact zcX
   .rw[if_neg hln]at hM;have e3:((pl.length:Int) !=n)=false:=by simp;omega
    have e4:((sl.length:Int) !=n)=false:=aq;have aB:=Aa (aO.o w2 HX.o);clear hln hn1;by_cases hr:BD pl n=true
    .obtain⟨D,hD⟩:=nA (ET pl);have aE:F4 pl n=if D=true then 18 else 0:=by unfold F4;rw[if_neg (by rw[hr];decide),hD]
     rw[hD]at hM;rw[aE]at aB;by_cases hf:fr<0∨(mn:Int)<=fr
     .rw[if_pos (.inr hf)]at hM;subst hM;cases D <;> (
       first|rw[if_pos rfl]at aB|rw[if_neg ae]at aB
       by_cases h1:fr<0
       .have e5:decide (fr<0)=true:=decide_eq_true h1;clear hf h1 aE hD;exact zbj
       .have e5:decide (fr<0)=false:=decide_eq_false h1;have e6:decide ((mn:Int)<=fr)=true:=decide_eq_true ac;clear hf h1 aE hD;go_wp2_with (go_at_call 150;refine aB.o.mono ?_;rintro e w3⟨rfl,aA⟩;have aC:=Aa (HX.o.trans aA);have a1:=aA.cell a1;have b1:=aA.cell b1;have b2:=aA.cell b2;clear aA)
        go_ret2;exact⟨Fl ae (some ⟨b,0,none⟩) _,aC.o⟩)
     .rw[if_neg (by
        rintro (h|h);·rw[hr]at h;cases h
        .exact hf h)]at hM
      have e5:decide (fr<0)=false:=decide_eq_false ac;have e6:decide ((mn:Int)<=fr)=false:=decide_eq_false ac
      cases D with
      | true=>
       rw[if_pos rfl]at aB hM;subst hM;clear hf aE hD;exact zbj
      | false=>
       rw[if_neg ae]at aB hM;have aN:=Aa hM;clear hf aE hD hM;go_wp2_with (go_at_call 150;refine aB.o.mono ?_;rintro e w3⟨rfl,aA⟩;have aC:=Aa (HX.o.trans aA);have a1:=aA.cell a1;have b1:=aA.cell b1;have b2:=aA.cell b2;have aK:=Aa (HG.o.ex aA);have aQ:=Aa (aR.o w3 aC.o b pn mn x0 aK.o);clear aA)
       refine aQ.o.mono ?_;rintro e w4⟨rfl,aG⟩;have aL:=Aa (aC.o.trans aG);have aP:=Aa (aK.o.ex aG);rw[aN.o];clear aG;go_wp2_with fail
       go_ret2;refine⟨?_,aL.o⟩;by_cases h0:E=0
       .subst h0;exact .inl ⟨rfl,b,pn,mn,x0,rfl,rfl,rfl,aP.o,aJ.o.1,aJ.o.2⟩
       .exact Fl h0 (some ⟨b,0,none⟩) _
    .have hr:BD pl n=false:=by simpa using hr
     have aE:F4 pl n=6:=by unfold F4;rw[if_pos hr]
     rw[aE]at aB;rw[if_pos (.inl hr)]at hM;subst hM;clear aE hr;exact zbj
 .have aF:B6 p m ml≠0:=fun h=>hno ((BU _ _ _).1 h);rw[if_pos aF]at hM;subst hM;clear aF hno;go_wp2_with fail
  go_ret2;exact⟨Fl ae none _,HE.o.trans aD⟩
theorem zc9{P:Prop}(h:P:=by
 go_wp2_with fail
 go_ret;exact⟨rfl,HX.o⟩):P:=h
theorem Sg(w:World)(p m:Int)(ml:List Int)(mv:Value)(aB:Aj w mv ml)(n:Int)(pl sl:List Int)(pv sv:Value)(hp:Aj w pv pl)(hs:Aj w sv sl)(fr:Int):
  Calls Tryz.prog 51 #[.agg #[p,m,mv],n,.agg #[pv,sv,fr]] w fun r w'=>r= .returned (.int .i64 (CL p m ml n pl sl fr))/\Ex w w':=by
 obtain⟨ma,mc,rfl,_,_,_⟩:=aB.open;obtain⟨pa,pc,rfl,_,_,_⟩:=hp.open;obtain⟨sa,sc,rfl,_,_,_⟩:=hs.open;have HO:=Aa (fun w1 (hx:Ex w w1)=>ND w1 p m ml _ (aB.ex hx) n pl sl _ _ (hp.ex hx) (hs.ex hx) fr);obtain⟨E,hE⟩:=nA (CL p m ml n pl sl fr);rw[hE]at HO ⊢;clear hE aB hp hs;go_enter Tryz.func51,Tryz.ntmps51
 go_wp2_with fail
 refine(HO.o _ (((Ex.refl w).alloc _).alloc _)).mono ?_;rintro e w2⟨hr,aA⟩;have HX:=Aa ((((Ex.refl w).alloc _).alloc _).trans aA);rcases hr with⟨rfl,b,pn,mn,x0,rfl,rfl,rfl,hg,_,_⟩|⟨h0,ptr,rfl⟩
 .clear hg aA;exact zc9
 .clear aA h0;exact zc9
section
variable {p m:Nat} {ml:List Int} {N R:Nat}
def ks(p m:Nat)(g:Nat->Nat):Nat->Nat
 | 0=>0
 | n+1=>AH p m (ks p m g n) (g n)
theorem ks_lt(hp:1<=p)(g:Nat->Nat):∀n,ks p m g n<p^m
 | 0=>Nat.pow_pos (by omega)
 | n+1=>G9 hp _ _
theorem GH{g h:Nat->Nat}:∀n,(∀j,j<n->g j=h j)->ks p m g n=ks p m h n
 | 0,_=>rfl
 | n+1,e=>by
  show AH p m _ _=AH p m _ _
  rw[GH n fun j hj=>e j (by omega),e n (by omega)]
theorem Hx(f x:Nat->Int):dt p m ml N f x=ks p m (fun j=>Al p m (lw ml) (Av (p^m) (f j)) (Av (p^m) (x j))) N:=by
 have aA:∀n,n<=N->Sk p m ml N f x n=ks p m (fun j=>Al p m (lw ml) (Av (p^m) (f j)) (Av (p^m) (x j))) n:=fun n=>by
  induction n with
  | zero=>intro _;rw[DC];rfl
  | succ n ih=>
   intro hn;rw[DE _ _ ac,ih ac];rfl
 rw[<-EF,aA N (Nat.le_refl _)]
def Ox(p m:Nat)(g:Nat->Nat)(l:List Nat):Nat:=l.foldr (fun j s=>AH p m s (g j)) 0
theorem ksL_lt(hp:1<=p)(g:Nat->Nat):∀l,Ox p m g l<p^m
 | []=>Nat.pow_pos (by omega)
 | j :: l=>G9 hp _ _
theorem Tu(hp:1<=p)(g:Nat->Nat):∀l k,Ox p m g (l++k)=AH p m (Ox p m g l) (Ox p m g k)
 | [],k=>by
  show Ox p m g k=AH p m 0 _
  rw[DO hp (ksL_lt hp g k)]
 | j :: l,k=>by
  show AH p m (Ox p m g (l++k)) (g j)=AH p m (AH p m (Ox p m g l) (g j)) _
  rw[Tu hp g l k,BI hp,BI hp,DU (Ox p m g k)]
theorem Jr(hp:1<=p){g:Nat->Nat}(hg:∀j,g j<p^m):∀n,Ox p m g (List.range n)=ks p m g n
 | 0=>rfl
 | n+1=>by
  rw[List.range_succ,Tu hp,Jr hp hg n];show AH p m _ (AH p m 0 (g n))=AH p m _ _
  rw[DO hp (hg n)]
theorem WT(hp:1<=p)(g:Nat->Nat){l k:List Nat}(h:l.Perm k):Ox p m g l=Ox p m g k:=by
 induction h with
 | nil=>rfl
 | @cons x l1 l2 _ ih=>show AH p m (Ox p m g l1) (g x)=AH p m (Ox p m g l2) (g x);rw[ih]
 | swap x y l=>
  show AH p m (AH p m (Ox p m g l) (g x)) (g y)=AH p m (AH p m (Ox p m g l) (g y)) (g x)
  rw[BI hp,BI hp,DU (g x)]
 | trans _ _ i1 i2=>rw[i1,i2]
theorem Tt(g:Nat->Nat)(f:Nat->Nat):∀l:List Nat,Ox p m g (l.map f)=Ox p m (fun j=>g (f j)) l
 | []=>rfl
 | j :: l=>by show AH p m (Ox p m g (l.map f)) (g (f j))=AH p m (Ox p m (fun j=>g (f j)) l) (g (f j));rw[Tt g f l]
structure Gg(N:Nat)(π:Nat->Nat):Prop where
 lt:∀i,i<N->π i<N
 inj:∀i j,i<N->j<N->π i=π j->i=j
theorem Gg.perm{π:Nat->Nat}(h:Gg N π):((List.range N).map π).Perm (List.range N):=by
 have aB:((List.range N).map π).Nodup:=Df fun i j hj aC e=>by
  have:=h.inj i j ac hj e;omega
 have aA:∀x,x<N->x∈(List.range N).map π:=fun x hx=>by
  have:=RG N (((List.range N).map π).map (·+ 1)) (by
   rw[List.map_map];exact Df fun i j hj aC e=>by
    have e:π i+1=π j+1:=e;have:=h.inj i j ac hj ac;omega) ag (fun y hy=>by
   obtain⟨z,hz,rfl⟩:=List.mem_map.1 hy;obtain⟨i,hi,rfl⟩:=List.mem_map.1 hz;have:=h.lt i (List.mem_range.1 hi);omega) (x+1) ac ac
  obtain⟨z,hz,e⟩:=List.mem_map.1 this;have:z=x:=by have e:z+1=x+1:=e;omega
  rw[<-this];exact hz
 refine(List.perm_ext_iff_of_nodup aB List.nodup_range).2 fun x=>⟨fun hx=>?_,fun hx=>aA x (List.mem_range.1 hx)⟩;obtain⟨i,hi,rfl⟩:=List.mem_map.1 hx;exact List.mem_range.2 (h.lt i (List.mem_range.1 hi))
theorem Gg.surj{π:Nat->Nat}(h:Gg N π){j:Nat}(hj:j<N):∃i,i<N/\π i=j:=by
 have:=h.perm.mem_iff.2 (List.mem_range.2 hj);obtain⟨i,hi,e⟩:=List.mem_map.1 this;exact⟨i,List.mem_range.1 hi,e⟩
theorem Gg.sum(hp:1<=p){π:Nat->Nat}(h:Gg N π){g:Nat->Nat}(hg:∀j,g j<p^m):ks p m (fun i=>g (π i)) N=ks p m g N:=by
 rw[<-Jr hp hg,<-Jr hp fun i=>hg (π i),<-Tt,WT hp g h.perm]
def plc(π:Nat->Nat)(v:Nat->Int):Nat->Nat->Int
 | 0=>fun _=>0
 | k+1=>Ay (plc π v k) (π k) (v k)
theorem Lh{π:Nat->Nat}(h:Gg N π)(v:Nat->Int):∀k,k<=N->∀i,i<k->plc π v k (π i)=v i
 | 0,_,i,hi=>by omega
 | k+1,hk,i,hi=>by
  show Ay (plc π v k) (π k) (v k) (π i)=v i
  by_cases e:i=k
  .subst e;exact Ab _ _ _
  .rw[Ae _ _ fun e2=>e (h.inj i k (by omega) (by omega) e2)];exact Lh h v k (by omega) i (by omega)
theorem OV(hp:1<=p){π:Nat->Nat}(h:Gg N π)(v x:Nat->Int):dt p m ml N (plc π v N) x=dt p m ml N v (fun i=>x (π i)):=by
 rw[Hx,Hx,<-h.sum hp fun j=>Bc hp _ _];exact GH N fun i hi=>by rw[Lh h v N (Nat.le_refl _) i hi]
end
theorem Xc:(Tryz.prog.info? 22).map (fun i=>(i.zero,i.size,i.bytes))=some (some (.slice none 0 0),1,24):=ah
def An(rows:List (List Int))(i j:Nat):Int:=(rows.getD i []).getD j 0
structure EK(w0 w:World)(g R N:Nat)(blk cap:Nat->Nat)(a:Nat->Nat->Int)(k:Nat):Prop where
 arr:AF w w0.heap.size 22 g R (fun i=>if i<k then Eo blk cap N i else .slice none 0 0)
 row:∀i,i<k->Bd w w0.heap.size 3 (blk i) N (cap i) (iv (a i))
 apart:∀i j,i<k->j<k->i≠j->blk i≠blk j
 off:∀i,i<k->blk i≠g
 ex:Ex w0 w
theorem EK.later{w0 w w':World}{g R N:Nat}{blk cap:Nat->Nat}{a:Nat->Nat->Int}{k:Nat}(h:EK w0 w g R N blk cap a k)(hx:Ex w w'):EK w0 w' g R N blk cap a k:=
 ⟨h.arr.ex hx,fun i hi=>(h.row i hi).ex hx,h.apart,h.off,h.ex.trans hx⟩
theorem za5{P:Prop}(h:P:=by
 rw[if_neg h,if_neg (by omega)]):P:=h
theorem EK.put{w0 w:World}{g R N:Nat}{blk cap:Nat->Nat}{a:Nat->Nat->Int}{k:Nat}(h:EK w0 w g R N blk cap a k){w':World}(hx:Ex w w'){nb nc:Nat}(hn:Bd w' w.heap.size 3 nb N nc (iv (a k)))(hw:w0.heap.size<=w.heap.size):
  EK w0 (w'.setCell (g,k) (.slice (some (nb,0)) N nc)) g R N (Ay blk k nb) (Ay cap k nc) a (k+1):=by
 have h1:=h.later hx;have hgl:=h.arr.lt.2;have hnl:=hn.lt.1;have aA:nb≠g:=ac;refine⟨(h1.arr.set k _).congr fun i hi=>?_,fun i hi=>?_,fun i j hi hj aB=>?_,fun i hi=>?_,h1.arr.exSet (Nat.le_refl _) h1.ex k _⟩
 .by_cases e:i=k
  .subst e;rw[Ab];show _=(if i<i+1 then Eo (Ay blk i nb) (Ay cap i nc) N i else .slice none 0 0)
   rw[if_pos ac];unfold Eo;rw[Ab,Ab]
  .rw[Ae _ _ e];show(if i<k then Eo blk cap N i else .slice none 0 0)=(if i<k+1 then Eo (Ay blk k nb) (Ay cap k nc) N i else .slice none 0 0)
   by_cases h:i<k
   .rw[if_pos h,if_pos ac];unfold Eo;rw[Ae _ _ e,Ae _ _ e]
   .exact za5
 .by_cases e:i=k
  .subst e;rw[Ab,Ab];exact(show Bd w' w0.heap.size 3 nb N nc (iv (a i)) from Bl hn hw).other aA _
  .rw[Ae _ _ e,Ae _ _ e];exact(h1.row i ac).other (h.off i ac) _
 .by_cases e:i=k
  .subst e;rw[Ab,Ae _ _ (fun e=>aB e.symm)];have:=(h.row j ac).lt.2;omega
  .by_cases e2:j=k
   .subst e2;rw[Ab,Ae _ _ e];have:=(h.row i ac).lt.2;omega
   .rw[Ae _ _ e,Ae _ _ e2];exact h.apart i j ac ac aB
 .by_cases e:i=k
  .subst e;rw[Ab];exact aA
  .rw[Ae _ _ e];exact h.off i ac
theorem EK.done{w0 w:World}{g R N:Nat}{blk cap:Nat->Nat}{a:Nat->Nat->Int}(h:EK w0 w g R N blk cap a R):EM w w0.heap.size g R N blk cap a []:=
 ⟨h.arr.congr fun i hi=>by show(if i<R then Eo blk cap N i else .slice none 0 0)=_;rw[if_pos hi],h.row,h.apart,h.off,fun B hB=>by cases hB⟩
theorem Vo(w:World)(N R:Nat)(rows:List (List Int))(v:Value)(hv:B9 w v rows)(hR:rows.length=R)(hR2:R<=256)(hN1:1<=N)(hN:N<=256)(hr:∀(i:Nat) (r:List Int),rows[i]?=some r->r.length=N):
  Calls Tryz.prog 202 #[v] w fun r w'=>∃g blk cap,r= .returned (.slice (some ⟨g,0,none⟩) R R)/\EM w' w.heap.size g R N blk cap (An rows) []/\Ex w w':=by
 obtain⟨za,zc,rfl,z1,z2,z3⟩:=hv.open;rw[hR]at z1 z3 ⊢;unfold maxLen at z2;have Z3:=Aa z3;have aN:=Aa hr;have aM:=Aa hR;clear z3 hr hv hR;go_enter Tryz.func202,Tryz.ntmps202
 go_wp2_with (at_make;refine Ar _ rfl _ _ 37 rfl 22 (.slice none 0 0) 24 Tryz.underlying37 Xc rfl _ R rfl rfl rfl ac ai ?_)
 intro w3 aA aI;obtain⟨g,aD⟩:=nA w.heap.size;have HSZ:=Aa aD;have aG:=Aa (show EK w w3 w.heap.size R N (fun _=>0) (fun _=>0) (An rows) 0 from⟨aA.congr fun i hi=>ag,fun i hi=>ac,fun i j hi=>ac,fun i hi=>ac,aI⟩);rw[aD]at aG
 try simp only[aD]
 clear aA aI aD;go_wp2_with fail
 go_loopw [11] (fun k' wr=>∃(k:Nat) (blk cap:Nat->Nat),k<=R/\k'= .int .i64 k/\Hia (EK w wr g R N blk cap (An rows) k)) (fun k' _=>R-(intOf k').toNat)
 case atStart=>exact⟨0,_,_,ac,rfl,aG⟩
 case round=>
  clear aG;obtain⟨k,blk,cap,hk,rfl,aB⟩:=hrel;by_cases hkR:k<R
  .obtain⟨zb,zo,rfl,aH⟩:=Z3.o ac;obtain⟨r,aC⟩:∃r,rows[k]?=some r:=⟨_,List.getElem?_eq_getElem (by rw[aM.o];exact hkR)⟩;obtain⟨uz,c1,aF⟩:=aH k r aC;have c1:=aB.o.ex.cell c1;have aJ:=aN.o k r aC;have HC:=Aa (JK wr r uz (aF.ex aB.o.ex) ac ac);obtain⟨ua,uc,rfl,_,u2,_⟩:=aF.open;rw[aJ]at HC c1;have i1:(0:Int)<=(k:Int):=by omega
   have i2:(k:Int)<(R:Int):=ac;have aO:=Aa (show(fun j=>r.getD j 0)=An rows k from by
    funext j;unfold An;rw[List.getD_eq_getElem?_getD (l:=rows),aC];rfl)
   have aK:=aB.o.arr.cell hkR;have aL:=aB.o.arr.frz k;clear aH aF aC aJ;go_wp2_with (go_at_call 154;refine HC.o.mono ?_;rintro e w4⟨gg,cc,rfl,aA,aE⟩;have hcg2:=aE.cell aK;have hfg2:=aE.frz aK aL)
   rw[aO.o]at aA;have HP:=Aa (aB.o.put aE aA aB.o.ex.size);go_roundw
   case rel=>first|exact⟨k+1,_,_,ac,by go_num,HP⟩|((repeat apply Exists.intro);exact⟨⟨k+1,_,_,ac,by go_num,HP⟩,rfl⟩)
   case measure=>simp[intOf];omega
  .obtain rfl:R=k:=by omega
   have HE:=Aa aB.o.done;have HX:=Aa aB.o.ex;clear aB;go_wp2_with fail
   go_ret;exact⟨g,blk,cap,rfl,HE.o,HX.o⟩
theorem EM.low{w:World}{base g R N:Nat}{blk cap:Nat->Nat}{a:Nat->Nat->Int}(h:EM w base g R N blk cap a []){A:Addr}(hA:A.block<base)(u:Value):EM (w.setCell A u) base g R N blk cap a []:=
 ⟨h.arr.other (by have:=h.arr.lt;omega) u,fun i hi=>(h.row i hi).other (by have:=(h.row i hi).lt;omega) u,h.apart,h.off,fun B hB=>by cases hB⟩
def Au(N k:Nat)(a:Nat->Nat->Int):List (List Int):=(List.range k).map fun i=>il N (a i)
theorem Dq{N k i:Nat}{a:Nat->Nat->Int}(h:i<k):(Au N k a)[i]?=some (il N (a i)):=by unfold Au;simp[h]
theorem AL(N k:Nat)(a:Nat->Nat->Int):(Au N k a).length=k:=by unfold Au;simp
theorem EM.msl{w:World}{base g R N k:Nat}{blk cap:Nat->Nat}{a:Nat->Nat->Int}{avs:List Nat}(h:EM w base g R N blk cap a avs)(hk:k<=R)(hR:R<=256):B9 w (.slice (some (g,0)) k k) (Au N k a):=by
 refine⟨(List.range k).map fun i=>Eo blk cap N i,?_,fun i r u h1 h2=>?_⟩
 .rw[AL];refine⟨ag,some ⟨g,0,none⟩,k,rfl,Nat.le_refl _,by unfold maxLen;omega,fun h0=>⟨g,0,rfl,fun i z hz=>?_⟩⟩;have hi:i<k:=by have:=(List.getElem?_eq_some_iff.1 hz).1;simpa using this
  simp[hi]at hz;subst hz;rw[Nat.zero_add];exact h.cell ac
 .have hi:i<k:=by have:=(List.getElem?_eq_some_iff.1 h1).1;rw[AL]at this;exact this
  rw[Dq hi]at h1;injection h1 with h1;subst h1;simp[hi]at h2;subst h2;exact(h.row i ac).isl
theorem zbQ{P:Prop}(h:P:=by
 refine L9 h2 _ ?_;rw[List.getD_eq_getElem?_getD,List.getElem?_eq_getElem (by omega)];exact List.getElem_mem _):P:=h
theorem Sr{p m:Nat}{ml:List Int}{b x0:Nat}(w:World)(hg:Bj w b p m ml x0)(aL:1<=x0)(aK:x0<p^m)(N R:Nat)(rows:List (List Int))(v:Value)(hv:B9 w v rows)(hR:rows.length=R)(aE:R<=256)(aM:1<=N)(hN:N<=256)(hr:∀(i:Nat) (r:List Int),rows[i]?=some r->r.length=N/\Ce (p^m) r=0):
  Calls Tryz.prog 157 #[.pointer (some (b,0)),v,N] w fun r w'=>∃piv pv rv a',r= .returned (.tuple #[rv,pv])/\Hk p m ml N R (An rows) a' piv/\B9 w' rv (Au N piv.length a')/\Aj w' pv (pI piv)/\Ex w w'/\∃g blk cap,rv= .slice (some ⟨g,0,none⟩) piv.length piv.length/\EM w' w.heap.size g R N blk cap a' []/\∀B,pv.ownBlock=some B->w.heap.size<=B:=by
 have aA:Q4 p m R N (An rows):=fun i hi j hj=>by
  obtain⟨r,aF⟩:∃r,rows[i]?=some r:=⟨_,List.getElem?_eq_getElem ac⟩;obtain⟨h1,h2⟩:=hr i r aF;have e:An rows i j=r.getD j 0:=by unfold An;rw[List.getD_eq_getElem?_getD (l:=rows),aF];rfl
  rw[e];exact zbQ
 have HC:=Aa (Vo w N R rows v hv hR aE aM hN fun i r h=>(hr i r h).1);have HG:=Aa hg;have aN:=Aa aA;clear hv hr aA hg;go_enter Tryz.func157,Tryz.ntmps157
 go_wp2_with (go_at_call 202;refine HC.o.mono ?_;rintro e w1⟨g,blk,cap,rfl,hem,hx1_⟩)
 refine(XC w w1 HG.o aL aK hx1_ hem (Nat.le_refl _) hN aE aN.o).mono ?_;rintro e w2⟨piv,pv,det,blk',cap',a',rfl,aB,aD,aC,hx2_,aG⟩;obtain⟨aJ,aP,HX,aH,aI⟩:=Of aB aD hx2_ aC aG;have hk:piv.length<=R:=by obtain⟨c,_,h,_⟩:=aD;exact h.le
 obtain⟨pa,pc,rfl,_,p2_,_⟩:=aC.open;rw[RH]at aH aI ⊢;clear hem aB aD aC hx1_ hx2_ HC aG;have k1:(0:Int)<=(piv.length:Int):=ac;have k2:(piv.length:Int)<=(R:Int):=ac;have aO:=Aa (aJ.o.msl hk aE);go_wp2_with fail
 go_ret2;exact⟨piv,_,_,a',rfl,aP.o,aO.o,aH.o,HX.o,g,blk',cap',rfl,aJ.o,aI.o⟩
structure M9(w:World)(base g R N cap:Nat)(vals:Nat->Value)(a:Nat->Nat->Int):Prop where
 o:Bd w base 22 g R cap vals
 row:∀i,i<R->w.ownsRow base 3 1 (vals i) N (Ap (il N (a i)))
 ap:∀i,i<R->(vals i).ownBlock≠some g
section
variable {w w':World} {base g R N cap:Nat} {vals:Nat->Value} {a:Nat->Nat->Int}
theorem M9.ex(h:M9 w base g R N cap vals a)(hx:Ex w w'):M9 w' base g R N cap vals a:=
 ⟨h.o.ex hx,fun i hi=>Ai (h.row i hi) hx,h.ap⟩
theorem M9.set(h:M9 w base g R N cap vals a){i:Nat}{u:Value}{f:Nat->Int}(hu:w.ownsRow base 3 1 u N (Ap (il N f)))(hg:u.ownBlock≠some g):M9 (w.setCell (g,i) u) base g R N cap (Ay vals i u) (Ay a i f) where
 o:=h.o.set i u
 row:=fun j hj=>by
  by_cases e:j=i
  .subst e;rw[Ab,Ab];exact Ac hu hg u
  .rw[Ae _ _ e,Ae _ _ e];exact Ac (h.row j hj) (h.ap j hj) u
 ap:=fun j hj=>by
  by_cases e:j=i
  .subst e;rw[Ab];exact hg
  .rw[Ae _ _ e];exact h.ap j hj
theorem YW(a:Nat->Nat->Int)(s k:Nat):Ay (Ay a s (a k)) k (a s)=DK a s k:=by
 funext i;unfold Ay DK;by_cases e1:i=k
 .subst e1;rw[if_pos rfl];by_cases e2:i=s
  .subst e2;rw[if_pos rfl]
  .rw[if_neg e2,if_pos rfl]
 .rw[if_neg e1,if_neg e1]
theorem M9.swp(h:M9 w base g R N cap vals a){s k:Nat}(hs:s<R)(hk:k<R):M9 ((w.setCell (g,s) (vals k)).setCell (g,k) (vals s)) base g R N cap (Ay (Ay vals s (vals k)) k (vals s)) (DK a s k):=by
 have h1:=h.set (i:=s) (h.row k hk) (h.ap k hk);have h2:=h1.set (i:=k) (u:=vals s) (f:=a s) (Ac (h.row s hs) (h.ap s hs) _) (h.ap s hs);rw[YW]at h2;exact h2
theorem M9.exSet{w0:World}(h:M9 w base g R N cap vals a)(hb:w0.heap.size<=base)(hx:Ex w0 w)(i:Nat)(u:Value):Ex w0 (w.setCell (g,i) u):=h.o.exSet hb hx i u
theorem M9.at(h:M9 w base g R N cap vals a)(hN:1<=N){i c:Nat}(hi:i<R)(hc:c<N):∃gi ci,vals i= .slice (some ⟨gi,0,none⟩) N ci/\w.cell? ⟨gi,c,none⟩=some (.int .i64 (a i c))/\N<=ci/\ci<=maxLen:=by
 have hr:=h.row i hi;obtain⟨gi,ci,e,h1,h2⟩:=Fx hr hN;refine⟨gi,ci,e,?_,h1,h2⟩;rw[e,Cw]at hr;have:=Bd.cell (show Bd w base 3 gi N ci (iv (a i)) from hr) hc;exact this
theorem M9.isl(h:M9 w base g R N cap vals a){i:Nat}(hi:i<R):Aj w (vals i) (il N (a i)):=by
 have:=Sl.own (h.row i hi);unfold Aj;rw[AJ];exact this
def JC(b0:Nat)(w:World)(v:Value)(rows:List (List Int)):Prop:=∀w':World,(∀B,b0<=B->B<w.heap.size->w'.heap[B]?=w.heap[B]?)->B9 w' v rows
theorem JC.msl{b0:Nat}{w:World}{v:Value}{rows:List (List Int)}(h:JC b0 w v rows):B9 w v rows:=h w fun _ _ _=>rfl
theorem JC.mono{b0 b1:Nat}{w:World}{v:Value}{rows:List (List Int)}(h:JC b0 w v rows)(hb:b1<=b0):JC b1 w v rows:=fun w' aA=>h w' fun B h1 h2=>aA B ac h2
theorem JC.nil{b0:Nat}{w:World}{a:Option Addr}{c:Nat}(hc:c<=maxLen):JC b0 w (.slice a 0 c) []:=fun w' _=>⟨[],⟨rfl,a,c,rfl,Nat.zero_le _,hc,fun h=>absurd h ag⟩,fun i r u h1 _=>by simp at h1⟩
theorem NI{w w':World}{B o:Nat}{v:Value}(h:w'.heap[B]?=w.heap[B]?)(hc:w.cell? (B,o)=some v):w'.cell? (B,o)=some v:=by
 simp only[World.cell?]at hc ⊢;rw[h];exact hc
theorem M9.mslF(h:M9 w base g R N cap vals a){b0:Nat}(hb:b0<=base){k:Nat}(hk:k<=R):JC b0 w (.slice (some (g,0)) k cap) (Au N k a):=fun w' aA=>by
 obtain⟨c1,c2⟩:=h.o.caps;refine⟨vs k vals,?_,fun i r u h1 h2=>?_⟩
 .rw[AL];refine⟨by rw[Bm,Nat.mul_one],some ⟨g,0,none⟩,cap,rfl,ac,c2,fun hn=>⟨g,0,rfl,fun j u hu=>?_⟩⟩;have hj:j<k:=by have:=(List.getElem?_eq_some_iff.1 hu).1;rw[Bm]at this;exact this
  rw[Dj hj]at hu;injection hu with hu;subst hu;rw[Nat.zero_add];have hc:=h.o.cell (j:=j) ac;exact NI (aA g (by have:=h.o.lt.1;omega) (World.block_lt_of_cell? _ _ hc)) hc
 .have hi:i<k:=by have:=(List.getElem?_eq_some_iff.1 h1).1;rw[AL]at this;exact this
  rw[Dq hi]at h1;rw[Dj hi]at h2;injection h1 with h1;injection h2 with h2;subst h1 h2;have hr:=h.row i ac;obtain⟨g1,c,cc,g2,g3,g4,g5⟩:=h.isl (i:=i) ac;refine⟨g1,c,cc,g2,g3,g4,fun hn=>?_⟩;obtain⟨b,o,rfl,g7⟩:=g5 hn;refine⟨b,o,rfl,fun j u hu=>?_⟩;have hc:=g7 j u hu;exact NI (aA b (by have:=(hr.lt b (by rw[g2];rfl)).1;omega) (World.block_lt_of_cell? _ _ hc)) hc
theorem M9.of{cv:Value}{vl:List Value}(h:BF w base cv (Au N R a) vl)(hR:1<=R):∃g cap,cv= .slice (some ⟨g,0,none⟩) R cap/\M9 w base g R N cap (fun i=>vl.getD i undef) a:=by
 have hl:vl.length=R:=by rw[h.len,AL]
 have aA:vl=vs R (fun i=>vl.getD i undef):=by
  refine List.ext_getElem? fun j=>?_;by_cases hj:j<R
  .rw[Dj hj,List.getD_eq_getElem?_getD,List.getElem?_eq_getElem ac];rfl
  .rw[List.getElem?_eq_none ac,List.getElem?_eq_none (by rw[Bm];omega)]
 have hc:=h.cvo;rw[AL,aA]at hc;obtain⟨g,cap,e,ho⟩:=Kh hc hR;have hv:∀i,i<R->vl[i]?=some (vl.getD i undef):=fun i hi=>by
  exact zcS
 refine⟨g,cap,e,ho,fun i hi=>?_,fun i hi e2=>?_⟩
 .have:=h.row i _ _ (Dq hi) (hv i hi);rw[AJ]at this;exact this
 .have:=h.apart _ (List.mem_of_getElem? (hv i hi));rcases this with h1|h1
  .rw[h1]at e2;cases e2
  .rw[e,e2]at h1;exact h1 rfl
structure MA(w1 wr:World)(base g R N cap:Nat)(vals:Nat->Value)(a:Nat->Nat->Int)(piv:List Nat)(pv:Value):Prop where
 em:M9 wr base g R N cap vals a
 po:wr.ownsRow base 3 1 pv piv.length (Ap (pI piv))
 pg:pv.ownBlock≠some g
 pa:∀i,i<R->AT (vals i) pv
 hb:w1.heap.size<=base
 ex:Ex w1 wr
variable {w1 wr:World} {piv:List Nat} {pv pv' u:Value} {f:Nat->Int}
theorem MA.later(h:MA w1 wr base g R N cap vals a piv pv)(hx:Ex wr w'):MA w1 w' base g R N cap vals a piv pv:=
 ⟨h.em.ex hx,Ai h.po hx,h.pg,h.pa,h.hb,h.ex.trans hx⟩
theorem MA.fresh(h:MA w1 wr base g R N cap vals a piv pv){b' n:Nat}{e:TypeId}{xs:List Value}(hu:w'.ownsRow wr.heap.size e 1 u n xs):u.ownBlock≠some g/\AT u pv:=by
 have hg:=h.em.o.lt.2;refine⟨fun e2=>?_,?_⟩
 .have:=(hu.lt g e2).1;omega
 .cases e2:u.ownBlock with
  | none=>exact .inl e2
  | some B=>
   right;rw[e2];intro e3;have h1:=(h.po.lt B e3.symm).2;have h2:=(hu.lt B e2).1;omega
theorem MA.set(h:MA w1 wr base g R N cap vals a piv pv){i:Nat}(hu:wr.ownsRow base 3 1 u N (Ap (il N f)))(hg:u.ownBlock≠some g)(ha:AT u pv):MA w1 (wr.setCell (g,i) u) base g R N cap (Ay vals i u) (Ay a i f) piv pv where
 em:=h.em.set hu hg
 po:=Ac h.po h.pg u
 pg:=h.pg
 pa:=fun j hj=>by
  by_cases e:j=i
  .subst e;rw[Ab];exact ha
  .rw[Ae _ _ e];exact h.pa j hj
 hb:=h.hb
 ex:=h.em.exSet h.hb h.ex i u
theorem MA.swp(h:MA w1 wr base g R N cap vals a piv pv){s k:Nat}(hs:s<R)(hk:k<R):MA w1 ((wr.setCell (g,s) (vals k)).setCell (g,k) (vals s)) base g R N cap (Ay (Ay vals s (vals k)) k (vals s)) (DK a s k) piv pv where
 em:=h.em.swp hs hk
 po:=Ac (Ac h.po h.pg _) h.pg _
 pg:=h.pg
 pa:=fun j hj=>by
  by_cases e:j=k
  .subst e;rw[Ab];exact h.pa s hs
  .rw[Ae _ _ e];by_cases e:j=s
   .subst e;rw[Ab];exact h.pa k hk
   .rw[Ae _ _ e];exact h.pa j hj
 hb:=h.hb
 ex:=(h.em.set (i:=s) (h.em.row k hk) (h.em.ap k hk)).exSet h.hb (h.em.exSet h.hb h.ex s _) k _
theorem MA.app(h:MA w1 wr base g R N cap vals a piv pv){c:Nat}(ha:Bt wr w' base 3 1 pv pv' piv.length (Ap (pI piv)) [.int .i64 (c:Int)]):MA w1 w' base g R N cap vals a (piv ++ [c]) pv':=by
 have ho:AT (.slice (some (g,0)) R cap) pv:= .inr fun e=>h.pg e.symm;have h1:=ha.row h.em.o ho;have h2:=fun i hi=>ha.row (h.em.row i hi) (h.pa i hi);refine⟨⟨h1.1,fun i hi=>(h2 i hi).1,h.em.ap⟩,?_,?_,fun i hi=>(h2 i hi).2,h.hb,ha.ex h.ex h.hb⟩
 .have:=ha.own;rw[List.length_append];unfold pI at *;rw[List.map_append];unfold Ap at *;rw[List.map_append];exact this
 .rcases h1.2 with h3|h3
  .cases h3
  .exact fun e=>h3 e.symm
end
theorem zdj{P:Prop}(h:P:=by
 clear T;go_simp;exact hK _ (.refl w)):P:=h
theorem zar{P:Prop}(h:P:=by
 have e3:=T 3 _ rfl;have q1:=(aF.o.trans hx).cell A0.o;have q2:=(aF.o.trans hx).cell A1.o;have q3:=(aF.o.trans hx).cell A2.o;exact zdj):P:=h
theorem zaT{P:Prop}(h:P:=by
 have cC:=T 10 _ rfl;exact zdj):P:=h
theorem zaU{P:Prop}(h:P:=by
 have dB:=T 13 _ rfl;exact zdj):P:=h
theorem zaX{P:Prop}(h:P:=by
 have e8:=T 8 _ rfl;exact zdj):P:=h
theorem zbk{P:Prop}(h:P:=by
 go_wp2_with fail
 go_roundw
 case rel=>first|exact⟨i+1,aC,a4,by omega,by go_num,aA,aD,aE,aQ,aP⟩|((repeat apply Exists.intro);exact⟨⟨i+1,aC,a4,by omega,by go_num,aA,aD,aE,aQ,aP⟩,rfl⟩)
 case measure=>simp[intOf];omega):P:=h
theorem zbR{P:Prop}(h:P:=by
 go_wp2_with fail
 go_ret2;exact⟨⟨[],none,0,ca,cc,rfl,a,dN.o,AR _,JC.nil dR.o⟩,aY.o.trans cI.o⟩):P:=h
theorem zb4{P:Prop}(h:P:=by
 rw[hs]at HR ⊢;have HS:=Aa hs;clear hs aJ aT aK bA aH;go_wp2_with fail
 go_ret2;exact HR.o):P:=h
theorem zco{P:Prop}(h:P:=by
 go_region
 all_goals go_wp2_with fail
 all_goals go_meet
 all_goals exact⟨_,bB⟩):P:=h
theorem zcE{P:Prop}(h:P:=by
 rintro e w'⟨g7,rfl,ho,h5⟩;exact hK _ _ h5 ⟨g7,rfl,ho.mono hx.size⟩):P:=h
theorem zcG{P:Prop}(h:P:=by
 have q1:=aG.o.1;have q2:=aG.o.2.1;exact zdj):P:=h
theorem zcH{P:Prop}(h:P:=by
 have q1:=aX.o.1;have q2:=aX.o.2.1;exact zdj):P:=h
theorem UJ{p m:Nat}{ml:List Int}{mv:Value}(w:World)(hf:Hh p m ml)(hF:Hr p m (lw ml))(bV:Aj w mv ml)(N R:Nat)(hN:N<=256)(hR:R<=256)(a:Nat->Nat->Int)(bE:Q4 p m R N a)(v:Value)(hv:B9 w v (Au N R a)):
  Calls Tryz.prog 195 #[.agg #[p,m,mv],v,N] w fun r w'=>(∃piv pa pc la lc a',r= .returned (.tuple #[.slice la R lc,.slice pa piv.length pc])/\Hk p m ml N R a a' piv/\Aj w' (.slice pa piv.length pc) (pI piv)/\R<=lc/\∀k,k<=R->JC w.heap.size w' (.slice la k lc) (Au N k a'))/\Ex w w':=by
 obtain⟨a0,a1,a2,ea,eF⟩:=AD w p m mv;have p2:=hf.p2;have m1:=hf.m1;have dY:0<p^m:=Nat.pow_pos ac;have dQ:=Aa (UL _ (Au N R a) v (hv.ex ea) (by rw[AL];omega) (fun r hr=>by
  unfold Au at hr;obtain⟨i,_,rfl⟩:=List.mem_map.1 hr;rw[AJ];omega))
 obtain⟨va,vc,cW,v1,v2,-⟩:=hv.open;rw[AL]at cW v1;subst cW;obtain⟨HF,cL,dI,aY⟩:=Eq (And.intro hf hF) bV bE ea;obtain⟨ma,mc,rfl,-,-,-⟩:=bV.open;obtain⟨B,hB⟩:=nA w.heap.size;rw[hB]at a0 a1 a2 eF;clear hf hF bV hv bE ea;go_enter Tryz.func195,Tryz.ntmps195
 go_wp2_with fail
 try simp only[hB]
 have HBW:=Aa hB;clear hB;generalize w.alloc (.cells #[p,m,.slice ma ml.length mc] 24)=w1 at *;have A0:=Aa a0;have A1:=Aa a1;have A2:=Aa a2;clear a0 a1 a2;refine dQ.o.mono ?_;rintro e w2⟨cv,vl,rfl,hm,cV⟩;have cI:=Aa cV;have HM:=Aa hm;clear cV hm dQ;by_cases hR0:R=0
 .subst hR0;obtain⟨ca,cc,bY⟩:=Ad HM.o.cvo;subst bY;have eI:=Aa (show B9 w2 (.slice ca 0 cc) (Au N 0 a) from by have:=HM.o.msl;exact this);obtain⟨_,c9,e9,l9,l8,-⟩:=eI.o.open;have dR:=Aa (show cc<=maxLen from by injection e9 with _ _ h3;rw[h3];exact l8);have dN:=Aa (show Hk p m ml N 0 a a [] from⟨0,ac,PV.init dI.o,.inl rfl,fun x=>Iff.rfl⟩);have cX:(Au N 0 a).length=0:=AL N 0 a;rw[cX];clear e9 l9 l8 cX;go_wp2_with fail
  go_loop [9,10,11] (fun pv cH c'=>pv= .slice none 0 0/\cH= .int .i64 ((0:Nat):Int)/\∃c:Nat,c<=N/\c'= .int .i64 c) (fun _ _ c'=>N-(intOf c').toNat)
  case atStart=>exact⟨rfl,rfl,0,ac,rfl⟩
  case round=>
   obtain⟨rfl,rfl,c,hc,rfl⟩:=hrel;by_cases hcN:c<N
   .have k1:decide ((0:Nat)<0)=false:=by simp
    exact zbR
   .have k1:decide (c<N)=false:=by simpa using hcN
    exact zbR
 .obtain⟨g,cap,bY,bX⟩:=M9.of HM.o ac;subst bY;obtain⟨base,bG⟩:∃b,w1.heap.size=b:=⟨_,rfl⟩;rw[bG]at bX;obtain⟨aA,aD,aE,aF⟩:=Eq (show MA w1 w2 base g R N cap (fun i=>vl.getD i undef) a [] (.slice none 0 0) from⟨bX,World.ownsRow_nil _ _ _ _,by simp[Value.ownBlock],fun i hi=>(AT.nil _).symm,ac,cI.o⟩) (show PV p m R N a [] 0 from PV.init dI.o) (show ∀x,Cb p m ml N R a x↔Cb p m ml N R a x from fun x=>Iff.rfl) (Ex.refl w1);clear bX HM;go_wp2_with fail
  go_loopw [9,10,11] (fun pv cH c' wr=>∃(c:Nat) (piv:List Nat) (vals:Nat->Value) (a1:Nat->Nat->Int),c<=N/\c'= .int .i64 c/\cH= .int .i64 piv.length/\Hia (MA w1 wr base g R N cap vals a1 piv pv)/\Hia (PV p m R N a1 piv c)/\Hia (∀x,Cb p m ml N R a1 x↔Cb p m ml N R a x)) (fun _ _ c' _=>N-(intOf c').toNat)
  case atStart=>exact⟨0, [],_,a,ac,rfl,rfl,aA,aD,Aa (fun x=>Iff.rfl)⟩
  case round=>
   clear aA aD aE;obtain⟨c,piv,vals,a1,hc,rfl,rfl,aK,bA,aH⟩:=hrel;obtain⟨pa,pc,bU⟩:=Ad aK.o.po;subst bU;have aT:=bA.o.le;obtain⟨eE,eD⟩:=aK.o.em.o.caps;unfold maxLen at eD;have aJ:=Aa (show(piv.length=R∨c=N)->(∃aL cQ cP la lc a',Ending.returned (.tuple #[.slice (some (g,0)) R cap,.slice pa piv.length pc])= .returned (.tuple #[.slice la R lc,.slice cQ aL.length cP])/\Hk p m ml N R a a' aL/\Aj wr (.slice cQ aL.length cP) (pI aL)/\R<=lc/\∀k,k<=R->JC w.heap.size wr (.slice la k lc) (Au N k a'))/\Ex w wr from fun h=>⟨⟨piv,pa,pc,_,cap,a1,rfl,⟨c,hc,bA.o,h,aH.o⟩,by
    have:=Sl.own aK.o.po;unfold Aj;rw[RH];exact this,eE,fun k hk=>aK.o.em.mslF (by have h1:=aK.o.hb;have h2:=aY.o.size;omega) hk⟩,aY.o.trans aK.o.ex⟩)
   obtain⟨s,hs⟩:=nA piv.length;by_cases hcN:c<N
   .by_cases hsR:s<R
    .have k1:decide (s<R)=true:=by simpa using hsR
     have HS:=Aa hs;have aA:=Aa (show MA w1 wr base g R N cap vals a1 piv (.slice pa s pc) from by rw[<-hs];exact aK.o);rw[hs];clear hs aT aJ;have aD:=Aa bA.o;have aE:=Aa aH.o;clear aK bA aH;go_wp2_with fail
     go_loop [12] (fun k'=>∃(k:Nat),s<=k/\k<=R/\k'= .int .i64 k/\Hia (∀j,s<=j->j<k->a1 j c=0)) (fun k'=>R-(intOf k').toNat)
     case atStart=>exact⟨s,ac,ac,rfl,Aa (fun j h1 h2=>ac)⟩
     case round=>
      obtain⟨k,bW,dZ,rfl,hz⟩:=hrel;by_cases hkR:k<R
      .obtain⟨gk,ck,bS,cY,k3,k4⟩:=aA.o.em.at ac hkR hcN;have dC:=aA.o.em.o.cell hkR;rw[bS]at dC;unfold maxLen at k4;obtain⟨y,hy⟩:=nA (a1 k c);rw[hy]at cY;have i1:(0:Int)<=(k:Int):=by omega
       have i2:(k:Int)<(R:Int):=ac;have i3:(0:Int)<=(c:Int):=ac;have i4:(c:Int)<(N:Int):=ac;have b1:decide (k<R)=true:=by simpa using hkR
       by_cases aO:y=0
       .subst aO;have HZ:=Aa (show ∀j,s<=j->j<k+1->a1 j c=0 from fun j h1 h2=>by
         by_cases e:j=k
         .subst e;exact hy
         .exact hz.o j h1 ac)
        clear hy;go_wp2_with fail
        go_round
        case rel=>exact⟨k+1,ac,ac,by go_num,HZ⟩
        case measure=>simp[intOf];omega
       .have kb:(y==0)=false:=by simpa using aO
        have HY:=Aa (And.intro hy aO);have b2:((k:Int)==(R:Int))=false:=aq;have b3:(k==R)=false:=aq;have HKR:=Aa (show s<R/\k<R/\s<=k from⟨hsR,hkR,bW⟩);have dE:=Aa bS;clear hy aO bS k3 k4;have cE:=aA.o.em.o.cell hsR;have eB:=aA.o.em.o.frz s;have dA:=aA.o.em.o.frz k;have j1:(0:Int)<=(s:Int):=ac;have j2:(s:Int)<(R:Int):=ac;have bB:=Aa ((aA.o.swp hsR hkR).later (Ex.refl _).drew);rw[dE.o]at bB;go_upto_region 11 with fail
        clear cY
        go_cut [48] from 48 to 61 (fun _ wx=>∃aN,Hia (MA w1 wx base g R N cap aN (DK a1 s k) piv (.slice pa s pc)))
        case first=>
         by_cases hsk:s=k
         .subst hsk;rw[dE.o]at bB;clear cE dA;exact zco
         .obtain⟨gs,cs,aZ,-⟩:=aA.o.em.at ac hsR hcN;rw[aZ]at cE bB;have n1:¬s=k:=hsk;have n2:¬k=s:=fun e=>hsk e.symm;clear aZ;exact zco
        case rest=>
         obtain⟨aN,bF⟩:=hcut;obtain⟨aA,aD,aE,bJ⟩:=Eq bF.o (show PV p m R N (DK a1 s k) piv c from by have:=aD.o.swp (k:=k) (by rw[HS.o];exact bW) hkR;rw[HS.o]at this;exact this) (show ∀x,Cb p m ml N R (DK a1 s k) x↔Cb p m ml N R a x from fun x=>(Cb.swp hsR hkR).trans (aE.o x)) (show DK a1 s k s c=a1 k c from by unfold DK;rw[if_pos rfl]);clear bF bB cE eB dA dC i1 i2;obtain⟨a2,cZ⟩:=nA (DK a1 s k);rw[cZ]at aA aD aE bJ;clear cZ;obtain⟨gs,cs,aZ,bZ,k3,k4⟩:=aA.o.em.at ac hsR hcN;have cD:=aA.o.em.o.cell hsR;rw[aZ]at cD;unfold maxLen at k4;have cN:=Aa cD;rw[bJ.o,HY.o.1]at bZ;have dV:=Aa bZ;have hy:=aD.o.rng s hsR c hcN;rw[bJ.o,HY.o.1]at hy;obtain⟨yn,rfl⟩:∃yn:Nat,y=yn:=⟨y.toNat,ac⟩;have bR:yn<p^m:=by omega
         have bQ:1<=yn:=by have:=HY.o.2;omega
         have aG:=Aa (show(0:Int)<=(s:Int)/\(s:Int)<(R:Int)/\(0:Int)<=(c:Int)/\(c:Int)<(N:Int)/\s<R from⟨ac,ac,ac,ac,hsR⟩);have cM:=Aa (fun (w':World) (h:Ex wc w')=>by
          have:=Wf (mv:= .slice ma ml.length mc) w' HF.o.1 (cL.o.ex (aY.o.trans (aA.o.ex.trans h))) (yn:Int);rw[AA bR]at this;exact this)
         have bL:=LB p2 m1 HF.o.2 bQ bR;have bM:=Kk (ml:=ml) dY yn;obtain⟨z,cT⟩:=nA (Ef p m ml yn);rw[cT]at cM bL bM;have dG:=Aa (fun (w':World) (h:Ex wc w')=>by
          have:=Wd w' p m ml (.slice ma ml.length mc) HF.o.1 (cL.o.ex (aY.o.trans (aA.o.ex.trans h))) (z:Int) N ac (a2 s) _ ((aA.o.em.isl hsR).ex h);rw[AA bM,aZ]at this;exact this)
         have cS:1<=z:=by
          rcases Nat.eq_zero_or_pos z with e|e
          .subst e;rw[Be ac]at bL;omega
          .omega
         have aF:=Aa aA.o.ex;have eG:=Aa (show ∀f:Nat->Int,f c=(yn:Int)->BT p m ml z f c=1 from fun f hf=>by
          unfold BT;rw[hf,AA bR,A5,bL];rfl)
         have dD:=Aa (And.intro cS bM);have dT:=Aa (show a2 s c=(yn:Int) from by rw[bJ.o,HY.o.1]);clear bL cT aZ k3 k4 hy hz bW dZ hkR cS bM bJ HY;go_upto_if 69 with fail
         go_cut [70] from 69 to 87 (fun _ wx=>∃aB a3,Hia (MA w1 wx base g R N cap aB a3 piv (.slice pa s pc))/\Hia (PV p m R N a3 piv c)/\Hia (∀x,Cb p m ml N R a3 x↔Cb p m ml N R a x)/\Hia (a3 s c=1))
         case first=>
          by_cases hy1:yn=1
          .have kb:((yn:Int) !=1)=false:=by simp[hy1]
           subst hy1;have bC:=Aa (show a2 s c=1 from dT.o);go_wp2_with fail
           go_meet
           exact⟨_,a2,aA,aD,aE,bC⟩
          .have kb:((yn:Int) !=1)=true:=by simp;omega
           have hy2:¬((yn:Int)=1):=ac;clear hy1;go_upto_region 13 with fail
           refine Iq (fun k=>([.slice (some (g,0)) R cap,.int .i64 (s:Int),.agg #[(p:Int),(m:Int),.slice ma ml.length mc],.agg #[(p:Int),(m:Int),.slice ma ml.length mc],.slice (some (g,0)) R cap,.int .i64 (s:Int),.pointer (some (g,s)),.slice (some (gs,0)) N cs,.int .i64 (c:Int),.pointer (some (gs,c)),.int .i64 (yn:Int),.int .i64 (z:Int),.slice (some (g,0)) R cap,.int .i64 (s:Int),.pointer (some (g,s)),.slice (some (gs,0)) N cs,undef,.pointer (some (g,s))]:List Value).getD k undef) 16 18 (fun v w'=>∃g7,v= .slice (some ⟨g7,0,none⟩) N N/\AF w' wc.heap.size 3 g7 N (iv (BT p m ml z (a2 s)))) (fun v w'=>∃aB,Hia (MA w1 w' base g R N cap aB (Ay a2 s (BT p m ml z (a2 s))) piv (.slice pa s pc))) (fun v wa wb ⟨g7,h1,h2⟩ hx=>⟨g7,h1,h2.ex hx⟩) ah ah ah ?_ (fun v k=>([.slice (some (g,0)) R cap,.int .i64 (s:Int),.agg #[(p:Int),(m:Int),.slice ma ml.length mc],.agg #[(p:Int),(m:Int),.slice ma ml.length mc],.slice (some (g,0)) R cap,.int .i64 (s:Int),.pointer (some (g,s)),.slice (some (gs,0)) N cs,.int .i64 (c:Int),.pointer (some (gs,c)),.int .i64 (yn:Int),.int .i64 (z:Int),.slice (some (g,0)) R cap,.int .i64 (s:Int),.pointer (some (g,s)),.slice (some (gs,0)) N cs,v,.pointer (some (g,s))]:List Value).getD k undef) (fun _=>rfl) ?_
           .simp only[AG];refine⟨?_,?_,?_,?_,?_,?_,?_,?_,?_,?_,?_,?_,?_,?_,?_,?_,?_,?_,?_,trivial⟩
            all_goals first|refine I4.go ae fun a w T hx K hK=>?_|refine I4.ap ae fun a w T hx K hK=>?_|refine I4.st ae fun a w T hx K v hA hv hK=>?_
            .exact zaX
            .exact zaT
            .exact zar
            .exact zar
            .exact zaX
            .exact zaT
            .have e74:=T 74 _ rfl;have e75:=T 75 _ rfl;exact zcG
            .have e76:=T 76 _ rfl;have q1:=hx.cell cN.o;exact zdj
            .have eC:=T 11 _ rfl;exact zdj
            .have e77:=T 77 _ rfl;have e78:=T 78 _ rfl;have q1:=aG.o.2.2.1;have q2:=aG.o.2.2.2;exact zdj
            .have e79:=T 79 _ rfl;have q1:=hx.cell dV.o;exact zdj
            .have e73:=T 73 _ rfl;have e80:=T 80 _ rfl;clear T;go_simp;refine(cM.o w hx).mono ?_;rintro e w'⟨rfl,h5⟩;exact hK _ h5
            .exact zaX
            .exact zaT
            .have e82:=T 82 _ rfl;have e83:=T 83 _ rfl;exact zcG
            .have e84:=T 84 _ rfl;have q1:=hx.cell cN.o;exact zdj
            .have e72:=T 72 _ rfl;have e81:=T 81 _ rfl;have e85:=T 85 _ rfl;clear T;go_simp;refine(dG.o w hx).mono ?_;exact zcE
            .have e70:=T 70 _ rfl;have e71:=T 71 _ rfl;exact zcG
            .have e87:=T 87 _ rfl;have e86:=hv 86 _ rfl rfl;clear T;obtain⟨g7,rfl,ho⟩:=hA;have H5:=(aA.o.later hx);have aU:=aA.o.fresh (b':=0) (u:= .slice (some ⟨g7,0,none⟩) N N) ho;have aI:=H5.set (i:=s) (u:= .slice (some ⟨g7,0,none⟩) N N) (f:=BT p m ml z (a2 s)) (by have h:=Bl ho (show base<=wc.heap.size from by have:=aA.o.em.o.lt;omega);rw[Cw];exact h) aU.1 aU.2;have q1:=H5.em.o.cell aG.o.2.2.2.2;have q2:=H5.em.o.frz s;have cJ:=Aa aI;clear ho H5 aU aI;go_simp;exact hK _ ⟨_,cJ⟩
           .intro v w9 hF;obtain⟨aB,bP⟩:=hF;have bO:=Aa (show PV p m R N (Ay a2 s (BT p m ml z (a2 s))) piv c from by have:=aD.o.scl (ml:=ml) (k:=z) ac (by rw[HS.o];exact hsR);rw[HS.o]at this;exact this);have bN:=Aa (show ∀x,Cb p m ml N R (Ay a2 s (BT p m ml z (a2 s))) x↔Cb p m ml N R a x from fun x=>(Cb.scl p2 m1 HF.o.2 hsR dD.o.1 dD.o.2).trans (aE.o x));have bC:=Aa (show Ay a2 s (BT p m ml z (a2 s)) s c=1 from by rw[Ab];exact eG.o _ dT.o);simp only[Cm,Act.put,List.setIfInBounds_toArray,List.set_cons_zero,List.set_cons_succ];go_wp2_with fail
            go_meet
            exact⟨aB,_,bP,bO,bN,bC⟩
         case rest=>
          obtain⟨aB,a3,bP,bO,bN,bC⟩:=hcut;clear dG cM cN dV cD bZ aF aA aD aE;go_wp2_with fail
          go_loopw [13] (fun i' wr=>∃(i:Nat) (aC:Nat->Value) (a4:Nat->Nat->Int),i<=R/\i'= .int .i64 i/\Hia (MA w1 wr base g R N cap aC a4 piv (.slice pa s pc))/\Hia (PV p m R N a4 piv c)/\Hia (∀x,Cb p m ml N R a4 x↔Cb p m ml N R a x)/\Hia (a4 s c=1)/\Hia (∀j,j<i->j≠s->a4 j c=0)) (fun i' _=>R-(intOf i').toNat)
          case atStart=>exact⟨0,aB,a3,ac,rfl,bP,bO,bN,bC,Aa (fun j h=>ac)⟩
          case round=>
           clear bP bO bN bC;obtain⟨i,aC,a4,hi,rfl,aA,aD,aE,aQ,bH⟩:=hrel;by_cases hiR:i<R
           .have b1:decide (i<R)=true:=by simpa using hiR
            by_cases his:i=s
            .have b2:((i:Int) !=(s:Int))=false:=by simp;omega
             have b3:(i !=s)=false:=aq;have aP:=Aa (show ∀j,j<i+1->j≠s->a4 j c=0 from fun j h1 h2=>bH.o j ac h2);clear his;exact zbk
            .have b2:((i:Int) !=(s:Int))=true:=by simp;omega
             have b3:(i !=s)=true:=aq;have n1:¬((i:Int)=(s:Int)):=ac;obtain⟨gi,ci,bT,cA,k3,k4⟩:=aA.o.em.at ac hiR hcN;have cG:=aA.o.em.o.cell hiR;rw[bT]at cG;unfold maxLen at k4;obtain⟨y,hy⟩:=nA (a4 i c);rw[hy]at cA;have i1:(0:Int)<=(i:Int):=bu;have i2:(i:Int)<(R:Int):=ac;have i3:(0:Int)<=(c:Int):=ac;have i4:(c:Int)<(N:Int):=ac;by_cases aO:y=0
             .subst aO;have b4:((0:Int) !=0)=false:=by simp
              have aP:=Aa (show ∀j,j<i+1->j≠s->a4 j c=0 from fun j h1 h2=>by
               by_cases e:j=i
               .subst e;exact hy
               .exact bH.o j ac h2)
              clear hy his;exact zbk
             .have kb:(y !=0)=true:=by simpa using aO
              have cU:=aD.o.rng i hiR c hcN;rw[hy]at cU;obtain⟨aR,rfl⟩:∃n:Nat,y=n:=⟨y.toNat,ac⟩;have bD:aR<p^m:=bu;obtain⟨cB,cF,aS,-,-,k5⟩:=aA.o.em.at ac hsR hcN;have aW:=aA.o.em.o.cell hsR;rw[aS]at aW;obtain⟨cO,dW,dU,aX,aF⟩:=Of cG cA aW (show(0:Int)<=(i:Int)/\(i:Int)<(R:Int)/\i<R from⟨ac,ac,hiR⟩) aA.o.ex;have cK:=Aa (fun (w':World) (h:Ex wr w')=>by
               have:=We (mv:= .slice ma ml.length mc) w' HF.o.1 (aR:Int);rw[AA bD]at this;exact this)
              have bK:=Dg (m:=m) (show 1<=p by omega) aR;have dM:=Aa (CR (m:=m) (show 1<=p by omega) aR);obtain⟨z4,cR⟩:∃z,CI p m aR=z:=⟨_,rfl⟩;rw[cR]at cK bK dM;have bI:=Aa (fun (w':World) (h:Ex wr w')=>(Rz p m ml (.slice ma ml.length mc) w' HF.o.1 (cL.o.ex (aY.o.trans (aA.o.ex.trans h))) (il N (a4 i)) (il N (a4 s)) _ _ ((aA.o.em.isl hiR).ex h) ((aA.o.em.isl hsR).ex h) (z4:Int) (by rw[AJ,AJ];omega) (by rw[AJ];omega)));have eK:=Aa (fun (w':World) (h:Ex wr w')=>show Calls Tryz.prog 245 #[.agg #[p,m,.slice ma ml.length mc],.slice (some (gi,0)) N ci,(z4:Int),.slice (some (cB,0)) N cF] w' fun r w''=>∃g7,r= .returned (.slice (some ⟨g7,0,none⟩) N N)/\AF w'' w'.heap.size 3 g7 N (iv (Cn p m ml (a4 i) z4 (a4 s)))/\Ex w' w'' from by
               have:=bI.o w' h;rw[bT,aS]at this;refine this.mono fun r w'' ⟨g7,h1,h2,h3⟩=>?_;rw[AJ]at h1 h2;refine⟨g7,h1,h2.icongr fun j hj=>?_,h3⟩;rw[Yb ac hj,AA bK])
              have aP:=Aa (show ∀j,j<i+1->j≠s->Ay a4 i (Cn p m ml (a4 i) z4 (a4 s)) j c=0 from fun j h1 h2=>by
               by_cases e:j=i
               .subst e;rw[Ab];unfold Cn;rw[aQ.o,if_neg ae,hy,AA bD,(show Av (p^m) 1=1 from AA (q:=p^m) (x:=1) (Bw p2 m1)),Bz p2 m1 bK,dM.o];rfl
               .rw[Ae _ _ e];exact bH.o j ac h2)
              have dS:=Aa (show Ay a4 i (Cn p m ml (a4 i) z4 (a4 s)) s c=1 from by rw[Ae _ _ (fun e=>his e.symm)];exact aQ.o);have dL:=Aa (show PV p m R N (Ay a4 i (Cn p m ml (a4 i) z4 (a4 s))) piv c from by have:=aD.o.add (ml:=ml) (k:=z4) ac (by rw[HS.o];exact hsR) hiR (by rw[HS.o];exact his);rw[HS.o]at this;exact this);have dH:=Aa (show ∀x,Cb p m ml N R (Ay a4 i (Cn p m ml (a4 i) z4 (a4 s))) x↔Cb p m ml N R a x from fun x=>(Cb.add p2 hsR hiR his).trans (aE.o x));clear bT aS cR bK hy aO his cU k5 aW bI;go_upto_region 18 with fail
              refine Iq (fun k=>([.slice (some (g,0)) R cap,.int .i64 (i:Int),.agg #[(p:Int),(m:Int),.slice ma ml.length mc],.slice (some (g,0)) R cap,.int .i64 (i:Int),.pointer (some (g,i)),.slice (some (gi,0)) N ci,.agg #[(p:Int),(m:Int),.slice ma ml.length mc],.slice (some (g,0)) R cap,.int .i64 (i:Int),.pointer (some (g,i)),.slice (some (gi,0)) N ci,.int .i64 (c:Int),.pointer (some (gi,c)),.int .i64 (aR:Int),.int .i64 (z4:Int),.slice (some (g,0)) R cap,.int .i64 (s:Int),.pointer (some (g,s)),.slice (some (cB,0)) N cF,undef,.pointer (some (g,i))]:List Value).getD k undef) 20 22 (fun v w'=>∃g7,v= .slice (some ⟨g7,0,none⟩) N N/\AF w' wr.heap.size 3 g7 N (iv (Cn p m ml (a4 i) z4 (a4 s)))) (fun v w'=>∃aB,Hia (MA w1 w' base g R N cap aB (Ay a4 i (Cn p m ml (a4 i) z4 (a4 s))) piv (.slice pa s pc))) (fun v wa wb ⟨g7,h1,h2⟩ hx=>⟨g7,h1,h2.ex hx⟩) ah ah ah ?_ (fun v k=>([.slice (some (g,0)) R cap,.int .i64 (i:Int),.agg #[(p:Int),(m:Int),.slice ma ml.length mc],.slice (some (g,0)) R cap,.int .i64 (i:Int),.pointer (some (g,i)),.slice (some (gi,0)) N ci,.agg #[(p:Int),(m:Int),.slice ma ml.length mc],.slice (some (g,0)) R cap,.int .i64 (i:Int),.pointer (some (g,i)),.slice (some (gi,0)) N ci,.int .i64 (c:Int),.pointer (some (gi,c)),.int .i64 (aR:Int),.int .i64 (z4:Int),.slice (some (g,0)) R cap,.int .i64 (s:Int),.pointer (some (g,s)),.slice (some (cB,0)) N cF,v,.pointer (some (g,i))]:List Value).getD k undef) (fun _=>rfl) ?_
              .simp only[AG];refine⟨?_,?_,?_,?_,?_,?_,?_,?_,?_,?_,?_,?_,?_,?_,?_,?_,?_,?_,?_,?_,?_,?_,?_,trivial⟩
               all_goals first|refine I4.go ae fun a w T hx K hK=>?_|refine I4.ap ae fun a w T hx K hK=>?_|refine I4.st ae fun a w T hx K v hA hv hK=>?_
               .exact zaX
               .exact zaU
               .exact zar
               .exact zaX
               .exact zaU
               .have e110:=T 110 _ rfl;have e111:=T 111 _ rfl;exact zcH
               .have e112:=T 112 _ rfl;have q1:=hx.cell cO.o;exact zdj
               .exact zar
               .exact zaX
               .exact zaU
               .have e115:=T 115 _ rfl;have e116:=T 116 _ rfl;exact zcH
               .have e117:=T 117 _ rfl;have q1:=hx.cell cO.o;exact zdj
               .have eC:=T 11 _ rfl;exact zdj
               .have e118:=T 118 _ rfl;have e119:=T 119 _ rfl;have q1:=aG.o.2.2.1;have q2:=aG.o.2.2.2.1;exact zdj
               .have e120:=T 120 _ rfl;have q1:=hx.cell dW.o;exact zdj
               .have e114:=T 114 _ rfl;have e121:=T 121 _ rfl;clear T;go_simp;refine(cK.o w hx).mono ?_;rintro e w'⟨rfl,h5⟩;exact hK _ h5
               .exact zaX
               .exact zaT
               .have e123:=T 123 _ rfl;have e124:=T 124 _ rfl;exact zcG
               .have e125:=T 125 _ rfl;have q1:=hx.cell dU.o;exact zdj
               .have e109:=T 109 _ rfl;have e113:=T 113 _ rfl;have e122:=T 122 _ rfl;have e126:=T 126 _ rfl;clear T;go_simp;refine(eK.o w hx).mono ?_;exact zcE
               .have e107:=T 107 _ rfl;have e108:=T 108 _ rfl;exact zcH
               .have e128:=T 128 _ rfl;have e127:=hv 127 _ rfl rfl;clear T;obtain⟨g7,rfl,ho⟩:=hA;have H5:=(aA.o.later hx);have aU:=aA.o.fresh (b':=0) (u:= .slice (some ⟨g7,0,none⟩) N N) ho;have aI:=H5.set (i:=i) (u:= .slice (some ⟨g7,0,none⟩) N N) (f:=Cn p m ml (a4 i) z4 (a4 s)) (by have h:=Bl ho (show base<=wr.heap.size from by have:=aA.o.em.o.lt;omega);rw[Cw];exact h) aU.1 aU.2;have q1:=H5.em.o.cell aX.o.2.2;have q2:=H5.em.o.frz i;have cJ:=Aa aI;clear ho H5 aU aI;go_simp;exact hK _ ⟨_,cJ⟩
              .intro v w9 hF;obtain⟨aM,dP⟩:=hF;clear cG cA cO dW dU cK;simp only[Cm,Act.put,List.setIfInBounds_toArray,List.set_cons_zero,List.set_cons_succ];go_wp2_with fail
               go_roundw
               case rel=>first|exact⟨i+1,aM,_,ac,by go_num,dP,dL,dH,dS,aP⟩|((repeat apply Exists.intro);exact⟨⟨i+1,aM,_,ac,by go_num,dP,dL,dH,dS,aP⟩,rfl⟩)
               case measure=>simp[intOf];omega
           .obtain rfl:i=R:=by omega
            have b1:decide (i<i)=false:=ag;obtain⟨eH,eJ,dK,dF⟩:=Eq (show wr.ownsRow base 3 1 (.slice pa s pc) s (Ap (pI piv)) from by have:=aA.o.po;rw[HS.o]at this;exact this) (show base<=wr.heap.size from by have:=aA.o.em.o.lt;omega) (aD.o.done (by rw[HS.o];exact hsR) (by rw[HS.o];exact aQ.o) (fun j hj eA=>bH.o j hj (by rw[<-HS.o];exact eA))) (show(piv ++ [c]).length=s+1 from by rw[List.length_append,HS.o];rfl);clear aQ bH aD;go_wp2_with (at_builtin;refine Am _ rfl _ _ 22 rfl base 3 (.int .i64 0) 1 8 Tryz.underlying22 Az rfl ae _ s _ rfl eH.o [.int .i64 c] 3 _ rfl ag rfl aj ai ac eJ.o ?_)
            intro v2 w9 aV;have dO:=Aa (aA.o.app (by rw[HS.o];exact aV));obtain⟨xa,xc,dX⟩:=Ad aV.own;subst dX;clear aV aA;go_wp2_with fail
            go_roundw
            case rel=>first|exact⟨c+1,piv ++ [c],_,_,ac,by go_num,by rw[dF.o];go_num,dO,dK,aE⟩|((repeat apply Exists.intro);exact⟨⟨c+1,piv ++ [c],_,_,ac,by go_num,by rw[dF.o];go_num,dO,dK,aE⟩,rfl⟩)
            case measure=>simp[intOf];omega
      .obtain rfl:k=R:=by omega
       have dJ:=Aa (aD.o.none fun k' h1 h2=>hz.o k' (by rw[<-HS.o];exact h1) h2);have b1:decide (k<k)=false:=by simp
       have b2:((k:Int)==(k:Int))=true:=ag;go_wp2_with fail
       go_roundw
       case rel=>first|exact⟨c+1,piv,vals,a1,ac,by go_num,by rw[HS.o],aA,dJ,aE⟩|((repeat apply Exists.intro);exact⟨⟨c+1,piv,vals,a1,ac,by go_num,by rw[HS.o],aA,dJ,aE⟩,rfl⟩)
       case measure=>simp[intOf];omega
    .have k1:decide (s<R)=false:=by simpa using hsR
     have HR:=Aa (aJ.o (.inl ac));exact zb4
   .have k1:decide (c<N)=false:=by simpa using hcN
    have HR:=Aa (aJ.o (.inr ac));exact zb4
end Go.Proofs.YtehieobniamagaaGreat
