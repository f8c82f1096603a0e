/- Plain: compatible partial maps; a refutation is sound; the search finds the first map. -/
import Derived.Lib.SmallJoins
import Derived.Deep.Matrix
import Derived.Deep.Slices
import Derived.OpenShut
import Derived.ProofKit
import Derived.ChangeOld
import Derived.Test.YtehieobniamagaaGreatZa24
namespace Go.Proofs.YtehieobniamagaaGreat
open Go.RowKit
set_option linter.all false
set_option maxRecDepth 100000
set_option maxHeartbeats 2000000
section
variable {p m:Nat} {ml:List Int} {N:Nat}
variable {l1 l2:List (List Int)} {n:Nat} {tl sc:List Int}
end
section
variable {p m:Nat} {ml:List Int} {n:Nat} {l1 l2:List (List Int)} {pl sl:List Int}
end
section
variable {σ:Type} {step:σ->List Int->List Int->σ × Int} {tl sc:List Int}
end
section
variable {p m:Nat} {ml:List Int} {n:Nat} {l1 l2:List (List Int)} {pl sl:List Int}
end
section
variable {p m:Nat} {ml:List Int} {n:Nat} {l1 l2:List (List Int)} {pl sl tl sc:List Int} {nd:Nd}
variable {step:Nat × List Nd->List Int->List Int->(Nat × List Nd) × Int} {b:Nat}
end
theorem NY{p m:Nat}{ml:List Int}{N R R2:Nat}{a b a1 a2:Nat->Nat->Int}{aA piv2:List Nat}(hp:2<=p)(hm:1<=m)(aB:∀x,Ez p m ml N R a x↔Ez p m ml N R2 b x)(h1:OI p m ml N R a a1 aA)(h2:OI p m ml N R2 b a2 piv2):AL N aA.length a1=AL N piv2.length a2/\aA=piv2:=by
 obtain⟨c1,x1,y1,z1,s1⟩:=h1;obtain⟨c2,x2,y2,z2,s2⟩:=h2;obtain⟨e1,e2⟩:=Vd (ml:=ml) hp hm ⟨c1,x1,y1,z1⟩ ⟨c2,x2,y2,z2⟩ fun x=>((s1 x).trans (aB x)).trans (s2 x).symm;subst e1;refine⟨List.map_congr_left fun i hi=>List.map_congr_left fun j hj=>e2 i (List.mem_range.1 hi) j (List.mem_range.1 hj),rfl⟩
theorem JM{p m:Nat}{ml:List Int}{N R:Nat}{a:Nat->Nat->Int}{piv:List Nat}{c:Nat}(h:PV p m R N a piv c)(hc:c<=N)(hr:piv.length=R):OI p m ml N R a a piv:=⟨c,hc,h,.inl hr,fun x=>Iff.rfl⟩
theorem Cl{p m n:Int}{ml:List Int}{rows:List (List Int)}{e e':Int}(h:Ce p m ml n rows e)(h':Ce p m ml n rows e'):e=e':=by
 rcases h with⟨a,rfl⟩|⟨a,b,rfl⟩|⟨a,b,h⟩ <;> rcases h' with⟨a',rfl⟩|⟨a',b',rfl⟩|⟨a',b',h'⟩ <;> first|rfl|contradiction|skip
 rcases h with⟨c,rfl⟩|⟨c,pn,mn,N,piv,a1,rfl,rfl,rfl,hF,_,hE,rfl⟩ <;> rcases h' with⟨c',rfl⟩|⟨c',pn',mn',N',piv',a1',e1,e2,e3,hF',_,aB,rfl⟩ <;> first|rfl|contradiction|skip
 obtain rfl:pn'=pn:=ac;obtain rfl:mn'=mn:=ac;obtain rfl:N'=N:=ac;obtain⟨p1,m1,e1,e2,aA,_⟩:=hF;obtain rfl:p1=pn':=ac;obtain rfl:m1=mn':=ac;rw[(NY aA.p2 aA.m1 (fun _=>Iff.rfl) hE aB).1]
theorem SV{p m N q:Nat}{r:List Int}(hq:q<N)(h0:∀j,j<N->0<=r.getD j 0/\r.getD j 0<((p^m:Nat):Int))(h1:r.getD q 0=1)(h2:∀k,k<q->r.getD k 0=0):PV p m 1 N (AQ [r]) [q] (q+1) where
 le:=ag
 rng:=fun i hi j hj=>by
  obtain rfl:i=0:=ac;exact h0 j hj
 lt:=fun j q' h=>by
  rcases j with _|j
  .simp at h;omega
  .simp at h
 one:=fun j q' h=>by
  rcases j with _|j
  .simp at h;subst h;exact h1
  .simp at h
 zer:=fun j q' i h hi hne=>by
  rcases j with _|j
  .omega
  .simp at h
 tail:=fun i j h hi _=>by simp at h;omega
 lead:=fun j q' k h hk=>by
  rcases j with _|j
  .simp at h;subst h;exact h2 k hk
  .simp at h
 asc:=fun i j q' r' hij h h'=>by
  rcases j with _|j
  .omega
  .simp at h'
theorem Xz{N:Nat}{r:List Int}(h:r.length=N):il N (AQ [r] 0)=r:=by
 subst h;refine List.ext_getElem? fun j=>?_;by_cases hj:j<r.length
 .rw[AM hj,List.getElem?_eq_getElem hj];show some (r.getD j 0)=_
  rw[List.getD_eq_getElem?_getD,List.getElem?_eq_getElem hj];rfl
 .rw[List.getElem?_eq_none (by rw[AR];omega),List.getElem?_eq_none ac]
theorem N6{p m N q:Nat}{ml:List Int}{r:List Int}{e:Int}(hF:F5 p m ml)(hc:Dn p m ml N [r]=0)(hl:GK N=0)(hk:BR (p^m) N [r]=0)(hr:r.length=N)(hv:PV p m 1 N (AQ [r]) [q] (q+1))(hq:q<N)(h:Ce p m ml N [r] e):e=0:=by
 have aA:BY p m ml=0:=by
  apply Classical.byContradiction;intro h;unfold Dn at hc;rw[if_pos h]at hc;cases hc
 refine Cl h (.inr (.inr ⟨aA,hl,.inr ⟨hc,p,m,N, [q],AQ [r],rfl,rfl,rfl,hF,hk,JM hv ac rfl,?_⟩⟩));rw[if_pos];show [il N (AQ [r] 0)]= [r]
 rw[Xz hr]
def eC:AU:=⟨2,1, [],3, [[1,1,0]]⟩
theorem ZQ:F5 2 1 []:=⟨2,1,rfl,rfl,⟨ac,ac,ac,ae,rfl,by intro x hx;cases hx⟩,ae,(FM (p:=2) (m:=1) (ml:= []) ⟨ac,ac,ac,ae,rfl,by intro x hx;cases hx⟩ ae).2 (.inl rfl)⟩
theorem Uf:PV 2 1 1 3 (AQ [[1,1,0]]) [0] 1:=SV ac ae rfl ae
theorem Mq{e:Int}(h:Ce 2 1 [] 3 [[1,1,0]] e):e=0:=N6 (p:=2) (m:=1) (N:=3) ZQ ak ak ak rfl Uf ac h
theorem VE{q N:Nat}{rows:List (List Int)}(hN:N<=256)(hr:rows.length<=256)(h:∀r∈rows,r.length=N/\Cs q r=0):BR q N rows=0:=by
 unfold BR;rw[if_neg ac,if_pos (List.all_eq_true.2 fun r hr=>by simp[(h r hr).1]),if_pos (List.all_eq_true.2 fun r hr=>by simp[(h r hr).2])]
theorem TI{p m:Nat}{ml pl ul:List Int}{fr N:Nat}{x:List Int}(h:B6 p m ml pl ul fr N):Cs (p^m) (il N (Kc p m ml pl ul fr x N))=0:=QJ fun y hy=>by
 obtain⟨i,hi,rfl⟩:=List.getElem_of_mem hy;rw[AR]at hi;obtain⟨z,h1,h2⟩:=VS h (x:=x) i hi;rw[List.getD_eq_getElem?_getD,List.getElem?_eq_getElem (by rw[AR];exact hi)]at h1;have aA:(il N (Kc p m ml pl ul fr x N))[i]'(by rw[AR];exact hi)=z:=h1;rw[aA];omega
theorem Xy{p m:Nat}{ml pl ul:List Int}{fr N:Nat}{l1:List (List Int)}(h:B6 p m ml pl ul fr N):∀r∈Hn p m ml pl ul fr N l1 l1.length,r.length=N/\Cs (p^m) r=0:=fun r hr=>by
 unfold Hn at hr;obtain⟨x,_,rfl⟩:=List.mem_map.1 hr;exact⟨AR _ _,TI h⟩
theorem S9{p m:Nat}{ml pl ul:List Int}{fr N:Nat}{l1:List (List Int)}(hc:BY p m ml=0)(hl:l1.length<=256)(h:B6 p m ml pl ul fr N):Jr p m ml N (Hn p m ml pl ul fr N l1 l1.length)=0:=by
 have h1:Dn p m ml N (Hn p m ml pl ul fr N l1 l1.length)=0:=by
  unfold Dn;rw[if_neg (fun h=>h hc)];have e:(p:Int).toNat^(m:Int).toNat=p^m:=ag;rw[e];exact VE (by have:=h.n2;omega) (by rw[IN (Nat.le_refl _)];exact hl) (Xy h)
 unfold Jr;rw[if_neg (fun h=>h h1)];unfold GK;rw[if_neg (by have:=h.n1;have:=h.n2;omega)]
section
variable {p m:Nat} {ml:List Int} {n:Nat} {l1 l2:List (List Int)} {pl sl:List Int}
end
theorem Yf{p m N fr:Nat}{ml pl ul:List Int}{rows:List (List Int)}{b0:Nat}{r:Ending}{w':World}(h:Ym p m ml N rows pl ul fr b0 r w')(ho:Ce p m ml N rows 0)(aA:BF p m ml N pl ul fr=0):
  ∃(piv:List Nat) (a':Nat->Nat->Int) (rv v':Value),r= .returned (.tuple #[.agg #[.int .i64 p,.int .i64 m,v',.int .i64 N,rv],.int .i64 0])/\OI p m ml N (Hn p m ml pl ul fr N rows rows.length).length (AQ (Hn p m ml pl ul fr N rows rows.length)) a' piv/\Aj w' v' ml/\BT w' rv (AL N piv.length a'):=by
 obtain⟨e1,aB,h⟩:=h;obtain rfl:=Cl aB ho;have aC:YN p m ml pl ul fr N rows=Hn p m ml pl ul fr N rows rows.length:=by unfold YN;simp
 obtain⟨p2,m2,N2,f2,j1,j2,j3,j4,hf,aD,hM⟩:=Fm aA;obtain rfl:p=p2:=ac;obtain rfl:m=m2:=ac;obtain rfl:N=N2:=ac;obtain rfl:fr=f2:=ac;rcases h with⟨h,_⟩|⟨_,h,_⟩|⟨_,_,h⟩
 .exact absurd rfl h
 .exact absurd aA h
 .rw[aC]at h;rcases h with⟨h,_⟩|⟨_,pn,mn,N',piv,a',rv,v',e1,e2,e3,_,_,hr,hel,hv,hrv,_⟩
  .exact absurd (S9 aD (CH ho).1 hM) h
  .obtain rfl:p=pn:=by omega
   obtain rfl:m=mn:=ac;obtain rfl:N=N':=ac;exact⟨piv,a',rv,v',hr,hel,hv,hrv⟩
theorem S4{p m:Nat}{ml:List Int}(h:Li p m ml):CJ p m=((p^m:Nat):Int):=by
 unfold CJ;have h1:((p:Int)^(m:Int).toNat)=((p^m:Nat):Int):=ag;have h2:=h.p2;have h3:=h.m1;have h4:=h.m8;have h5:=h.q;rw[h1,if_pos ac]
theorem BT.vals{w:World}{v:Value}{rows:List (List Int)}(h:BT w v rows):∃us:List Value,Sl w v rows.length 1 us/\us.length=rows.length/\∀(i:Nat) (r:List Int) (u:Value),rows[i]?=some r->us[i]?=some u->Aj w u r:=by
 obtain⟨vals,h1,h2⟩:=h;exact⟨vals,h1,by have:=h1.1;omega,h2⟩
theorem RN(w:World)(B:Nat)(n:Int)(a:Option Addr)(l cap:Nat)(c0:w.cell? ⟨B,0,none⟩=some (.int .i64 n)):
  Calls Tryz.prog 176 #[.slice a l cap,.pointer (some ⟨B,0,none⟩)] w fun r w'=>r= .returned (.bool ((l:Int) !=n))/\∃q,w'=w.drewN q:=by
 go_enter Tryz.func176,Tryz.ntmps176
 go_wp2_with fail
 go_ret;exact⟨rfl,0,rfl⟩
theorem zbw{P:Prop}(h:P:=by
 clear ho;go_wp2_with (go_at_call 71;refine aD.o.mono ?_;rintro e w'⟨rfl,q,rfl⟩)
 go_ret;exact⟨Ag HP.o.symm,EX.o.drewN q⟩):P:=h
theorem zbP{P:Prop}(h:P:=by
 go_roundw
 case rel=>exact⟨k+1,by omega,by go_num,HA,aE⟩
 case measure=>simp[intOf];omega):P:=h
theorem Fq(w:World)(n:Int)(rows:List (List Int))(v:Value)(hv:BT w v rows):
  Calls Tryz.prog 124 #[.int .i64 n,v] w fun r w'=>r= .returned (.int .i64 (DA n rows))/\Ex w w':=by
 have HV:=Aa hv;obtain⟨a,cap,rfl,s1,s2,s3⟩:=hv.open;unfold maxLen at s2;have e0:Ex w (w.alloc (.cells #[.int .i64 n] 3)):=(Ex.refl _).alloc _;have c0:(w.alloc (.cells #[.int .i64 n] 3)).cell? ⟨w.heap.size,0,none⟩=some (.int .i64 n):=ag;have S3:=Aa (hv.ex e0).open;clear s3 hv;go_enter Tryz.func124,Tryz.ntmps124
 go_wp2_with fail
 generalize w.alloc (.cells #[.int .i64 n] 3)=w1 at *;refine(Gs w1 n).mono ?_;rintro e w2⟨rfl,rfl⟩;by_cases hd:n<1∨64<n
 .have hz:Ke n=4:=if_pos hd;have HP:=Aa (show DA n rows=4 from if_pos hd);exact zct
 .have hz:Ke n=0:=if_neg hd;have HG:=Aa (show DA n rows=Iw n rows from if_neg hd);rw[hz];have E0:=Aa e0;have C0:=Aa c0;clear hd hz e0 c0;go_wp2_with fail
  go_loopw [16] (fun k' wr=>∃(k:Nat),k<=rows.length/\k'= .int .i64 k/\Hia (∀(i:Nat) (r:List Int),i<k->rows[i]?=some r->Bv r=0)/\Hia (Ex w1 wr)) (fun k' _=>rows.length-(intOf k').toNat)
  case atStart=>exact⟨0,ac,rfl,Aa (fun i x h=>ac),Aa (Ex.refl _)⟩
  case round=>
   obtain⟨k,hk,rfl,aA,hx⟩:=hrel;by_cases hkn:k<rows.length
   .obtain⟨b,o,rfl,hc⟩:∃b o,a=some ⟨b,o,none⟩/\∀(i:Nat) (r:List Int),rows[i]?=some r->∃u,w1.cell? ⟨b,o+i,none⟩=some u/\Aj w1 u r:=by
     exact zbW
    obtain⟨r,aC⟩:∃r,rows[k]?=some r:=⟨_,List.getElem?_eq_getElem hkn⟩;obtain⟨u,c1,hu⟩:=hc k r aC;have c1:=hx.o.cell c1;have i1:(0:Int)<=(k:Int):=ac;have i2:(k:Int)<(rows.length:Int):=ac;have aF:=Aa (H5 wr r u (hu.ex hx.o));obtain⟨e,he⟩:=nA (Bv r);rw[he]at aF;by_cases h0:e=0
    .have HA:=Aa (show ∀(i:Nat) (s:List Int),i<k+1->rows[i]?=some s->Bv s=0 from fun i s hi hs=>by
      by_cases e2:i=k
      .subst e2;rw[aC]at hs;injection hs with hs;subst hs;rw[he,h0]
      .exact aA.o i s ac hs)
     subst h0;clear hc aC hu he aA;go_wp2_with (go_at_call 57;refine aF.o.mono ?_;rintro e w'⟨rfl,aB⟩;have aE:=Aa (hx.o.trans aB);clear aB)
     exact zbP
    .have hb:(e !=0)=true:=by simpa using h0
     have HP:=Aa (show DA n rows=e from by rw[HG.o,Oj aC (by rw[he];exact h0) (fun j s hj hs=>aA.o j s hj hs)];exact he);clear hc aC hu he aA h0;go_wp2_with (go_at_call 57;refine aF.o.mono ?_;rintro e w'⟨rfl,aB⟩;have aE:=Aa (hx.o.trans aB);clear aB)
     go_ret;exact⟨Ag HP.o.symm,E0.o.trans aE.o⟩
   .obtain rfl:k=rows.length:=by omega
    have aK:=Aa (FR (n:=n) fun j s hs=>aA.o j s (List.getElem?_eq_some_iff.1 hs).1 hs);have EX:=Aa (E0.o.trans hx.o);have c0:=hx.o.cell C0.o;obtain⟨us,aH,aL,aG⟩:=(HV.o.ex EX.o).vals;have aD:=Aa (Hy wr (.pointer (some ⟨w.heap.size,0,none⟩)) (.slice a rows.length cap) rows.length us aH (fun i=>((rows.getD i []).length:Int) !=n) fun q i u hu=>by
     have hi:i<rows.length:=by have:=(List.getElem?_eq_some_iff.1 hu).1;omega
     have aI:rows[i]?=some (rows[i]):=List.getElem?_eq_getElem hi;have hd:rows.getD i []=rows[i]:=by rw[List.getD_eq_getElem?_getD,aI];rfl
     rw[hd];obtain⟨ua,uc,rfl,_⟩:=(aG i _ u aI hu).open;exact RN _ w.heap.size n ua _ uc (((Ex.refl wr).drewN q).cell c0))
    have aJ:=Aa (show((List.range rows.length).any fun i=>((rows.getD i []).length:Int) !=n)=decide (∃r∈rows,(r.length:Int)≠n) from by
     rw[Bool.eq_iff_iff];simp only[List.any_eq_true,List.mem_range,decide_eq_true_eq,bne_iff_ne];constructor
     .exact zaA
     .rintro⟨x,hx,h⟩;obtain⟨i,hi,rfl⟩:=List.getElem_of_mem hx;exact⟨i,hi,by rw[List.getD_eq_getElem?_getD,List.getElem?_eq_getElem hi];exact h⟩)
    rw[aJ.o]at aD;clear aA aJ aH aL aG c0 hx;by_cases ho:∃r∈rows,(r.length:Int)≠n
    .have HP:=Aa (show DA n rows=10 from by rw[HG.o,aK.o,if_pos ho]);rw[decide_eq_true ho]at aD;exact zbw
    .have HP:=Aa (show DA n rows=0 from by rw[HG.o,aK.o,if_neg ho]);rw[decide_eq_false ho]at aD;exact zbw
def P6(p q:List Int):List Int:=p.map fun x=>q.getD x.toNat 0
def Sq(n:Nat):List Int:=li n DY
theorem Lr{n:Nat}{f g:Nat->Nat}(hf:∀i,i<n->f i<n):P6 (li n f) (li n g)=li n (An f g):=by
 apply List.ext_getElem?;intro i;unfold P6;by_cases hi:i<n
 .rw[List.getElem?_map,C9 hi,C9 hi];show some ((li n g).getD (f i:Int).toNat 0)=_
  rw[Int.toNat_natCast,List.getD_eq_getElem?_getD,C9 (hf i hi)];rfl
 .rw[List.getElem?_eq_none (by rw[List.length_map,CM];omega),List.getElem?_eq_none (by rw[CM];omega)]
def GP(rows:List (List Int)):List Int × Int:=
 if rows= [] then([],11) else if Iw (rows.getD 0 []).length rows≠0 then([],Iw (rows.getD 0 []).length rows) else(rows.foldl P6 (Sq (rows.getD 0 []).length),0)
def Zb(rows:List (List Int))(r:Ending)(w':World):Prop:=∃v,r= .returned (.tuple #[v,.int .i64 (GP rows).2])/\Aj w' v (GP rows).1
theorem Xg{v:Value}{e e':Int}(h:e=e'):Ending.returned (.tuple #[v,.int .i64 e])= .returned (.tuple #[v,.int .i64 e']):=by rw[h]
theorem IW{rows:List (List Int)}{l:List Int}{e:Int}{v:Value}{w':World}(h:GP rows=(l,e))(hv:Aj w' v l):Zb rows (.returned (.tuple #[v,.int .i64 e])) w':=⟨v,by rw[h],by rw[h];exact hv⟩
theorem Um{rows:List (List Int)}{n k:Nat}{f h:Nat->Nat}(hk:rows[k]?=some (li n h))(hf:A7 n f)(e:(rows.take k).foldl P6 (Sq n)=li n f):(rows.take (k+1)).foldl P6 (Sq n)=li n (An f h):=by
 rw[List.take_add_one,hk,List.foldl_append,e];exact Lr hf.lt
theorem Ka(w:World)(rows:List (List Int))(v:Value)(hv:BT w v rows):
  Calls Tryz.prog 47 #[v] w fun r w'=>Zb rows r w'/\Ex w w':=by
 obtain⟨a,cap,rfl,s1,s2,s3⟩:=hv.open;unfold maxLen at s2;have S3:=Aa s3;clear s3 hv;by_cases hnil:rows= []
 .have HP:=Aa (show GP rows=([],11) from if_pos hnil);have hb:((rows.length:Int)==0)=true:=by simp[hnil]
  have aS:(rows.length==0)=true:=by simp[hnil]
  clear hnil;go_enter Tryz.func47,Tryz.ntmps47
  go_wp2_with fail
  go_ret2;exact⟨IW HP.o (AF _),Ex.refl _⟩
 .have aL:=Aa hnil;have hlen:1<=rows.length:=by
   rcases rows with _|⟨r,rs⟩
   .exact absurd rfl hnil
   .simp
  have hb:((rows.length:Int)==0)=false:=aq;have aS:(rows.length==0)=false:=aq;obtain⟨b,o,rfl,hc⟩:=S3.o ac;have HC:=Aa hc;clear hnil hc S3;go_enter Tryz.func47,Tryz.ntmps47
  go_wp2_with fail
  go_loopw [15] (fun k' wr=>∃(k:Nat),k<=rows.length/\k'= .int .i64 k/\Hia (∀(i:Nat) (r:List Int),i<k->rows[i]?=some r->Bv r=0)/\Hia (Ex w wr)) (fun k' _=>rows.length-(intOf k').toNat)
  case atStart=>exact⟨0,ac,rfl,Aa (fun i x h=>ac),Aa (Ex.refl _)⟩
  case round=>
   obtain⟨k,hk,rfl,aA,hx⟩:=hrel;by_cases hkn:k<rows.length
   .obtain⟨r,aB⟩:∃r,rows[k]?=some r:=⟨_,List.getElem?_eq_getElem hkn⟩;obtain⟨u,c1,hu⟩:=HC.o k r aB;have c1:=hx.o.cell c1;have i1:(0:Int)<=(k:Int):=by omega
    have i2:(k:Int)<(rows.length:Int):=ac;have aM:=Aa (H5 wr r u (hu.ex hx.o));obtain⟨e,he⟩:=nA (Bv r);rw[he]at aM;by_cases h0:e=0
    .have HA:=Aa (show ∀(i:Nat) (s:List Int),i<k+1->rows[i]?=some s->Bv s=0 from fun i s hi hs=>by
      by_cases e2:i=k
      .subst e2;rw[aB]at hs;injection hs with hs;subst hs;rw[he,h0]
      .exact aA.o i s ac hs)
     subst h0;clear aB hu he aA;go_wp2_with (go_at_call 57;refine aM.o.mono ?_;rintro e w'⟨rfl,aD⟩;have aE:=Aa (hx.o.trans aD);clear aD)
     exact zbP
    .have hb:(e !=0)=true:=by simpa using h0
     have HP:=Aa (show GP rows=([],e) from by
      have:=Oj (n:=((rows.getD 0 []).length:Int)) aB (by rw[he];exact h0) (fun j s hj hs=>aA.o j s hj hs);rw[he]at this;unfold GP;rw[if_neg aL.o,this,if_pos h0])
     clear aB hu he aA h0;go_wp2_with (go_at_call 57;refine aM.o.mono ?_;rintro e w'⟨rfl,aD⟩;have aE:=Aa (hx.o.trans aD);clear aD)
     go_ret2;exact⟨IW HP.o (AF _),aE.o⟩
   .obtain rfl:k=rows.length:=by omega
    have aK:=Aa (show ∀(i:Nat) (r:List Int),rows[i]?=some r->Bv r=0 from fun i r hr=>aA.o i r (List.getElem?_eq_some_iff.1 hr).1 hr);have aN:=Aa (FR (n:=((rows.getD 0 []).length:Int)) aK.o);obtain⟨r0,aH⟩:∃r,rows[0]?=some r:=⟨_,List.getElem?_eq_getElem ac⟩;obtain⟨n,f0,hn1,hn2,aG,_,_⟩:=GC (aK.o 0 r0 aH);have aJ:rows.getD 0 []=r0:=by rw[List.getD_eq_getElem?_getD,aH];rfl
    rw[aJ,aG]at aN;have aQ:=Aa (show(rows.getD 0 []).length=n from by rw[aJ,aG]);obtain⟨u,c1,hu⟩:=HC.o 0 r0 aH;rw[Nat.add_zero]at c1;have c1:=hx.o.cell c1;obtain⟨ua,uc,rfl,_,_,_⟩:=hu.open;rw[aG]at c1;have aU:=Aa (GM wr n ac);clear aA aH aG aJ hu;go_wp2_with (go_at_call 102;refine aU.o.mono ?_;rintro e w2⟨g,rfl,aC,aD⟩;have aI:=Aa aC.li;have aE:=Aa (hx.o.trans aD);clear aC aD)
    go_loopw [7,32] (fun v' k' wr=>∃(k:Nat) (f:Nat->Nat) (g:Nat),k<=rows.length/\k'= .int .i64 k/\v'= .slice (some ⟨g,0,none⟩) n n/\Hia (∀(i:Nat) (r:List Int),i<k->rows[i]?=some r->r.length=n)/\Hia (A7 n f)/\Hia ((rows.take k).foldl P6 (Sq n)=li n f)/\Hia (Aj wr (.slice (some ⟨g,0,none⟩) n n) (li n f))/\Hia (Ex w wr)) (fun _ k' _=>rows.length-(intOf k').toNat)
    case atStart=>exact⟨0,DY,g,ac,rfl,rfl,Aa (fun i x h=>ac),Aa (EI n),Aa (by simp[Sq]),aI,aE⟩
    case round=>
     clear aI aE c1;obtain⟨k,f,g,hk,rfl,rfl,aA,hf,aF,hv,hx⟩:=hrel;by_cases hkn:k<rows.length
     .obtain⟨r,aB⟩:∃r,rows[k]?=some r:=⟨_,List.getElem?_eq_getElem hkn⟩;obtain⟨u,c1,hu⟩:=HC.o k r aB;have c1:=hx.o.cell c1;have hu:=hu.ex hx.o;obtain⟨ua,uc,rfl,_,_,_⟩:=hu.open;have i1:(0:Int)<=(k:Int):=by omega
      have i2:(k:Int)<(rows.length:Int):=ac;by_cases h0:r.length=n
      .have HA:=Aa (show ∀(i:Nat) (s:List Int),i<k+1->rows[i]?=some s->s.length=n from fun i s hi hs=>by
        by_cases e2:i=k
        .subst e2;rw[aB]at hs;injection hs with hs;subst hs;exact h0
        .exact aA.o i s ac hs)
       obtain⟨n',h,_,_,aR,hh,rfl⟩:=GC (aK.o k r aB);obtain rfl:n=n':=ac;have aP:=Aa (Ee wr n f h _ _ hv.o hu ac hf.o.lt);have aW:=Aa (Um aB hf.o aF.o);have aV:=Aa (hf.o.comp hh);rw[CM]at c1 aP;have hbn:((n:Int) !=(n:Int))=false:=ag;clear aB hu aA h0 aR aF hh hv;go_wp2_with (go_at_call 108;refine aP.o.mono ?_;rintro e w3⟨g3,rfl,aC,aO⟩;have aI:=Aa aC.li;have aT:=Aa (hx.o.trans aO);clear aC aO)
       go_roundw
       case rel=>exact⟨k+1,_,g3,ac,by go_num,rfl,HA,aV,aW,aI,aT⟩
       case measure=>simp[intOf];omega
      .have hb:((r.length:Int) !=(n:Int))=true:=by simp;omega
       have hb3:(r.length !=n)=true:=by simpa using h0
       have HP:=Aa (show GP rows=([],10) from by
        have hA:Iw n rows=10:=by rw[aN.o,if_pos ⟨r,List.mem_of_getElem? aB,ac⟩]
        unfold GP;rw[if_neg aL.o,aQ.o,hA,if_pos ae])
       clear aB hu aA h0 aF hv hf;go_wp2_with fail
       go_ret2;exact⟨IW HP.o (AF _),hx.o⟩
     .obtain rfl:k=rows.length:=by omega
      have HP:=Aa (show GP rows=(li n f,0) from by
       have hA:Iw n rows=0:=by
        rw[aN.o,if_neg];rintro⟨r,hr,h⟩;obtain⟨i,hi,rfl⟩:=List.getElem_of_mem hr;have:=aA.o i _ hi (List.getElem?_eq_getElem hi);omega
       unfold GP;rw[if_neg aL.o,aQ.o,hA,if_neg ae,<-aF.o,List.take_length])
      clear aA hf aF;go_wp2_with fail
      go_ret2;exact⟨IW HP.o hv.o,hx.o⟩
section
open Go.RowKit Go.ChangeShapes Go.WideShapes Go.ChangeAt
section
variable {H:Type} {enc:TypeId × Value->H} {W:World} {held:Bool}
theorem G5{x:Addr}{w:World}{u:Value}(h:w.cell? x=some u)(hu:(∃k n,u= .int k n)∨∃a l c,u= .slice a l c):x=⟨x.block,x.off,none⟩:=by
 have hs:x.spot=none:=by
  rcases hs:x.spot with _|s
  .rfl
  .exfalso;simp only[World.cell?,hs]at h;split at h
   .rcases hu with⟨k,n,rfl⟩|⟨a,l,c,rfl⟩ <;> simp at h
   .simp at h
 cases x;simp_all
theorem ML(b o j:Nat):(⟨b,o,none⟩:Addr).add j=⟨b,o+j,none⟩:=c9
theorem KV{w:World}{a:Option Addr}{len cap:Nat}{zs:List Int}(h1:len<=cap)(h2:cap<=maxLen)(h3:zs.length=cap)(h4:a=none->cap=0)(h5:∀x,a=some x->∀i,i<cap->w.cell? (x.add i)=some (.int .i64 (zs.getD i 0))):
  Aj w (.slice a len cap) (zs.take len):=by
 have hl:(zs.take len).length=len:=cd;unfold Aj;rw[hl];refine⟨by rw[AS];omega,a,cap,rfl,h1,h2,fun hn=>?_⟩;rcases a with _|x
 .have:=h4 rfl;omega
 .have h0:=h5 x rfl 0 ac;have hx:=G5 h0 (.inl ⟨_,_,rfl⟩);have aA:(x.add 0)=x:=by simp[Addr.add]
  rw[aA]at hx;refine⟨x.block,x.off,congrArg some hx,fun j u hu=>?_⟩;simp only[Al,List.getElem?_map,List.getElem?_take]at hu;split at hu
  .have h6:=h5 x rfl j ac;rw[hx,ML]at h6;rw[h6];obtain⟨y,hy,rfl⟩:=Option.map_eq_some_iff.1 hu;rw[List.getD_eq_getElem?_getD,hy];rfl
  .cases hu
theorem DK{aA:Nat}{v:Value}{y:DataW H × List MemPlace}(h:DataW.trod enc Tryz.prog W 0 (fun _=>true) held aA 22 [v]=some y):∃l,Aj W v l:=by
 rcases open_ints Tryz.underlying22 Tryz.underlying3 ah h with⟨hcs,_⟩|⟨x,l,c,zs,hcs,_,hl,hm,hz,_,hcell,hwz⟩
 .simp at hcs;subst hcs;exact⟨[],Sl.nil W 1⟩
 .simp at hcs;subst hcs;simp only[if_true]at hz;exact⟨_,KV hl hm hz (fun h=>by cases h) (fun x' hx i hi=>by injection hx with hx;subst hx;exact hcell i ac)⟩
theorem Te{aA:Nat}{v:Value}{y:DataW H × List MemPlace}(h:DataW.trod enc Tryz.prog W 0 (fun _=>true) held aA 37 [v]=some y):∃rows,BT W v rows:=by
 rcases Go.Deep.open_int_rows Tryz.underlying37 Tryz.underlying22 Tryz.underlying3 ah ah h with⟨hcs,_⟩|⟨x,len,cap,A,L,C,Z,hcs,_,hl,hm,_,hr⟩
 .simp at hcs;subst hcs;exact⟨[], [],Sl.nil W 1,fun i r u hr=>by simp at hr⟩
 .simp at hcs;subst hcs;refine⟨(List.range len).map fun r=>(Z r).take (L r),(List.range len).map fun r=> .slice (A r) (L r) (C r),?_,fun i r u h1 h2=>?_⟩
  .refine⟨ag,some x,cap,ag,by simpa using hl,hm,fun hn=>?_⟩;simp at hn;have h0:=(hr 0 ac).1;have hx:=G5 h0 (.inr ⟨_,_,_,rfl⟩);have aB:(x.add 0)=x:=by simp[Addr.add]
   rw[aB]at hx;refine⟨x.block,x.off,congrArg some hx,fun j u hu=>?_⟩;simp only[List.getElem?_map]at hu;obtain⟨k,hk,rfl⟩:=Option.map_eq_some_iff.1 hu;have hj:j<len:=by have:=(List.getElem?_eq_some_iff.1 hk).1;simpa using this
   have e:k=j:=by simp[hj]at hk;exact hk.symm
   subst e;have:=(hr k ac).1;rw[hx,ML]at this;exact this
  .have hi:i<len:=by have:=(List.getElem?_eq_some_iff.1 h1).1;simpa using this
   simp[hi]at h1 h2;subst h1 h2;obtain⟨_,a1,a2,a3,_,a4,a5⟩:=hr i ac;exact KV a1 a2 a3 a4 (fun x' hx j hj=>(a5 x' hx).2 j hj)
theorem Ur:Tryz.prog.cellsOf 3=1:=ah
theorem PB:Tryz.prog.cellsOf 22=1:=ah
theorem XW:Tryz.prog.cellsOf 37=1:=ah
theorem WP:Tryz.prog.cellsOf 24=3:=ah
theorem Y4:Tryz.prog.cellsOf 26=3:=ah
theorem K4{aA:Nat}{c0 c1 c2:Value}{y:DataW H × List MemPlace}(h:DataW.trod enc Tryz.prog W 0 (fun _=>true) held aA 24 [c0,c1,c2]=some y):
  ∃(P M:Int) (ml:List Int),c0= .int .i64 P/\c1= .int .i64 M/\Aj W c2 ml:=by
 obtain⟨xs,k,_,_,_,aB,hf⟩:=DataW.trod_struct Tryz.underlying24 h;have g0:=hf 0 _ rfl;have g1:=hf 1 _ rfl;have g2:=hf 2 _ rfl
 match xs,aB with
 | [y0,y1,y2],_=>
  simp[Ur,PB]at g0 g1 g2;obtain⟨P,e0,_,_⟩:=DataW.trod_int Tryz.underlying3 g0;obtain⟨M,e1,_,_⟩:=DataW.trod_int Tryz.underlying3 g1;obtain⟨l,hl⟩:=DK g2;simp at e0 e1;exact⟨P,M,l,e0,e1,hl⟩
theorem RD{aA:Nat}{c0 c1 c2:Value}{y:DataW H × List MemPlace}(h:DataW.trod enc Tryz.prog W 0 (fun _=>true) held aA 26 [c0,c1,c2]=some y):
  ∃(pl sl:List Int) (fr:Int),Aj W c0 pl/\Aj W c1 sl/\c2= .int .i64 fr:=by
 obtain⟨xs,k,_,_,_,aB,hf⟩:=DataW.trod_struct Tryz.underlying26 h;have g0:=hf 0 _ rfl;have g1:=hf 1 _ rfl;have g2:=hf 2 _ rfl
 match xs,aB with
 | [y0,y1,y2],_=>
  simp[Ur,PB]at g0 g1 g2;obtain⟨P,e0,_,_⟩:=DataW.trod_int Tryz.underlying3 g2;obtain⟨l,hl⟩:=DK g0;obtain⟨l',aC⟩:=DK g1;simp at e0;exact⟨l,l',P,hl,aC,e0⟩
theorem zce{P:Prop}(h:P:=by
 simp only[Value.okWide,ht]at h;obtain⟨cs,h1,h2,_⟩:=h;exact⟨cs,h1,h2⟩):P:=h
theorem EH{r:Reach}{b0:Nat}{t:TypeId}{fs:Array Field}{v:Value}(ht:Tryz.prog.underlying t=some (.struct fs))(h:Value.okWide Tryz.prog W r b0 t v):∃cs,v= .agg cs/\cs.size=Tryz.prog.cellsOf t:=by
 exact zce
theorem Vx{r:Reach}{b0:Nat}{t e:TypeId}{n:Nat}{v:Value}(ht:Tryz.prog.underlying t=some (.array n e))(h:Value.okWide Tryz.prog W r b0 t v):∃cs,v= .agg cs/\cs.size=Tryz.prog.cellsOf t:=by
 exact zce
theorem dk{P:Prop}(h:P:=by simpa[Value.cells]using hf):P:=h
theorem Pc{r:Reach}{b0:Nat}{v:Value}{d:DataW H}{p:List MemPlace}(hv:Value.okWide Tryz.prog W r b0 24 v)(h:DataW.Trod enc Tryz.prog W 0 (fun _=>true) held 24 v d p):
  ∃(P M:Int) (mv:Value) (ml:List Int),v= .agg #[.int .i64 P,.int .i64 M,mv]/\Aj W mv ml:=by
 obtain⟨cs,rfl,aA⟩:=EH Tryz.underlying24 hv;obtain⟨c0,c1,c2,rfl⟩:=Go.Joins.array3 (aA.trans WP);obtain⟨fuel,hf⟩:=h;obtain⟨P,M,ml,rfl,rfl,hl⟩:=K4 dk;exact⟨P,M,_,ml,rfl,hl⟩
theorem Nu{r:Reach}{b0:Nat}{v:Value}{d:DataW H}{p:List MemPlace}(hv:Value.okWide Tryz.prog W r b0 26 v)(h:DataW.Trod enc Tryz.prog W 0 (fun _=>true) held 26 v d p):
  ∃(pv sv:Value) (pl sl:List Int) (fr:Int),v= .agg #[pv,sv,.int .i64 fr]/\Aj W pv pl/\Aj W sv sl:=by
 obtain⟨cs,rfl,aA⟩:=EH Tryz.underlying26 hv;obtain⟨c0,c1,c2,rfl⟩:=Go.Joins.array3 (aA.trans Y4);obtain⟨fuel,hf⟩:=h;obtain⟨pl,sl,fr,h1,h2,rfl⟩:=RD dk;exact⟨_,_,pl,sl,fr,rfl,h1,h2⟩
theorem ZV{α:Type}{cs:Array α}(h:cs.size=6):∃c0 c1 c2 c3 c4 c5,cs= #[c0,c1,c2,c3,c4,c5]:=by
 obtain⟨l⟩:=cs
 match l,h with
 | [c0,c1,c2,c3,c4,c5],_=>exact⟨c0,c1,c2,c3,c4,c5,rfl⟩
theorem Ye{α:Type}{cs:Array α}(h:cs.size=5):∃c0 c1 c2 c3 c4,cs= #[c0,c1,c2,c3,c4]:=by
 obtain⟨l⟩:=cs
 match l,h with
 | [c0,c1,c2,c3,c4],_=>exact⟨c0,c1,c2,c3,c4,rfl⟩
theorem Yo{v:Value}{d:DataW H}{p:List MemPlace}(h:DataW.Trod enc Tryz.prog W 0 (fun _=>true) held 22 v d p)(hv:∃a l c,v= .slice a l c):∃l,Aj W v l:=by
 obtain⟨fuel,hf⟩:=h;obtain⟨a,l,c,rfl⟩:=hv;exact DK dk
end
end
end Go.Proofs.YtehieobniamagaaGreat
