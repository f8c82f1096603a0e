/- Walks of perm.Check, perm.generators, and of the reference's Check, all, group. -/
import Derived.Test.YtehieobniamagaaGreatZm12
namespace Go.Proofs.YtehieobniamagaaGreat
open Go.RowKit
set_option linter.all false
set_option maxRecDepth 100000
set_option maxHeartbeats 16000000
def LW(n:Int):Int:=if n<1∨64<n then 4 else 0
def BN(l:List Int):Int:=if (l.length:Int)<1∨64<(l.length:Int) then 4 else if (∃x∈l,x<0∨(l.length:Int)<=x) then 6 else if l.Nodup then 0 else 18
def RM(n:Int)(rows:List (List Int)):Int:=match rows.find? (fun r=>BN r !=0) with
 | some r=>BN r
 | none=>if (∃r∈rows,(r.length:Int)≠n) then 10 else 0
def El(n:Int)(rows:List (List Int)):Int:=if n<1∨64<n then 4 else RM n rows
theorem Xc{n:Int}{rows:List (List Int)}{i:Nat}{r:List Int}(hr:rows[i]?=some r)(h:BN r≠0)(ha:∀(j:Nat) (s:List Int),j<i->rows[j]?=some s->BN s=0):RM n rows=BN r:=by
 have:rows.find? (fun r=>BN r !=0)=some r:=by
  rw[List.find?_eq_some_iff_getElem];obtain⟨hi,e⟩:=List.getElem?_eq_some_iff.1 hr;refine⟨by simpa using h,i,hi,e,fun j hj=>?_⟩;have:=ha j _ hj (List.getElem?_eq_getElem ac);simp[this]
 unfold RM;rw[this]
theorem MZ{n:Int}{rows:List (List Int)}(ha:∀(j:Nat) (s:List Int),rows[j]?=some s->BN s=0):RM n rows=if (∃r∈rows,(r.length:Int)≠n) then 10 else 0:=by
 have:rows.find? (fun r=>BN r !=0)=none:=by
  rw[List.find?_eq_none];intro r hr;obtain⟨j,hj,e⟩:=List.getElem_of_mem hr;have:=ha j r ar;simp[this]
 unfold RM;rw[this]
theorem E7{l:List Int}:l.Nodup↔∀i j,j<i->i<l.length->l[i]?≠l[j]?:=by
 rw[List.nodup_iff_pairwise_ne,List.pairwise_iff_getElem];constructor
 .intro h i j hj hi e;rw[List.getElem?_eq_getElem hi,List.getElem?_eq_getElem ac]at e;injection e with e;exact h j i ac hi hj e.symm
 .intro h i j hi hj aA e;exact h j i aA hj (by rw[List.getElem?_eq_getElem hi,List.getElem?_eq_getElem hj,e])
theorem d8{P:Prop}(h:P:=by rw[List.getElem?_eq_getElem hi,List.getElem?_eq_getElem hj,e2]):P:=h
theorem el{P:Prop}(h:P:=by rw[Co];omega):P:=h
theorem Ib{l:List Int}(h:BN l=0):∃n f,1<=n/\n<=64/\l.length=n/\Bd n f/\l=li n f:=by
 unfold BN at h;split at h
 .cases h
 .split at h
  .cases h
  .split at h
   .rename_i h1 h2 h3;have hr:∀i,i<l.length->0<=l.getD i 0/\l.getD i 0<l.length:=fun i hi=>by
     rw[List.getD_eq_getElem?_getD,List.getElem?_eq_getElem hi];show 0<=l[i]/\l[i]<(l.length:Int)
     have hm:=List.getElem_mem hi;apply Classical.byContradiction;intro hn;exact h2 ⟨_,hm,ac⟩
    refine⟨l.length,fun i=>if i<l.length then(l.getD i 0).toNat else i,ac,ac,rfl,?_,?_⟩
    .refine Bd.of_inj (fun i hi=>?_) (fun i hi=>if_neg ac) (fun i j hi hj e=>?_)
     .rw[if_pos hi];have:=hr i hi;omega
     .rw[if_pos hi,if_pos hj]at e;have h4:=hr i hi;have h5:=hr j hj;have e2:l.getD i 0=l.getD j 0:=by omega
      rw[List.getD_eq_getElem?_getD,List.getD_eq_getElem?_getD,List.getElem?_eq_getElem hi,List.getElem?_eq_getElem hj]at e2;have e2:l[i]=l[j]:=e2;apply Classical.byContradiction;intro aA;rcases Nat.lt_or_gt_of_ne aA with hij|hij
      .exact E7.1 h3 j i hij hj d8
      .exact E7.1 h3 i j hij hi d8
    .apply List.ext_getElem?;intro i;by_cases hi:i<l.length
     .rw[Di hi,if_pos hi];have:=hr i hi;rw[List.getD_eq_getElem?_getD,List.getElem?_eq_getElem hi]at *;have this:0<=l[i]/\l[i]<(l.length:Int):=this;show some l[i]=some ((l[i].toNat:Nat):Int)
      congr 1;omega
     .rw[List.getElem?_eq_none ac,List.getElem?_eq_none el]
   .cases h
theorem Su{n:Nat}{f:Nat->Nat}(h1:1<=n)(h2:n<=64)(hf:Bd n f):BN (li n f)=0:=by
 unfold BN;rw[Co,if_neg ac,if_neg,if_pos]
 .rw[E7];intro i j hj hi e;rw[Co]at hi;rw[Di hi,Di ac]at e;injection e with e;have:=hf.inj i j ac;omega
 .rintro⟨x,hx,h⟩;unfold li at hx;obtain⟨j,hj,rfl⟩:=Vx hx;have:=hf.lt j hj;omega
theorem bt{P:Prop}(h:P:=by simpa using h1):P:=h
theorem JW{n:Int}{rows:List (List Int)}(h:El n rows=0):∃N:Nat,n=N/\1<=N/\N<=64/\∃S:List (Nat->Nat),rows=S.map (li N)/\∀s∈S,Bd N s:=by
 unfold El at h;split at h
 .cases h
 .rename_i hn;obtain⟨N,rfl⟩:∃N:Nat,n=N:=⟨n.toNat,ac⟩;refine⟨N,rfl,ac,ac,?_⟩;unfold RM at h;split at h
  .rename_i r hr;have:=List.find?_some hr;simp[h]at this
  .rename_i hr;split at h
   .cases h
   .rename_i hl;have aA:∀r∈rows,∃f,Bd N f/\r=li N f:=fun r hm=>by
     have h1:=List.find?_eq_none.1 hr r hm;obtain⟨m,f,_,_,h3,h4,h5⟩:=Ib bt;have hm:m=N:=by
      have:¬(r.length:Int)≠N:=fun h6=>hl ⟨r,hm,h6⟩;omega
     subst hm;exact⟨f,h4,h5⟩
    clear hr hl h hn
    induction rows with
    | nil=>exact⟨[],rfl,fun s hs=>by cases hs⟩
    | cons r rs ih=>
     obtain⟨f,hf,rfl⟩:=aA r (List.mem_cons_self ..);obtain⟨S,e,hS⟩:=ih fun r hr=>aA r (List.mem_cons_of_mem _ hr);exact⟨f :: S,by rw[e];rfl,fun s hs=>by
      rcases List.mem_cons.1 hs with h|h
      .rw[h];exact hf
      .exact hS s h⟩
theorem ST{N:Nat}{S:List (Nat->Nat)}(h1:1<=N)(h2:N<=64)(hS:∀s∈S,Bd N s):El N (S.map (li N))=0:=by
 unfold El;rw[if_neg ac,MZ,if_neg]
 .rintro⟨r,hr,h⟩;obtain⟨s,hs,rfl⟩:=List.mem_map.1 hr;rw[Co]at h;exact h rfl
 .intro j s hs;obtain⟨s',h3,rfl⟩:=List.mem_map.1 (List.mem_of_getElem? hs);exact Su h1 h2 (hS s' h3)
theorem zcB{P:Prop}(h:P:=by
 go_enter Tryz.func115,Tryz.ntmps115
 exact zdh):P:=h
theorem Ho(w:World)(n:Int):
  Calls Tryz.prog 115 #[.int .i64 n] w fun r w'=>r= .returned (.int .i64 (LW n))/\w=w':=by
 unfold LW;by_cases h1:n<1
 .rw[if_pos (.inl h1)];exact zcB
 .by_cases h2:64<n
  .rw[if_pos (.inr h2)];exact zcB
  .rw[if_neg ac];exact zcB
theorem zcr{P:Prop}(h:P:=by
 go_enter Tryz.func117,Tryz.ntmps117
 go_wp2_with fail
 go_ret;exact⟨rfl,0,rfl⟩):P:=h
theorem R5(w:World)(B:Nat)(x:Int)(a:Option Addr)(n cap:Nat)(c0:w.cell? ⟨B,0,none⟩=some (.slice a n cap)):
  Calls Tryz.prog 117 #[.int .i64 x,.pointer (some ⟨B,0,none⟩)] w fun r w'=>r= .returned (.bool (decide (x<0∨(n:Int)<=x)))/\∃q,w'=w.drewN q:=by
 by_cases h1:x<0
 .rw[decide_eq_true (.inl h1)];exact zcr
 .by_cases h2:(n:Int)<=x
  .rw[decide_eq_true (.inr h2)];exact zcr
  .rw[decide_eq_false ac];exact zcr
theorem zaD{P:Prop}(h:P:=by
 rintro⟨i,hi,h⟩;rw[List.getD_eq_getElem?_getD,List.getElem?_eq_getElem hi]at h;exact⟨_,List.getElem_mem hi,h⟩):P:=h
theorem zcd{P:Prop}(h:P:=by
 obtain⟨a',cap',e,_,_,h⟩:=S3.o;injection e with e1 e2 e3;subst e1;exact h (by omega)):P:=h
theorem zcP{P:Prop}(h:P:=by
 rw[hz];clear hd hz;go_wp2_with fail
 go_ret;exact⟨Af HP.o.symm,e0⟩):P:=h
theorem Jm(w:World)(l:List Int)(v:Value)(hl:Aj w v l):
  Calls Tryz.prog 57 #[v] w fun r w'=>r= .returned (.int .i64 (BN l))/\Ex w w':=by
 have HL:=Aa hl;obtain⟨a,cap,rfl,s1,s2,s3⟩:=hl.open;unfold maxLen at s2;have e0:Ex w (w.alloc (.cells #[.slice a l.length cap] 22)):=(Ex.refl _).alloc _;have c0:(w.alloc (.cells #[.slice a l.length cap] 22)).cell? ⟨w.heap.size,0,none⟩=some (.slice a l.length cap):=ag;have S3:=Aa (hl.ex e0).open;clear s3 hl;go_enter Tryz.func57,Tryz.ntmps57
 go_wp2_with fail
 generalize w.alloc (.cells #[.slice a l.length cap] 22)=w1 at *;refine(Ho w1 l.length).mono ?_;rintro e w2⟨rfl,rfl⟩;by_cases hd:(l.length:Int)<1∨64<(l.length:Int)
 .have hz:LW l.length=4:=if_pos hd;have HP:=Aa (show BN l=4 from if_pos hd);exact zcP
 .have hz:LW l.length=0:=if_neg hd;rw[hz];have aH:=Aa (show 1<=l.length/\l.length<=64 from ac);have aC:=Aa (Jg w1 (.pointer (some ⟨w.heap.size,0,none⟩)) (.slice a l.length cap) l.length (An l) (HL.o.ex e0) (fun i=>decide (l.getD i 0<0∨(l.length:Int)<=l.getD i 0)) fun q i u hu=>by
   obtain⟨x,hx,rfl⟩:∃x,l[i]?=some x/\u= .int .i64 x:=by
    simp only[An,List.getElem?_map]at hu;obtain⟨x,h1,h2⟩:=Option.map_eq_some_iff.1 hu;exact⟨x,h1,h2.symm⟩
   have hd:l.getD i 0=x:=by rw[List.getD_eq_getElem?_getD,hx];rfl
   rw[hd];exact R5 _ w.heap.size x a l.length cap (((Ex.refl w1).drewN q).cell c0))
  have aN:=Aa (show((List.range l.length).any fun i=>decide (l.getD i 0<0∨(l.length:Int)<=l.getD i 0))=decide (∃x∈l,x<0∨(l.length:Int)<=x) from by
   rw[Bool.eq_iff_iff];simp only[List.any_eq_true,List.mem_range,decide_eq_true_eq];constructor
   .exact zaD
   .rintro⟨x,hx,h⟩;obtain⟨i,hi,rfl⟩:=List.getElem_of_mem hx;exact⟨i,hi,by rw[List.getD_eq_getElem?_getD,List.getElem?_eq_getElem hi];exact h⟩)
  rw[aN.o]at aC;clear aN hd hz;by_cases ho:∃x∈l,x<0∨(l.length:Int)<=x
  .have HP:=Aa (show BN l=6 from by unfold BN;rw[if_neg (by have:=aH.o;omega),if_pos ho]);rw[decide_eq_true ho]at aC;clear ho;go_wp2_with (go_at_call 116;refine aC.o.mono ?_;rintro e w'⟨rfl,q,rfl⟩)
   go_ret;exact⟨Af HP.o.symm,e0.drewN _⟩
  .rw[decide_eq_false ho]at aC;have aQ:=Aa (show ∀(i:Nat) (x:Int),l[i]?=some x->0<=x/\x<l.length from fun i x h=>by
    apply Classical.byContradiction;intro hn;exact ho ⟨x,List.mem_of_getElem? h,ac⟩)
   have aK:=Aa (show BN l=if l.Nodup then 0 else 18 from by unfold BN;rw[if_neg (by have:=aH.o;omega),if_neg ho]);have HE:=Aa e0;have hl64:=aH.o.2;clear ho e0;go_wp2_with (first|(go_at_call 116;refine aC.o.mono ?_;rintro e w'⟨rfl,q,rfl⟩;have c0:=((Ex.refl w1).drewN q).cell c0)|(at_make;refine Ar _ rfl _ _ 168 rfl 4 (.bool false) 1 Tryz.underlying168 KU rfl _ l.length rfl rfl rfl ac ai ?_))
   intro w3 aA aF;have aJ:=Aa (((Ex.refl w1).drewN q).trans aF);have c0:=aF.cell c0;obtain⟨g,aG⟩:=nA w1.heap.size;rw[aG]at aA ⊢;have aP:=Aa (show w1.heap.size<=g from by rw[<-aG];exact Nat.le_refl _);have aL:=Aa (show AE w3 g 4 g l.length (bv fun x=>decide ((x:Int)∈l.take 0)) from aA.bcongr fun j _=>ag);have aM:=Aa (show(l.take 0).Nodup from ag);clear aA aF aG aC;go_wp2_with fail
   go_loopw [21] (fun k' wr=>∃(k:Nat),k<=l.length/\k'= .int .i64 k/\Hia (AE wr g 4 g l.length (bv fun x=>decide ((x:Int)∈l.take k)))/\Hia ((l.take k).Nodup)/\Hia (Ex w1 wr)) (fun k' _=>l.length-(intOf k').toNat)
   case atStart=>exact⟨0,ac,rfl,aL,aM,aJ⟩
   case round=>
    clear aL aM aJ c0;obtain⟨k,hk,rfl,aA,aD,hx⟩:=hrel;by_cases hkn:k<l.length
    .obtain⟨b,o,rfl,hc⟩:∃b o,a=some ⟨b,o,none⟩/\∀(j:Nat) (x:Int),l[j]?=some x->w1.cell? ⟨b,o+j,none⟩=some (.int .i64 x):=by
      exact zcd
     obtain⟨x,aE⟩:∃x,l[k]?=some x:=⟨_,List.getElem?_eq_getElem hkn⟩;obtain⟨y1,y2⟩:=aQ.o k x aE;obtain⟨X,rfl⟩:∃X:Nat,x=X:=⟨x.toNat,ac⟩;have aO:X<l.length:=br;have c1:=hx.o.cell (hc k X aE);have c3:=aA.o.cell aO;have c4:=aA.o.frz X;have i1:(0:Int)<=(k:Int):=ac;have i2:(k:Int)<(l.length:Int):=ac;have aB:l.take (k+1)=l.take k ++ [(X:Int)]:=by rw[List.take_add_one,aE];rfl
     by_cases hin:(X:Int)∈l.take k
     .have c5:wr.cell? ⟨g,X,none⟩=some (.bool true):=by rw[c3];show some (Value.bool (decide ((X:Int)∈l.take k)))=_;rw[decide_eq_true hin]
      have aR:=Aa (show BN l=18 from by
       rw[aK.o,if_neg];intro h;have h2:(l.take (k+1)).Nodup:=h.sublist (List.take_sublist _ _);rw[aB,List.nodup_append]at h2;exact h2.2.2 _ hin _ (List.mem_singleton.2 rfl) rfl)
      have aI:=Aa (HE.o.trans hx.o);clear hc c3 aA aD hx aB hin;go_wp2_with fail
      go_ret;exact⟨Af aR.o.symm,aI.o⟩
     .have c5:wr.cell? ⟨g,X,none⟩=some (.bool false):=by rw[c3];show some (Value.bool (decide ((X:Int)∈l.take k)))=_;rw[decide_eq_false hin]
      have HO:=Aa (show AE (wr.setCell ⟨g,X,none⟩ (.bool true)) g 4 g l.length (bv fun x=>decide ((x:Int)∈l.take (k+1))) from by
       refine(aA.o.set X _).congr fun i hi=>?_;by_cases e:i=X
       .subst e;rw[Ab];show _=Value.bool (decide ((i:Int)∈l.take (k+1)));rw[aB,decide_eq_true ag]
       .rw[Ad _ _ e];show Value.bool (decide ((i:Int)∈l.take k))=Value.bool (decide ((i:Int)∈l.take (k+1)))
        rw[aB]
        congr 1
        have:¬(i:Int)=X:=ac;simp[this])
      have aS:=Aa (show(l.take (k+1)).Nodup from by
       rw[aB,List.nodup_append];exact⟨aD.o,ag,fun y hy z hz e=>by rw[List.mem_singleton.1 hz]at e;subst e;exact hin hy⟩)
      have HX:=Aa (aA.o.exSet (a:=w1) aP.o hx.o X (.bool true));clear hc c3 aA aD hx aB hin;go_wp2_with fail
      go_roundw
      case rel=>exact⟨k+1,ac,by go_num,HO,aS,HX⟩
      case measure=>simp[intOf];omega
    .obtain rfl:k=l.length:=by omega
     have HP:=Aa (show BN l=0 from by
      rw[aK.o,if_pos];have:=aD.o
      rwa[List.take_length]at this)
     have aI:=Aa (HE.o.trans hx.o);clear aA aD hx;go_wp2_with fail
     go_ret;exact⟨Af HP.o.symm,aI.o⟩
theorem Ka(w:World)(p m:Int)(ml:List Int)(mv:Value)(aB:Aj w mv ml)(aA:Int)(rows:List (List Int))(v:Value)(hv:BY w v rows)(h0:DE p m ml aA rows=0->1<=aA):
  Calls Tryz.prog 149 #[.agg #[.int .i64 p,.int .i64 m,mv],.agg #[.int .i64 aA,v]] w fun r w'=>(∃e:Int,r= .returned (.int .i64 e)/\L5 p m ml aA rows e)/\Ex w w':=by
 obtain⟨g0,g1,g2,e0,aD⟩:=Az w p m mv;have aC:=Aa (fun (w':World) (h:Ex w w')=>LH w' p m ml mv (aB.ex h) aA rows v (hv.ex h) h0);obtain⟨za,zc,rfl,-,z2,-⟩:=hv.open;unfold maxLen at z2;obtain⟨ma,mc,rfl,-,m2,-⟩:=aB.open;unfold maxLen at m2;clear aB hv h0;go_enter Tryz.func149,Tryz.ntmps149
 go_wp2_with fail
 refine(aC.o _ (e0.trans ((Ex.refl _).alloc _))).mono ?_;rintro e w2⟨⟨g,c,a1,a2,n1,k1,n2,k2,e',rfl,hs⟩,hx⟩;have HX:=Aa ((e0.trans ((Ex.refl _).alloc (.cells #[.int .i64 aA,.slice za rows.length zc] 137))).trans hx);clear hx g0 g1 g2 e0 aD aC;go_wp2_with fail
 go_ret;exact⟨⟨e',rfl,hs⟩,HX.o.alloc _⟩
def BL(p m:Int)(ml:List Int)(n:Int)(rows:List (List Int))(e:Int):Prop:=
 (B9 p m ml≠0/\e=1)∨(B9 p m ml=0/\EN n≠0/\e=EN n)∨(B9 p m ml=0/\EN n=0/\L5 p m ml n rows e)
theorem DW(w:World)(p m:Int)(ml:List Int)(mv:Value)(aE:Aj w mv ml)(n:Int)(rows:List (List Int))(v:Value)(hv:BY w v rows):
  Calls Tryz.prog 90 #[.agg #[.int .i64 p,.int .i64 m,mv,.int .i64 n,v]] w fun r w'=>(∃e:Int,r= .returned (.int .i64 e)/\BL p m ml n rows e)/\Ex w w':=by
 obtain⟨a0,a1,a2,a3,a4,ea⟩:=EH w p m mv n v;have aH:=Aa (fun (w':World) (h:Ex w w')=>RZ w' p m ml mv (aE.ex h));have aM:=Aa (fun (w':World) (h:Ex w w')=>Zd w' p m mv n rows v (hv.ex h));have aJ:=Aa (fun (h1:EN n=0) (w':World) (h:Ex w w')=>Ka w' p m ml mv (aE.ex h) n rows v (hv.ex h) fun _=>by
  unfold EN at h1;split at h1
  .cases h1
  .omega)
 have aK:=Aa (fun (w':World)=>KM w' n);obtain⟨za,zc,rfl,-,z2,-⟩:=hv.open;unfold maxLen at z2;obtain⟨ma,mc,rfl,-,m2,-⟩:=aE.open;unfold maxLen at m2;have HE:=Aa ea;obtain⟨F,hF⟩:=nA (B9 p m ml);obtain⟨L,hL⟩:=nA (EN n);have aI:=Aa (show ∀e,((F≠0/\e=1)∨(F=0/\L≠0/\e=L)∨(F=0/\L=0/\L5 p m ml n rows e))->BL p m ml n rows e from fun e h=>by unfold BL;rw[hF,hL];exact h);rw[hF]at aH;rw[hL]at aJ aK;clear aE hv ea hF hL;go_enter Tryz.func90,Tryz.ntmps90
 go_wp2_with fail
 obtain⟨xb,aF⟩:=nA w.heap.size;rw[aF]at a0 a1 a2 a3 a4
 try simp only[aF]
 clear aF;generalize w.alloc (.cells #[.int .i64 p,.int .i64 m,.slice ma ml.length mc,.int .i64 n,.slice za rows.length zc] 39)=w1 at *;refine(aH.o w1 HE.o).mono ?_;rintro e w2⟨rfl,aB⟩;obtain⟨A0,A1,A2,A3,A4,aD⟩:=To (aB.cell a0) (aB.cell a1) (aB.cell a2) (aB.cell a3) (aB.cell a4) (HE.o.trans aB);clear a0 a1 a2 a3 a4 aB aH HE;by_cases h1:F=0
 .subst h1;have a3:=A3.o;go_wp2_with fail
  refine(aK.o w2).mono ?_;rintro e w3⟨rfl,rfl⟩;by_cases h2:L=0
  .subst h2;have aG:=Aa (aJ.o rfl);have aA:=Aa (fun e h=>aI.o e (.inr (.inr ⟨by trivial,by trivial,h⟩)));go_wp2_with fail
   have aC:=Aa (fun (w':World) (h':Ex w3 w')=>(⟨h'.cell A0.o,h'.cell A1.o,h'.cell A2.o,h'.cell A3.o,h'.cell A4.o⟩:w'.cell? ⟨xb,0,none⟩=some (.int .i64 p)/\w'.cell? ⟨xb,1,none⟩=some (.int .i64 m)/\w'.cell? ⟨xb,2,none⟩=some (.slice ma ml.length mc)/\w'.cell? ⟨xb,3,none⟩=some (.int .i64 n)/\w'.cell? ⟨xb,4,none⟩=some (.slice za rows.length zc)));have G0:Ex w3 w3.drew:=(Ex.refl w3).drew;clear a3
   go_region_held3 (fun w'=>w'.cell? ⟨xb,0,none⟩=some (.int .i64 p)/\w'.cell? ⟨xb,1,none⟩=some (.int .i64 m)/\w'.cell? ⟨xb,2,none⟩=some (.slice ma ml.length mc)/\w'.cell? ⟨xb,3,none⟩=some (.int .i64 n)/\w'.cell? ⟨xb,4,none⟩=some (.slice za rows.length zc))
    (first|with_reducible exact aC.o _ X4|with_reducible exact aC.o _ X3|with_reducible exact aC.o _ G0)
    (first|(go_at_call 104;(with_reducible refine(aM.o _ (aD.o.trans G0)).mono ?_);rintro e w5⟨rfl,h3⟩;have X3:=G0.trans h3;clear h3)|(go_at_call 149;(with_reducible refine(aG.o _ (aD.o.trans X3)).mono ?_);rintro e w4⟨⟨e4,rfl,aL⟩,h4⟩;have X4:=X3.trans h4;clear h4))
   go_wp2_with fail
   go_ret;exact⟨⟨_,rfl,aA.o _ aL⟩,aD.o.trans X4⟩
  .have hb:(L !=0)=true:=by simpa using h2
   have aA:=Aa (aI.o L (.inr (.inl ⟨by trivial,h2,rfl⟩)));clear h2 a3;go_wp2_with fail
   go_ret;exact⟨⟨_,rfl,aA.o⟩,aD.o⟩
 .have hb:(F !=0)=true:=by simpa using h1
  have aA:=Aa (aI.o 1 (.inl ⟨h1,rfl⟩));clear h1;go_wp2_with fail
  go_ret;exact⟨⟨_,rfl,aA.o⟩,aD.o⟩
theorem zdn{P:Prop}(h:P:=by
 clear T;go_simp;exact hK _ (.refl w)):P:=h
theorem zat{P:Prop}(h:P:=by
 have e3:=T 3 _ rfl;have q1:=(aF.o.trans hx).cell A0.o;have q2:=(aF.o.trans hx).cell A1.o;have q3:=(aF.o.trans hx).cell A2.o;exact zdn):P:=h
theorem zaV{P:Prop}(h:P:=by
 have cC:=T 10 _ rfl;exact zdn):P:=h
theorem zaW{P:Prop}(h:P:=by
 have dB:=T 13 _ rfl;exact zdn):P:=h
theorem zaZ{P:Prop}(h:P:=by
 have e8:=T 8 _ rfl;exact zdn):P:=h
theorem zbo{P:Prop}(h:P:=by
 go_wp2_with fail
 go_roundw
 case rel=>first|exact⟨i+1,aC,a4,by omega,by go_num,aA,aD,aE,aQ,aP⟩|((repeat apply Exists.intro);exact⟨⟨i+1,aC,a4,by omega,by go_num,aA,aD,aE,aQ,aP⟩,rfl⟩)
 case measure=>simp[intOf];omega):P:=h
theorem zbW{P:Prop}(h:P:=by
 go_wp2_with fail
 go_ret2;exact⟨⟨[],none,0,ca,cc,rfl,a,dN.o,A6 _,Jd.nil dR.o⟩,aY.o.trans cI.o⟩):P:=h
theorem zb8{P:Prop}(h:P:=by
 rw[hs]at HR ⊢;have HS:=Aa hs;clear hs aJ aT aK bA aH;go_wp2_with fail
 go_ret2;exact HR.o):P:=h
theorem zcs{P:Prop}(h:P:=by
 go_region
 all_goals go_wp2_with fail
 all_goals go_meet
 all_goals exact⟨_,bB⟩):P:=h
theorem zcI{P:Prop}(h:P:=by
 rintro e w'⟨g7,rfl,ho,h5⟩;exact hK _ _ h5 ⟨g7,rfl,ho.mono hx.size⟩):P:=h
theorem zcK{P:Prop}(h:P:=by
 have q1:=aG.o.1;have q2:=aG.o.2.1;exact zdn):P:=h
theorem zcL{P:Prop}(h:P:=by
 have q1:=aX.o.1;have q2:=aX.o.2.1;exact zdn):P:=h
theorem TS{p m:Nat}{ml:List Int}{mv:Value}(w:World)(hf:GP p m ml)(hF:GW p m (lw ml))(bV:Aj w mv ml)(N R:Nat)(hN:N<=256)(hR:R<=256)(a:Nat->Nat->Int)(bE:Qq p m R N a)(v:Value)(hv:BY w v (Aw N R a)):
  Calls Tryz.prog 195 #[.agg #[.int .i64 p,.int .i64 m,mv],v,.int .i64 N] w fun r w'=>(∃piv pa pc la lc a',r= .returned (.tuple #[.slice la R lc,.slice pa piv.length pc])/\Hs p m ml N R a a' piv/\Aj w' (.slice pa piv.length pc) (pI piv)/\R<=lc/\∀k,k<=R->Jd w.heap.size w' (.slice la k lc) (Aw N k a'))/\Ex w w':=by
 obtain⟨a0,a1,a2,ea,eF⟩:=Az w p m mv;have p2:=hf.p2;have m1:=hf.m1;have dY:0<p^m:=Nat.pow_pos ac;have dQ:=Aa (TU _ (Aw N R a) v (hv.ex ea) (by rw[AU];omega) (fun r hr=>by
  unfold Aw at hr;obtain⟨i,_,rfl⟩:=List.mem_map.1 hr;rw[AJ];omega))
 obtain⟨va,vc,cW,v1,v2,-⟩:=hv.open;rw[AU]at cW v1;subst cW;obtain⟨HF,cL,dI,aY⟩:=Eq (And.intro hf hF) bV bE ea;obtain⟨ma,mc,rfl,-,-,-⟩:=bV.open;obtain⟨B,hB⟩:=nA w.heap.size;rw[hB]at a0 a1 a2 eF;clear hf hF bV hv bE ea;go_enter Tryz.func195,Tryz.ntmps195
 go_wp2_with fail
 try simp only[hB]
 have HBW:=Aa hB;clear hB;generalize w.alloc (.cells #[.int .i64 p,.int .i64 m,.slice ma ml.length mc] 24)=w1 at *;have A0:=Aa a0;have A1:=Aa a1;have A2:=Aa a2;clear a0 a1 a2;refine dQ.o.mono ?_;rintro e w2⟨cv,vl,rfl,hm,cV⟩;have cI:=Aa cV;have HM:=Aa hm;clear cV hm dQ;by_cases hR0:R=0
 .subst hR0;obtain⟨ca,cc,bY⟩:=Ae HM.o.cvo;subst bY;have eI:=Aa (show BY w2 (.slice ca 0 cc) (Aw N 0 a) from by have:=HM.o.msl;exact this);obtain⟨_,c9,e9,l9,l8,-⟩:=eI.o.open;have dR:=Aa (show cc<=maxLen from by injection e9 with _ _ h3;rw[h3];exact l8);have dN:=Aa (show Hs p m ml N 0 a a [] from⟨0,ac,PV.init dI.o,.inl rfl,fun x=>Iff.rfl⟩);have cX:(Aw N 0 a).length=0:=AU N 0 a;rw[cX];clear e9 l9 l8 cX;go_wp2_with fail
  go_loop [9,10,11] (fun pv cH c'=>pv= .slice none 0 0/\cH= .int .i64 ((0:Nat):Int)/\∃c:Nat,c<=N/\c'= .int .i64 c) (fun _ _ c'=>N-(intOf c').toNat)
  case atStart=>exact⟨rfl,rfl,0,ac,rfl⟩
  case round=>
   obtain⟨rfl,rfl,c,hc,rfl⟩:=hrel;by_cases hcN:c<N
   .have k1:decide ((0:Nat)<0)=false:=by simp
    exact zbW
   .have k1:decide (c<N)=false:=by simpa using hcN
    exact zbW
 .obtain⟨g,cap,bY,bX⟩:=Mk.of HM.o ac;subst bY;obtain⟨base,bG⟩:∃b,w1.heap.size=b:=⟨_,rfl⟩;rw[bG]at bX;obtain⟨aA,aD,aE,aF⟩:=Eq (show LD w1 w2 base g R N cap (fun i=>vl.getD i undef) a [] (.slice none 0 0) from⟨bX,World.ownsRow_nil _ _ _ _,by simp[Value.ownBlock],fun i hi=>(AP.nil _).symm,ac,cI.o⟩) (show PV p m R N a [] 0 from PV.init dI.o) (show ∀x,BW p m ml N R a x↔BW p m ml N R a x from fun x=>Iff.rfl) (Ex.refl w1);clear bX HM;go_wp2_with fail
  go_loopw [9,10,11] (fun pv cH c' wr=>∃(c:Nat) (piv:List Nat) (vals:Nat->Value) (a1:Nat->Nat->Int),c<=N/\c'= .int .i64 c/\cH= .int .i64 piv.length/\Hia (LD w1 wr base g R N cap vals a1 piv pv)/\Hia (PV p m R N a1 piv c)/\Hia (∀x,BW p m ml N R a1 x↔BW p m ml N R a x)) (fun _ _ c' _=>N-(intOf c').toNat)
  case atStart=>exact⟨0, [],_,a,ac,rfl,rfl,aA,aD,Aa (fun x=>Iff.rfl)⟩
  case round=>
   clear aA aD aE;obtain⟨c,piv,vals,a1,hc,rfl,rfl,aK,bA,aH⟩:=hrel;obtain⟨pa,pc,bU⟩:=Ae aK.o.po;subst bU;have aT:=bA.o.le;obtain⟨eE,eD⟩:=aK.o.em.o.caps;unfold maxLen at eD;have aJ:=Aa (show(piv.length=R∨c=N)->(∃aL cQ cP la lc a',Ending.returned (.tuple #[.slice (some ⟨g,0,none⟩) R cap,.slice pa piv.length pc])= .returned (.tuple #[.slice la R lc,.slice cQ aL.length cP])/\Hs p m ml N R a a' aL/\Aj wr (.slice cQ aL.length cP) (pI aL)/\R<=lc/\∀k,k<=R->Jd w.heap.size wr (.slice la k lc) (Aw N k a'))/\Ex w wr from fun h=>⟨⟨piv,pa,pc,_,cap,a1,rfl,⟨c,hc,bA.o,h,aH.o⟩,by
    have:=Sl.own aK.o.po;unfold Aj;rw[Rc];exact this,eE,fun k hk=>aK.o.em.mslF (by have h1:=aK.o.hb;have h2:=aY.o.size;omega) hk⟩,aY.o.trans aK.o.ex⟩)
   obtain⟨s,hs⟩:=nA piv.length;by_cases hcN:c<N
   .by_cases hsR:s<R
    .have k1:decide (s<R)=true:=by simpa using hsR
     have HS:=Aa hs;have aA:=Aa (show LD w1 wr base g R N cap vals a1 piv (.slice pa s pc) from by rw[<-hs];exact aK.o);rw[hs];clear hs aT aJ;have aD:=Aa bA.o;have aE:=Aa aH.o;clear aK bA aH;go_wp2_with fail
     go_loop [12] (fun k'=>∃(k:Nat),s<=k/\k<=R/\k'= .int .i64 k/\Hia (∀j,s<=j->j<k->a1 j c=0)) (fun k'=>R-(intOf k').toNat)
     case atStart=>exact⟨s,ac,ac,rfl,Aa (fun j h1 h2=>ac)⟩
     case round=>
      obtain⟨k,bW,dZ,rfl,hz⟩:=hrel;by_cases hkR:k<R
      .obtain⟨gk,ck,bS,cY,k3,k4⟩:=aA.o.em.at ac hkR hcN;have dC:=aA.o.em.o.cell hkR;rw[bS]at dC;unfold maxLen at k4;obtain⟨y,hy⟩:=nA (a1 k c);rw[hy]at cY;have i1:(0:Int)<=(k:Int):=by omega
       have i2:(k:Int)<(R:Int):=ac;have i3:(0:Int)<=(c:Int):=ac;have i4:(c:Int)<(N:Int):=ac;have b1:decide (k<R)=true:=by simpa using hkR
       by_cases aO:y=0
       .subst aO;have HZ:=Aa (show ∀j,s<=j->j<k+1->a1 j c=0 from fun j h1 h2=>by
         by_cases e:j=k
         .subst e;exact hy
         .exact hz.o j h1 ac)
        clear hy;go_wp2_with fail
        go_round
        case rel=>exact⟨k+1,ac,ac,by go_num,HZ⟩
        case measure=>simp[intOf];omega
       .have kb:(y==0)=false:=by simpa using aO
        have HY:=Aa (And.intro hy aO);have b2:((k:Int)==(R:Int))=false:=aq;have b3:(k==R)=false:=aq;have HKR:=Aa (show s<R/\k<R/\s<=k from⟨hsR,hkR,bW⟩);have dE:=Aa bS;clear hy aO bS k3 k4;have cE:=aA.o.em.o.cell hsR;have eB:=aA.o.em.o.frz s;have dA:=aA.o.em.o.frz k;have j1:(0:Int)<=(s:Int):=ac;have j2:(s:Int)<(R:Int):=ac;have bB:=Aa ((aA.o.swp hsR hkR).later (Ex.refl _).drew);rw[dE.o]at bB;go_upto_region 11 with fail
        clear cY
        go_cut [48] from 48 to 61 (fun _ wx=>∃aN,Hia (LD w1 wx base g R N cap aN (DA a1 s k) piv (.slice pa s pc)))
        case first=>
         by_cases hsk:s=k
         .subst hsk;rw[dE.o]at bB;clear cE dA;exact zcs
         .obtain⟨gs,cs,aZ,-⟩:=aA.o.em.at ac hsR hcN;rw[aZ]at cE bB;have n1:¬s=k:=hsk;have n2:¬k=s:=fun e=>hsk e.symm;clear aZ;exact zcs
        case rest=>
         obtain⟨aN,bF⟩:=hcut;obtain⟨aA,aD,aE,bJ⟩:=Eq bF.o (show PV p m R N (DA a1 s k) piv c from by have:=aD.o.swp (k:=k) (by rw[HS.o];exact bW) hkR;rw[HS.o]at this;exact this) (show ∀x,BW p m ml N R (DA a1 s k) x↔BW p m ml N R a x from fun x=>(BW.swp hsR hkR).trans (aE.o x)) (show DA a1 s k s c=a1 k c from by unfold DA;rw[if_pos rfl]);clear bF bB cE eB dA dC i1 i2;obtain⟨a2,cZ⟩:=nA (DA a1 s k);rw[cZ]at aA aD aE bJ;clear cZ;obtain⟨gs,cs,aZ,bZ,k3,k4⟩:=aA.o.em.at ac hsR hcN;have cD:=aA.o.em.o.cell hsR;rw[aZ]at cD;unfold maxLen at k4;have cN:=Aa cD;rw[bJ.o,HY.o.1]at bZ;have dV:=Aa bZ;have hy:=aD.o.rng s hsR c hcN;rw[bJ.o,HY.o.1]at hy;obtain⟨yn,rfl⟩:∃yn:Nat,y=yn:=⟨y.toNat,ac⟩;have bR:yn<p^m:=by omega
         have bQ:1<=yn:=by have:=HY.o.2;omega
         have aG:=Aa (show(0:Int)<=(s:Int)/\(s:Int)<(R:Int)/\(0:Int)<=(c:Int)/\(c:Int)<(N:Int)/\s<R from⟨ac,ac,ac,ac,hsR⟩);have cM:=Aa (fun (w':World) (h:Ex wc w')=>by
          have:=Vo (mv:= .slice ma ml.length mc) w' HF.o.1 (cL.o.ex (aY.o.trans (aA.o.ex.trans h))) (yn:Int);rw[AC bR]at this;exact this)
         have bL:=KO p2 m1 HF.o.2 bQ bR;have bM:=JR (ml:=ml) dY yn;obtain⟨z,cT⟩:=nA (D7 p m ml yn);rw[cT]at cM bL bM;have dG:=Aa (fun (w':World) (h:Ex wc w')=>by
          have:=Vm w' p m ml (.slice ma ml.length mc) HF.o.1 (cL.o.ex (aY.o.trans (aA.o.ex.trans h))) (z:Int) N ac (a2 s) _ ((aA.o.em.isl hsR).ex h);rw[AC bM,aZ]at this;exact this)
         have cS:1<=z:=by
          rcases Nat.eq_zero_or_pos z with e|e
          .subst e;rw[A9 ac]at bL;omega
          .omega
         have aF:=Aa aA.o.ex;have eG:=Aa (show ∀f:Nat->Int,f c=(yn:Int)->BK p m ml z f c=1 from fun f hf=>by
          unfold BK;rw[hf,AC bR,AW,bL];rfl)
         have dD:=Aa (And.intro cS bM);have dT:=Aa (show a2 s c=(yn:Int) from by rw[bJ.o,HY.o.1]);clear bL cT aZ k3 k4 hy hz bW dZ hkR cS bM bJ HY;go_upto_if 69 with fail
         go_cut [70] from 69 to 87 (fun _ wx=>∃aB a3,Hia (LD w1 wx base g R N cap aB a3 piv (.slice pa s pc))/\Hia (PV p m R N a3 piv c)/\Hia (∀x,BW p m ml N R a3 x↔BW p m ml N R a x)/\Hia (a3 s c=1))
         case first=>
          by_cases hy1:yn=1
          .have kb:((yn:Int) !=1)=false:=by simp[hy1]
           subst hy1;have bC:=Aa (show a2 s c=1 from dT.o);go_wp2_with fail
           go_meet
           exact⟨_,a2,aA,aD,aE,bC⟩
          .have kb:((yn:Int) !=1)=true:=by simp;omega
           have hy2:¬((yn:Int)=1):=ac;clear hy1;go_upto_region 13 with fail
           refine Ht (fun k=>([.slice (some ⟨g,0,none⟩) R cap,.int .i64 (s:Int),.agg #[.int .i64 (p:Int),.int .i64 (m:Int),.slice ma ml.length mc],.agg #[.int .i64 (p:Int),.int .i64 (m:Int),.slice ma ml.length mc],.slice (some ⟨g,0,none⟩) R cap,.int .i64 (s:Int),.pointer (some ⟨g,s,none⟩),.slice (some ⟨gs,0,none⟩) N cs,.int .i64 (c:Int),.pointer (some ⟨gs,c,none⟩),.int .i64 (yn:Int),.int .i64 (z:Int),.slice (some ⟨g,0,none⟩) R cap,.int .i64 (s:Int),.pointer (some ⟨g,s,none⟩),.slice (some ⟨gs,0,none⟩) N cs,undef,.pointer (some ⟨g,s,none⟩)]:List Value).getD k undef) 16 18 (fun v w'=>∃g7,v= .slice (some ⟨g7,0,none⟩) N N/\AE w' wc.heap.size 3 g7 N (iv (BK p m ml z (a2 s)))) (fun v w'=>∃aB,Hia (LD w1 w' base g R N cap aB (Ay a2 s (BK p m ml z (a2 s))) piv (.slice pa s pc))) (fun v wa wb ⟨g7,h1,h2⟩ hx=>⟨g7,h1,h2.ex hx⟩) ah ah ah ?_ (fun v k=>([.slice (some ⟨g,0,none⟩) R cap,.int .i64 (s:Int),.agg #[.int .i64 (p:Int),.int .i64 (m:Int),.slice ma ml.length mc],.agg #[.int .i64 (p:Int),.int .i64 (m:Int),.slice ma ml.length mc],.slice (some ⟨g,0,none⟩) R cap,.int .i64 (s:Int),.pointer (some ⟨g,s,none⟩),.slice (some ⟨gs,0,none⟩) N cs,.int .i64 (c:Int),.pointer (some ⟨gs,c,none⟩),.int .i64 (yn:Int),.int .i64 (z:Int),.slice (some ⟨g,0,none⟩) R cap,.int .i64 (s:Int),.pointer (some ⟨g,s,none⟩),.slice (some ⟨gs,0,none⟩) N cs,v,.pointer (some ⟨g,s,none⟩)]:List Value).getD k undef) (fun _=>rfl) ?_
           .simp only[AF];refine⟨?_,?_,?_,?_,?_,?_,?_,?_,?_,?_,?_,?_,?_,?_,?_,?_,?_,?_,?_,trivial⟩
            all_goals first|refine Iz.go ae fun a w T hx K hK=>?_|refine Iz.ap ae fun a w T hx K hK=>?_|refine Iz.st ae fun a w T hx K v hA hv hK=>?_
            .exact zaZ
            .exact zaV
            .exact zat
            .exact zat
            .exact zaZ
            .exact zaV
            .have e74:=T 74 _ rfl;have e75:=T 75 _ rfl;exact zcK
            .have e76:=T 76 _ rfl;have q1:=hx.cell cN.o;exact zdn
            .have eC:=T 11 _ rfl;exact zdn
            .have e77:=T 77 _ rfl;have e78:=T 78 _ rfl;have q1:=aG.o.2.2.1;have q2:=aG.o.2.2.2;exact zdn
            .have e79:=T 79 _ rfl;have q1:=hx.cell dV.o;exact zdn
            .have e73:=T 73 _ rfl;have e80:=T 80 _ rfl;clear T;go_simp;refine(cM.o w hx).mono ?_;rintro e w'⟨rfl,h5⟩;exact hK _ h5
            .exact zaZ
            .exact zaV
            .have e82:=T 82 _ rfl;have e83:=T 83 _ rfl;exact zcK
            .have e84:=T 84 _ rfl;have q1:=hx.cell cN.o;exact zdn
            .have e72:=T 72 _ rfl;have e81:=T 81 _ rfl;have e85:=T 85 _ rfl;clear T;go_simp;refine(dG.o w hx).mono ?_;exact zcI
            .have e70:=T 70 _ rfl;have e71:=T 71 _ rfl;exact zcK
            .have e87:=T 87 _ rfl;have e86:=hv 86 _ rfl rfl;clear T;obtain⟨g7,rfl,ho⟩:=hA;have H5:=(aA.o.later hx);have aU:=aA.o.fresh (b':=0) (u:= .slice (some ⟨g7,0,none⟩) N N) ho;have aI:=H5.set (i:=s) (u:= .slice (some ⟨g7,0,none⟩) N N) (f:=BK p m ml z (a2 s)) (by have h:=Bh ho (show base<=wc.heap.size from by have:=aA.o.em.o.lt;omega);rw[Ct];exact h) aU.1 aU.2;have q1:=H5.em.o.cell aG.o.2.2.2.2;have q2:=H5.em.o.frz s;have cJ:=Aa aI;clear ho H5 aU aI;go_simp;exact hK _ ⟨_,cJ⟩
           .intro v w9 hF;obtain⟨aB,bP⟩:=hF;have bO:=Aa (show PV p m R N (Ay a2 s (BK p m ml z (a2 s))) piv c from by have:=aD.o.scl (ml:=ml) (k:=z) ac (by rw[HS.o];exact hsR);rw[HS.o]at this;exact this);have bN:=Aa (show ∀x,BW p m ml N R (Ay a2 s (BK p m ml z (a2 s))) x↔BW p m ml N R a x from fun x=>(BW.scl p2 m1 HF.o.2 hsR dD.o.1 dD.o.2).trans (aE.o x));have bC:=Aa (show Ay a2 s (BK p m ml z (a2 s)) s c=1 from by rw[Ab];exact eG.o _ dT.o);simp only[Cf,Act.put,List.setIfInBounds_toArray,List.set_cons_zero,List.set_cons_succ];go_wp2_with fail
            go_meet
            exact⟨aB,_,bP,bO,bN,bC⟩
         case rest=>
          obtain⟨aB,a3,bP,bO,bN,bC⟩:=hcut;clear dG cM cN dV cD bZ aF aA aD aE;go_wp2_with fail
          go_loopw [13] (fun i' wr=>∃(i:Nat) (aC:Nat->Value) (a4:Nat->Nat->Int),i<=R/\i'= .int .i64 i/\Hia (LD w1 wr base g R N cap aC a4 piv (.slice pa s pc))/\Hia (PV p m R N a4 piv c)/\Hia (∀x,BW p m ml N R a4 x↔BW p m ml N R a x)/\Hia (a4 s c=1)/\Hia (∀j,j<i->j≠s->a4 j c=0)) (fun i' _=>R-(intOf i').toNat)
          case atStart=>exact⟨0,aB,a3,ac,rfl,bP,bO,bN,bC,Aa (fun j h=>ac)⟩
          case round=>
           clear bP bO bN bC;obtain⟨i,aC,a4,hi,rfl,aA,aD,aE,aQ,bH⟩:=hrel;by_cases hiR:i<R
           .have b1:decide (i<R)=true:=by simpa using hiR
            by_cases his:i=s
            .have b2:((i:Int) !=(s:Int))=false:=by simp;omega
             have b3:(i !=s)=false:=aq;have aP:=Aa (show ∀j,j<i+1->j≠s->a4 j c=0 from fun j h1 h2=>bH.o j ac h2);clear his;exact zbo
            .have b2:((i:Int) !=(s:Int))=true:=by simp;omega
             have b3:(i !=s)=true:=aq;have n1:¬((i:Int)=(s:Int)):=ac;obtain⟨gi,ci,bT,cA,k3,k4⟩:=aA.o.em.at ac hiR hcN;have cG:=aA.o.em.o.cell hiR;rw[bT]at cG;unfold maxLen at k4;obtain⟨y,hy⟩:=nA (a4 i c);rw[hy]at cA;have i1:(0:Int)<=(i:Int):=br;have i2:(i:Int)<(R:Int):=ac;have i3:(0:Int)<=(c:Int):=ac;have i4:(c:Int)<(N:Int):=ac;by_cases aO:y=0
             .subst aO;have b4:((0:Int) !=0)=false:=by simp
              have aP:=Aa (show ∀j,j<i+1->j≠s->a4 j c=0 from fun j h1 h2=>by
               by_cases e:j=i
               .subst e;exact hy
               .exact bH.o j ac h2)
              clear hy his;exact zbo
             .have kb:(y !=0)=true:=by simpa using aO
              have cU:=aD.o.rng i hiR c hcN;rw[hy]at cU;obtain⟨aR,rfl⟩:∃n:Nat,y=n:=⟨y.toNat,ac⟩;have bD:aR<p^m:=br;obtain⟨cB,cF,aS,-,-,k5⟩:=aA.o.em.at ac hsR hcN;have aW:=aA.o.em.o.cell hsR;rw[aS]at aW;obtain⟨cO,dW,dU,aX,aF⟩:=Of cG cA aW (show(0:Int)<=(i:Int)/\(i:Int)<(R:Int)/\i<R from⟨ac,ac,hiR⟩) aA.o.ex;have cK:=Aa (fun (w':World) (h:Ex wr w')=>by
               have:=Vn (mv:= .slice ma ml.length mc) w' HF.o.1 (aR:Int);rw[AC bD]at this;exact this)
              have bK:=De (m:=m) (show 1<=p by omega) aR;have dM:=Aa (CJ (m:=m) (show 1<=p by omega) aR);obtain⟨z4,cR⟩:∃z,CE p m aR=z:=⟨_,rfl⟩;rw[cR]at cK bK dM;have bI:=Aa (fun (w':World) (h:Ex wr w')=>(Q5 p m ml (.slice ma ml.length mc) w' HF.o.1 (cL.o.ex (aY.o.trans (aA.o.ex.trans h))) (il N (a4 i)) (il N (a4 s)) _ _ ((aA.o.em.isl hiR).ex h) ((aA.o.em.isl hsR).ex h) (z4:Int) (by rw[AJ,AJ];omega) (by rw[AJ];omega)));have eK:=Aa (fun (w':World) (h:Ex wr w')=>show Calls Tryz.prog 245 #[.agg #[.int .i64 p,.int .i64 m,.slice ma ml.length mc],.slice (some ⟨gi,0,none⟩) N ci,.int .i64 (z4:Int),.slice (some ⟨cB,0,none⟩) N cF] w' fun r w''=>∃g7,r= .returned (.slice (some ⟨g7,0,none⟩) N N)/\AE w'' w'.heap.size 3 g7 N (iv (Cg p m ml (a4 i) z4 (a4 s)))/\Ex w' w'' from by
               have:=bI.o w' h;rw[bT,aS]at this;refine this.mono fun r w'' ⟨g7,h1,h2,h3⟩=>?_;rw[AJ]at h1 h2;refine⟨g7,h1,h2.icongr fun j hj=>?_,h3⟩;rw[W9 ac hj,AC bK])
              have aP:=Aa (show ∀j,j<i+1->j≠s->Ay a4 i (Cg p m ml (a4 i) z4 (a4 s)) j c=0 from fun j h1 h2=>by
               by_cases e:j=i
               .subst e;rw[Ab];unfold Cg;rw[aQ.o,if_neg ae,hy,AC bD,(show Au (p^m) 1=1 from AC (q:=p^m) (x:=1) (Bw p2 m1)),Bz p2 m1 bK,dM.o];rfl
               .rw[Ad _ _ e];exact bH.o j ac h2)
              have dS:=Aa (show Ay a4 i (Cg p m ml (a4 i) z4 (a4 s)) s c=1 from by rw[Ad _ _ (fun e=>his e.symm)];exact aQ.o);have dL:=Aa (show PV p m R N (Ay a4 i (Cg p m ml (a4 i) z4 (a4 s))) piv c from by have:=aD.o.add (ml:=ml) (k:=z4) ac (by rw[HS.o];exact hsR) hiR (by rw[HS.o];exact his);rw[HS.o]at this;exact this);have dH:=Aa (show ∀x,BW p m ml N R (Ay a4 i (Cg p m ml (a4 i) z4 (a4 s))) x↔BW p m ml N R a x from fun x=>(BW.add p2 hsR hiR his).trans (aE.o x));clear bT aS cR bK hy aO his cU k5 aW bI;go_upto_region 18 with fail
              refine Ht (fun k=>([.slice (some ⟨g,0,none⟩) R cap,.int .i64 (i:Int),.agg #[.int .i64 (p:Int),.int .i64 (m:Int),.slice ma ml.length mc],.slice (some ⟨g,0,none⟩) R cap,.int .i64 (i:Int),.pointer (some ⟨g,i,none⟩),.slice (some ⟨gi,0,none⟩) N ci,.agg #[.int .i64 (p:Int),.int .i64 (m:Int),.slice ma ml.length mc],.slice (some ⟨g,0,none⟩) R cap,.int .i64 (i:Int),.pointer (some ⟨g,i,none⟩),.slice (some ⟨gi,0,none⟩) N ci,.int .i64 (c:Int),.pointer (some ⟨gi,c,none⟩),.int .i64 (aR:Int),.int .i64 (z4:Int),.slice (some ⟨g,0,none⟩) R cap,.int .i64 (s:Int),.pointer (some ⟨g,s,none⟩),.slice (some ⟨cB,0,none⟩) N cF,undef,.pointer (some ⟨g,i,none⟩)]:List Value).getD k undef) 20 22 (fun v w'=>∃g7,v= .slice (some ⟨g7,0,none⟩) N N/\AE w' wr.heap.size 3 g7 N (iv (Cg p m ml (a4 i) z4 (a4 s)))) (fun v w'=>∃aB,Hia (LD w1 w' base g R N cap aB (Ay a4 i (Cg p m ml (a4 i) z4 (a4 s))) piv (.slice pa s pc))) (fun v wa wb ⟨g7,h1,h2⟩ hx=>⟨g7,h1,h2.ex hx⟩) ah ah ah ?_ (fun v k=>([.slice (some ⟨g,0,none⟩) R cap,.int .i64 (i:Int),.agg #[.int .i64 (p:Int),.int .i64 (m:Int),.slice ma ml.length mc],.slice (some ⟨g,0,none⟩) R cap,.int .i64 (i:Int),.pointer (some ⟨g,i,none⟩),.slice (some ⟨gi,0,none⟩) N ci,.agg #[.int .i64 (p:Int),.int .i64 (m:Int),.slice ma ml.length mc],.slice (some ⟨g,0,none⟩) R cap,.int .i64 (i:Int),.pointer (some ⟨g,i,none⟩),.slice (some ⟨gi,0,none⟩) N ci,.int .i64 (c:Int),.pointer (some ⟨gi,c,none⟩),.int .i64 (aR:Int),.int .i64 (z4:Int),.slice (some ⟨g,0,none⟩) R cap,.int .i64 (s:Int),.pointer (some ⟨g,s,none⟩),.slice (some ⟨cB,0,none⟩) N cF,v,.pointer (some ⟨g,i,none⟩)]:List Value).getD k undef) (fun _=>rfl) ?_
              .simp only[AF];refine⟨?_,?_,?_,?_,?_,?_,?_,?_,?_,?_,?_,?_,?_,?_,?_,?_,?_,?_,?_,?_,?_,?_,?_,trivial⟩
               all_goals first|refine Iz.go ae fun a w T hx K hK=>?_|refine Iz.ap ae fun a w T hx K hK=>?_|refine Iz.st ae fun a w T hx K v hA hv hK=>?_
               .exact zaZ
               .exact zaW
               .exact zat
               .exact zaZ
               .exact zaW
               .have e110:=T 110 _ rfl;have e111:=T 111 _ rfl;exact zcL
               .have e112:=T 112 _ rfl;have q1:=hx.cell cO.o;exact zdn
               .exact zat
               .exact zaZ
               .exact zaW
               .have e115:=T 115 _ rfl;have e116:=T 116 _ rfl;exact zcL
               .have e117:=T 117 _ rfl;have q1:=hx.cell cO.o;exact zdn
               .have eC:=T 11 _ rfl;exact zdn
               .have e118:=T 118 _ rfl;have e119:=T 119 _ rfl;have q1:=aG.o.2.2.1;have q2:=aG.o.2.2.2.1;exact zdn
               .have e120:=T 120 _ rfl;have q1:=hx.cell dW.o;exact zdn
               .have e114:=T 114 _ rfl;have e121:=T 121 _ rfl;clear T;go_simp;refine(cK.o w hx).mono ?_;rintro e w'⟨rfl,h5⟩;exact hK _ h5
               .exact zaZ
               .exact zaV
               .have e123:=T 123 _ rfl;have e124:=T 124 _ rfl;exact zcK
               .have e125:=T 125 _ rfl;have q1:=hx.cell dU.o;exact zdn
               .have e109:=T 109 _ rfl;have e113:=T 113 _ rfl;have e122:=T 122 _ rfl;have e126:=T 126 _ rfl;clear T;go_simp;refine(eK.o w hx).mono ?_;exact zcI
               .have e107:=T 107 _ rfl;have e108:=T 108 _ rfl;exact zcL
               .have e128:=T 128 _ rfl;have e127:=hv 127 _ rfl rfl;clear T;obtain⟨g7,rfl,ho⟩:=hA;have H5:=(aA.o.later hx);have aU:=aA.o.fresh (b':=0) (u:= .slice (some ⟨g7,0,none⟩) N N) ho;have aI:=H5.set (i:=i) (u:= .slice (some ⟨g7,0,none⟩) N N) (f:=Cg p m ml (a4 i) z4 (a4 s)) (by have h:=Bh ho (show base<=wr.heap.size from by have:=aA.o.em.o.lt;omega);rw[Ct];exact h) aU.1 aU.2;have q1:=H5.em.o.cell aX.o.2.2;have q2:=H5.em.o.frz i;have cJ:=Aa aI;clear ho H5 aU aI;go_simp;exact hK _ ⟨_,cJ⟩
              .intro v w9 hF;obtain⟨aM,dP⟩:=hF;clear cG cA cO dW dU cK;simp only[Cf,Act.put,List.setIfInBounds_toArray,List.set_cons_zero,List.set_cons_succ];go_wp2_with fail
               go_roundw
               case rel=>first|exact⟨i+1,aM,_,ac,by go_num,dP,dL,dH,dS,aP⟩|((repeat apply Exists.intro);exact⟨⟨i+1,aM,_,ac,by go_num,dP,dL,dH,dS,aP⟩,rfl⟩)
               case measure=>simp[intOf];omega
           .obtain rfl:i=R:=by omega
            have b1:decide (i<i)=false:=ag;obtain⟨eH,eJ,dK,dF⟩:=Eq (show wr.ownsRow base 3 1 (.slice pa s pc) s (An (pI piv)) from by have:=aA.o.po;rw[HS.o]at this;exact this) (show base<=wr.heap.size from by have:=aA.o.em.o.lt;omega) (aD.o.done (by rw[HS.o];exact hsR) (by rw[HS.o];exact aQ.o) (fun j hj eA=>bH.o j hj (by rw[<-HS.o];exact eA))) (show(piv ++ [c]).length=s+1 from by rw[List.length_append,HS.o];rfl);clear aQ bH aD;go_wp2_with (at_builtin;refine Al _ rfl _ _ 22 rfl base 3 (.int .i64 0) 1 8 Tryz.underlying22 AA rfl ae _ s _ rfl eH.o [.int .i64 c] 3 _ rfl ag rfl aj ai ac eJ.o ?_)
            intro v2 w9 aV;have dO:=Aa (aA.o.app (by rw[HS.o];exact aV));obtain⟨xa,xc,dX⟩:=Ae aV.own;subst dX;clear aV aA;go_wp2_with fail
            go_roundw
            case rel=>first|exact⟨c+1,piv ++ [c],_,_,ac,by go_num,by rw[dF.o];go_num,dO,dK,aE⟩|((repeat apply Exists.intro);exact⟨⟨c+1,piv ++ [c],_,_,ac,by go_num,by rw[dF.o];go_num,dO,dK,aE⟩,rfl⟩)
            case measure=>simp[intOf];omega
      .obtain rfl:k=R:=by omega
       have dJ:=Aa (aD.o.none fun k' h1 h2=>hz.o k' (by rw[<-HS.o];exact h1) h2);have b1:decide (k<k)=false:=by simp
       have b2:((k:Int)==(k:Int))=true:=ag;go_wp2_with fail
       go_roundw
       case rel=>first|exact⟨c+1,piv,vals,a1,ac,by go_num,by rw[HS.o],aA,dJ,aE⟩|((repeat apply Exists.intro);exact⟨⟨c+1,piv,vals,a1,ac,by go_num,by rw[HS.o],aA,dJ,aE⟩,rfl⟩)
       case measure=>simp[intOf];omega
    .have k1:decide (s<R)=false:=by simpa using hsR
     have HR:=Aa (aJ.o (.inl ac));exact zb8
   .have k1:decide (c<N)=false:=by simpa using hcN
    have HR:=Aa (aJ.o (.inr ac));exact zb8
def EV(n:Nat)(f g:Nat->Nat):Prop:=(∀i,i<n->f i=g i)∨∃i,i<n/\(∀j,j<i->f j=g j)/\f i<g i
theorem EV.antisymm{n:Nat}{f g:Nat->Nat}(hf:Bd n f)(hg:Bd n g)(h:EV n f g)(k:EV n g f):f=g:=by
 rcases h with h|⟨i,hi,h1,h2⟩
 .exact GK hf hg h
 .rcases k with k|⟨j,hj,k1,k2⟩
  .have:=k i hi;omega
  .rcases Nat.lt_trichotomy i j with e|e|e
   .have:=k1 i e;omega
   .subst e;omega
   .have:=h1 j e;omega
def CQ(R:Nat->Option (Nat->Nat))(p:Nat->Nat)(c:Nat):Nat->Nat
 | 0=>c
 | x+1=>if (R x).isSome=true/\p x<p (CQ R p c x) then x else CQ R p c x
theorem Gw{R:Nat->Option (Nat->Nat)}{p:Nat->Nat}{c:Nat}(hc:(R c).isSome=true):∀x,(R (CQ R p c x)).isSome=true/\(∀y,y<x->(R y).isSome=true->p (CQ R p c x)<=p y)/\p (CQ R p c x)<=p c
 | 0=>⟨hc,fun y h=>by omega,Nat.le_refl _⟩
 | x+1=>by
  obtain⟨h1,h2,h3⟩:=Gw (p:=p) hc x;unfold CQ;split
  .rename_i h;refine⟨h.1,fun y hy hr=>?_,ac⟩;by_cases e:y=x
   .subst e;exact Nat.le_refl _
   .have:=h2 y ac hr;omega
  .rename_i h;refine⟨h1,fun y hy hr=>?_,h3⟩;by_cases e:y=x
   .subst e;apply Classical.byContradiction;intro hn;exact h ⟨hr,ac⟩
   .exact h2 y ac hr
def Th(n:Nat)(R:Nat->Nat->Option (Nat->Nat)):Nat->Nat->(Nat->Nat)->(Nat->Nat)
 | 0,_,p=>p
 | k+1,c,p=>Th n R k (c+1) (Aq ((R c (CQ (R c) p c n)).getD Ej) p)
theorem Qc{n:Nat}{t:Tw}(hG:CU n t):∀k c p,c+k=n->Bd n p->
  (∃h,Bd n h/\AX c h/\Sf n t.R k c h/\Th n t.R k c p=Aq h p)/\∀h,Bd n h->AX c h->Sf n t.R k c h->EV n (Th n t.R k c p) (Aq h p)
 | 0,c,p,hc,hp=>by
  refine⟨⟨Ej,Fb n,K5 _,trivial,rfl⟩,fun h hP hF _=> .inl fun i hi=>?_⟩;have:h=Ej:=AX.all hP (by
    have:c=n:=ac;subst this;exact hF)
  subst this;rfl
 | k+1,c,p,hc,hp=>by
  have aF:=hG.one c ac;obtain⟨aL,aK,_⟩:=Gw (R:=t.R c) (p:=p) (c:=c) (by rw[aF];rfl) n;obtain⟨r,hr⟩:=Option.isSome_iff_exists.1 aL;obtain⟨_,hbn,aB,aE,aD⟩:=hG.rep _ _ _ hr;obtain⟨⟨h0,aN,aH,aM,aG⟩,hL⟩:=Qc hG k (c+1) (Aq r p) ac (aB.comp hp);have he:Th n t.R (k+1) c p=Th n t.R k (c+1) (Aq r p):=by
   show Th n t.R k (c+1) (Aq ((t.R c (CQ (t.R c) p c n)).getD Ej) p)=_
   rw[hr];rfl
  rw[he];have aC:∀i,i<c->h0 i=i:=fun i hi=>aH i ac;refine⟨⟨Aq h0 r,aN.comp aB,fun i hi=>?_,⟨r,?_,?_⟩,?_⟩,fun h hP hF hS=>?_⟩
  .show r (h0 i)=i
   rw[aC i hi,aE i hi]
  .show t.R c (r (h0 c))=some r
   rw[aH c ac,aD];exact hr
  .rw[ET,aB.then_inv];exact aM
  .rw[aG];rfl
  .obtain⟨s,aA,aJ⟩:=hS;obtain⟨_,aI,hsP,hsF,hsb⟩:=hG.rep _ _ _ aA;have hle:=aK (h c) aI (by rw[aA];rfl);by_cases e:p (CQ (t.R c) p c n)=p (h c)
   .have e2:=hp.inj _ _ e;rw[<-e2,hr]at aA;injection aA with aA;subst aA;have:=hL (Aq h (A7 n r)) (hP.comp aB.inv) (hF.div aB aE (by rw[aD,e2])) aJ
    rwa[<-ET,aB.cancel]at this
   .right;refine⟨c,ac,fun j hj=>?_,?_⟩
    .rw[aG];show p (r (h0 j))=p (h j)
     rw[aC j hj,aE j hj,hF j hj]
    .rw[aG];show p (r (h0 c))<p (h c)
     rw[aH c ac,aD];omega
structure EI(n:Nat)(S:List (Nat->Nat))(b x:Nat)(f:Nat->Nat):Prop where
 gn:Gn S f
 fix:AX b f
 at_:f b=x
 le:∀g,Gn S g->AX b g->g b=x->EV n f g
theorem EI.uniq{n:Nat}{S:List (Nat->Nat)}(hS:∀s∈S,Bd n s){b x:Nat}{f g:Nat->Nat}(hf:EI n S b x f)(hg:EI n S b x g):f=g:=
 EV.antisymm (hf.gn.isP hS) (hg.gn.isP hS) (hf.le g hg.gn hg.fix hg.at_) (hg.le f hf.gn hf.fix hf.at_)
theorem ID.canon{n k:Nat}{S:List (Nat->Nat)}{t:Tw}(hn:1<=n)(hS:∀s∈S,Bd n s)(h:ID n S t k)(hk:S.length<=k){b x:Nat}(hb:b<n){r:Nat->Nat}(hr:t.R b x=some r):EI n S b x (Th n t.R (n-(b+1)) (b+1) r):=by
 obtain⟨_,_,aA,aF,aD⟩:=h.good.rep _ _ _ hr;obtain⟨⟨h0,aJ,aC,aI,aB⟩,hL⟩:=Qc h.good (n-(b+1)) (b+1) r ac aA;have aK:=(h.grp hn hS hk ac aJ aC).1 aI;have aE:Gn S r:=h.snd.1 b x r (Nat.zero_le _) hr;refine⟨by rw[aB];exact aK.mul aE,fun i hi=>?_,?_,fun g hg hF aH=>?_⟩
 .rw[aB];show r (h0 i)=i
  rw[aC i ac,aF i hi]
 .rw[aB];show r (h0 b)=x
  rw[aC b ac,aD]
 .have aG:=hg.isP hS;have h1:AX (b+1) (Aq g (A7 n r)):=hF.div aA aF (by rw[aD,aH]);have h2:=(h.grp hn hS hk ac (aG.comp aA.inv) h1).2 (hg.mul (aE.inv hS));have:=hL _ (aG.comp aA.inv) h1 h2
  rwa[aA.cancel]at this
open Classical in
noncomputable def Fa (n:Nat) (S:List (Nat->Nat)) (b x:Nat):Nat->Nat:=if h:∃f,EI n S b x f then Classical.choose h else Ej
open Classical in
theorem JQ {n:Nat} {S:List (Nat->Nat)} (hS:∀s∈S,Bd n s) {b x:Nat} {f:Nat->Nat} (h:EI n S b x f):Fa n S b x=f:=by
 have he:∃f,EI n S b x f:=⟨f,h⟩;unfold Fa;rw[dif_pos he];exact EI.uniq hS (Classical.choose_spec he) h
structure Lv where
 pt:Int
 orb:List Int
 reps:List (List Int)
end Go.Proofs.YtehieobniamagaaGreat
