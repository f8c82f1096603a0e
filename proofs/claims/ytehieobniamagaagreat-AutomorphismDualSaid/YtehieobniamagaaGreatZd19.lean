/- A drawn region whose operations lay slices of the call's own and append to them: one proof per operation. -/
import Derived.Lib.SmallJoins
import Derived.Deep.Matrix
import Derived.Deep.Slices
import Derived.OpenShut
import Derived.ProofKit
import Derived.ChangeOld
import Derived.Test.YtehieobniamagaaGreatZd18
namespace Go.Proofs.YtehieobniamagaaGreat
open Go.RowKit
set_option linter.all false
set_option maxRecDepth 100000
set_option maxHeartbeats 4000000
theorem Fy{w:World}{base b':Nat}{e:TypeId}{size:Nat}{v:Value}{n:Nat}{xs:List Value}(h:w.ownsRow base e size v n xs)(hb:b'<=base):w.ownsRow b' e size v n xs:=by
 obtain⟨h1,h2⟩:=h;refine⟨h1,?_⟩;rcases h2 with h2|⟨g,cap,cur,a,b,c⟩
 .exact .inl h2
 .exact .inr ⟨g,cap,cur,a,Nat.le_trans hb b,c⟩
section
variable {m e0 b0:Nat} {w0 w:World} {v0:Value} {te:TypeId} {size n:Nat} {xs:List Value} {L:Nat->Bool} {V:Nat->Value} {w' w'':World}
theorem Gp{u v:Value}{N:Nat}(h1:∀B,u.ownBlock=some B->N<=B)(h2:∀B,v.ownBlock=some B->B<N):AQ u v:=by
 unfold AQ
 cases hu:u.ownBlock with
 | none=>exact .inl rfl
 | some B=>
  right;intro e;have:=h1 B hu;have:=h2 B e.symm;omega
variable {l:List Oper} {i:Nat} {u:Value}
end
section
variable {P:Program} {Q:Exit->Act->World->Prop} {l:List Oper} {a0:Act} {m e0 b0:Nat} {w0 w:World} {v0:Value} {te:TypeId} {size n:Nat} {xs:List Value} {i:Nat} {o:Oper}
end
theorem zcw{P:Prop}(h:P:=by
 go_enter Tryz.func53,Tryz.ntmps53
 go_wp2_with fail
 go_ret2;exact⟨rfl,rfl⟩):P:=h
theorem G5(w:World)(n q:Nat)(hn:n<=64)(aA:1<=q)(hq:q<=256):
  Calls Tryz.prog 53 #[.int .i64 n,.int .i64 q] w fun r w'=>r= .returned (.tuple #[.int .i64 ((if 64<n*(q-1) then 0 else n*(q-1):Nat):Int),.int .i64 (if 64<n*(q-1) then 8 else 0)])/\w=w':=by
 obtain⟨D,hD⟩:=nA (n*(q-1));have hDb:D<=20000:=by rw[<-hD];exact Nat.le_trans (Nat.mul_le_mul hn (show q-1<=255 by omega)) ac
 have k1:(n:Int)*((q:Int)-1)=(D:Int):=by rw[<-hD,Int.natCast_mul,Int.natCast_sub aA];rfl
 rw[hD];clear hD;by_cases h:64<D
 .rw[if_pos h,if_pos h];have h2:(64:Int)<(D:Int):=by omega
  exact zcw
 .rw[if_neg h,if_neg h];have h2:¬(64:Int)<(D:Int):=by omega
  exact zcw
def Qy(p m:Nat)(ml pl sl:List Int)(k:Nat):Int:=
 ((BV pl (k/(p^m-1))*(p^m-1)+Ai p m (lw ml) (Au (p^m) (sl.getD (k/(p^m-1)) 0)) (k%(p^m-1)+1):Nat):Int)-1
def OA(p m:Nat)(ml pl sl:List Int):List Int:=il (pl.length*(p^m-1)) (Qy p m ml pl sl)
section
variable {b p m x0:Nat} {ml:List Int}
theorem Q7(w:World)(hg:A9 w b p m ml x0)(N:Nat)(hN:N<=64)(pl sl:List Int)(pv sv:Value)(hp:Am w pv pl)(hs:Am w sv sl)(aI:pl.length=N)(aH:sl.length=N)(hr:BU pl N=true)(hd:N*(p^m-1)<=64)(fr:Int):
  Calls Tryz.prog 55 #[.pointer (some ⟨b,0,none⟩),.agg #[pv,sv,.int .i64 fr]] w fun r w'=>∃v,r= .returned v/\w'.ownsRow w.heap.size 3 1 v (N*(p^m-1)) (vs (N*(p^m-1)) (iv (Qy p m ml pl sl)))/\Ex w w':=by
 obtain⟨b0,b1,b2,eb⟩:=Bo w pv sv fr;have bF:=Aa (fun (w1:World) (h1:Ex w w1) (y z:Int)=>ET w1 (hg.ex h1) y z);have aO:=Aa (Cr _ (hg.ex eb));have bP:2<=p^m:=Nat.le_trans hg.sh.p2 (Nat.le_self_pow (by have:=hg.sh.m1;omega) p);have bO:=hg.sh.q;have bH:=Aa (fun (x y:Nat)=>AR (p:=p) (m:=m) (low:=lw ml) (by have:=hg.sh.p2;omega) x y);obtain⟨pa,pc,rfl,_,q2,p3⟩:=hp.open;obtain⟨sa,sc,rfl,_,s2,s3⟩:=hs.open;unfold maxLen at q2 s2;rw[aI]at p3;rw[aH]at s3;obtain⟨P3,S3,bT,bX,bW⟩:=Of p3 s3 (fun i (hi:i<N)=>EJ hr (i:=i) ac) (fun i (hi:i<N)=>Bc (l:=pl) (i:=i) ac) (fun i (hi:i<N)=>Bc (l:=sl) (i:=i) ac);rw[aI,aH]at b0 b1 eb aO ⊢;have aF:=Aa eb;obtain⟨q,hq⟩:=nA (p^m);obtain⟨Q,hQ⟩:=nA (q-1);obtain⟨F,hF⟩:=nA (Qy p m ml pl sl);have bY:=Aa (show ∀i c:Nat,c<Q->F (i*Q+c)=((BV pl i*Q+Ai p m (lw ml) (Au q (sl.getD i 0)) (c+1):Nat):Int)-1 from fun i c hc=>by
  rw[<-hF];unfold Qy;rw[hq,hQ,Nat.mul_comm i Q,Nat.mul_add_div ac,Nat.mul_add_mod,Nat.div_eq_of_lt hc,Nat.mod_eq_of_lt hc,Nat.add_zero])
 rw[hq]at aO bF bH bP bO hd ⊢;rw[hQ]at hd ⊢;rw[hF];obtain⟨D,hD⟩:=nA (N*Q);have bM:=Aa (show ∀i,i<N->i*Q+Q<=D from fun i hi=>by rw[<-hD];have:=Nat.mul_le_mul_right Q (show i+1<=N from hi);rwa[Nat.succ_mul]at this);have k1:(N:Int)*((q:Int)-1)=(D:Int):=by rw[<-hD,<-hQ,Int.natCast_mul,Int.natCast_sub ac];rfl
 rw[hD]at hd ⊢;have HQ:=Aa (show(q:Int)-1=(Q:Int) from ac);have aN:=Aa (show q=Q+1 from ac);have cB:=Aa hD;clear hg hp hs p3 s3 eb aI aH hr hF hq hQ hD;go_enter Tryz.func55,Tryz.ntmps55
 go_upto_region 1 with fail
 obtain⟨B,hB⟩:=nA w.heap.size;rw[hB]at b0 b1 b2
 try simp only[hB]
 have HBW:=Aa hB;clear hB;generalize w.alloc (.cells #[.slice pa N pc,.slice sa N sc,.int .i64 fr] 26)=w1 at *;go_upto_region 2 with (go_at_call 54;refine aO.o.mono ?_;rintro e w2⟨rfl,rfl⟩)
 obtain⟨i0,aX,aT,aS,aR⟩:=info_parts AA;go_wp2_with (at_make;refine wpList_make_own _ rfl _ _ 22 rfl w1.heap.size 3 i0 (.int .i64 0) 1 Tryz.underlying22 aX aT aS .i64 .i64 (D:Int) D rfl rfl rfl (by rw[aR];omega) ai (Nat.le_refl _) ?_)
 intro w3 aA aY;obtain⟨V0,aZ⟩:∃v,Value.slice (some ⟨w1.heap.size,0,none⟩) 0 D=v:=⟨_,rfl⟩;rw[aZ]at aA ⊢;have bD:=Aa (show w3.ownsRow w1.heap.size 3 1 V0 (0*Q) (vs (0*Q) (iv F)) from by rw[Nat.zero_mul];exact aA);have bC:=Aa (show Ex w1 w3 from Below.grown (Ex.refl w1) aY (Nat.le_refl _) (fun k e=>by cases e));have B1:=Aa b1;replace b0:=bC.o.cell b0;have B0:=Aa b0;clear aA aY aZ aX aT aS aR;go_wp2_with fail
 go_loopw [6,22] (fun v' i' wr=>∃i:Nat,i<=N/\i'= .int .i64 i/\Hia (wr.ownsRow w1.heap.size 3 1 v' (i*Q) (vs (i*Q) (iv F)))/\Hia (Ex w1 wr)) (fun _ i' _=>N-(intOf i').toNat)
 case atStart=>exact⟨0,ac,rfl,bD,bC⟩
 case round=>
  clear bD;obtain⟨i,hi,rfl,aA,aB⟩:=hrel;by_cases hin:i<N
  .obtain⟨pb,po,rfl,aW⟩:=P3.o ac;obtain⟨sb,so,rfl,aV⟩:=S3.o ac;have bQ:=bT.o i hin;have cC:=Aa (aF.o.trans aB.o);obtain⟨y,hy⟩:=nA (BV pl i);have aU:pl.getD i 0=(y:Int):=by rw[<-hy];unfold BV;omega
   have bN:y<N:=ac;have aK:=bX.o i hin;rw[aU]at aK;have cp:=cC.o.cell (aW i _ aK);obtain⟨s,hs⟩:=nA (sl.getD i 0);have aJ:=bW.o i hin;rw[hs]at aJ;have cD:=Aa (aV i _ aJ);have i1:(0:Int)<=(i:Int):=ac;have i2:(i:Int)<(N:Int):=ac;obtain⟨YQ,aG⟩:∃z,y*Q=z:=⟨_,rfl⟩;have bS:=Aa (show YQ+Q<=D from by rw[<-aG];exact bM.o y bN);have bR:=Aa (show(y:Int)*((q:Int)-1)=(YQ:Int) from by rw[HQ.o,<-aG,Int.natCast_mul]);have bL:=Aa (show ∀c:Nat,c<Q->F (i*Q+c)=((YQ+Ai p m (lw ml) (Au q s) (c+1):Nat):Int)-1 from fun c hc=>by
    have:=bY.o i c hc;rw[hy,hs,aG]at this;exact this)
   have bK:=Aa (bM.o i hin);have bV:=Aa (fun (w5:World) (h5:Ex w1 w5) (c:Nat) (hc:c<q)=>(by
    have:=bF.o w5 (aF.o.trans h5) s (c:Int);rw[Ax hc]at this;exact this:Calls Tryz.prog 106 #[.pointer (some ⟨b,0,none⟩),.int .i64 s,.int .i64 (c:Int)] w5 (Qt w5 (.int .i64 (Ai p m (lw ml) (Au q s) c:Nat)))))
   have bI:=Aa (show(i+1)*Q=i*Q+Q from Nat.succ_mul i Q);obtain⟨IQ,bA⟩:∃z,i*Q=z:=⟨_,rfl⟩;rw[bA]at aA bL bK bI;obtain⟨bE,cA,aE,bJ⟩:=Eq aA.o aB.o aB.o hin;obtain⟨w8,h8⟩:∃w8,w8=wr:=⟨_,rfl⟩;rw[<-h8]at bE cA aE cp ⊢;have HW8:=Aa h8;clear bQ hy aU aK hs aJ aW aV aA aB aG bA hin h8 k1;go_wp2_with fail
   go_loopw [6,9] (fun v' c' wr=>∃c:Nat,1<=c/\c<=q/\c'= .int .i64 c/\Hia (wr.ownsRow w1.heap.size 3 1 v' (IQ+(c-1)) (vs (IQ+(c-1)) (iv F)))/\Hia (Ex w1 wr)) (fun _ c' _=>q-(intOf c').toNat)
   case atStart=>exact⟨1,ac,ac,rfl,bE,aE⟩
   case round=>
    obtain⟨c,hc1,hcq,rfl,aA,aB⟩:=hrel;by_cases hcn:c<q
    .have cs:=aB.o.cell (aF.o.cell cD.o);have cb:=aB.o.cell B1.o;obtain⟨t,ht⟩:=nA (Ai p m (lw ml) (Au q s) c);have htq:t<q:=by rw[<-ht];exact bH.o _ _
     have bZ:=Aa (show F (IQ+(c-1))=((YQ+t:Nat):Int)-1 from by
      rw[bL.o (c-1) (by have:=aN.o;omega),show c-1+1=c from ac,ht])
     have bG:=Aa (fun (w5:World) (h5:Ex wr w5)=>bV.o w5 (aB.o.trans h5) c hcn);rw[ht]at bG;obtain⟨va,vc,rfl⟩:=Ad aA.o;have aD:=Aa aA.o;have aC:=Aa aB.o;have aQ:=Aa (show IQ+(c-1)<=64/\IQ+(c-1)+1=IQ+(c+1-1) from⟨by have:=bK.o;have:=aN.o;omega,ac⟩);have k3:=bR.o;have k4:YQ<=64:=by have:=bS.o;omega
     have k5:(c:Int)<(q:Int):=ac;clear ht aA aB;go_upto_region 9 with fail
     go_wp2_with (first|(go_at_call 106;(with_reducible refine(bG.o _ (Ex.refl _)).mono ?_);rintro e w6⟨rfl,n6,rfl⟩;have aM:=Aa ((Ex.refl wr).drewN n6);have bU:=Aa (Aj aD.o aM.o);generalize wr.drewN n6=w6 at *)|(at_builtin;refine Al _ rfl _ _ 22 rfl w1.heap.size 3 (.int .i64 0) 1 8 Tryz.underlying22 AA rfl ae _ (IQ+(c-1)) _ rfl bU.o [.int .i64 ((YQ:Int)+(t:Int)-1)] 3 _ rfl rfl rfl aj (by have:=aQ.o.1;unfold maxLen;omega) (by have:=aQ.o.1;omega) (Nat.le_trans aC.o.size aM.o.size) ?_))
     intro v9 w9 aL;have aP:=Aa (show w9.ownsRow w1.heap.size 3 1 v9 (IQ+(c+1-1)) (vs (IQ+(c+1-1)) (iv F)) from by
      have:=aL.own;rw[<-aQ.o.2,R0];have e:iv F (IQ+(c-1))=Value.int .i64 ((YQ:Int)+(t:Int)-1):=by show Value.int .i64 (F (IQ+(c-1)))=_;rw[bZ.o];push_cast;rfl
      rw[e];exact this)
     have bB:=Aa (aL.ex (aC.o.trans aM.o) (Nat.le_refl _));obtain⟨v9a,v9c,rfl⟩:=Ad aP.o;clear aL;go_wp2_with fail
     go_roundw
     case rel=>first|exact⟨c+1,ac,ac,by go_num,aP,bB⟩|((repeat apply Exists.intro);exact⟨⟨c+1,ac,ac,by go_num,aP,bB⟩,rfl⟩)
     case measure=>simp[intOf];omega
    .obtain rfl:c=q:=by omega
     rw[show IQ+(c-1)=IQ+Q from by have:=aN.o;omega,<-bI.o]at aA;have aD:=Aa aA.o;have aC:=Aa aB.o;clear aA aB;go_wp2_with fail
     go_roundw
     case rel=>first|exact⟨i+1,ac,by go_num,aD,aC⟩|((repeat apply Exists.intro);exact⟨⟨i+1,by have:=bJ.o;omega,by go_num,aD,aC⟩,rfl⟩)
     case measure=>have:=bJ.o;simp[intOf];omega
  .obtain rfl:i=N:=by omega
   rw[cB.o]at aA;have aD:=Aa aA.o;have aC:=Aa (aF.o.trans aB.o);obtain⟨va,vc,rfl⟩:=Ad aD.o;clear aA aB;go_wp2_with fail
   go_ret;exact⟨_,rfl,Fy aD.o aF.o.size,aC.o⟩
end
def LC(n:Int):Int:=if n<1∨64<n then 4 else 0
def Cb(l:List Int):Int:=if (l.length:Int)<1∨64<(l.length:Int) then 4 else if (∃x∈l,x<0∨(l.length:Int)<=x) then 6 else if l.Nodup then 0 else 18
def RH(n:Int)(rows:List (List Int)):Int:=match rows.find? (fun r=>Cb r !=0) with
 | some r=>Cb r
 | none=>if (∃r∈rows,(r.length:Int)≠n) then 10 else 0
def Ef(n:Int)(rows:List (List Int)):Int:=if n<1∨64<n then 4 else RH n rows
theorem WL{n:Int}{rows:List (List Int)}{i:Nat}{r:List Int}(hr:rows[i]?=some r)(h:Cb r≠0)(ha:∀(j:Nat) (s:List Int),j<i->rows[j]?=some s->Cb s=0):RH n rows=Cb r:=by
 have:rows.find? (fun r=>Cb r !=0)=some r:=by
  rw[List.find?_eq_some_iff_getElem];obtain⟨hi,e⟩:=List.getElem?_eq_some_iff.1 hr;refine⟨by simpa using h,i,hi,e,fun j hj=>?_⟩;have:=ha j _ hj (List.getElem?_eq_getElem ac);simp[this]
 unfold RH;rw[this]
theorem MR{n:Int}{rows:List (List Int)}(ha:∀(j:Nat) (s:List Int),rows[j]?=some s->Cb s=0):RH n rows=if (∃r∈rows,(r.length:Int)≠n) then 10 else 0:=by
 have:rows.find? (fun r=>Cb r !=0)=none:=by
  rw[List.find?_eq_none];intro r hr;obtain⟨j,hj,e⟩:=List.getElem_of_mem hr;have:=ha j r ar;simp[this]
 unfold RH;rw[this]
theorem E3{l:List Int}:l.Nodup↔∀i j,j<i->i<l.length->l[i]?≠l[j]?:=by
 rw[List.nodup_iff_pairwise_ne,List.pairwise_iff_getElem];constructor
 .intro h i j hj hi e;rw[List.getElem?_eq_getElem hi,List.getElem?_eq_getElem ac]at e;injection e with e;exact h j i ac hi hj e.symm
 .intro h i j hi hj aA e;exact h j i aA hj (by rw[List.getElem?_eq_getElem hi,List.getElem?_eq_getElem hj,e])
theorem dz{P:Prop}(h:P:=by rw[List.getElem?_eq_getElem hi,List.getElem?_eq_getElem hj,e2]):P:=h
theorem Nr{l:List Int}(h:Cb l=0):∃n f,1<=n/\n<=64/\l.length=n/\Bw n f/\l=li n f:=by
 unfold Cb at h;split at h
 .cases h
 .split at h
  .cases h
  .split at h
   .rename_i h1 h2 h3;have hr:∀i,i<l.length->0<=l.getD i 0/\l.getD i 0<l.length:=fun i hi=>by
     rw[List.getD_eq_getElem?_getD,List.getElem?_eq_getElem hi];show 0<=l[i]/\l[i]<(l.length:Int)
     have hm:=List.getElem_mem hi;apply Classical.byContradiction;intro hn;exact h2 ⟨_,hm,ac⟩
    refine⟨l.length,fun i=>if i<l.length then(l.getD i 0).toNat else i,ac,ac,rfl,?_,?_⟩
    .refine Bw.of_inj (fun i hi=>?_) (fun i hi=>if_neg ac) (fun i j hi hj e=>?_)
     .rw[if_pos hi];have:=hr i hi;omega
     .rw[if_pos hi,if_pos hj]at e;have h4:=hr i hi;have h5:=hr j hj;have e2:l.getD i 0=l.getD j 0:=by omega
      rw[List.getD_eq_getElem?_getD,List.getD_eq_getElem?_getD,List.getElem?_eq_getElem hi,List.getElem?_eq_getElem hj]at e2;have e2:l[i]=l[j]:=e2;apply Classical.byContradiction;intro aA;rcases Nat.lt_or_gt_of_ne aA with hij|hij
      .exact E3.1 h3 j i hij hj dz
      .exact E3.1 h3 i j hij hi dz
    .apply List.ext_getElem?;intro i;by_cases hi:i<l.length
     .rw[DK hi,if_pos hi];have:=hr i hi;rw[List.getD_eq_getElem?_getD,List.getElem?_eq_getElem hi]at *;have this:0<=l[i]/\l[i]<(l.length:Int):=this;show some l[i]=some ((l[i].toNat:Nat):Int)
      congr 1;omega
     .rw[List.getElem?_eq_none ac,List.getElem?_eq_none (by rw[E6];omega)]
   .cases h
theorem XY{n:Nat}{f:Nat->Nat}(h1:1<=n)(h2:n<=64)(hf:Bw n f):Cb (li n f)=0:=by
 unfold Cb;rw[E6,if_neg ac,if_neg,if_pos]
 .rw[E3];intro i j hj hi e;rw[E6]at hi;rw[DK hi,DK ac]at e;injection e with e;have:=hf.inj i j ac;omega
 .rintro⟨x,hx,h⟩;unfold li at hx;obtain⟨j,hj,rfl⟩:=Vm hx;have:=hf.lt j hj;omega
theorem JM{n:Int}{rows:List (List Int)}(h:Ef n rows=0):∃N:Nat,n=N/\1<=N/\N<=64/\∃S:List (Nat->Nat),rows=S.map (li N)/\∀s∈S,Bw N s:=by
 unfold Ef at h;split at h
 .cases h
 .rename_i hn;obtain⟨N,rfl⟩:∃N:Nat,n=N:=⟨n.toNat,ac⟩;refine⟨N,rfl,ac,ac,?_⟩;unfold RH at h;split at h
  .rename_i r hr;have:=List.find?_some hr;simp[h]at this
  .rename_i hr;split at h
   .cases h
   .rename_i hl;have aA:∀r∈rows,∃f,Bw N f/\r=li N f:=fun r hm=>by
     have h1:=List.find?_eq_none.1 hr r hm;obtain⟨m,f,_,_,h3,h4,h5⟩:=Nr cw;have hm:m=N:=by
      have:¬(r.length:Int)≠N:=fun h6=>hl ⟨r,hm,h6⟩;omega
     subst hm;exact⟨f,h4,h5⟩
    clear hr hl h hn
    induction rows with
    | nil=>exact⟨[],rfl,fun s hs=>by cases hs⟩
    | cons r rs ih=>
     obtain⟨f,hf,rfl⟩:=aA r (List.mem_cons_self ..);obtain⟨S,e,hS⟩:=ih fun r hr=>aA r (List.mem_cons_of_mem _ hr);exact⟨f :: S,by rw[e];rfl,fun s hs=>by
      rcases List.mem_cons.1 hs with h|h
      .rw[h];exact hf
      .exact hS s h⟩
theorem SN{N:Nat}{S:List (Nat->Nat)}(h1:1<=N)(h2:N<=64)(hS:∀s∈S,Bw N s):Ef N (S.map (li N))=0:=by
 unfold Ef;rw[if_neg ac,MR,if_neg]
 .rintro⟨r,hr,h⟩;obtain⟨s,hs,rfl⟩:=List.mem_map.1 hr;rw[E6]at h;exact h rfl
 .intro j s hs;obtain⟨s',h3,rfl⟩:=List.mem_map.1 (List.mem_of_getElem? hs);exact XY h1 h2 (hS s' h3)
theorem zcs{P:Prop}(h:P:=by
 go_enter Tryz.func115,Tryz.ntmps115
 exact zc4):P:=h
theorem Hc(w:World)(n:Int):
  Calls Tryz.prog 115 #[.int .i64 n] w fun r w'=>r= .returned (.int .i64 (LC n))/\w=w':=by
 unfold LC;by_cases h1:n<1
 .rw[if_pos (.inl h1)];exact zcs
 .by_cases h2:64<n
  .rw[if_pos (.inr h2)];exact zcs
  .rw[if_neg ac];exact zcs
theorem zcj{P:Prop}(h:P:=by
 go_enter Tryz.func117,Tryz.ntmps117
 go_wp2_with fail
 go_ret;exact⟨rfl,0,rfl⟩):P:=h
theorem RY(w:World)(B:Nat)(x:Int)(a:Option Addr)(n cap:Nat)(c0:w.cell? ⟨B,0,none⟩=some (.slice a n cap)):
  Calls Tryz.prog 117 #[.int .i64 x,.pointer (some ⟨B,0,none⟩)] w fun r w'=>r= .returned (.bool (decide (x<0∨(n:Int)<=x)))/\∃q,w'=w.drewN q:=by
 by_cases h1:x<0
 .rw[decide_eq_true (.inl h1)];exact zcj
 .by_cases h2:(n:Int)<=x
  .rw[decide_eq_true (.inr h2)];exact zcj
  .rw[decide_eq_false ac];exact zcj
theorem zaB{P:Prop}(h:P:=by
 rintro⟨i,hi,h⟩;rw[List.getD_eq_getElem?_getD,List.getElem?_eq_getElem hi]at h;exact⟨_,List.getElem_mem hi,h⟩):P:=h
theorem zb5{P:Prop}(h:P:=by
 obtain⟨a',cap',e,_,_,h⟩:=S3.o;injection e with e1 e2 e3;subst e1;exact h (by omega)):P:=h
theorem zcH{P:Prop}(h:P:=by
 rw[hz];clear hd hz;go_wp2_with fail
 go_ret;exact⟨Ah HP.o.symm,e0⟩):P:=h
theorem MY(w:World)(l:List Int)(v:Value)(hl:Am w v l):
  Calls Tryz.prog 57 #[v] w fun r w'=>r= .returned (.int .i64 (Cb l))/\Ex w w':=by
 have HL:=Aa hl;obtain⟨a,cap,rfl,s1,s2,s3⟩:=hl.open;unfold maxLen at s2;have e0:Ex w (w.alloc (.cells #[.slice a l.length cap] 22)):=(Ex.refl _).alloc _;have c0:(w.alloc (.cells #[.slice a l.length cap] 22)).cell? ⟨w.heap.size,0,none⟩=some (.slice a l.length cap):=ag;have S3:=Aa (hl.ex e0).open;clear s3 hl;go_enter Tryz.func57,Tryz.ntmps57
 go_wp2_with fail
 generalize w.alloc (.cells #[.slice a l.length cap] 22)=w1 at *;refine(Hc w1 l.length).mono ?_;rintro e w2⟨rfl,rfl⟩;by_cases hd:(l.length:Int)<1∨64<(l.length:Int)
 .have hz:LC l.length=4:=if_pos hd;have HP:=Aa (show Cb l=4 from if_pos hd);exact zcH
 .have hz:LC l.length=0:=if_neg hd;rw[hz];have aH:=Aa (show 1<=l.length/\l.length<=64 from ac);have aC:=Aa (I4 w1 (.pointer (some ⟨w.heap.size,0,none⟩)) (.slice a l.length cap) l.length (Ao l) (HL.o.ex e0) (fun i=>decide (l.getD i 0<0∨(l.length:Int)<=l.getD i 0)) fun q i u hu=>by
   obtain⟨x,hx,rfl⟩:∃x,l[i]?=some x/\u= .int .i64 x:=by
    simp only[Ao,List.getElem?_map]at hu;obtain⟨x,h1,h2⟩:=Option.map_eq_some_iff.1 hu;exact⟨x,h1,h2.symm⟩
   have hd:l.getD i 0=x:=by rw[List.getD_eq_getElem?_getD,hx];rfl
   rw[hd];exact RY _ w.heap.size x a l.length cap (((Ex.refl w1).drewN q).cell c0))
  have aN:=Aa (show((List.range l.length).any fun i=>decide (l.getD i 0<0∨(l.length:Int)<=l.getD i 0))=decide (∃x∈l,x<0∨(l.length:Int)<=x) from by
   rw[Bool.eq_iff_iff];simp only[List.any_eq_true,List.mem_range,decide_eq_true_eq];constructor
   .exact zaB
   .rintro⟨x,hx,h⟩;obtain⟨i,hi,rfl⟩:=List.getElem_of_mem hx;exact⟨i,hi,by rw[List.getD_eq_getElem?_getD,List.getElem?_eq_getElem hi];exact h⟩)
  rw[aN.o]at aC;clear aN hd hz;by_cases ho:∃x∈l,x<0∨(l.length:Int)<=x
  .have HP:=Aa (show Cb l=6 from by unfold Cb;rw[if_neg (by have:=aH.o;omega),if_pos ho]);rw[decide_eq_true ho]at aC;clear ho;go_wp2_with (go_at_call 116;refine aC.o.mono ?_;rintro e w'⟨rfl,q,rfl⟩)
   go_ret;exact⟨Ah HP.o.symm,e0.drewN _⟩
  .rw[decide_eq_false ho]at aC;have aQ:=Aa (show ∀(i:Nat) (x:Int),l[i]?=some x->0<=x/\x<l.length from fun i x h=>by
    apply Classical.byContradiction;intro hn;exact ho ⟨x,List.mem_of_getElem? h,ac⟩)
   have aK:=Aa (show Cb l=if l.Nodup then 0 else 18 from by unfold Cb;rw[if_neg (by have:=aH.o;omega),if_neg ho]);have HE:=Aa e0;have hl64:=aH.o.2;clear ho e0;go_wp2_with (first|(go_at_call 116;refine aC.o.mono ?_;rintro e w'⟨rfl,q,rfl⟩;have c0:=((Ex.refl w1).drewN q).cell c0)|(at_make;refine Aq _ rfl _ _ 168 rfl 4 (.bool false) 1 Tryz.underlying168 KE rfl _ l.length rfl rfl rfl ac ai ?_))
   intro w3 aA aF;have aJ:=Aa (((Ex.refl w1).drewN q).trans aF);have c0:=aF.cell c0;obtain⟨g,aG⟩:=nA w1.heap.size;rw[aG]at aA ⊢;have aP:=Aa (show w1.heap.size<=g from by rw[<-aG];exact Nat.le_refl _);have aL:=Aa (show AG w3 g 4 g l.length (bv fun x=>decide ((x:Int)∈l.take 0)) from aA.bcongr fun j _=>ag);have aM:=Aa (show(l.take 0).Nodup from ag);clear aA aF aG aC;go_wp2_with fail
   go_loopw [21] (fun k' wr=>∃(k:Nat),k<=l.length/\k'= .int .i64 k/\Hia (AG wr g 4 g l.length (bv fun x=>decide ((x:Int)∈l.take k)))/\Hia ((l.take k).Nodup)/\Hia (Ex w1 wr)) (fun k' _=>l.length-(intOf k').toNat)
   case atStart=>exact⟨0,ac,rfl,aL,aM,aJ⟩
   case round=>
    clear aL aM aJ c0;obtain⟨k,hk,rfl,aA,aD,hx⟩:=hrel;by_cases hkn:k<l.length
    .obtain⟨b,o,rfl,hc⟩:∃b o,a=some ⟨b,o,none⟩/\∀(j:Nat) (x:Int),l[j]?=some x->w1.cell? ⟨b,o+j,none⟩=some (.int .i64 x):=by
      exact zb5
     obtain⟨x,aE⟩:∃x,l[k]?=some x:=⟨_,List.getElem?_eq_getElem hkn⟩;obtain⟨y1,y2⟩:=aQ.o k x aE;obtain⟨X,rfl⟩:∃X:Nat,x=X:=⟨x.toNat,ac⟩;have aO:X<l.length:=br;have c1:=hx.o.cell (hc k X aE);have c3:=aA.o.cell aO;have c4:=aA.o.frz X;have i1:(0:Int)<=(k:Int):=ac;have i2:(k:Int)<(l.length:Int):=ac;have aB:l.take (k+1)=l.take k ++ [(X:Int)]:=by rw[List.take_add_one,aE];rfl
     by_cases hin:(X:Int)∈l.take k
     .have c5:wr.cell? ⟨g,X,none⟩=some (.bool true):=by rw[c3];show some (Value.bool (decide ((X:Int)∈l.take k)))=_;rw[decide_eq_true hin]
      have aR:=Aa (show Cb l=18 from by
       rw[aK.o,if_neg];intro h;have h2:(l.take (k+1)).Nodup:=h.sublist (List.take_sublist _ _);rw[aB,List.nodup_append]at h2;exact h2.2.2 _ hin _ (List.mem_singleton.2 rfl) rfl)
      have aI:=Aa (HE.o.trans hx.o);clear hc c3 aA aD hx aB hin;go_wp2_with fail
      go_ret;exact⟨Ah aR.o.symm,aI.o⟩
     .have c5:wr.cell? ⟨g,X,none⟩=some (.bool false):=by rw[c3];show some (Value.bool (decide ((X:Int)∈l.take k)))=_;rw[decide_eq_false hin]
      have HO:=Aa (show AG (wr.setCell ⟨g,X,none⟩ (.bool true)) g 4 g l.length (bv fun x=>decide ((x:Int)∈l.take (k+1))) from by
       refine(aA.o.set X _).congr fun i hi=>?_;by_cases e:i=X
       .subst e;rw[Ab];show _=Value.bool (decide ((i:Int)∈l.take (k+1)));rw[aB,decide_eq_true ag]
       .rw[Ae _ _ e];show Value.bool (decide ((i:Int)∈l.take k))=Value.bool (decide ((i:Int)∈l.take (k+1)))
        rw[aB]
        congr 1
        have:¬(i:Int)=X:=ac;simp[this])
      have aS:=Aa (show(l.take (k+1)).Nodup from by
       rw[aB,List.nodup_append];exact⟨aD.o,ag,fun y hy z hz e=>by rw[List.mem_singleton.1 hz]at e;subst e;exact hin hy⟩)
      have HX:=Aa (aA.o.exSet (a:=w1) aP.o hx.o X (.bool true));clear hc c3 aA aD hx aB hin;go_wp2_with fail
      go_roundw
      case rel=>exact⟨k+1,ac,by go_num,HO,aS,HX⟩
      case measure=>simp[intOf];omega
    .obtain rfl:k=l.length:=by omega
     have HP:=Aa (show Cb l=0 from by
      rw[aK.o,if_pos];have:=aD.o
      rwa[List.take_length]at this)
     have aI:=Aa (HE.o.trans hx.o);clear aA aD hx;go_wp2_with fail
     go_ret;exact⟨Ah HP.o.symm,aI.o⟩
theorem Yp{p m:Nat}{low:Vc}(hp:2<=p)(hm:1<=m)(hF:FZ p m low){z:Nat}(h1:1<=z)(h2:z<p^m)(e:Nat):BF p m low z (e%(p^m-1))=BF p m low z e:=by
 obtain⟨x0,-,-,hg⟩:=hF;obtain⟨i,hi,rfl⟩:=hg.all hp hm h1 h2;rw[Hw hp hm,Hw hp hm,<-hg.mod hp hm (i*(e%(p^m-1))),<-hg.mod hp hm (i*e),Nat.mul_mod,Nat.mod_mod,<-Nat.mul_mod]
section
variable {p m:Nat} {ml:List Int} {mv:Value}
end
section
variable {p m:Nat} {ml:List Int} {mv:Value}
end
section
variable {p m:Int} {mv:Value}
end
section
variable {p m:Nat} {low:Vc}
theorem Pv(hp:2<=p)(hm:1<=m){x:Nat}(hx:x<p^m):BF p m low x 1=x:=by
 show Ai p m low 1 x=x
 exact Bt hp hm hx
theorem VM(hp:2<=p)(hm:1<=m)(x y:Nat):∀e,BF p m low (Ai p m low x y) e=Ai p m low (BF p m low x e) (BF p m low y e)
 | 0=>by
  show 1=Ai p m low 1 1
  rw[Bt hp hm (Bb hp hm)]
 | e+1=>by
  show Ai p m low (BF p m low (Ai p m low x y) e) (Ai p m low x y)=Ai p m low (Ai p m low (BF p m low x e) x) (Ai p m low (BF p m low y e) y)
  have h1:1<=p:=ac;rw[VM hp hm x y e,AY h1,<-AY h1 (BF p m low y e),AS (BF p m low y e) x,AY h1 x,<-AY h1]
theorem kpw_q(hp:2<=p)(hm:1<=m)(hF:FZ p m low){x:Nat}(hx:x<p^m):BF p m low x (p^m)=x:=by
 have hq:=Bb hp hm;by_cases h0:x=0
 .subst h0;exact Pu ac _ ac
 .have h:=CC (low:=low) hp hm x (p^m-1) 1;rw[show p^m-1+1=p^m from ac,<-Yp hp hm hF ac hx (p^m-1),Nat.mod_self,Pv hp hm hx]at h;rw[h];exact Bt hp hm hx
theorem SU(hp:2<=p)(hm:1<=m){x:Nat}(hx:x<p^m):∀k,SV p m low x k=BF p m low x (p^k)
 | 0=>by rw[Nat.pow_zero,Pv hp hm hx];rfl
 | k+1=>by
  show BF p m low (SV p m low x k) p=_
  rw[SU hp hm hx k,Hw hp hm,Nat.pow_succ]
theorem SE(hp:2<=p)(hm:1<=m)(hF:FZ p m low){x:Nat}(h1:1<=x)(hx:x<p^m):∀e,1<=BF p m low x e
 | 0=>Nat.le_refl _
 | e+1=>hF.ne_zero hp hm (SE hp hm hF h1 hx e) (Df hp hm x e) h1 hx
theorem ST(hp:2<=p)(hm:1<=m)(hF:FZ p m low){x:Nat}(h1:1<=x)(hx:x<p^m)(k:Nat):1<=SV p m low x k:=by
 rw[SU hp hm hx];exact SE hp hm hF h1 hx _
end
structure BD(p m:Nat)(ml pl sl:List Int)(fr N:Nat):Prop where
 hp:2<=p
 hm:1<=m
 hF:FZ p m (lw ml)
 n1:1<=N
 n2:N<=64
 pll:pl.length=N
 sll:sl.length=N
 inj:FO N (BV pl)
 sc:∀i,i<N->∃z:Nat,sl.getD i 0=z/\1<=z/\z<p^m
 frm:fr<m
theorem YA{pl:List Int}{N:Nat}(hl:pl.length=N)(hr:BU pl N=true)(hd:Ib pl=false):FO N (BV pl):=by
 refine⟨fun i hi=>?_,fun i j hi hj e=>Classical.byContradiction fun aA=>?_⟩
 .have:=EJ hr (i:=i) ac;unfold BV;omega
 .have h1:=EJ hr (i:=i) ac;have h2:=EJ hr (i:=j) ac;have:Ib pl=true:=PZ.2 (by
   unfold BV at e;rcases Nat.lt_or_gt_of_ne aA with h|h
   .exact⟨j,i,h,ac,ac⟩
   .exact⟨i,j,h,ac,ac⟩)
  rw[hd]at this;cases this
theorem Pk{p m:Int}{ml:List Int}{n:Int}{pl sl:List Int}{fr:Int}(h:Ey p m ml n pl sl fr=0):
  ∃(pn mn N fn:Nat),p=pn/\m=mn/\n=N/\fr=fn/\GD pn mn ml/\Cp p m ml=0/\BD pn mn ml pl sl fn N:=by
 obtain⟨n0,n1,n2,n3,n4,n5,n6,n7,n8,n9⟩:=Rb h;obtain⟨pn,mn,rfl,rfl,hf,hpr,hF⟩:=(Cg _ _ _).1 n0;obtain⟨fn,rfl⟩:∃fn:Nat,fr=fn:=⟨fr.toNat,ac⟩;obtain⟨N,rfl⟩:∃N:Nat,n=N:=⟨n.toNat,ac⟩;exact⟨pn,mn,N,fn,rfl,rfl,rfl,rfl,hf,n0,hf.p2,hf.m1,hF,ac,ac,ac,ac,YA ac n5 n8,fun i hi=>fac_at (by simpa only[Int.toNat_natCast]using n9) ac,ac⟩
theorem YV{q:Nat}{l:List Int}(h:∀i,i<l.length->∃z:Nat,l.getD i 0=z/\1<=z/\z<q):H4 q l=0:=by
 unfold H4;have aA:∀x∈l,∃z:Nat,x=z/\1<=z/\z<q:=fun x hx=>by
  obtain⟨i,hi,rfl⟩:=List.getElem_of_mem hx;have:=h i hi;rw[List.getD_eq_getElem?_getD,List.getElem?_eq_getElem hi]at this;exact this
 rw[if_neg,if_neg]
 .intro hc;rw[List.contains_iff_mem]at hc;obtain⟨z,h1,h2,_⟩:=aA 0 hc;omega
 .intro hc;obtain⟨x,hx,h1⟩:=List.any_eq_true.1 hc;obtain⟨z,rfl,h2,h3⟩:=aA x hx;unfold Gx at h1;simp at h1;omega
section
variable {p m:Nat} {ml pl sl:List Int} {fr N:Nat} {x:List Int}
theorem BD.img(h:BD p m ml pl sl fr N){i:Nat}(hi:i<N):Lz p m ml pl sl fr x N (BV pl i)=vF p m ml sl fr x i:=IG h.inj _ N (Nat.le_refl _) i hi
theorem DN{N j:Nat}(h:j<N)(f:Nat->Int):(il N f).getD j 0=f j:=by
 rw[List.getD_eq_getElem?_getD,AH h];rfl
theorem BD.imgE(h:BD p m ml pl sl fr N){j:Nat}(hj:j<N):∃z:Nat,Lz p m ml pl sl fr x N j=z/\z<p^m:=by
 obtain⟨i,hi,rfl⟩:=h.inj.surj hj;rw[h.img hi];exact⟨_,rfl,AR (by have:=h.hp;omega) _ _⟩
end
section
variable {p m:Nat} {ml pl sl ql tl:List Int} {fr fs N:Nat} {x:List Int}
theorem FO.comp{π σ:Nat->Nat}(h:FO N π)(k:FO N σ):FO N (fun i=> σ (π i)):=
 ⟨fun i hi=>k.lt _ (h.lt i hi),fun i j hi hj e=>h.inj i j hi hj (k.inj _ _ (h.lt i hi) (h.lt j hj) e)⟩
theorem K6(h:BD p m ml pl sl fr N){i:Nat}(hi:i<N):BV (il N (cP pl ql)) i=BV ql (BV pl i):=by
 unfold BV;rw[DN hi];rfl
theorem WD(h:BD p m ml pl sl fr N)(k:BD p m ml ql tl fs N):BD p m ml (il N (cP pl ql)) (il N (cS p m ml pl sl tl fs)) ((fr+fs)%m) N where
 hp:=h.hp
 hm:=h.hm
 hF:=h.hF
 n1:=h.n1
 n2:=h.n2
 pll:=An _ _
 sll:=An _ _
 inj:=by
  have hc:=h.inj.comp k.inj;exact⟨fun i hi=>by rw[K6 h hi];exact hc.lt i hi,fun i j hi hj e=>by rw[K6 h hi,K6 h hj]at e;exact hc.inj i j hi hj e⟩
 sc:=fun i hi=>by
  rw[DN hi];obtain⟨s,hs,aD,aA⟩:=h.sc i hi;obtain⟨t,ht,aC,aB⟩:=k.sc _ (h.inj.lt i hi);refine⟨_,rfl,?_,AR (by have:=h.hp;omega) _ _⟩;rw[hs,ht,Ax aA,Ax aB];exact h.hF.ne_zero h.hp h.hm aC aB (ST h.hp h.hm h.hF aD aA fs) (NX h.hp h.hm aA fs)
 frm:=Nat.mod_lt _ (by have:=h.hm;omega)
theorem KB(h:BD p m ml pl sl fr N)(v:Nat->Int){i:Nat}(hi:i<N):(il N (plc (BV pl) v N)).getD (BV pl i) 0=v i:=by
 rw[DN (h.inj.lt i hi)];exact IG h.inj v N (Nat.le_refl _) i hi
theorem NG(hp:2<=p)(hm:1<=m)(hF:FZ p m (lw ml)){s:Nat}(h1:1<=s)(hq:s<p^m):1<=DY p m ml s/\DY p m ml s<p^m/\Ai p m (lw ml) s (DY p m ml s)=1:=by
 obtain⟨z,a,b,c⟩:=hF.inv hp hm h1 hq;rw[NH hp hm hF hq h1 b c];exact⟨a,b,c⟩
theorem Kz(h:BD p m ml pl sl fr N){i:Nat}(hi:i<N):BV (il N (plc (BV pl) (fun i=>(i:Int)) N)) (BV pl i)=i:=by
 unfold BV;have:=KB h (fun i=>(i:Int)) hi;unfold BV at this;rw[this];rfl
theorem VU(h:BD p m ml pl sl fr N)(bk:Nat)(aE:bk<m):BD p m ml (il N (plc (BV pl) (fun i=>(i:Int)) N)) (il N (plc (BV pl) (ivS p m ml sl bk) N)) bk N where
 hp:=h.hp
 hm:=h.hm
 hF:=h.hF
 n1:=h.n1
 n2:=h.n2
 pll:=An _ _
 sll:=An _ _
 inj:=⟨fun j hj=>by
  obtain⟨i,hi,rfl⟩:=h.inj.surj hj;rw[Kz h hi];exact hi,fun j j' hj aC e=>by
  obtain⟨i,hi,rfl⟩:=h.inj.surj hj;obtain⟨i',aD,rfl⟩:=h.inj.surj aC;rw[Kz h hi,Kz h aD]at e;rw[e]⟩
 sc:=fun j hj=>by
  obtain⟨i,hi,rfl⟩:=h.inj.surj hj;rw[KB h _ hi];obtain⟨s,hs,aB,aA⟩:=h.sc i hi;obtain⟨k1,k2,-⟩:=NG h.hp h.hm h.hF aB aA;refine⟨_,rfl,?_,NX h.hp h.hm ?_ _⟩
  .rw[hs,Ax aA];exact ST h.hp h.hm h.hF k1 k2 _
  .rw[hs,Ax aA];exact k2
 frm:=aE
theorem YD(h:BD p m ml pl sl fr N):∀i,i<N->∃z:Nat,(il N (Lz p m ml pl sl fr x N)).getD i 0=z/\z<p^m:=fun i hi=>by
 rw[DN hi];exact h.imgE hi
end
def I0(p m N:Nat)(f:Nat->Int):Prop:=∀j,j<N->0<=f j/\f j<((p^m:Nat):Int)
section
variable {p m:Nat} {ml:List Int} {N:Nat}
theorem TF(hp:1<=p)(x:Int)(u r:Nat->Int):Kb p m ml x u r=BT p m ml u (Ct p m (Au (p^m) x)) r:=by
 funext j;unfold Kb BT;rw[T9 hp]
theorem XR(hp:2<=p){u r:Nat->Int}{pl:Nat}{x:Nat->Int}(hx:dt p m ml N r x=0):dt p m ml N (Lw p m ml u pl r) x=dt p m ml N u x:=by
 unfold Lw;split
 .rfl
 .rw[TF ac,N7 hp,hx,AX ac,BY ac (MI hp _ _)]
theorem U7(hp:2<=p){u r:Nat->Int}{pl:Nat}(hu:I0 p m N u):I0 p m N (Lw p m ml u pl r):=by
 unfold Lw;split
 .exact hu
 .intro j hj;unfold Kb;split
  .exact hu j hj
  .have:=FC (m:=m) (show 1<=p by omega) (Au (p^m) (u j)) (Ct p m (Ai p m (lw ml) (Au (p^m) (u pl)) (Au (p^m) (r j))));omega
theorem Nl(hp:2<=p){a:Nat->Nat->Int}{pl:Nat->Nat}{v x:Nat->Int}:∀k,Bz p m ml N k a x->dt p m ml N (Nm p m ml a pl v k) x=dt p m ml N v x
 | 0,_=>rfl
 | k+1,h=>by
  show dt p m ml N (Lw p m ml (Nm p m ml a pl v k) (pl k) (a k)) x=_
  rw[XR hp (h k (by omega))];exact Nl hp k fun i hi=>h i (by omega)
theorem Ka(hp:2<=p){a:Nat->Nat->Int}{pl:Nat->Nat}{v:Nat->Int}(hv:I0 p m N v):∀k,I0 p m N (Nm p m ml a pl v k)
 | 0=>hv
 | k+1=>U7 hp (Ka hp hv k)
theorem Hn(hp:2<=p)(hm:1<=m){n:Nat}{a:Nat->Nat->Int}{pl:Nat->Nat}{v:Nat->Int}(h:Tp N a pl n):∀k,k<=n->∀j,j<k->Nm p m ml a pl v k (pl j)=0
 | 0,_,j,hj=>by omega
 | k+1,hk,j,hj=>by
  show Lw p m ml (Nm p m ml a pl v k) (pl k) (a k) (pl j)=0
  unfold Lw;split
  .rename_i h0;by_cases e:j=k
   .rw[e];exact h0
   .exact Hn hp hm h k (by omega) j (by omega)
  .unfold Kb;by_cases e:j=k
   .rw[e,h.one k (by omega),if_neg (by decide),Ed hp hm,Bh hp hm (BB (Nat.pow_pos (by omega)) _),Cy (by omega)];rfl
   .rw[h.zer k j (by omega) (by omega),if_pos rfl];exact Hn hp hm h k (by omega) j (by omega)
theorem PI{pr:Nat->Bool}{n:Nat}:Cz pr n<0↔∀j,j<n->pr j=false:=by
 have h:=DZ pr n;constructor
 .intro h0;rw[decide_eq_false ac]at h;intro j hj
  cases e:pr j with
  | false=>rfl
  | true=>
   have:(List.range n).any pr=true:=List.any_eq_true.2 ⟨j,List.mem_range.2 hj,e⟩;rw[h]at this;cases this
 .intro ha;rw[B9 ha];decide
theorem YP{pr:Nat->Bool}{n:Nat}(h:0<=Cz pr n):(Cz pr n).toNat<n/\pr (Cz pr n).toNat=true/\∀j,j<(Cz pr n).toNat->pr j=false:=by
 unfold Cz at h ⊢;split
 .rename_i i hi;rw[List.find?_range_eq_some]at hi;refine⟨by have:=List.mem_range.1 hi.2.1;simpa using this,by simpa using hi.1,fun j hj=>?_⟩;have:=hi.2.2 j (by simpa using hj);simpa using this
 .rename_i hn;rw[hn]at h;exact absurd h ae
theorem Sx{t:Nat}{v:Nat->Int}:Ly t v<0↔∀j,j<t->v j=0:=by
 unfold Ly;rw[PI];exact⟨fun h j hj=>by simpa using h j hj,fun h j hj=>by simpa using h j hj⟩
theorem lzI_at{t:Nat}{v:Nat->Int}(h:0<=Ly t v):(Ly t v).toNat<t/\v (Ly t v).toNat≠0:=by
 obtain⟨h1,h2,-⟩:=YP h;refine⟨h1,?_⟩;have h3:(v (Ly t v).toNat !=0)=true:=h2;simpa using h3
structure Qm(p m:Nat)(ml:List Int)(N k:Nat)(rows:Nat->Nat->Int)(e:Ln):Prop where
 ech:Tp N e.a e.pl e.n
 sol:∀x,Bz p m ml N e.n e.a x↔Bz p m ml N k rows x
theorem Bz.succ_iff{k:Nat}{rows:Nat->Nat->Int}{x:Nat->Int}:Bz p m ml N (k+1) rows x↔Bz p m ml N k rows x/\dt p m ml N (rows k) x=0:=
 ⟨fun h=>⟨fun i hi=>h i ac,h k ac⟩,fun h i hi=>by
  by_cases e:i=k
  .rw[e];exact h.2
  .exact h.1 i ac⟩
theorem Xy(hp:2<=p)(hm:1<=m)(hF:FZ p m (lw ml)){k:Nat}{rows:Nat->Nat->Int}{e:Ln}(h:Qm p m ml N k rows e)(hr:I0 p m N (rows k)):Qm p m ml N (k+1) rows (F7 p m ml N e (rows k)):=by
 have aJ:0<p^m:=Nat.pow_pos ac;have aD:I0 p m N (e.red p m ml (rows k)):=Ka hp hr _;have aF:∀x,Bz p m ml N e.n e.a x->dt p m ml N (e.red p m ml (rows k)) x=dt p m ml N (rows k) x:=fun x hx=>Nl hp _ hx;unfold F7;split
 .rename_i hz;obtain⟨aC,aI⟩:=lzI_at hz;generalize hZ:(Ly N (e.red p m ml (rows k))).toNat=z at aC aI;obtain⟨r1,r2⟩:=aD z aC;have hk0:((Au (p^m) (e.red p m ml (rows k) z):Nat):Int)=e.red p m ml (rows k) z:=Er r1 r2;have aL:1<=Au (p^m) (e.red p m ml (rows k) z):=by omega
  have aK:Au (p^m) (e.red p m ml (rows k) z)<p^m:=BB aJ _;obtain⟨c,hc⟩:=nA (ivz p m ml (Au (p^m) (e.red p m ml (rows k) z)));have aG:Ai p m (lw ml) c (Au (p^m) (e.red p m ml (rows k) z))=1:=by
   rw[<-hc];unfold ivz;rw[if_neg ac,AS];exact Kx hp hm hF aL aK
  rw[hc];have aH:∀j,j<e.n->e.red p m ml (rows k) (e.pl j)=0:=fun j hj=>Hn hp hm h.ech _ (Nat.le_refl _) j hj;have aE:∀j,j<e.n->Az e.pl e.n z j=e.pl j:=fun j hj=>Ae _ _ ac;have aB:∀j,j<e.n->Az e.a e.n (BR p m ml c (e.red p m ml (rows k))) j=e.a j:=fun j hj=>Ae _ _ ac;refine⟨⟨fun i hi=>?_,fun i hi=>?_,fun i j hj hi=>?_⟩,fun x=>?_⟩
  .simp only at hi ⊢;by_cases ei:i=e.n
   .rw[ei,Ab];exact aC
   .rw[aE i ac];exact h.ech.lt i ac
  .simp only at hi ⊢;by_cases ei:i=e.n
   .rw[ei,Ab,Ab];show((Ai p m (lw ml) c (Au (p^m) (e.red p m ml (rows k) z)):Nat):Int)=1
    rw[aG];rfl
   .rw[aE i ac,aB i ac];exact h.ech.one i ac
  .simp only at hi ⊢;rw[aE j ac];by_cases ei:i=e.n
   .rw[ei,Ab];show((Ai p m (lw ml) c (Au (p^m) (e.red p m ml (rows k) (e.pl j))):Nat):Int)=0
    rw[aH j ac,CG,AX ac];rfl
   .rw[aB i ac];exact h.ech.zer i j hj ac
  .simp only;rw[Bz.succ_iff (k:=e.n),Bz.succ_iff (k:=k),Ab,Wy hp];have e1:Bz p m ml N e.n (Az e.a e.n (BR p m ml c (e.red p m ml (rows k)))) x↔Bz p m ml N e.n e.a x:=
    ⟨fun h i hi=>by rw[<-aB i hi];exact h i hi,fun h i hi=>by rw[aB i hi];exact h i hi⟩
   rw[e1];constructor
   .rintro⟨a1,a2⟩;refine⟨(h.sol x).1 a1,?_⟩;rw[<-aF x a1];apply Classical.byContradiction;intro hne;have hcl:c≠0:=fun h0=>by
     rw[h0,BW ac]at aG;cases aG
    have aM:c<p^m:=by
     apply Classical.byContradiction;intro aA;rw[<-hc]at aA;unfold ivz at aA;rw[if_neg ac]at aA;exact aA (JG ac _)
    have:=hF.ne_zero hp hm (a:=c) (b:=dt p m ml N (e.red p m ml (rows k)) x) ac aM ac (MI hp _ _);omega
   .rintro⟨a1,a2⟩;have a3:=(h.sol x).2 a1;exact⟨a3,by rw[aF x a3,a2,AX ac]⟩
 .rename_i hz;have h0:=Sx.1 (Int.not_le.1 hz);refine⟨h.ech,fun x=>?_⟩;rw[Bz.succ_iff (k:=k),h.sol x];refine⟨fun a=>⟨a,?_⟩,fun a=>a.1⟩;rw[<-aF x ((h.sol x).2 a)];exact EO hp h0
theorem QI(hp:2<=p)(hm:1<=m)(hF:FZ p m (lw ml)){rows:Nat->Nat->Int}{K:Nat}(hr:∀i,i<K->I0 p m N (rows i)):∀k,k<=K->Qm p m ml N k rows (GO p m ml N rows k)
 | 0,_=>⟨⟨fun i hi=>absurd hi (Nat.not_lt_zero i),fun i hi=>absurd hi (Nat.not_lt_zero i),fun i j _ hi=>absurd hi (Nat.not_lt_zero i)⟩,fun x=>⟨fun _ i hi=>absurd hi (Nat.not_lt_zero i),fun _ i hi=>absurd hi (Nat.not_lt_zero i)⟩⟩
 | k+1,hk=>Xy hp hm hF (QI hp hm hF hr k (by omega)) (hr k (by omega))
theorem Qm.red_iff(hp:2<=p)(hm:1<=m){k:Nat}{rows:Nat->Nat->Int}{e:Ln}(h:Qm p m ml N k rows e){v:Nat->Int}(hv:I0 p m N v):Ly N (e.red p m ml v)<0↔Cl p m ml N k rows v:=by
 rw[Sx];have aA:∀x,Bz p m ml N e.n e.a x->dt p m ml N (e.red p m ml v) x=dt p m ml N v x:=fun x hx=>Nl hp _ hx;constructor
 .intro h0 x hx;rw[<-aA x ((h.sol x).2 hx)];exact EO hp h0
 .intro hc j hj;have:=Tp.zero (ml:=ml) hp hm h.ech (fun i hi=>Hn hp hm h.ech _ (Nat.le_refl _) i hi) (fun x hx=>by
   show dt p m ml N (e.red p m ml v) x=0
   rw[aA x hx];exact hc x ((h.sol x).1 hx)) hj
  obtain⟨r1,r2⟩:=Ka (ml:=ml) (a:=e.a) (pl:=e.pl) hp hv e.n j hj;have e2:=Er r1 r2;rw[this]at e2;exact e2.symm
theorem Pm(hp:2<=p)(hm:1<=m){k n:Nat}{rows l:Nat->Nat->Int}{e:Ln}(h:Qm p m ml N k rows e)(hl:∀i,i<n->I0 p m N (l i)):IK p m ml N e l n<0↔∀i,i<n->Cl p m ml N k rows (l i):=by
 unfold IK;rw[PI];constructor
 .intro h0 i hi;have:=h0 i hi;rw[decide_eq_false_iff_not]at this;exact(h.red_iff hp hm (hl i hi)).1 ac
 .intro h0 i hi;rw[decide_eq_false_iff_not];have:=(h.red_iff hp hm (hl i hi)).2 (h0 i hi);omega
end
section
variable {p m:Nat} {ml:List Int} {N:Nat}
theorem Su(hp:2<=p)(sc:List Int)(x:Nat->Int)(N:Nat):I0 p m N (Gd p m ml sc x):=fun j _=>by
 have:=AR (m:=m) (low:=lw ml) (show 1<=p by omega) (Au (p^m) (sc.getD j 0)) (Au (p^m) (x j));unfold Gd;omega
theorem Sc{tl:List Int}{y:Nat->Int}{n:Nat}(hr:BU tl n=true)(hy:I0 p m n y):I0 p m tl.length (Ix tl y):=fun j hj=>by
 have:=EJ hr hj;exact hy _ ac
theorem J7{l:List (List Int)}{n:Nat}(hl:∀r∈l,r.length=n/\B3 (p^m) r=0){i:Nat}(hi:i<l.length):I0 p m n (Ak l i):=fun j hj=>by
 have h1:l.getD i []=l[i]:=aw;obtain⟨h2,h3⟩:=hl _ (List.getElem_mem hi);unfold Ak;rw[h1];exact KV h3 _ (by rw[List.getD_eq_getElem?_getD,List.getElem?_eq_getElem ac];exact List.getElem_mem _)
def Oy(p m:Nat)(ml:List Int)(l1 l2:List (List Int))(tl sc:List Int):Prop:=
 ∀x,Bz p m ml tl.length l2.length (fun i=>Ix tl (Ak l2 i)) x↔Bz p m ml tl.length l1.length (fun i=>Gd p m ml sc (Ak l1 i)) x
structure UA(p m:Nat)(ml:List Int)(n:Nat)(l1 l2:List (List Int)):Prop where
 hp:2<=p
 hm:1<=m
 hF:FZ p m (lw ml)
 h1:∀r∈l1,r.length=n/\B3 (p^m) r=0
 h2:∀r∈l2,r.length=n/\B3 (p^m) r=0
variable {l1 l2:List (List Int)} {n:Nat} {tl sc:List Int}
theorem UA.spL(h:UA p m ml n l1 l2)(t:Nat)(sc:List Int):Qm p m ml t l1.length (fun i=>Gd p m ml sc (Ak l1 i)) (GO p m ml t (fun i=>Gd p m ml sc (Ak l1 i)) l1.length):=
 QI h.hp h.hm h.hF (K:=l1.length) (fun i _=>Su h.hp _ _ _) _ (Nat.le_refl _)
theorem UA.spR(h:UA p m ml n l1 l2)(hr:BU tl n=true):Qm p m ml tl.length l2.length (fun i=>Ix tl (Ak l2 i)) (GO p m ml tl.length (fun i=>Ix tl (Ak l2 i)) l2.length):=
 QI h.hp h.hm h.hF (K:=l2.length) (fun i hi=>Sc hr (J7 h.h2 hi)) _ (Nat.le_refl _)
theorem UA.mis0(h:UA p m ml n l1 l2)(hr:BU tl n=true):IK p m ml tl.length (GO p m ml tl.length (fun i=>Ix tl (Ak l2 i)) l2.length) (fun i=>Gd p m ml sc (Ak l1 i)) l1.length<0↔∀x,Bz p m ml tl.length l2.length (fun i=>Ix tl (Ak l2 i)) x->Bz p m ml tl.length l1.length (fun i=>Gd p m ml sc (Ak l1 i)) x:=by
 rw[Pm h.hp h.hm (h.spR hr) fun i _=>Su h.hp _ _ _];exact Cl.sol_iff
theorem UA.mis1(h:UA p m ml n l1 l2)(hr:BU tl n=true):IK p m ml tl.length (GO p m ml tl.length (fun i=>Gd p m ml sc (Ak l1 i)) l1.length) (fun i=>Ix tl (Ak l2 i)) l2.length<0↔∀x,Bz p m ml tl.length l1.length (fun i=>Gd p m ml sc (Ak l1 i)) x->Bz p m ml tl.length l2.length (fun i=>Ix tl (Ak l2 i)) x:=by
 rw[Pm h.hp h.hm (h.spL _ sc) fun i hi=>Sc hr (J7 h.h2 hi)];exact Cl.sol_iff
theorem UA.wit(h:UA p m ml n l1 l2)(hr:BU tl n=true):(EV p m ml l1 l2 tl sc).1<0↔Oy p m ml l1 l2 tl sc:=by
 have e0:=h.mis0 (sc:=sc) hr;have e1:=h.mis1 (sc:=sc) hr;unfold EV;simp only;split
 .rename_i h0;refine⟨fun h=>absurd h ag,fun hc=>?_⟩;have:=e0.2 fun x hx=>(hc x).1 hx;omega
 .rename_i h0;split
  .rename_i h1;refine⟨fun h=>absurd h ag,fun hc=>?_⟩;have:=e1.2 fun x hx=>(hc x).2 hx;omega
  .rename_i h1;refine⟨fun _ x=>⟨e0.1 ac x,e1.1 ac x⟩,fun _=>ag⟩
end
theorem Pt{p m:Nat}(hp:1<=p){g:Nat->Nat}{K:Nat}:∀n,K<=n->(∀j,K<=j->j<n->g j=0)->ks p m g n=ks p m g K
 | 0,h,_=>by
   obtain rfl:K=0:=ac;rfl
 | n+1,h,hz=>by
  by_cases e:K=n+1
  .rw[e]
  .show AI p m (ks p m g n) (g n)=_
   rw[hz n ac ac,BY hp (ks_lt hp _ _)];exact Pt hp n ac fun j h1 h2=>hz j h1 ac
theorem P0{p m:Nat}{ml:List Int}(hp:1<=p){n K:Nat}(hK:K<=n)(f x:Nat->Int):dt p m ml n f (fun i=>if i<K then x i else 0)=dt p m ml K f x:=by
 rw[EP,EP,Pt hp n hK fun j h1 _=>by
  show Ai p m (lw ml) _ (Au (p^m) (if j<K then x j else 0))=0
  rw[if_neg ac,CG,AX hp]]
 exact Ep K fun j hj=>by rw[if_pos hj]
structure Bd(p m:Nat)(ml:List Int)(n:Nat)(l1 l2:List (List Int))(pl sl:List Int):Prop where
 pll:pl.length=n
 sll:sl.length=n
 nn:∀i,i<n->0<=pl.getD i 0
 inj:FO n (BV pl)
 sc:∀i,i<n->∃z:Nat,sl.getD i 0=z/\1<=z/\z<p^m
 sol:∀x,Bz p m ml n l2.length (Ak l2) x↔Bz p m ml n l1.length (fun i=>plc (BV pl) (Gd p m ml sl (Ak l1 i)) n) x
section
variable {p m:Nat} {ml:List Int} {n:Nat} {l1 l2:List (List Int)} {pl sl:List Int}
theorem Ch{l:List Int}{K j:Nat}(hj:j<K):(l.take K).getD j 0=l.getD j 0:=by
 rw[List.getD_eq_getElem?_getD,List.getElem?_take_of_lt hj,<-List.getD_eq_getElem?_getD]
theorem Bd.rng(h:Bd p m ml n l1 l2 pl sl)(K:Nat):BU (pl.take K) n=true:=by
 unfold BU;refine List.all_eq_true.2 fun x hx=>?_;obtain⟨i,hi,rfl⟩:=List.getElem_of_mem (List.mem_of_mem_take hx);have h1:=h.nn i (by have:=h.pll;omega);have h2:=h.inj.lt i (by have:=h.pll;omega);unfold BV at h2;have e:pl.getD i 0=pl[i]:=by rw[List.getD_eq_getElem?_getD,List.getElem?_eq_getElem hi];rfl
 rw[e]at h1 h2;simp;omega
theorem Bd.compat(h:Bd p m ml n l1 l2 pl sl)(hp:2<=p){K:Nat}(hK:K<=n):Oy p m ml l1 l2 (pl.take K) (sl.take K):=by
 have hl:(pl.take K).length=K:=by rw[List.length_take,h.pll];omega
 intro x;rw[hl];have hz:∀i,i<n->plc (BV pl) (fun i=>if i<K then x i else 0) n (BV pl i)=if i<K then x i else 0:=fun i hi=>IG h.inj _ n (Nat.le_refl _) i hi;have e2:∀i,dt p m ml n (Ak l2 i) (plc (BV pl) (fun i=>if i<K then x i else 0) n)=dt p m ml K (Ix (pl.take K) (Ak l2 i)) x:=fun i=>by
  rw[DT,N6 ac h.inj,DT,P0 ac hK];refine Fs (fun j hj=>?_) fun _ _=>rfl;unfold Ix BV;rw[Ch hj]
 have e1:∀i,dt p m ml n (plc (BV pl) (Gd p m ml sl (Ak l1 i)) n) (plc (BV pl) (fun i=>if i<K then x i else 0) n)=dt p m ml K (Gd p m ml (sl.take K) (Ak l1 i)) x:=fun i=>by
  rw[N6 ac h.inj,Fs (fun _ _=>rfl) hz,P0 ac hK];refine Fs (fun j hj=>?_) fun _ _=>rfl;unfold Gd;rw[Ch hj]
 have:=h.sol (plc (BV pl) (fun i=>if i<K then x i else 0) n);constructor
 .intro hx i hi;rw[<-e1 i];exact this.1 (fun i hi=>by rw[e2 i];exact hx i hi) i hi
 .intro hx i hi;rw[<-e2 i];exact this.2 (fun i hi=>by rw[e1 i];exact hx i hi) i hi
theorem Bd.of(hp:2<=p)(h1:pl.length=n)(h2:sl.length=n)(h3:∀i,i<n->0<=pl.getD i 0)(h4:FO n (BV pl))(h5:∀i,i<n->∃z:Nat,sl.getD i 0=z/\1<=z/\z<p^m)(hc:Oy p m ml l1 l2 pl sl):Bd p m ml n l1 l2 pl sl:=by
 refine⟨h1,h2,h3,h4,h5,fun x=>?_⟩;have e2:∀i,dt p m ml n (Ix pl (Ak l2 i)) (fun i=>x (BV pl i))=dt p m ml n (Ak l2 i) x:=fun i=>by
  rw[EP,EP,<-h4.sum ac (g:=fun j=>Ai p m (lw ml) (Au (p^m) (Ak l2 i j)) (Au (p^m) (x j))) fun j=>AR ac _ _];rfl
 have e1:∀i,dt p m ml n (plc (BV pl) (Gd p m ml sl (Ak l1 i)) n) x=dt p m ml n (Gd p m ml sl (Ak l1 i)) (fun i=>x (BV pl i)):=fun i=>N6 ac h4 _ _;have:=hc (fun i=>x (BV pl i));rw[h1]at this;constructor
 .intro hx i hi;show dt p m ml n (plc (BV pl) (Gd p m ml sl (Ak l1 i)) n) x=0
  rw[e1 i];exact this.1 (fun i hi=>by show dt p m ml n (Ix pl (Ak l2 i)) _=0;rw[e2 i];exact hx i hi) i hi
 .intro hx i hi;rw[<-e2 i];exact this.2 (fun i hi=>by rw[<-e1 i];exact hx i hi) i hi
end
section
variable {σ:Type} {step:σ->List Int->List Int->σ × Int} {tl sc:List Int}
end
section
variable {p m:Nat} {ml:List Int} {n:Nat} {l1 l2:List (List Int)} {pl sl:List Int}
theorem Bd.step(h:Bd p m ml n l1 l2 pl sl){K:Nat}(hK:K<n):∃a:Nat,1<=a/\a<=p^m-1/\pl.getD K 0=((BV pl K:Nat):Int)/\sl.getD K 0=(a:Int)/\BV pl K<n/\(pl.take K).contains ((BV pl K:Nat):Int)=false/\pl.take (K+1)=pl.take K ++ [((BV pl K:Nat):Int)]/\sl.take (K+1)=sl.take K ++ [(a:Int)]:=by
 obtain⟨a,ha,a1,a2⟩:=h.sc K hK;have hn:=h.nn K hK;have e1:((BV pl K:Nat):Int)=pl.getD K 0:=by unfold BV;omega
 refine⟨a,a1,ac,e1.symm,ha,h.inj.lt K hK,?_,?_,?_⟩
 .cases hcon:(pl.take K).contains ((BV pl K:Nat):Int) with
  | false=>rfl
  | true=>
   exfalso;have aA:=List.contains_iff_mem.1 hcon;obtain⟨i,hi,e⟩:=List.getElem_of_mem aA;rw[List.length_take,h.pll]at hi;rw[List.getElem_take]at e;have e2:pl.getD i 0=pl[i]'(by have:=h.pll;omega):=by rw[List.getD_eq_getElem?_getD,List.getElem?_eq_getElem];rfl
   have:=h.inj.inj i K ac hK (by
    show(pl.getD i 0).toNat=_
    rw[e2,e];simp)
   omega
 .rw[List.take_add_one,List.getElem?_eq_getElem (by have:=h.pll;omega),e1,List.getD_eq_getElem?_getD,List.getElem?_eq_getElem (by have:=h.pll;omega)];rfl
 .rw[List.take_add_one,List.getElem?_eq_getElem (by have:=h.sll;omega),<-ha,List.getD_eq_getElem?_getD,List.getElem?_eq_getElem (by have:=h.sll;omega)];rfl
end
theorem Za{p m:Int}{ml:List Int}{aA:Int}{rows:List (List Int)}{e:Int}(h:Lj p m ml aA rows e):Dp p m ml aA rows=e:=by
 unfold Dp;rcases h with⟨pn,mn,rfl,rfl,h3,h4⟩|⟨h1,h2⟩
 .rw[if_neg (fun h=>h ((Cg _ _ _).2 h3)),h4];rfl
 .rw[if_pos (fun h=>h1 ((Cg _ _ _).1 h)),h2]
theorem Je{N:Nat}{rows:List (List Int)}(h:∀r∈rows,r.length=N):Av N rows.length (Ak rows)=rows:=by
 apply List.ext_getElem?;intro i;by_cases hi:i<rows.length
 .rw[Cx hi,List.getElem?_eq_getElem hi,J8 (List.getElem?_eq_getElem hi) (h _ (List.getElem_mem hi))]
 .rw[List.getElem?_eq_none (by rw[AE];omega),List.getElem?_eq_none ac]
theorem TE{p m N:Nat}{rows:List (List Int)}(h:∀r∈rows,r.length=N/\B3 (p^m) r=0):Qp p m rows.length N (Ak rows):=fun i hi j hj=>by
 have aA:rows[i]?=some rows[i]:=List.getElem?_eq_getElem hi;obtain⟨h1,h2⟩:=h _ (List.getElem_mem hi);have e:Ak rows i j=rows[i].getD j 0:=by unfold Ak;rw[List.getD_eq_getElem?_getD (l:=rows),aA];rfl
 rw[e];exact zbM
theorem zbp{P:Prop}(h:P:=by
 clear hLR aF;go_wp2_with (go_at_call 27;refine aJ.o.mono ?_;rintro e w4⟨rfl,n3,aM⟩;subst aM)
 have aQ:=Aa (aR.o.drewN n3);go_wp2_with fail
 go_ret;exact⟨⟨_,rfl,aD.o⟩,aQ.o⟩):P:=h
theorem QU(p m:Int)(ml:List Int)(mv:Value)(w:World)(aG:Am w mv ml)(aA:Int)(rows:List (List Int))(v:Value)(hv:BO w v rows):
  Calls Tryz.prog 88 #[.agg #[.int .i64 p,.int .i64 m,mv],.agg #[.int .i64 aA,v]] w fun r w'=>(∃e:Int,r= .returned (.int .i64 e)/\LF p m ml aA rows e)/\Ex w w':=by
 obtain⟨g0,g1,g2,e0,aP⟩:=AC w p m mv;have aV:=Aa (fun (w':World) (h:Ex w w')=>TM p m ml mv w' (aG.ex h) aA rows v (hv.ex h));have aZ:=Aa aG;have HV:=Aa hv;obtain⟨za,zc,rfl,z1,z2,z3⟩:=hv.open;clear z1 z3;unfold maxLen at z2;obtain⟨ma,mc,rfl,-,m2,-⟩:=aG.open;unfold maxLen at m2;obtain⟨xb,aY⟩:=nA w.heap.size;rw[aY]at g0 g1 g2 aP;clear aG hv;go_enter Tryz.func88,Tryz.ntmps88
 go_wp2_with fail
 generalize w.alloc (.cells #[.int .i64 p,.int .i64 m,.slice ma ml.length mc] 24)=wA at *;obtain⟨a0,a1,ea⟩:=Dl wA aA (.slice za rows.length zc);rw[aP]at a0 a1;generalize wA.alloc (.cells #[.int .i64 aA,.slice za rows.length zc] 137)=wB at *;obtain⟨A0,A1,G0,G1,G2,HE⟩:=To a0 a1 (ea.cell g0) (ea.cell g1) (ea.cell g2) (e0.trans ea);clear g0 g1 g2 a0 a1 e0 ea aP;refine(aV.o wB HE.o).mono ?_;rintro e w2⟨e,rfl,hc,aC⟩;obtain⟨aI,A0,A1,G0,G1,G2⟩:=To (HE.o.trans aC) (aC.cell A0.o) (aC.cell A1.o) (aC.cell G0.o) (aC.cell G1.o) (aC.cell G2.o);clear aC HE aV;have aE:=Za hc;by_cases he:e=0
 .subst he;rcases hc with⟨pn,mn,rfl,rfl,hfb,hmk⟩|⟨_,h⟩
  .obtain⟨s1,s2,s3,s4⟩:=DJ hmk.symm;obtain⟨N,rfl⟩:∃N:Nat,aA=N:=⟨aA.toNat,ac⟩;have aB:∀r∈rows,r.length=N/\B3 (pn^mn) r=0:=fun r hr=>by obtain⟨h1,h2⟩:=s4 r hr;exact⟨ac,h2⟩
   have aN:GD pn mn ml/\FZ pn mn (lw ml):=by
    obtain⟨aW,aX,e1,e2,h3,h4,h5⟩:=hfb;obtain rfl:aW=pn:=ac;obtain rfl:aX=mn:=ac;exact⟨h3,h5⟩
   have aU:=Aa (QV (mv:= .slice ma ml.length mc) w2 aN.1 aN.2 (aZ.o.ex aI.o) N rows.length ac s3 (Ak rows) (TE aB) _ (by rw[Je fun r hr=>(aB r hr).1];exact HV.o.ex aI.o));have aK:=Aa (fun piv a' e (aH:Iq pn mn ml N rows.length (Ak rows) a' piv) (h:e=if Av N piv.length a'=rows then 0 else 5)=>show LF pn mn ml N rows e from .inr ⟨aE,pn,mn,N,piv,a',rfl,rfl,rfl,hfb,hmk.symm,aH,h⟩);have c0:=A0.o;have c1:=A1.o;have c2:=G0.o;have c3:=G1.o;have c4:=G2.o;clear aE hfb hmk s1 s2 s3 s4 aB aN;go_wp2_with fail
   refine aU.o.mono ?_;rintro e w3⟨piv,pv,rv,a',rfl,aH,aO,aT,aL⟩;have aR:=Aa (aI.o.trans aL);have c1:=aL.cell A1.o;obtain⟨L,hL⟩:=nA (Av N piv.length a');have aJ:=Aa (Ei w3 L rows _ _ (by rw[<-hL];exact aO) (HV.o.ex aR.o));have aF:=Aa (fun e=>aK.o piv a' e aH);rw[hL]at aF;obtain⟨ra,rc,aS,-,r2,-⟩:=aO.open;rw[hL]at aS;subst aS;obtain⟨pa,pc,rfl,-,p2,-⟩:=aT.open;clear aH aO aT aL hL r2 p2 aU aK;by_cases hLR:L=rows
   .rw[decide_eq_true hLR]at aJ;have aD:=Aa (aF.o 0 (by rw[if_pos hLR]));exact zbp
   .rw[decide_eq_false hLR]at aJ;have aD:=Aa (aF.o 5 (by rw[if_neg hLR]));exact zbp
  .exact absurd h ae
 .have kb:(e !=0)=true:=by simpa using he
  have aK:=Aa (show LF p m ml aA rows e from .inl ⟨by rw[aE];exact he,aE.symm⟩);clear hc aE;go_wp2_with fail
  go_ret;exact⟨⟨_,rfl,aK.o⟩,aI.o⟩
theorem Gk{p m n:Int}{ml:List Int}{rows:List (List Int)}(h:BN p m ml n rows 0):∃pn mn N:Nat,p=pn/\m=mn/\n=N/\GD pn mn ml/\FZ pn mn (lw ml)/\1<=N/\N<=64/\rows.length<=256/\∀r∈rows,r.length=N/\B3 (pn^mn) r=0:=by
 obtain⟨hF,hn1,hn2⟩:=Du h;rcases h with⟨_,h⟩|⟨_,h1,h2⟩|⟨h1,h2,h3⟩
 .cases h
 .exact absurd h2.symm h1
 .rcases h3 with⟨h3,h4⟩|⟨_,pn,mn,N,piv,a',rfl,rfl,rfl,_,hm,_⟩
  .exact absurd h4.symm h3
  .obtain⟨p1,m1,e1,e2,aA,_,hI⟩:=hF;obtain rfl:pn=p1:=by omega
   obtain rfl:mn=m1:=ac;obtain⟨_,_,s3,s4⟩:=DJ hm;exact⟨pn,mn,N,rfl,rfl,rfl,aA,hI,ac,ac,s3,fun r hr=>⟨by have:=(s4 r hr).1;omega,(s4 r hr).2⟩⟩
theorem Jf{N k i j:Nat}{a:Nat->Nat->Int}(hi:i<k)(hj:j<N):Ak (Av N k a) i j=a i j:=by
 unfold Ak;rw[List.getD_eq_getElem?_getD (l:=Av N k a),Cx hi];exact Ia hj _
theorem YY{p m:Nat}{ml:List Int}{N R:Nat}{a a':Nat->Nat->Int}{piv:List Nat}(hp:2<=p)(h:Iq p m ml N R a a' piv)(x:Nat->Int):Bz p m ml N (Av N piv.length a').length (Ak (Av N piv.length a')) x↔Bz p m ml N R a x:=by
 obtain⟨c,hc,hP,aA,hS⟩:=h;rw[<-hS x,AE];have e:∀i,i<piv.length->dt p m ml N (Ak (Av N piv.length a') i) x=dt p m ml N (a' i) x:=fun i hi=>Fs (fun j hj=>Jf hi hj) fun _ _=>rfl;constructor
 .intro h i hi;by_cases hip:i<piv.length
  .rw[<-e i hip];exact h i hip
  .refine EO hp fun j hj=>?_;rcases aA with h1|h1
   .omega
   .exact hP.tail i j ac hi ac
 .intro h i hi;rw[e i hi];exact h i (by have:=hP.le;omega)
theorem Hl{pl tl:List Int}(h:tl.length<=pl.length)(aA:∀i,i<tl.length->pl.getD i 0=tl.getD i 0):pl.take tl.length=tl:=by
 refine List.ext_getElem bn fun i h1 h2=>?_;have:=aA i h2;rw[List.getD_eq_getElem?_getD,List.getElem?_eq_getElem ac,List.getD_eq_getElem?_getD,List.getElem?_eq_getElem h2]at this;rw[List.getElem_take];exact this
theorem PX{p m:Nat}{ml:List Int}{N R R2:Nat}{a b a1 a2:Nat->Nat->Int}{aA piv2:List Nat}(hp:2<=p)(hm:1<=m)(aB:∀x,Bz p m ml N R a x↔Bz p m ml N R2 b x)(h1:Iq p m ml N R a a1 aA)(h2:Iq p m ml N R2 b a2 piv2):Av N aA.length a1=Av N piv2.length a2/\aA=piv2:=by
 obtain⟨c1,x1,y1,z1,s1⟩:=h1;obtain⟨c2,x2,y2,z2,s2⟩:=h2;obtain⟨e1,e2⟩:=XH (ml:=ml) hp hm ⟨c1,x1,y1,z1⟩ ⟨c2,x2,y2,z2⟩ fun x=>((s1 x).trans (aB x)).trans (s2 x).symm;subst e1;refine⟨List.map_congr_left fun i hi=>List.map_congr_left fun j hj=>e2 i (List.mem_range.1 hi) j (List.mem_range.1 hj),rfl⟩
theorem H7{p m:Nat}{ml:List Int}{N R:Nat}{a:Nat->Nat->Int}{piv:List Nat}{c:Nat}(h:PV p m R N a piv c)(hc:c<=N)(hr:piv.length=R):Iq p m ml N R a a piv:=⟨c,hc,h,.inl hr,fun x=>Iff.rfl⟩
theorem BZ{p m n:Int}{ml:List Int}{rows:List (List Int)}{e e':Int}(h:BN p m ml n rows e)(h':BN p m ml n rows e'):e=e':=by
 rcases h with⟨a,rfl⟩|⟨a,b,rfl⟩|⟨a,b,h⟩ <;> rcases h' with⟨a',rfl⟩|⟨a',b',rfl⟩|⟨a',b',h'⟩ <;> first|rfl|contradiction|skip
 rcases h with⟨c,rfl⟩|⟨c,pn,mn,N,piv,a1,rfl,rfl,rfl,hF,_,hE,rfl⟩ <;> rcases h' with⟨c',rfl⟩|⟨c',pn',mn',N',piv',a1',e1,e2,e3,hF',_,aB,rfl⟩ <;> first|rfl|contradiction|skip
 obtain rfl:pn'=pn:=ac;obtain rfl:mn'=mn:=ac;obtain rfl:N'=N:=ac;obtain⟨p1,m1,e1,e2,aA,_⟩:=hF;obtain rfl:p1=pn':=ac;obtain rfl:m1=mn':=ac;rw[(PX aA.p2 aA.m1 (fun _=>Iff.rfl) hE aB).1]
theorem Vh{p m N q:Nat}{r:List Int}(hq:q<N)(h0:∀j,j<N->0<=r.getD j 0/\r.getD j 0<((p^m:Nat):Int))(h1:r.getD q 0=1)(h2:∀k,k<q->r.getD k 0=0):PV p m 1 N (Ak [r]) [q] (q+1) where
 le:=ag
 rng:=fun i hi j hj=>by
  obtain rfl:i=0:=ac;exact h0 j hj
 lt:=fun j q' h=>by
  rcases j with _|j
  .simp at h;omega
  .simp at h
 one:=fun j q' h=>by
  rcases j with _|j
  .simp at h;subst h;exact h1
  .simp at h
 zer:=fun j q' i h hi hne=>by
  rcases j with _|j
  .omega
  .simp at h
 tail:=fun i j h hi _=>by simp at h;omega
 lead:=fun j q' k h hk=>by
  rcases j with _|j
  .simp at h;subst h;exact h2 k hk
  .simp at h
 asc:=fun i j q' r' hij h h'=>by
  rcases j with _|j
  .omega
  .simp at h'
theorem il_row{N:Nat}{r:List Int}(h:r.length=N):il N (Ak [r] 0)=r:=by
 subst h;refine List.ext_getElem? fun j=>?_;by_cases hj:j<r.length
 .rw[AH hj,List.getElem?_eq_getElem hj];show some (r.getD j 0)=_
  rw[List.getD_eq_getElem?_getD,List.getElem?_eq_getElem hj];rfl
 .exact zaL
theorem P8{p m N q:Nat}{ml:List Int}{r:List Int}{e:Int}(hF:EG p m ml)(hc:Dp p m ml N [r]=0)(hl:Ec N=0)(hk:BL (p^m) N [r]=0)(hr:r.length=N)(hv:PV p m 1 N (Ak [r]) [q] (q+1))(hq:q<N)(h:BN p m ml N [r] e):e=0:=by
 have aA:Cp p m ml=0:=by
  apply Classical.byContradiction;intro h;unfold Dp at hc;rw[if_pos h]at hc;cases hc
 refine BZ h (.inr (.inr ⟨aA,hl,.inr ⟨hc,p,m,N, [q],Ak [r],rfl,rfl,rfl,hF,hk,H7 hv ac rfl,?_⟩⟩));rw[if_pos];show [il N (Ak [r] 0)]= [r]
 rw[il_row hr]
def eC:AU:=⟨2,1, [],3, [[1,1,0]]⟩
theorem e21:EG 2 1 []:=⟨2,1,rfl,rfl,⟨ac,ac,ac,ae,rfl,by intro x hx;cases hx⟩,ae,(Gy (p:=2) (m:=1) (ml:= []) ⟨ac,ac,ac,ae,rfl,by intro x hx;cases hx⟩ ae).2 (.inl rfl)⟩
theorem Wu:PV 2 1 1 3 (Ak [[1,1,0]]) [0] 1:=Vh ac ae rfl ae
theorem N5{e:Int}(h:BN 2 1 [] 3 [[1,1,0]] e):e=0:=P8 (p:=2) (m:=1) (N:=3) e21 ak ak ak rfl Wu ac h
theorem BO.vals{w:World}{v:Value}{rows:List (List Int)}(h:BO w v rows):∃us:List Value,Sl w v rows.length 1 us/\us.length=rows.length/\∀(i:Nat) (r:List Int) (u:Value),rows[i]?=some r->us[i]?=some u->Am w u r:=by
 obtain⟨vals,h1,h2⟩:=h;exact⟨vals,h1,by have:=h1.1;omega,h2⟩
theorem Ue(w:World)(B:Nat)(n:Int)(a:Option Addr)(l cap:Nat)(c0:w.cell? ⟨B,0,none⟩=some (.int .i64 n)):
  Calls Tryz.prog 176 #[.slice a l cap,.pointer (some ⟨B,0,none⟩)] w fun r w'=>r= .returned (.bool ((l:Int) !=n))/\∃q,w'=w.drewN q:=by
 go_enter Tryz.func176,Tryz.ntmps176
 go_wp2_with fail
 go_ret;exact⟨rfl,0,rfl⟩
theorem zbD{P:Prop}(h:P:=by
 clear ho;go_wp2_with (go_at_call 71;refine aD.o.mono ?_;rintro e w'⟨rfl,q,rfl⟩)
 go_ret;exact⟨Ah HP.o.symm,EX.o.drewN q⟩):P:=h
theorem Gh(w:World)(n:Int)(rows:List (List Int))(v:Value)(hv:BO w v rows):
  Calls Tryz.prog 124 #[.int .i64 n,v] w fun r w'=>r= .returned (.int .i64 (Ef n rows))/\Ex w w':=by
 have HV:=Aa hv;obtain⟨a,cap,rfl,s1,s2,s3⟩:=hv.open;unfold maxLen at s2;have e0:Ex w (w.alloc (.cells #[.int .i64 n] 3)):=(Ex.refl _).alloc _;have c0:(w.alloc (.cells #[.int .i64 n] 3)).cell? ⟨w.heap.size,0,none⟩=some (.int .i64 n):=ag;have S3:=Aa (hv.ex e0).open;clear s3 hv;go_enter Tryz.func124,Tryz.ntmps124
 go_wp2_with fail
 generalize w.alloc (.cells #[.int .i64 n] 3)=w1 at *;refine(Hc w1 n).mono ?_;rintro e w2⟨rfl,rfl⟩;by_cases hd:n<1∨64<n
 .have hz:LC n=4:=if_pos hd;have HP:=Aa (show Ef n rows=4 from if_pos hd);exact zcH
 .have hz:LC n=0:=if_neg hd;have HG:=Aa (show Ef n rows=RH n rows from if_neg hd);rw[hz];have E0:=Aa e0;have C0:=Aa c0;clear hd hz e0 c0;go_wp2_with fail
  go_loopw [16] (fun k' wr=>∃(k:Nat),k<=rows.length/\k'= .int .i64 k/\Hia (∀(i:Nat) (r:List Int),i<k->rows[i]?=some r->Cb r=0)/\Hia (Ex w1 wr)) (fun k' _=>rows.length-(intOf k').toNat)
  case atStart=>exact⟨0,ac,rfl,Aa (fun i x h=>ac),Aa (Ex.refl _)⟩
  case round=>
   obtain⟨k,hk,rfl,aA,hx⟩:=hrel;by_cases hkn:k<rows.length
   .obtain⟨b,o,rfl,hc⟩:∃b o,a=some ⟨b,o,none⟩/\∀(i:Nat) (r:List Int),rows[i]?=some r->∃u,w1.cell? ⟨b,o+i,none⟩=some u/\Am w1 u r:=by
     exact zb5
    obtain⟨r,aC⟩:∃r,rows[k]?=some r:=⟨_,List.getElem?_eq_getElem hkn⟩;obtain⟨u,c1,hu⟩:=hc k r aC;have c1:=hx.o.cell c1;have i1:(0:Int)<=(k:Int):=ac;have i2:(k:Int)<(rows.length:Int):=ac;have aF:=Aa (MY wr r u (hu.ex hx.o));obtain⟨e,he⟩:=nA (Cb r);rw[he]at aF;by_cases h0:e=0
    .have HA:=Aa (show ∀(i:Nat) (s:List Int),i<k+1->rows[i]?=some s->Cb s=0 from fun i s hi hs=>by
      by_cases e2:i=k
      .subst e2;rw[aC]at hs;injection hs with hs;subst hs;rw[he,h0]
      .exact aA.o i s ac hs)
     subst h0;clear hc aC hu he aA;go_wp2_with (go_at_call 57;refine aF.o.mono ?_;rintro e w'⟨rfl,aB⟩;have aE:=Aa (hx.o.trans aB);clear aB)
     go_roundw
     case rel=>exact⟨k+1,ac,by go_num,HA,aE⟩
     case measure=>simp[intOf];omega
    .have hb:(e !=0)=true:=by simpa using h0
     have HP:=Aa (show Ef n rows=e from by rw[HG.o,WL aC (by rw[he];exact h0) (fun j s hj hs=>aA.o j s hj hs)];exact he);clear hc aC hu he aA h0;go_wp2_with (go_at_call 57;refine aF.o.mono ?_;rintro e w'⟨rfl,aB⟩;have aE:=Aa (hx.o.trans aB);clear aB)
     go_ret;exact⟨Ah HP.o.symm,E0.o.trans aE.o⟩
   .obtain rfl:k=rows.length:=by omega
    have aK:=Aa (MR (n:=n) fun j s hs=>aA.o j s (List.getElem?_eq_some_iff.1 hs).1 hs);have EX:=Aa (E0.o.trans hx.o);have c0:=hx.o.cell C0.o;obtain⟨us,aH,aL,aG⟩:=(HV.o.ex EX.o).vals;have aD:=Aa (I5 wr (.pointer (some ⟨w.heap.size,0,none⟩)) (.slice a rows.length cap) rows.length us aH (fun i=>((rows.getD i []).length:Int) !=n) fun q i u hu=>by
     have hi:i<rows.length:=by have:=(List.getElem?_eq_some_iff.1 hu).1;omega
     have aI:rows[i]?=some (rows[i]):=List.getElem?_eq_getElem hi;have hd:rows.getD i []=rows[i]:=by rw[List.getD_eq_getElem?_getD,aI];rfl
     rw[hd];obtain⟨ua,uc,rfl,_⟩:=(aG i _ u aI hu).open;exact Ue _ w.heap.size n ua _ uc (((Ex.refl wr).drewN q).cell c0))
    have aJ:=Aa (show((List.range rows.length).any fun i=>((rows.getD i []).length:Int) !=n)=decide (∃r∈rows,(r.length:Int)≠n) from by
     rw[Bool.eq_iff_iff];simp only[List.any_eq_true,List.mem_range,decide_eq_true_eq,bne_iff_ne];constructor
     .exact zaB
     .rintro⟨x,hx,h⟩;obtain⟨i,hi,rfl⟩:=List.getElem_of_mem hx;exact⟨i,hi,by rw[List.getD_eq_getElem?_getD,List.getElem?_eq_getElem hi];exact h⟩)
    rw[aJ.o]at aD;clear aA aJ aH aL aG c0 hx;by_cases ho:∃r∈rows,(r.length:Int)≠n
    .have HP:=Aa (show Ef n rows=10 from by rw[HG.o,aK.o,if_pos ho]);rw[decide_eq_true ho]at aD;exact zbD
    .have HP:=Aa (show Ef n rows=0 from by rw[HG.o,aK.o,if_neg ho]);rw[decide_eq_false ho]at aD;exact zbD
def Zo(p q:List Int):List Int:=p.map fun x=>q.getD x.toNat 0
def unL(n:Nat):List Int:=li n EN
theorem ZP{n:Nat}{f g:Nat->Nat}(hf:∀i,i<n->f i<n):Zo (li n f) (li n g)=li n (Ar f g):=by
 apply List.ext_getElem?;intro i;unfold Zo;by_cases hi:i<n
 .rw[List.getElem?_map,DK hi,DK hi];show some ((li n g).getD (f i:Int).toNat 0)=_
  rw[Int.toNat_natCast,List.getD_eq_getElem?_getD,DK (hf i hi)];rfl
 .rw[List.getElem?_eq_none (by rw[List.length_map,E6];omega),List.getElem?_eq_none (by rw[E6];omega)]
theorem Z7{v:Value}{e e':Int}(h:e=e'):Ending.returned (.tuple #[v,.int .i64 e])= .returned (.tuple #[v,.int .i64 e']):=by rw[h]
section
variable {p m:Nat} {low:Vc}
end
theorem lget_D{l:List Int}{i:Nat}(hi:i<l.length):l[i]?=some (l.getD i 0):=by
 exact zcR
def ZM(l:List Int):Bool:=l.all fun x=>x==0
theorem OI{l:List Int}:ZM l=true↔∀j,j<l.length->l.getD j 0=0:=by
 unfold ZM;rw[List.all_eq_true];constructor
 .intro h j hj;have:=h (l.getD j 0) (List.mem_of_getElem? (lget_D hj));simpa using this
 .intro h x hx;obtain⟨j,hj,rfl⟩:=List.getElem_of_mem hx;have:=h j hj;rw[List.getD_eq_getElem?_getD,List.getElem?_eq_getElem hj]at this;simpa using this
theorem D6.set5{b0:Nat}{w:World}{v:Value}{rows:List (List Int)}(h:D6 b0 w v rows){q:Nat}(hq:q<b0)(a b c d e:Value):D6 b0 (ZZ w q a b c d e) v rows:=
 ((((h.low (A:=⟨q,0,none⟩) hq a).low (A:=⟨q,1,none⟩) hq b).low (A:=⟨q,2,none⟩) hq c).low (A:=⟨q,3,none⟩) hq d).low (A:=⟨q,4,none⟩) hq e
section
open Go.RowKit Go.ChangeShapes Go.WideShapes Go.ChangeAt
section
variable {H:Type} {enc:TypeId × Value->H} {W:World} {held:Bool}
theorem Iu{x:Addr}{w:World}{u:Value}(h:w.cell? x=some u)(hu:(∃k n,u= .int k n)∨∃a l c,u= .slice a l c):x=⟨x.block,x.off,none⟩:=by
 have hs:x.spot=none:=by
  rcases hs:x.spot with _|s
  .rfl
  .exfalso;simp only[World.cell?,hs]at h;split at h
   .rcases hu with⟨k,n,rfl⟩|⟨a,l,c,rfl⟩ <;> simp at h
   .simp at h
 cases x;simp_all
theorem Ok(b o j:Nat):(⟨b,o,none⟩:Addr).add j=⟨b,o+j,none⟩:=db
theorem Mu{w:World}{a:Option Addr}{len cap:Nat}{zs:List Int}(h1:len<=cap)(h2:cap<=maxLen)(h3:zs.length=cap)(h4:a=none->cap=0)(h5:∀x,a=some x->∀i,i<cap->w.cell? (x.add i)=some (.int .i64 (zs.getD i 0))):
  Am w (.slice a len cap) (zs.take len):=by
 have hl:(zs.take len).length=len:=bn;unfold Am;rw[hl];refine⟨by rw[A7];omega,a,cap,rfl,h1,h2,fun hn=>?_⟩;rcases a with _|x
 .have:=h4 rfl;omega
 .have h0:=h5 x rfl 0 ac;have hx:=Iu h0 (.inl ⟨_,_,rfl⟩);have aA:(x.add 0)=x:=by simp[Addr.add]
  rw[aA]at hx;refine⟨x.block,x.off,congrArg some hx,fun j u hu=>?_⟩;simp only[Ao,List.getElem?_map,List.getElem?_take]at hu;split at hu
  .have h6:=h5 x rfl j ac;rw[hx,Ok]at h6;rw[h6];obtain⟨y,hy,rfl⟩:=Option.map_eq_some_iff.1 hu;rw[List.getD_eq_getElem?_getD,hy];rfl
  .cases hu
theorem Es{aA:Nat}{v:Value}{y:DataW H × List MemPlace}(h:DataW.trod enc Tryz.prog W 0 (fun _=>true) held aA 22 [v]=some y):∃l,Am W v l:=by
 rcases open_ints Tryz.underlying22 Tryz.underlying3 ah h with⟨hcs,_⟩|⟨x,l,c,zs,hcs,_,hl,hm,hz,_,hcell,hwz⟩
 .simp at hcs;subst hcs;exact⟨[],Sl.nil W 1⟩
 .simp at hcs;subst hcs;simp only[if_true]at hz;exact⟨_,Mu hl hm hz (fun h=>by cases h) (fun x' hx i hi=>by injection hx with hx;subst hx;exact hcell i ac)⟩
theorem Vz{aA:Nat}{v:Value}{y:DataW H × List MemPlace}(h:DataW.trod enc Tryz.prog W 0 (fun _=>true) held aA 37 [v]=some y):∃rows,BO W v rows:=by
 rcases Go.Deep.open_int_rows Tryz.underlying37 Tryz.underlying22 Tryz.underlying3 ah ah h with⟨hcs,_⟩|⟨x,len,cap,A,L,C,Z,hcs,_,hl,hm,_,hr⟩
 .simp at hcs;subst hcs;exact⟨[], [],Sl.nil W 1,fun i r u hr=>by simp at hr⟩
 .simp at hcs;subst hcs;refine⟨(List.range len).map fun r=>(Z r).take (L r),(List.range len).map fun r=> .slice (A r) (L r) (C r),?_,fun i r u h1 h2=>?_⟩
  .refine⟨ag,some x,cap,ag,by simpa using hl,hm,fun hn=>?_⟩;simp at hn;have h0:=(hr 0 ac).1;have hx:=Iu h0 (.inr ⟨_,_,_,rfl⟩);have aB:(x.add 0)=x:=by simp[Addr.add]
   rw[aB]at hx;refine⟨x.block,x.off,congrArg some hx,fun j u hu=>?_⟩;simp only[List.getElem?_map]at hu;obtain⟨k,hk,rfl⟩:=Option.map_eq_some_iff.1 hu;have hj:j<len:=by have:=(List.getElem?_eq_some_iff.1 hk).1;simpa using this
   have e:k=j:=by simp[hj]at hk;exact hk.symm
   subst e;have:=(hr k ac).1;rw[hx,Ok]at this;exact this
  .have hi:i<len:=by have:=(List.getElem?_eq_some_iff.1 h1).1;simpa using this
   simp[hi]at h1 h2;subst h1 h2;obtain⟨_,a1,a2,a3,_,a4,a5⟩:=hr i ac;exact Mu a1 a2 a3 a4 (fun x' hx j hj=>(a5 x' hx).2 j hj)
theorem WG:Tryz.prog.cellsOf 3=1:=ah
theorem RC:Tryz.prog.cellsOf 22=1:=ah
theorem c_rows:Tryz.prog.cellsOf 37=1:=ah
theorem ZD:Tryz.prog.cellsOf 24=3:=ah
theorem c_mon:Tryz.prog.cellsOf 26=3:=ah
theorem MC{aA:Nat}{c0 c1 c2:Value}{y:DataW H × List MemPlace}(h:DataW.trod enc Tryz.prog W 0 (fun _=>true) held aA 24 [c0,c1,c2]=some y):
  ∃(P M:Int) (ml:List Int),c0= .int .i64 P/\c1= .int .i64 M/\Am W c2 ml:=by
 obtain⟨xs,k,_,_,_,aB,hf⟩:=DataW.trod_struct Tryz.underlying24 h;have g0:=hf 0 _ rfl;have g1:=hf 1 _ rfl;have g2:=hf 2 _ rfl
 match xs,aB with
 | [y0,y1,y2],_=>
  simp[WG,RC]at g0 g1 g2;obtain⟨P,e0,_,_⟩:=DataW.trod_int Tryz.underlying3 g0;obtain⟨M,e1,_,_⟩:=DataW.trod_int Tryz.underlying3 g1;obtain⟨l,hl⟩:=Es g2;simp at e0 e1;exact⟨P,M,l,e0,e1,hl⟩
theorem T4{aA:Nat}{c0 c1 c2:Value}{y:DataW H × List MemPlace}(h:DataW.trod enc Tryz.prog W 0 (fun _=>true) held aA 26 [c0,c1,c2]=some y):
  ∃(pl sl:List Int) (fr:Int),Am W c0 pl/\Am W c1 sl/\c2= .int .i64 fr:=by
 obtain⟨xs,k,_,_,_,aB,hf⟩:=DataW.trod_struct Tryz.underlying26 h;have g0:=hf 0 _ rfl;have g1:=hf 1 _ rfl;have g2:=hf 2 _ rfl
 match xs,aB with
 | [y0,y1,y2],_=>
  simp[WG,RC]at g0 g1 g2;obtain⟨P,e0,_,_⟩:=DataW.trod_int Tryz.underlying3 g2;obtain⟨l,hl⟩:=Es g0;obtain⟨l',aC⟩:=Es g1;simp at e0;exact⟨l,l',P,hl,aC,e0⟩
theorem zco{P:Prop}(h:P:=by
 simp only[Value.okWide,ht]at h;obtain⟨cs,h1,h2,_⟩:=h;exact⟨cs,h1,h2⟩):P:=h
theorem FA{r:Reach}{b0:Nat}{t:TypeId}{fs:Array Field}{v:Value}(ht:Tryz.prog.underlying t=some (.struct fs))(h:Value.okWide Tryz.prog W r b0 t v):∃cs,v= .agg cs/\cs.size=Tryz.prog.cellsOf t:=by
 exact zco
theorem Yc{r:Reach}{b0:Nat}{t e:TypeId}{n:Nat}{v:Value}(ht:Tryz.prog.underlying t=some (.array n e))(h:Value.okWide Tryz.prog W r b0 t v):∃cs,v= .agg cs/\cs.size=Tryz.prog.cellsOf t:=by
 exact zco
theorem dj{P:Prop}(h:P:=by simpa[Value.cells]using hf):P:=h
theorem open_field{r:Reach}{b0:Nat}{v:Value}{d:DataW H}{p:List MemPlace}(hv:Value.okWide Tryz.prog W r b0 24 v)(h:DataW.Trod enc Tryz.prog W 0 (fun _=>true) held 24 v d p):
  ∃(P M:Int) (mv:Value) (ml:List Int),v= .agg #[.int .i64 P,.int .i64 M,mv]/\Am W mv ml:=by
 obtain⟨cs,rfl,aA⟩:=FA Tryz.underlying24 hv;obtain⟨c0,c1,c2,rfl⟩:=Go.Joins.array3 (aA.trans ZD);obtain⟨fuel,hf⟩:=h;obtain⟨P,M,ml,rfl,rfl,hl⟩:=MC dj;exact⟨P,M,_,ml,rfl,hl⟩
theorem open_mon{r:Reach}{b0:Nat}{v:Value}{d:DataW H}{p:List MemPlace}(hv:Value.okWide Tryz.prog W r b0 26 v)(h:DataW.Trod enc Tryz.prog W 0 (fun _=>true) held 26 v d p):
  ∃(pv sv:Value) (pl sl:List Int) (fr:Int),v= .agg #[pv,sv,.int .i64 fr]/\Am W pv pl/\Am W sv sl:=by
 obtain⟨cs,rfl,aA⟩:=FA Tryz.underlying26 hv;obtain⟨c0,c1,c2,rfl⟩:=Go.Joins.array3 (aA.trans c_mon);obtain⟨fuel,hf⟩:=h;obtain⟨pl,sl,fr,h1,h2,rfl⟩:=T4 dj;exact⟨_,_,pl,sl,fr,rfl,h1,h2⟩
theorem array6{α:Type}{cs:Array α}(h:cs.size=6):∃c0 c1 c2 c3 c4 c5,cs= #[c0,c1,c2,c3,c4,c5]:=by
 obtain⟨l⟩:=cs
 match l,h with
 | [c0,c1,c2,c3,c4,c5],_=>exact⟨c0,c1,c2,c3,c4,c5,rfl⟩
theorem array5{α:Type}{cs:Array α}(h:cs.size=5):∃c0 c1 c2 c3 c4,cs= #[c0,c1,c2,c3,c4]:=by
 obtain⟨l⟩:=cs
 match l,h with
 | [c0,c1,c2,c3,c4],_=>exact⟨c0,c1,c2,c3,c4,rfl⟩
theorem open_list{v:Value}{d:DataW H}{p:List MemPlace}(h:DataW.Trod enc Tryz.prog W 0 (fun _=>true) held 22 v d p)(hv:∃a l c,v= .slice a l c):∃l,Am W v l:=by
 obtain⟨fuel,hf⟩:=h;obtain⟨a,l,c,rfl⟩:=hv;exact Es dj
end
end
end Go.Proofs.YtehieobniamagaaGreat
