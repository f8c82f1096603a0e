/- A drawn region whose operations lay slices of the call's own and append to them: one proof per operation. -/
import Derived.Shelf.Sort.Plain
import Derived.Test.YtehieobniamagaaGreatProg
import Derived.Lib.SmallJoins
import Derived.Deep.Matrix
import Derived.Deep.Slices
import Derived.OpenShut
import Derived.ProofKit
import Derived.ChangeOld
import Derived.Test.YtehieobniamagaaGreatZc18
namespace Go.Proofs.YtehieobniamagaaGreat
open Go.RowKit
set_option linter.all false
set_option maxRecDepth 100000
set_option maxHeartbeats 4000000
theorem FX{w:World}{base b':Nat}{e:TypeId}{size:Nat}{v:Value}{n:Nat}{xs:List Value}(h:w.ownsRow base e size v n xs)(hb:b'<=base):w.ownsRow b' e size v n xs:=by
 obtain⟨h1,h2⟩:=h;refine⟨h1,?_⟩;rcases h2 with h2|⟨g,cap,cur,a,b,c⟩
 .exact .inl h2
 .exact .inr ⟨g,cap,cur,a,Nat.le_trans hb b,c⟩
section
variable {m e0 b0:Nat} {w0 w:World} {v0:Value} {te:TypeId} {size n:Nat} {xs:List Value} {L:Nat->Bool} {V:Nat->Value} {w' w'':World}
theorem GX{u v:Value}{N:Nat}(h1:∀B,u.ownBlock=some B->N<=B)(h2:∀B,v.ownBlock=some B->B<N):AT u v:=by
 unfold AT
 cases hu:u.ownBlock with
 | none=>exact .inl rfl
 | some B=>
  right;intro e;have:=h1 B hu;have:=h2 B e.symm;omega
variable {l:List Oper} {i:Nat} {u:Value}
end
section
variable {P:Program} {Q:Exit->Act->World->Prop} {l:List Oper} {a0:Act} {m e0 b0:Nat} {w0 w:World} {v0:Value} {te:TypeId} {size n:Nat} {xs:List Value} {i:Nat} {o:Oper}
end
theorem zcB{P:Prop}(h:P:=by
 go_enter Tryz.func53,Tryz.ntmps53
 go_wp2_with fail
 go_ret2;exact⟨rfl,rfl⟩):P:=h
theorem Ig(w:World)(n q:Nat)(hn:n<=64)(aA:1<=q)(hq:q<=256):
  Calls Tryz.prog 53 #[n,q] w fun r w'=>r= .returned (.tuple #[((if 64<n*(q-1) then 0 else n*(q-1):Nat):Int),.int .i64 (if 64<n*(q-1) then 8 else 0)])/\w=w':=by
 obtain⟨D,hD⟩:=nA (n*(q-1));have hDb:D<=20000:=by rw[<-hD];exact Nat.le_trans (Nat.mul_le_mul hn (show q-1<=255 by omega)) ac
 have k1:(n:Int)*((q:Int)-1)=(D:Int):=by rw[<-hD,Int.natCast_mul,Int.natCast_sub aA];rfl
 rw[hD];clear hD;by_cases h:64<D
 .rw[if_pos h,if_pos h];have h2:(64:Int)<(D:Int):=by omega
  exact zcB
 .rw[if_neg h,if_neg h];have h2:¬(64:Int)<(D:Int):=by omega
  exact zcB
def Pi(p m:Nat)(ml pl sl:List Int)(k:Nat):Int:=
 ((BH pl (k/(p^m-1))*(p^m-1)+Al p m (lw ml) (Av (p^m) (sl.getD (k/(p^m-1)) 0)) (k%(p^m-1)+1):Nat):Int)-1
def Hm(p m:Nat)(ml pl sl:List Int):List Int:=il (pl.length*(p^m-1)) (Pi p m ml pl sl)
section
variable {b p m x0:Nat} {ml:List Int}
theorem RK(w:World)(hg:Bj w b p m ml x0)(N:Nat)(hN:N<=64)(pl sl:List Int)(pv sv:Value)(hp:Aj w pv pl)(hs:Aj w sv sl)(aI:pl.length=N)(aH:sl.length=N)(hr:BD pl N=true)(hd:N*(p^m-1)<=64)(fr:Int):
  Calls Tryz.prog 55 #[.pointer (some (b,0)),.agg #[pv,sv,fr]] w fun r w'=>∃v,r= .returned v/\w'.ownsRow w.heap.size 3 1 v (N*(p^m-1)) (vs (N*(p^m-1)) (iv (Pi p m ml pl sl)))/\Ex w w':=by
 obtain⟨b0,b1,b2,eb⟩:=Bh w pv sv fr;have bF:=Aa (fun (w1:World) (h1:Ex w w1) (y z:Int)=>Fg w1 (hg.ex h1) y z);have aO:=Aa (Cu _ (hg.ex eb));have bP:2<=p^m:=Nat.le_trans hg.sh.p2 (Nat.le_self_pow (by have:=hg.sh.m1;omega) p);have bO:=hg.sh.q;have bH:=Aa (fun (x y:Nat)=>Bc (p:=p) (m:=m) (low:=lw ml) (by have:=hg.sh.p2;omega) x y);obtain⟨pa,pc,rfl,_,q2,p3⟩:=hp.open;obtain⟨sa,sc,rfl,_,s2,s3⟩:=hs.open;unfold maxLen at q2 s2;rw[aI]at p3;rw[aH]at s3;obtain⟨P3,S3,bT,bX,bW⟩:=Of p3 s3 (fun i (hi:i<N)=>Dy hr (i:=i) ac) (fun i (hi:i<N)=>AU (l:=pl) (i:=i) ac) (fun i (hi:i<N)=>AU (l:=sl) (i:=i) ac);rw[aI,aH]at b0 b1 eb aO ⊢;have aF:=Aa eb;obtain⟨q,hq⟩:=nA (p^m);obtain⟨Q,hQ⟩:=nA (q-1);obtain⟨F,hF⟩:=nA (Pi p m ml pl sl);have bY:=Aa (show ∀i c:Nat,c<Q->F (i*Q+c)=((BH pl i*Q+Al p m (lw ml) (Av q (sl.getD i 0)) (c+1):Nat):Int)-1 from fun i c hc=>by
  rw[<-hF];unfold Pi;rw[hq,hQ,Nat.mul_comm i Q,Nat.mul_add_div ac,Nat.mul_add_mod,Nat.div_eq_of_lt hc,Nat.mod_eq_of_lt hc,Nat.add_zero])
 rw[hq]at aO bF bH bP bO hd ⊢;rw[hQ]at hd ⊢;rw[hF];obtain⟨D,hD⟩:=nA (N*Q);have bM:=Aa (show ∀i,i<N->i*Q+Q<=D from fun i hi=>by rw[<-hD];have:=Nat.mul_le_mul_right Q (show i+1<=N from hi);rwa[Nat.succ_mul]at this);have k1:(N:Int)*((q:Int)-1)=(D:Int):=by rw[<-hD,<-hQ,Int.natCast_mul,Int.natCast_sub ac];rfl
 rw[hD]at hd ⊢;have HQ:=Aa (show(q:Int)-1=(Q:Int) from ac);have aN:=Aa (show q=Q+1 from ac);have cB:=Aa hD;clear hg hp hs p3 s3 eb aI aH hr hF hq hQ hD;go_enter Tryz.func55,Tryz.ntmps55
 go_upto_region 1 with fail
 obtain⟨B,hB⟩:=nA w.heap.size;rw[hB]at b0 b1 b2
 try simp only[hB]
 have HBW:=Aa hB;clear hB;generalize w.alloc (.cells #[.slice pa N pc,.slice sa N sc,fr] 26)=w1 at *;go_upto_region 2 with (go_at_call 54;refine aO.o.mono ?_;rintro e w2⟨rfl,rfl⟩)
 obtain⟨i0,aX,aT,aS,aR⟩:=info_parts Az;go_wp2_with (at_make;refine wpList_make_own _ rfl _ _ 22 rfl w1.heap.size 3 i0 (.int .i64 0) 1 Tryz.underlying22 aX aT aS .i64 .i64 (D:Int) D rfl rfl rfl (by rw[aR];omega) ai (Nat.le_refl _) ?_)
 intro w3 aA aY;obtain⟨V0,aZ⟩:∃v,Value.slice (some ⟨w1.heap.size,0,none⟩) 0 D=v:=⟨_,rfl⟩;rw[aZ]at aA ⊢;have bD:=Aa (show w3.ownsRow w1.heap.size 3 1 V0 (0*Q) (vs (0*Q) (iv F)) from by rw[Nat.zero_mul];exact aA);have bC:=Aa (show Ex w1 w3 from Below.grown (Ex.refl w1) aY (Nat.le_refl _) (fun k e=>by cases e));have B1:=Aa b1;replace b0:=bC.o.cell b0;have B0:=Aa b0;clear aA aY aZ aX aT aS aR;go_wp2_with fail
 go_loopw [6,22] (fun v' i' wr=>∃i:Nat,i<=N/\i'= .int .i64 i/\Hia (wr.ownsRow w1.heap.size 3 1 v' (i*Q) (vs (i*Q) (iv F)))/\Hia (Ex w1 wr)) (fun _ i' _=>N-(intOf i').toNat)
 case atStart=>exact⟨0,ac,rfl,bD,bC⟩
 case round=>
  clear bD;obtain⟨i,hi,rfl,aA,aB⟩:=hrel;by_cases hin:i<N
  .obtain⟨pb,po,rfl,aW⟩:=P3.o ac;obtain⟨sb,so,rfl,aV⟩:=S3.o ac;have bQ:=bT.o i hin;have cC:=Aa (aF.o.trans aB.o);obtain⟨y,hy⟩:=nA (BH pl i);have aU:pl.getD i 0=(y:Int):=by rw[<-hy];unfold BH;omega
   have bN:y<N:=ac;have aK:=bX.o i hin;rw[aU]at aK;have cp:=cC.o.cell (aW i _ aK);obtain⟨s,hs⟩:=nA (sl.getD i 0);have aJ:=bW.o i hin;rw[hs]at aJ;have cD:=Aa (aV i _ aJ);have i1:(0:Int)<=(i:Int):=ac;have i2:(i:Int)<(N:Int):=ac;obtain⟨YQ,aG⟩:∃z,y*Q=z:=⟨_,rfl⟩;have bS:=Aa (show YQ+Q<=D from by rw[<-aG];exact bM.o y bN);have bR:=Aa (show(y:Int)*((q:Int)-1)=(YQ:Int) from by rw[HQ.o,<-aG,Int.natCast_mul]);have bL:=Aa (show ∀c:Nat,c<Q->F (i*Q+c)=((YQ+Al p m (lw ml) (Av q s) (c+1):Nat):Int)-1 from fun c hc=>by
    have:=bY.o i c hc;rw[hy,hs,aG]at this;exact this)
   have bK:=Aa (bM.o i hin);have bV:=Aa (fun (w5:World) (h5:Ex w1 w5) (c:Nat) (hc:c<q)=>(by
    have:=bF.o w5 (aF.o.trans h5) s (c:Int);rw[AA hc]at this;exact this:Calls Tryz.prog 106 #[.pointer (some ⟨b,0,none⟩),s,(c:Int)] w5 (Qt w5 (.int .i64 (Al p m (lw ml) (Av q s) c:Nat)))))
   have bI:=Aa (show(i+1)*Q=i*Q+Q from Nat.succ_mul i Q);obtain⟨IQ,bA⟩:∃z,i*Q=z:=⟨_,rfl⟩;rw[bA]at aA bL bK bI;obtain⟨bE,cA,aE,bJ⟩:=Eq aA.o aB.o aB.o hin;obtain⟨w8,h8⟩:∃w8,w8=wr:=⟨_,rfl⟩;rw[<-h8]at bE cA aE cp ⊢;have HW8:=Aa h8;clear bQ hy aU aK hs aJ aW aV aA aB aG bA hin h8 k1;go_wp2_with fail
   go_loopw [6,9] (fun v' c' wr=>∃c:Nat,1<=c/\c<=q/\c'= .int .i64 c/\Hia (wr.ownsRow w1.heap.size 3 1 v' (IQ+(c-1)) (vs (IQ+(c-1)) (iv F)))/\Hia (Ex w1 wr)) (fun _ c' _=>q-(intOf c').toNat)
   case atStart=>exact⟨1,ac,ac,rfl,bE,aE⟩
   case round=>
    obtain⟨c,hc1,hcq,rfl,aA,aB⟩:=hrel;by_cases hcn:c<q
    .have cs:=aB.o.cell (aF.o.cell cD.o);have cb:=aB.o.cell B1.o;obtain⟨t,ht⟩:=nA (Al p m (lw ml) (Av q s) c);have htq:t<q:=by rw[<-ht];exact bH.o _ _
     have bZ:=Aa (show F (IQ+(c-1))=((YQ+t:Nat):Int)-1 from by
      rw[bL.o (c-1) (by have:=aN.o;omega),show c-1+1=c from ac,ht])
     have bG:=Aa (fun (w5:World) (h5:Ex wr w5)=>bV.o w5 (aB.o.trans h5) c hcn);rw[ht]at bG;obtain⟨va,vc,rfl⟩:=Ad aA.o;have aD:=Aa aA.o;have aC:=Aa aB.o;have aQ:=Aa (show IQ+(c-1)<=64/\IQ+(c-1)+1=IQ+(c+1-1) from⟨by have:=bK.o;have:=aN.o;omega,ac⟩);have k3:=bR.o;have k4:YQ<=64:=by have:=bS.o;omega
     have k5:(c:Int)<(q:Int):=ac;clear ht aA aB;go_upto_region 9 with fail
     go_wp2_with (first|(go_at_call 106;(with_reducible refine(bG.o _ (Ex.refl _)).mono ?_);rintro e w6⟨rfl,n6,rfl⟩;have aM:=Aa ((Ex.refl wr).drewN n6);have bU:=Aa (Ai aD.o aM.o);generalize wr.drewN n6=w6 at *)|(at_builtin;refine Am _ rfl _ _ 22 rfl w1.heap.size 3 (.int .i64 0) 1 8 Tryz.underlying22 Az rfl ae _ (IQ+(c-1)) _ rfl bU.o [.int .i64 ((YQ:Int)+(t:Int)-1)] 3 _ rfl rfl rfl aj (by have:=aQ.o.1;unfold maxLen;omega) (by have:=aQ.o.1;omega) (Nat.le_trans aC.o.size aM.o.size) ?_))
     intro v9 w9 aL;have aP:=Aa (show w9.ownsRow w1.heap.size 3 1 v9 (IQ+(c+1-1)) (vs (IQ+(c+1-1)) (iv F)) from by
      have:=aL.own;rw[<-aQ.o.2,SQ];have e:iv F (IQ+(c-1))=Value.int .i64 ((YQ:Int)+(t:Int)-1):=by show Value.int .i64 (F (IQ+(c-1)))=_;rw[bZ.o];push_cast;rfl
      rw[e];exact this)
     have bB:=Aa (aL.ex (aC.o.trans aM.o) (Nat.le_refl _));obtain⟨v9a,v9c,rfl⟩:=Ad aP.o;clear aL;go_wp2_with fail
     go_roundw
     case rel=>first|exact⟨c+1,ac,ac,by go_num,aP,bB⟩|((repeat apply Exists.intro);exact⟨⟨c+1,ac,ac,by go_num,aP,bB⟩,rfl⟩)
     case measure=>simp[intOf];omega
    .obtain rfl:c=q:=by omega
     rw[show IQ+(c-1)=IQ+Q from by have:=aN.o;omega,<-bI.o]at aA;have aD:=Aa aA.o;have aC:=Aa aB.o;clear aA aB;go_wp2_with fail
     go_roundw
     case rel=>first|exact⟨i+1,ac,by go_num,aD,aC⟩|((repeat apply Exists.intro);exact⟨⟨i+1,by have:=bJ.o;omega,by go_num,aD,aC⟩,rfl⟩)
     case measure=>have:=bJ.o;simp[intOf];omega
  .obtain rfl:i=N:=by omega
   rw[cB.o]at aA;have aD:=Aa aA.o;have aC:=Aa (aF.o.trans aB.o);obtain⟨va,vc,rfl⟩:=Ad aD.o;clear aA aB;go_wp2_with fail
   go_ret;exact⟨_,rfl,FX aD.o aF.o.size,aC.o⟩
end
def MP(n:Int):Int:=if n<1∨64<n then 4 else 0
def BA(l:List Int):Int:=if (l.length:Int)<1∨64<(l.length:Int) then 4 else if (∃x∈l,x<0∨(l.length:Int)<=x) then 6 else if l.Nodup then 0 else 18
def J9(n:Int)(rows:List (List Int)):Int:=match rows.find? (fun r=>BA r !=0) with
 | some r=>BA r
 | none=>if (∃r∈rows,(r.length:Int)≠n) then 10 else 0
def Ez(n:Int)(rows:List (List Int)):Int:=if n<1∨64<n then 4 else J9 n rows
theorem QW{n:Int}{rows:List (List Int)}{i:Nat}{r:List Int}(hr:rows[i]?=some r)(h:BA r≠0)(ha:∀(j:Nat) (s:List Int),j<i->rows[j]?=some s->BA s=0):J9 n rows=BA r:=by
 have:rows.find? (fun r=>BA r !=0)=some r:=by
  rw[List.find?_eq_some_iff_getElem];obtain⟨hi,e⟩:=List.getElem?_eq_some_iff.1 hr;refine⟨by simpa using h,i,hi,e,fun j hj=>?_⟩;have:=ha j _ hj (List.getElem?_eq_getElem ac);simp[this]
 unfold J9;rw[this]
theorem Hg{n:Int}{rows:List (List Int)}(ha:∀(j:Nat) (s:List Int),rows[j]?=some s->BA s=0):J9 n rows=if (∃r∈rows,(r.length:Int)≠n) then 10 else 0:=by
 have:rows.find? (fun r=>BA r !=0)=none:=by
  rw[List.find?_eq_none];intro r hr;obtain⟨j,hj,e⟩:=List.getElem_of_mem hr;have:=ha j r ar;simp[this]
 unfold J9;rw[this]
theorem Fm{l:List Int}:l.Nodup↔∀i j,j<i->i<l.length->l[i]?≠l[j]?:=by
 rw[List.nodup_iff_pairwise_ne,List.pairwise_iff_getElem];constructor
 .intro h i j hj hi e;rw[List.getElem?_eq_getElem hi,List.getElem?_eq_getElem ac]at e;injection e with e;exact h j i ac hi hj e.symm
 .intro h i j hi hj aA e;exact h j i aA hj (by rw[List.getElem?_eq_getElem hi,List.getElem?_eq_getElem hj,e])
theorem d8{P:Prop}(h:P:=by rw[List.getElem?_eq_getElem hi,List.getElem?_eq_getElem hj,e2]):P:=h
theorem el{P:Prop}(h:P:=by rw[BB];omega):P:=h
theorem Fd{l:List Int}(h:BA l=0):∃n f,1<=n/\n<=64/\l.length=n/\AY n f/\l=li n f:=by
 unfold BA at h;split at h
 .cases h
 .split at h
  .cases h
  .split at h
   .rename_i h1 h2 h3;have hr:∀i,i<l.length->0<=l.getD i 0/\l.getD i 0<l.length:=fun i hi=>by
     rw[List.getD_eq_getElem?_getD,List.getElem?_eq_getElem hi];show 0<=l[i]/\l[i]<(l.length:Int)
     have hm:=List.getElem_mem hi;apply Classical.byContradiction;intro hn;exact h2 ⟨_,hm,ac⟩
    refine⟨l.length,fun i=>if i<l.length then(l.getD i 0).toNat else i,ac,ac,rfl,?_,?_⟩
    .refine AY.of_inj (fun i hi=>?_) (fun i hi=>if_neg ac) (fun i j hi hj e=>?_)
     .rw[if_pos hi];have:=hr i hi;omega
     .rw[if_pos hi,if_pos hj]at e;have h4:=hr i hi;have h5:=hr j hj;have e2:l.getD i 0=l.getD j 0:=by omega
      rw[List.getD_eq_getElem?_getD,List.getD_eq_getElem?_getD,List.getElem?_eq_getElem hi,List.getElem?_eq_getElem hj]at e2;have e2:l[i]=l[j]:=e2;apply Classical.byContradiction;intro aA;rcases Nat.lt_or_gt_of_ne aA with hij|hij
      .exact Fm.1 h3 j i hij hj d8
      .exact Fm.1 h3 i j hij hi d8
    .apply List.ext_getElem?;intro i;by_cases hi:i<l.length
     .rw[Dm hi,if_pos hi];have:=hr i hi;rw[List.getD_eq_getElem?_getD,List.getElem?_eq_getElem hi]at *;have this:0<=l[i]/\l[i]<(l.length:Int):=this;show some l[i]=some ((l[i].toNat:Nat):Int)
      congr 1;omega
     .rw[List.getElem?_eq_none ac,List.getElem?_eq_none el]
   .cases h
theorem G6{n:Nat}{f:Nat->Nat}(h1:1<=n)(h2:n<=64)(hf:AY n f):BA (li n f)=0:=by
 unfold BA;rw[BB,if_neg ac,if_neg,if_pos]
 .rw[Fm];intro i j hj hi e;rw[BB]at hi;rw[Dm hi,Dm ac]at e;injection e with e;have:=hf.inj i j ac;omega
 .rintro⟨x,hx,h⟩;unfold li at hx;obtain⟨j,hj,rfl⟩:=Wq hx;have:=hf.lt j hj;omega
theorem Kq{n:Int}{rows:List (List Int)}(h:Ez n rows=0):∃N:Nat,n=N/\1<=N/\N<=64/\∃S:List (Nat->Nat),rows=S.map (li N)/\∀s∈S,AY N s:=by
 unfold Ez at h;split at h
 .cases h
 .rename_i hn;obtain⟨N,rfl⟩:∃N:Nat,n=N:=⟨n.toNat,ac⟩;refine⟨N,rfl,ac,ac,?_⟩;unfold J9 at h;split at h
  .rename_i r hr;have:=List.find?_some hr;simp[h]at this
  .rename_i hr;split at h
   .cases h
   .rename_i hl;have aA:∀r∈rows,∃f,AY N f/\r=li N f:=fun r hm=>by
     have h1:=List.find?_eq_none.1 hr r hm;obtain⟨m,f,_,_,h3,h4,h5⟩:=Fd bt;have hm:m=N:=by
      have:¬(r.length:Int)≠N:=fun h6=>hl ⟨r,hm,h6⟩;omega
     subst hm;exact⟨f,h4,h5⟩
    clear hr hl h hn
    induction rows with
    | nil=>exact⟨[],rfl,fun s hs=>by cases hs⟩
    | cons r rs ih=>
     obtain⟨f,hf,rfl⟩:=aA r (List.mem_cons_self ..);obtain⟨S,e,hS⟩:=ih fun r hr=>aA r (List.mem_cons_of_mem _ hr);exact⟨f :: S,by rw[e];rfl,fun s hs=>by
      rcases List.mem_cons.1 hs with h|h
      .rw[h];exact hf
      .exact hS s h⟩
theorem TI{N:Nat}{S:List (Nat->Nat)}(h1:1<=N)(h2:N<=64)(hS:∀s∈S,AY N s):Ez N (S.map (li N))=0:=by
 unfold Ez;rw[if_neg ac,Hg,if_neg]
 .rintro⟨r,hr,h⟩;obtain⟨s,hs,rfl⟩:=List.mem_map.1 hr;rw[BB]at h;exact h rfl
 .intro j s hs;obtain⟨s',h3,rfl⟩:=List.mem_map.1 (List.mem_of_getElem? hs);exact G6 h1 h2 (hS s' h3)
theorem zcx{P:Prop}(h:P:=by
 go_enter Tryz.func115,Tryz.ntmps115
 exact zdd):P:=h
theorem Io(w:World)(n:Int):
  Calls Tryz.prog 115 #[n] w fun r w'=>r= .returned (.int .i64 (MP n))/\w=w':=by
 unfold MP;by_cases h1:n<1
 .rw[if_pos (.inl h1)];exact zcx
 .by_cases h2:64<n
  .rw[if_pos (.inr h2)];exact zcx
  .rw[if_neg ac];exact zcx
theorem zcp{P:Prop}(h:P:=by
 go_enter Tryz.func117,Tryz.ntmps117
 go_wp2_with fail
 go_ret;exact⟨rfl,0,rfl⟩):P:=h
theorem SO(w:World)(B:Nat)(x:Int)(a:Option Addr)(n cap:Nat)(c0:w.cell? (B,0)=some (.slice a n cap)):
  Calls Tryz.prog 117 #[x,.pointer (some (B,0))] w fun r w'=>r= .returned (.bool (decide (x<0∨(n:Int)<=x)))/\∃q,w'=w.drewN q:=by
 by_cases h1:x<0
 .rw[decide_eq_true (.inl h1)];exact zcp
 .by_cases h2:(n:Int)<=x
  .rw[decide_eq_true (.inr h2)];exact zcp
  .rw[decide_eq_false ac];exact zcp
theorem zaB{P:Prop}(h:P:=by
 rintro⟨i,hi,h⟩;rw[List.getD_eq_getElem?_getD,List.getElem?_eq_getElem hi]at h;exact⟨_,List.getElem_mem hi,h⟩):P:=h
theorem zb9{P:Prop}(h:P:=by
 obtain⟨a',cap',e,_,_,h⟩:=S3.o;injection e with e1 e2 e3;subst e1;exact h (by omega)):P:=h
theorem zcN{P:Prop}(h:P:=by
 rw[hz];clear hd hz;go_wp2_with fail
 go_ret;exact⟨Af HP.o.symm,e0⟩):P:=h
theorem FR(w:World)(l:List Int)(v:Value)(hl:Aj w v l):
  Calls Tryz.prog 57 #[v] w fun r w'=>r= .returned (.int .i64 (BA l))/\Ex w w':=by
 have HL:=Aa hl;obtain⟨a,cap,rfl,s1,s2,s3⟩:=hl.open;unfold maxLen at s2;have e0:Ex w (w.alloc (.cells #[.slice a l.length cap] 22)):=(Ex.refl _).alloc _;have c0:(w.alloc (.cells #[.slice a l.length cap] 22)).cell? (w.heap.size,0)=some (.slice a l.length cap):=ag;have S3:=Aa (hl.ex e0).open;clear s3 hl;go_enter Tryz.func57,Tryz.ntmps57
 go_wp2_with fail
 generalize w.alloc (.cells #[.slice a l.length cap] 22)=w1 at *;refine(Io w1 l.length).mono ?_;rintro e w2⟨rfl,rfl⟩;by_cases hd:(l.length:Int)<1∨64<(l.length:Int)
 .have hz:MP l.length=4:=if_pos hd;have HP:=Aa (show BA l=4 from if_pos hd);exact zcN
 .have hz:MP l.length=0:=if_neg hd;rw[hz];have aH:=Aa (show 1<=l.length/\l.length<=64 from ac);have aC:=Aa (JF w1 (.pointer (some ⟨w.heap.size,0,none⟩)) (.slice a l.length cap) l.length (Ap l) (HL.o.ex e0) (fun i=>decide (l.getD i 0<0∨(l.length:Int)<=l.getD i 0)) fun q i u hu=>by
   obtain⟨x,hx,rfl⟩:∃x,l[i]?=some x/\u= .int .i64 x:=by
    simp only[Ap,List.getElem?_map]at hu;obtain⟨x,h1,h2⟩:=Option.map_eq_some_iff.1 hu;exact⟨x,h1,h2.symm⟩
   have hd:l.getD i 0=x:=by rw[List.getD_eq_getElem?_getD,hx];rfl
   rw[hd];exact SO _ w.heap.size x a l.length cap (((Ex.refl w1).drewN q).cell c0))
  have aN:=Aa (show((List.range l.length).any fun i=>decide (l.getD i 0<0∨(l.length:Int)<=l.getD i 0))=decide (∃x∈l,x<0∨(l.length:Int)<=x) from by
   rw[Bool.eq_iff_iff];simp only[List.any_eq_true,List.mem_range,decide_eq_true_eq];constructor
   .exact zaB
   .rintro⟨x,hx,h⟩;obtain⟨i,hi,rfl⟩:=List.getElem_of_mem hx;exact⟨i,hi,by rw[List.getD_eq_getElem?_getD,List.getElem?_eq_getElem hi];exact h⟩)
  rw[aN.o]at aC;clear aN hd hz;by_cases ho:∃x∈l,x<0∨(l.length:Int)<=x
  .have HP:=Aa (show BA l=6 from by unfold BA;rw[if_neg (by have:=aH.o;omega),if_pos ho]);rw[decide_eq_true ho]at aC;clear ho;go_wp2_with (go_at_call 116;refine aC.o.mono ?_;rintro e w'⟨rfl,q,rfl⟩)
   go_ret;exact⟨Af HP.o.symm,e0.drewN _⟩
  .rw[decide_eq_false ho]at aC;have aQ:=Aa (show ∀(i:Nat) (x:Int),l[i]?=some x->0<=x/\x<l.length from fun i x h=>by
    apply Classical.byContradiction;intro hn;exact ho ⟨x,List.mem_of_getElem? h,ac⟩)
   have aK:=Aa (show BA l=if l.Nodup then 0 else 18 from by unfold BA;rw[if_neg (by have:=aH.o;omega),if_neg ho]);have HE:=Aa e0;have hl64:=aH.o.2;clear ho e0;go_wp2_with (first|(go_at_call 116;refine aC.o.mono ?_;rintro e w'⟨rfl,q,rfl⟩;have c0:=((Ex.refl w1).drewN q).cell c0)|(at_make;refine Ar _ rfl _ _ 168 rfl 4 (.bool false) 1 Tryz.underlying168 LO rfl _ l.length rfl rfl rfl ac ai ?_))
   intro w3 aA aF;have aJ:=Aa (((Ex.refl w1).drewN q).trans aF);have c0:=aF.cell c0;obtain⟨g,aG⟩:=nA w1.heap.size;rw[aG]at aA ⊢;have aP:=Aa (show w1.heap.size<=g from by rw[<-aG];exact Nat.le_refl _);have aL:=Aa (show AF w3 g 4 g l.length (bv fun x=>decide ((x:Int)∈l.take 0)) from aA.bcongr fun j _=>ag);have aM:=Aa (show(l.take 0).Nodup from ag);clear aA aF aG aC;go_wp2_with fail
   go_loopw [21] (fun k' wr=>∃(k:Nat),k<=l.length/\k'= .int .i64 k/\Hia (AF wr g 4 g l.length (bv fun x=>decide ((x:Int)∈l.take k)))/\Hia ((l.take k).Nodup)/\Hia (Ex w1 wr)) (fun k' _=>l.length-(intOf k').toNat)
   case atStart=>exact⟨0,ac,rfl,aL,aM,aJ⟩
   case round=>
    clear aL aM aJ c0;obtain⟨k,hk,rfl,aA,aD,hx⟩:=hrel;by_cases hkn:k<l.length
    .obtain⟨b,o,rfl,hc⟩:∃b o,a=some ⟨b,o,none⟩/\∀(j:Nat) (x:Int),l[j]?=some x->w1.cell? ⟨b,o+j,none⟩=some (.int .i64 x):=by
      exact zb9
     obtain⟨x,aE⟩:∃x,l[k]?=some x:=⟨_,List.getElem?_eq_getElem hkn⟩;obtain⟨y1,y2⟩:=aQ.o k x aE;obtain⟨X,rfl⟩:∃X:Nat,x=X:=⟨x.toNat,ac⟩;have aO:X<l.length:=bu;have c1:=hx.o.cell (hc k X aE);have c3:=aA.o.cell aO;have c4:=aA.o.frz X;have i1:(0:Int)<=(k:Int):=ac;have i2:(k:Int)<(l.length:Int):=ac;have aB:l.take (k+1)=l.take k ++ [(X:Int)]:=by rw[List.take_add_one,aE];rfl
     by_cases hin:(X:Int)∈l.take k
     .have c5:wr.cell? (g,X)=some (.bool true):=by rw[c3];show some (Value.bool (decide ((X:Int)∈l.take k)))=_;rw[decide_eq_true hin]
      have aR:=Aa (show BA l=18 from by
       rw[aK.o,if_neg];intro h;have h2:(l.take (k+1)).Nodup:=h.sublist (List.take_sublist _ _);rw[aB,List.nodup_append]at h2;exact h2.2.2 _ hin _ (List.mem_singleton.2 rfl) rfl)
      have aI:=Aa (HE.o.trans hx.o);clear hc c3 aA aD hx aB hin;go_wp2_with fail
      go_ret;exact⟨Af aR.o.symm,aI.o⟩
     .have c5:wr.cell? (g,X)=some (.bool false):=by rw[c3];show some (Value.bool (decide ((X:Int)∈l.take k)))=_;rw[decide_eq_false hin]
      have HO:=Aa (show AF (wr.setCell (g,X) (.bool true)) g 4 g l.length (bv fun x=>decide ((x:Int)∈l.take (k+1))) from by
       refine(aA.o.set X _).congr fun i hi=>?_;by_cases e:i=X
       .subst e;rw[Ab];show _=Value.bool (decide ((i:Int)∈l.take (k+1)));rw[aB,decide_eq_true ag]
       .rw[Ae _ _ e];show Value.bool (decide ((i:Int)∈l.take k))=Value.bool (decide ((i:Int)∈l.take (k+1)))
        rw[aB]
        congr 1
        have:¬(i:Int)=X:=ac;simp[this])
      have aS:=Aa (show(l.take (k+1)).Nodup from by
       rw[aB,List.nodup_append];exact⟨aD.o,ag,fun y hy z hz e=>by rw[List.mem_singleton.1 hz]at e;subst e;exact hin hy⟩)
      have HX:=Aa (aA.o.exSet (a:=w1) aP.o hx.o X (.bool true));clear hc c3 aA aD hx aB hin;go_wp2_with fail
      go_roundw
      case rel=>exact⟨k+1,ac,by go_num,HO,aS,HX⟩
      case measure=>simp[intOf];omega
    .obtain rfl:k=l.length:=by omega
     have HP:=Aa (show BA l=0 from by
      rw[aK.o,if_pos];have:=aD.o
      rwa[List.take_length]at this)
     have aI:=Aa (HE.o.trans hx.o);clear aA aD hx;go_wp2_with fail
     go_ret;exact⟨Af HP.o.symm,aI.o⟩
section
variable {p m:Int} {mv:Value}
end
section
variable {p m:Nat} {low:Vc}
theorem WV(hp:2<=p)(hm:1<=m){x:Nat}(hx:x<p^m):BO p m low x 1=x:=by
 show Al p m low 1 x=x
 exact Cr hp hm hx
theorem WW(hp:2<=p)(hm:1<=m)(x y:Nat):∀e,BO p m low (Al p m low x y) e=Al p m low (BO p m low x e) (BO p m low y e)
 | 0=>by
  show 1=Al p m low 1 1
  rw[Cr hp hm (Bw hp hm)]
 | e+1=>by
  show Al p m low (BO p m low (Al p m low x y) e) (Al p m low x y)=Al p m low (Al p m low (BO p m low x e) x) (Al p m low (BO p m low y e) y)
  have h1:1<=p:=ac;rw[WW hp hm x y e,Bp h1,<-Bp h1 (BO p m low y e),A5 (BO p m low y e) x,Bp h1 x,<-Bp h1]
theorem TP(hp:2<=p)(hm:1<=m){x:Nat}(hx:x<p^m):∀k,TQ p m low x k=BO p m low x (p^k)
 | 0=>by rw[Nat.pow_zero,WV hp hm hx];rfl
 | k+1=>by
  show BO p m low (TQ p m low x k) p=_
  rw[TP hp hm hx k,Oy hp hm,Nat.pow_succ]
theorem Tx(hp:2<=p)(hm:1<=m)(hF:Hr p m low){x:Nat}(h1:1<=x)(hx:x<p^m):∀e,1<=BO p m low x e
 | 0=>Nat.le_refl _
 | e+1=>hF.ne_zero hp hm (Tx hp hm hF h1 hx e) (Dn hp hm x e) h1 hx
theorem TO(hp:2<=p)(hm:1<=m)(hF:Hr p m low){x:Nat}(h1:1<=x)(hx:x<p^m)(k:Nat):1<=TQ p m low x k:=by
 rw[TP hp hm hx];exact Tx hp hm hF h1 hx _
end
structure Bo(p m:Nat)(ml pl sl:List Int)(fr N:Nat):Prop where
 hp:2<=p
 hm:1<=m
 hF:Hr p m (lw ml)
 n1:1<=N
 n2:N<=64
 pll:pl.length=N
 sll:sl.length=N
 inj:Gg N (BH pl)
 sc:∀i,i<N->∃z:Nat,sl.getD i 0=z/\1<=z/\z<p^m
 frm:fr<m
theorem ZR{pl:List Int}{N:Nat}(hl:pl.length=N)(hr:BD pl N=true)(hd:ET pl=false):Gg N (BH pl):=by
 refine⟨fun i hi=>?_,fun i j hi hj e=>Classical.byContradiction fun aA=>?_⟩
 .have:=Dy hr (i:=i) ac;unfold BH;omega
 .have h1:=Dy hr (i:=i) ac;have h2:=Dy hr (i:=j) ac;have:ET pl=true:=IS.2 (by
   unfold BH at e;rcases Nat.lt_or_gt_of_ne aA with h|h
   .exact⟨j,i,h,ac,ac⟩
   .exact⟨i,j,h,ac,ac⟩)
  rw[hd]at this;cases this
theorem IG{p m:Int}{ml:List Int}{n:Int}{pl sl:List Int}{fr:Int}(h:CL p m ml n pl sl fr=0):
  ∃(pn mn N fn:Nat),p=pn/\m=mn/\n=N/\fr=fn/\Hh pn mn ml/\B6 p m ml=0/\Bo pn mn ml pl sl fn N:=by
 obtain⟨n0,n1,n2,n3,n4,n5,n6,n7,n8,n9⟩:=Lr h;obtain⟨pn,mn,rfl,rfl,hf,hpr,hF⟩:=(BU _ _ _).1 n0;obtain⟨fn,rfl⟩:∃fn:Nat,fr=fn:=⟨fr.toNat,ac⟩;obtain⟨N,rfl⟩:∃N:Nat,n=N:=⟨n.toNat,ac⟩;exact⟨pn,mn,N,fn,rfl,rfl,rfl,rfl,hf,n0,hf.p2,hf.m1,hF,ac,ac,ac,ac,ZR ac n5 n8,fun i hi=>fac_at (by simpa only[Int.toNat_natCast]using n9) ac,ac⟩
theorem facS_of{q:Nat}{l:List Int}(h:∀i,i<l.length->∃z:Nat,l.getD i 0=z/\1<=z/\z<q):E4 q l=0:=by
 unfold E4;have aA:∀x∈l,∃z:Nat,x=z/\1<=z/\z<q:=fun x hx=>by
  obtain⟨i,hi,rfl⟩:=List.getElem_of_mem hx;have:=h i hi;rw[List.getD_eq_getElem?_getD,List.getElem?_eq_getElem hi]at this;exact this
 rw[if_neg,if_neg]
 .intro hc;rw[List.contains_iff_mem]at hc;obtain⟨z,h1,h2,_⟩:=aA 0 hc;omega
 .intro hc;obtain⟨x,hx,h1⟩:=List.any_eq_true.1 hc;obtain⟨z,rfl,h2,h3⟩:=aA x hx;unfold Gt at h1;simp at h1;omega
section
variable {p m:Nat} {ml pl sl:List Int} {fr N:Nat} {x:List Int}
theorem Bo.img(h:Bo p m ml pl sl fr N){i:Nat}(hi:i<N):LQ p m ml pl sl fr x N (BH pl i)=vF p m ml sl fr x i:=Lh h.inj _ N (Nat.le_refl _) i hi
theorem CY{N j:Nat}(h:j<N)(f:Nat->Int):(il N f).getD j 0=f j:=by
 exact zdg
theorem Bo.imgE(h:Bo p m ml pl sl fr N){j:Nat}(hj:j<N):∃z:Nat,LQ p m ml pl sl fr x N j=z/\z<p^m:=by
 obtain⟨i,hi,rfl⟩:=h.inj.surj hj;rw[h.img hi];exact⟨_,rfl,Bc (by have:=h.hp;omega) _ _⟩
end
section
variable {p m:Nat} {ml pl sl ql tl:List Int} {fr fs N:Nat} {x:List Int}
theorem Gg.comp{π σ:Nat->Nat}(h:Gg N π)(k:Gg N σ):Gg N (fun i=> σ (π i)):=
 ⟨fun i hi=>k.lt _ (h.lt i hi),fun i j hi hj e=>h.inj i j hi hj (k.inj _ _ (h.lt i hi) (h.lt j hj) e)⟩
theorem Mh(h:Bo p m ml pl sl fr N){i:Nat}(hi:i<N):BH (il N (cP pl ql)) i=BH ql (BH pl i):=by
 unfold BH;rw[CY hi];rfl
theorem XW(h:Bo p m ml pl sl fr N)(k:Bo p m ml ql tl fs N):Bo p m ml (il N (cP pl ql)) (il N (cS p m ml pl sl tl fs)) ((fr+fs)%m) N where
 hp:=h.hp
 hm:=h.hm
 hF:=h.hF
 n1:=h.n1
 n2:=h.n2
 pll:=Ao _ _
 sll:=Ao _ _
 inj:=by
  have hc:=h.inj.comp k.inj;exact⟨fun i hi=>by rw[Mh h hi];exact hc.lt i hi,fun i j hi hj e=>by rw[Mh h hi,Mh h hj]at e;exact hc.inj i j hi hj e⟩
 sc:=fun i hi=>by
  rw[CY hi];obtain⟨s,hs,aD,aA⟩:=h.sc i hi;obtain⟨t,ht,aC,aB⟩:=k.sc _ (h.inj.lt i hi);refine⟨_,rfl,?_,Bc (by have:=h.hp;omega) _ _⟩;rw[hs,ht,AA aA,AA aB];exact h.hF.ne_zero h.hp h.hm aC aB (TO h.hp h.hm h.hF aD aA fs) (OP h.hp h.hm aA fs)
 frm:=Nat.mod_lt _ (by have:=h.hm;omega)
theorem LH(h:Bo p m ml pl sl fr N)(v:Nat->Int){i:Nat}(hi:i<N):(il N (plc (BH pl) v N)).getD (BH pl i) 0=v i:=by
 rw[CY (h.inj.lt i hi)];exact Lh h.inj v N (Nat.le_refl _) i hi
theorem Oz(hp:2<=p)(hm:1<=m)(hF:Hr p m (lw ml)){s:Nat}(h1:1<=s)(hq:s<p^m):1<=Ef p m ml s/\Ef p m ml s<p^m/\Al p m (lw ml) s (Ef p m ml s)=1:=by
 obtain⟨z,a,b,c⟩:=hF.inv hp hm h1 hq;rw[OA hp hm hF hq h1 b c];exact⟨a,b,c⟩
theorem LF(h:Bo p m ml pl sl fr N){i:Nat}(hi:i<N):BH (il N (plc (BH pl) (fun i=>(i:Int)) N)) (BH pl i)=i:=by
 unfold BH;have:=LH h (fun i=>(i:Int)) hi;unfold BH at this;rw[this];rfl
theorem W9(h:Bo p m ml pl sl fr N)(bk:Nat)(aE:bk<m):Bo p m ml (il N (plc (BH pl) (fun i=>(i:Int)) N)) (il N (plc (BH pl) (ivS p m ml sl bk) N)) bk N where
 hp:=h.hp
 hm:=h.hm
 hF:=h.hF
 n1:=h.n1
 n2:=h.n2
 pll:=Ao _ _
 sll:=Ao _ _
 inj:=⟨fun j hj=>by
  obtain⟨i,hi,rfl⟩:=h.inj.surj hj;rw[LF h hi];exact hi,fun j j' hj aC e=>by
  obtain⟨i,hi,rfl⟩:=h.inj.surj hj;obtain⟨i',aD,rfl⟩:=h.inj.surj aC;rw[LF h hi,LF h aD]at e;rw[e]⟩
 sc:=fun j hj=>by
  obtain⟨i,hi,rfl⟩:=h.inj.surj hj;rw[LH h _ hi];obtain⟨s,hs,aB,aA⟩:=h.sc i hi;obtain⟨k1,k2,-⟩:=Oz h.hp h.hm h.hF aB aA;refine⟨_,rfl,?_,OP h.hp h.hm ?_ _⟩
  .rw[hs,AA aA];exact TO h.hp h.hm h.hF k1 k2 _
  .rw[hs,AA aA];exact k2
 frm:=aE
theorem ZT(h:Bo p m ml pl sl fr N):∀i,i<N->∃z:Nat,(il N (LQ p m ml pl sl fr x N)).getD i 0=z/\z<p^m:=fun i hi=>by
 rw[CY hi];exact h.imgE hi
end
theorem Q3(w:World)(pl sl ql tl:List Int)(pv sv qv tv:Value)(hp:Aj w pv pl)(hs:Aj w sv sl)(hq:Aj w qv ql)(ht:Aj w tv tl)(fr fs:Int):
  Calls Tryz.prog 20 #[.agg #[pv,sv,fr],.agg #[qv,tv,fs]] w fun r w'=>r= .returned (.bool (decide (fr=fs/\pl=ql/\sl=tl)))/\Ex w w':=by
 obtain⟨a0,a1,a2,ea⟩:=Bh w pv sv fr;obtain⟨b0,b1,b2,eb⟩:=Bh (w.alloc (.cells #[pv,sv,fr] 26)) qv tv fs;have aF:(w.alloc (.cells #[pv,sv,fr] 26)).heap.size=w.heap.size+1:=ag;rw[aF]at b0 b1 b2;replace a0:=eb.cell a0;replace a1:=eb.cell a1;replace a2:=eb.cell a2;obtain⟨HX,HP,HS,HQ,HT⟩:=Of (ea.trans eb) hp hs hq ht;obtain⟨pa,pc,rfl,-,q1,-⟩:=hp.open;obtain⟨sa,sc,rfl,-,q2,-⟩:=hs.open;obtain⟨qa,qc,rfl,-,q3,-⟩:=hq.open;obtain⟨ta,tc,rfl,-,q4,-⟩:=ht.open;unfold maxLen at q1 q2 q3 q4;obtain⟨B,hB⟩:=nA w.heap.size;rw[hB]at a0 a1 a2 b0 b1 b2;clear hp hs hq ht ea eb aF;go_enter Tryz.func20,Tryz.ntmps20
 go_upto_region 1 with fail
 try simp only[hB]
 clear hB;generalize (w.alloc (.cells #[.slice pa pl.length pc,.slice sa sl.length sc,fr] 26)).alloc (.cells #[.slice qa ql.length qc,.slice ta tl.length tc,fs] 26)=w1 at *;have aE:=Aa (fun w' (h:Ex w1 w')=>(⟨h.cell a0,h.cell a1,h.cell b0,h.cell b1⟩:_/\_/\_/\_));have aD:=Aa (DI w1 pl ql _ _ (HP.o.ex HX.o) (HQ.o.ex HX.o));have aI:=Aa (fun (w2:World) (h:Ex w1 w2)=>DI w2 sl tl _ _ (HS.o.ex (HX.o.trans h)) (HT.o.ex (HX.o.trans h)));by_cases h1:fr=fs
 .have k1:(fr==fs)=true:=by simpa using h1
  by_cases h2:pl=ql
  .have aA:=Aa aD.o;rw[show decide (pl=ql)=true from by simpa using h2]at aA;have aG:=Aa (And.intro h1 h2);clear h1 h2 aD;go_wp2_with fail
   refine aA.o.mono ?_;rintro e w2⟨rfl,n2,rfl⟩;have aC:=Aa ((Ex.refl w1).drewN n2);clear a0 a1 b0 b1;obtain⟨a0,a1,b0,b1⟩:=aE.o _ aC.o;have aB:=Aa (aI.o _ aC.o);obtain⟨D,hD⟩:=nA (decide (sl=tl));rw[hD]at aB;have HD:=Aa hD;clear hD;go_wp2_with fail
   refine aB.o.mono ?_;rintro e w3⟨rfl,n3,rfl⟩;have aH:=Aa ((Ex.refl w1).drewN (n2+n3));go_wp2_with fail
   go_ret;refine⟨?_,HX.o.trans aH.o⟩;have:=HD.o;have:=aG.o.1;have:=aG.o.2
   simp_all
  .have aA:=Aa aD.o;rw[show decide (pl=ql)=false from by simpa using h2]at aA;have H2:=Aa h2;clear h2 aD;go_wp2_with fail
   refine aA.o.mono ?_;rintro e w2⟨rfl,n2,rfl⟩;have aC:=Aa ((Ex.refl w1).drewN n2);go_wp2_with fail
   go_ret;refine⟨?_,HX.o.trans aC.o⟩;have:=H2.o
   simp_all
 .have k1:(fr==fs)=false:=by simpa using h1
  have H1:=Aa h1;clear h1;go_wp2_with fail
  go_ret;refine⟨?_,HX.o⟩;have:=H1.o
  simp_all
def BolR(P:Prop)(r:Ending):Prop:=∃b:Bool,r= .returned (.bool b)/\(b=true↔P)
theorem Ue{P:Prop}(h:¬P):BolR P (.returned (.bool false)):=⟨false,rfl,⟨fun h=>bj,fun k=>absurd k h⟩⟩
theorem Mk{P:Prop}(h:P):BolR P (.returned (.bool true)):=⟨true,rfl,⟨fun _=>h,fun _=>rfl⟩⟩
def Zb(c d:AZ):Bool:=CN c.p c.m c.ml d.p d.m d.ml&&(decide (c.n=d.n)&&decide (c.rows=d.rows))
theorem V2{c d:AZ}:Zb c d=true↔c=d:=by
 obtain⟨p,m,ml,n,rows⟩:=c;obtain⟨p',m',ml',n',rows'⟩:=d;simp only[Zb,Bool.and_eq_true,decide_eq_true_eq,Ft,AZ.mk.injEq];constructor
 .rintro⟨⟨h1,h2,h3⟩,h4,h5⟩;exact⟨h1,h2,h3,h4,h5⟩
 .rintro⟨h1,h2,h3,h4,h5⟩;exact⟨⟨h1,h2,h3⟩,h4,h5⟩
section
open Go.Shelf
def Tryz.lays189_ren:Go.Shelf.Ren:=⟨fun | 189=>125 | 125=>178 | 257=>177 | 128=>221 | 129=>222 | 294=>212 | 295=>213 | 296=>214 | 297=>215 | 298=>216 | 299=>217 | 216=>218 | 300=>219 | 301=>220 | 328=>255 | 329=>256 | 330=>257 | 331=>258 | 332=>259 | 215=>260 | 343=>267|n=>n,fun | 28=>22 | 3=>3 | 46=>146 | 0=>0 | 51=>91 | 53=>77 | 4=>4 | 183=>248 | 182=>247 | 131=>253 | 5=>5 | 9=>9 | 218=>278 | 222=>282 | 228=>289 | 229=>203|n=>n,fun|n=>n⟩
theorem Tryz.lays189:Go.Proofs.Lays.n189 Tryz.prog Tryz.lays189_ren:= {
 mixed:=ah
 f125:=Tryz.func178.trans (congrArg some ah)
 f128:=Tryz.func221.trans (congrArg some ah)
 f129:=Tryz.func222.trans (congrArg some ah)
 f189:=Tryz.func125.trans (congrArg some ah)
 f215:=Tryz.func260.trans (congrArg some ah)
 f216:=Tryz.func218.trans (congrArg some ah)
 f257:=Tryz.func177.trans (congrArg some ah)
 f294:=Tryz.func212.trans (congrArg some ah)
 f295:=Tryz.func213.trans (congrArg some ah)
 f296:=Tryz.func214.trans (congrArg some ah)
 f297:=Tryz.func215.trans (congrArg some ah)
 f298:=Tryz.func216.trans (congrArg some ah)
 f299:=Tryz.func217.trans (congrArg some ah)
 f300:=Tryz.func219.trans (congrArg some ah)
 f301:=Tryz.func220.trans (congrArg some ah)
 f328:=Tryz.func255.trans (congrArg some ah)
 f329:=Tryz.func256.trans (congrArg some ah)
 f330:=Tryz.func257.trans (congrArg some ah)
 f331:=Tryz.func258.trans (congrArg some ah)
 f332:=Tryz.func259.trans (congrArg some ah)
 f343:=Tryz.func267.trans (congrArg some ah)
 t0:=Tryz.underlying0
 a0:=Tryz.isAgg0
 z0:=Tryz.sizeOf0
 v0:=Tryz.zeroValue0
 t3:=Tryz.underlying3
 a3:=Tryz.isAgg3
 z3:=Tryz.sizeOf3
 v3:=Tryz.zeroValue3
 t4:=Tryz.underlying4
 a4:=Tryz.isAgg4
 z4:=Tryz.sizeOf4
 v4:=Tryz.zeroValue4
 t5:=Tryz.underlying5
 a5:=Tryz.isAgg5
 z5:=Tryz.sizeOf5
 v5:=Tryz.zeroValue5
 t9:=Tryz.underlying9
 a9:=Tryz.isAgg9
 z9:=Tryz.sizeOf9
 v9:=Tryz.zeroValue9
 t28:=Tryz.underlying22
 a28:=Tryz.isAgg22
 z28:=Tryz.sizeOf22
 v28:=Tryz.zeroValue22
 t46:=Tryz.underlying146
 a46:=Tryz.isAgg146
 z46:=Tryz.sizeOf146
 v46:=Tryz.zeroValue146
 t51:=Tryz.underlying91
 a51:=Tryz.isAgg91
 z51:=Tryz.sizeOf91
 v51:=Tryz.zeroValue91
 t53:=Tryz.underlying77
 a53:=Tryz.isAgg77
 z53:=Tryz.sizeOf77
 v53:=Tryz.zeroValue77
 t131:=Tryz.underlying253
 a131:=Tryz.isAgg253
 z131:=Tryz.sizeOf253
 v131:=Tryz.zeroValue253
 t182:=Tryz.underlying247
 a182:=Tryz.isAgg247
 z182:=Tryz.sizeOf247
 v182:=Tryz.zeroValue247
 t183:=Tryz.underlying248
 a183:=Tryz.isAgg248
 z183:=Tryz.sizeOf248
 v183:=Tryz.zeroValue248
 t218:=Tryz.underlying278
 a218:=Tryz.isAgg278
 z218:=Tryz.sizeOf278
 v218:=Tryz.zeroValue278
 t222:=Tryz.underlying282
 a222:=Tryz.isAgg282
 z222:=Tryz.sizeOf282
 v222:=Tryz.zeroValue282
 t228:=Tryz.underlying289
 a228:=Tryz.isAgg289
 z228:=Tryz.sizeOf289
 v228:=Tryz.zeroValue289
 t229:=Tryz.underlying203
 a229:=Tryz.isAgg203
 z229:=Tryz.sizeOf203
 v229:=Tryz.zeroValue203 }
open Go.Sort Go.RowKit in
theorem Tryz.slices_Sort_int (blk aA cap:Nat) (zs:List Int) (w:World) (hH:Holds (Value.int .i64) w blk aA zs.toArray) (aB:blk<w.heap.size) (aC:zs.length<4611686018427387904):
  Calls Tryz.prog 125 #[.slice (some ⟨blk,aA,none⟩) zs.length cap] w fun e w'=>
   e= .returned (.tuple #[])/\∃n os,w'=grow (putRow (Value.int .i64) (Sort.ahead w n) blk aA (zs.mergeSort fun x y=>decide (x<=y)).toArray) os:=Any.slices_Sort_int Tryz.lays189 blk aA cap zs w hH aB aC
end
theorem zcO{P:Prop}(h:P:=by
 clear aE aA;go_wp2_with fail
 go_ret;exact⟨⟨_,rfl,HR.o⟩,aC.o⟩):P:=h
theorem Ia(w:World)(p m:Int)(ml:List Int)(mv:Value)(aD:Aj w mv ml)(n:Int)(rows:List (List Int))(v:Value)(hv:B9 w v rows):
  Calls Tryz.prog 37 #[.agg #[p,m,mv,n,v]] w fun r w'=>(∃e:Int,r= .returned (.int .i64 e)/\BK p m ml n rows e)/\Ex w w':=by
 obtain⟨a0,a1,a2,a3,a4,ea⟩:=EV w p m mv n v;have aG:=Aa (fun (w':World) (h:Ex w w')=>Ib p m ml mv w' (aD.ex h));have aE:=Aa (fun (w':World) (h:Ex w w')=>Rx p m ml mv w' (aD.ex h) n rows v (hv.ex h));obtain⟨za,zc,rfl,-,z2,-⟩:=hv.open;unfold maxLen at z2;obtain⟨ma,mc,rfl,-,m2,-⟩:=aD.open;unfold maxLen at m2;have HE:=Aa ea;obtain⟨F,hF⟩:=nA (B6 p m ml);have aJ:F=0∨F=1:=by
  rw[<-hF];unfold B6;split <;> omega
 have aA:=Aa (show ∀e,((F≠0/\e=1)∨(F=0/\Ew n≠0/\e=Ew n)∨(F=0/\Ew n=0/\MQ p m ml n rows e))->BK p m ml n rows e from fun e h=>by unfold BK;rw[hF];exact h);rw[hF]at aG;clear aD hv ea hF;go_enter Tryz.func37,Tryz.ntmps37
 go_wp2_with fail
 obtain⟨xb,aF⟩:=nA w.heap.size;rw[aF]at a0 a1 a2 a3 a4
 try simp only[aF]
 clear aF;generalize w.alloc (.cells #[p,m,.slice ma ml.length mc,n,.slice za rows.length zc] 39)=w1 at *;refine(aG.o w1 HE.o).mono ?_;rintro e w2⟨rfl,aB⟩;obtain⟨A0,A1,A2,A3,A4,aC⟩:=To (aB.cell a0) (aB.cell a1) (aB.cell a2) (aB.cell a3) (aB.cell a4) (HE.o.trans aB);clear a0 a1 a2 a3 a4 aB aG HE;rcases aJ with h1|h1
 .subst h1;have a3:=A3.o;by_cases h2:n<1
  .have HR:=Aa (aA.o 4 (.inr (.inl ⟨rfl,by unfold Ew;rw[if_pos (.inl h2)];decide,by unfold Ew;rw[if_pos (.inl h2)]⟩)));exact zcO
  .by_cases h3:64<n
   .have HR:=Aa (aA.o 4 (.inr (.inl ⟨rfl,by unfold Ew;rw[if_pos (.inr h3)];decide,by unfold Ew;rw[if_pos (.inr h3)]⟩)));clear aE aA;have b1:decide (n<1)=false:=by simp;omega
    go_wp2_with fail
    go_ret;exact⟨⟨_,rfl,HR.o⟩,aC.o⟩
   .have aH:=Aa (fun e h=>aA.o e (.inr (.inr ⟨rfl,by unfold Ew;rw[if_neg ac],h⟩)));have b1:decide (n<1)=false:=by simp;omega
    have b2:decide (64<n)=false:=aq;have a0:=A0.o;have a1:=A1.o;have a2:=A2.o;have a4:=A4.o;clear aA;go_wp2_with fail
    refine(aE.o w2 aC.o).mono ?_;rintro e w3⟨⟨e,rfl,he⟩,aI⟩;have HR:=Aa (aH.o e he);have aK:=Aa (aC.o.trans aI);clear he aI;go_wp2_with fail
    go_ret;exact⟨⟨_,rfl,HR.o⟩,aK.o⟩
 .subst h1;have HR:=Aa (aA.o 1 (.inl ⟨ae,rfl⟩));exact zcO
section
variable {p m:Nat} {low:Vc}
end
section
variable {p m:Nat} {ml:List Int} {N k:Nat} {a:Nat->Nat->Int} {piv:List Nat} {c:Nat} {f:Nat->Int}
end
section
open Go.RowKit Go.ChangeShapes Go.WideShapes Go.ChangeAt
section
variable {H:Type} {enc:TypeId × Value->H} {W:World} {held:Bool}
theorem Ng{x:Addr}{w:World}{u:Value}(h:w.cell? x=some u)(hu:(∃k n,u= .int k n)∨∃a l c,u= .slice a l c):x=⟨x.block,x.off,none⟩:=by
 have hs:x.spot=none:=by
  rcases hs:x.spot with _|s
  .rfl
  .exfalso;simp only[World.cell?,hs]at h;split at h
   .rcases hu with⟨k,n,rfl⟩|⟨a,l,c,rfl⟩ <;> simp at h
   .simp at h
 cases x;simp_all
theorem Uh(b o j:Nat):(⟨b,o,none⟩:Addr).add j=⟨b,o+j,none⟩:=dh
theorem Nv{w:World}{a:Option Addr}{len cap:Nat}{zs:List Int}(h1:len<=cap)(h2:cap<=maxLen)(h3:zs.length=cap)(h4:a=none->cap=0)(h5:∀x,a=some x->∀i,i<cap->w.cell? (x.add i)=some (.int .i64 (zs.getD i 0))):
  Aj w (.slice a len cap) (zs.take len):=by
 have hl:(zs.take len).length=len:=bp;unfold Aj;rw[hl];refine⟨by rw[Bf];omega,a,cap,rfl,h1,h2,fun hn=>?_⟩;rcases a with _|x
 .have:=h4 rfl;omega
 .have h0:=h5 x rfl 0 ac;have hx:=Ng h0 (.inl ⟨_,_,rfl⟩);have aA:(x.add 0)=x:=by simp[Addr.add]
  rw[aA]at hx;refine⟨x.block,x.off,congrArg some hx,fun j u hu=>?_⟩;simp only[Ap,List.getElem?_map,List.getElem?_take]at hu;split at hu
  .have h6:=h5 x rfl j ac;rw[hx,Uh]at h6;rw[h6];obtain⟨y,hy,rfl⟩:=Option.map_eq_some_iff.1 hu;rw[List.getD_eq_getElem?_getD,hy];rfl
  .cases hu
theorem LC{aA:Nat}{v:Value}{y:DataW H × List MemPlace}(h:DataW.trod enc Tryz.prog W 0 (fun _=>true) held aA 22 [v]=some y):∃l,Aj W v l:=by
 rcases open_ints Tryz.underlying22 Tryz.underlying3 ah h with⟨hcs,_⟩|⟨x,l,c,zs,hcs,_,hl,hm,hz,_,hcell,hwz⟩
 .simp at hcs;subst hcs;exact⟨[],Sl.nil W 1⟩
 .simp at hcs;subst hcs;simp only[if_true]at hz;exact⟨_,Nv hl hm hz (fun h=>by cases h) (fun x' hx i hi=>by injection hx with hx;subst hx;exact hcell i ac)⟩
theorem WG{aA:Nat}{v:Value}{y:DataW H × List MemPlace}(h:DataW.trod enc Tryz.prog W 0 (fun _=>true) held aA 37 [v]=some y):∃rows,B9 W v rows:=by
 rcases Go.Deep.open_int_rows Tryz.underlying37 Tryz.underlying22 Tryz.underlying3 ah ah h with⟨hcs,_⟩|⟨x,len,cap,A,L,C,Z,hcs,_,hl,hm,_,hr⟩
 .simp at hcs;subst hcs;exact⟨[], [],Sl.nil W 1,fun i r u hr=>by simp at hr⟩
 .simp at hcs;subst hcs;refine⟨(List.range len).map fun r=>(Z r).take (L r),(List.range len).map fun r=> .slice (A r) (L r) (C r),?_,fun i r u h1 h2=>?_⟩
  .refine⟨ag,some x,cap,ag,by simpa using hl,hm,fun hn=>?_⟩;simp at hn;have h0:=(hr 0 ac).1;have hx:=Ng h0 (.inr ⟨_,_,_,rfl⟩);have aB:(x.add 0)=x:=by simp[Addr.add]
   rw[aB]at hx;refine⟨x.block,x.off,congrArg some hx,fun j u hu=>?_⟩;simp only[List.getElem?_map]at hu;obtain⟨k,hk,rfl⟩:=Option.map_eq_some_iff.1 hu;have hj:j<len:=by have:=(List.getElem?_eq_some_iff.1 hk).1;simpa using this
   have e:k=j:=by simp[hj]at hk;exact hk.symm
   subst e;have:=(hr k ac).1;rw[hx,Uh]at this;exact this
  .have hi:i<len:=by have:=(List.getElem?_eq_some_iff.1 h1).1;simpa using this
   simp[hi]at h1 h2;subst h1 h2;obtain⟨_,a1,a2,a3,_,a4,a5⟩:=hr i ac;exact Nv a1 a2 a3 a4 (fun x' hx j hj=>(a5 x' hx).2 j hj)
theorem X8:Tryz.prog.cellsOf 3=1:=ah
theorem XZ:Tryz.prog.cellsOf 22=1:=ah
theorem c_rows:Tryz.prog.cellsOf 37=1:=ah
theorem c_fld:Tryz.prog.cellsOf 24=3:=ah
theorem c_mon:Tryz.prog.cellsOf 26=3:=ah
theorem Vf{aA:Nat}{c0 c1 c2:Value}{y:DataW H × List MemPlace}(h:DataW.trod enc Tryz.prog W 0 (fun _=>true) held aA 24 [c0,c1,c2]=some y):
  ∃(P M:Int) (ml:List Int),c0= .int .i64 P/\c1= .int .i64 M/\Aj W c2 ml:=by
 obtain⟨xs,k,_,_,_,aB,hf⟩:=DataW.trod_struct Tryz.underlying24 h;have g0:=hf 0 _ rfl;have g1:=hf 1 _ rfl;have g2:=hf 2 _ rfl
 match xs,aB with
 | [y0,y1,y2],_=>
  simp[X8,XZ]at g0 g1 g2;obtain⟨P,e0,_,_⟩:=DataW.trod_int Tryz.underlying3 g0;obtain⟨M,e1,_,_⟩:=DataW.trod_int Tryz.underlying3 g1;obtain⟨l,hl⟩:=LC g2;simp at e0 e1;exact⟨P,M,l,e0,e1,hl⟩
theorem U0{aA:Nat}{c0 c1 c2:Value}{y:DataW H × List MemPlace}(h:DataW.trod enc Tryz.prog W 0 (fun _=>true) held aA 26 [c0,c1,c2]=some y):
  ∃(pl sl:List Int) (fr:Int),Aj W c0 pl/\Aj W c1 sl/\c2= .int .i64 fr:=by
 obtain⟨xs,k,_,_,_,aB,hf⟩:=DataW.trod_struct Tryz.underlying26 h;have g0:=hf 0 _ rfl;have g1:=hf 1 _ rfl;have g2:=hf 2 _ rfl
 match xs,aB with
 | [y0,y1,y2],_=>
  simp[X8,XZ]at g0 g1 g2;obtain⟨P,e0,_,_⟩:=DataW.trod_int Tryz.underlying3 g2;obtain⟨l,hl⟩:=LC g0;obtain⟨l',aC⟩:=LC g1;simp at e0;exact⟨l,l',P,hl,aC,e0⟩
theorem Ln{r:Reach}{b0:Nat}{t:TypeId}{fs:Array Field}{v:Value}(ht:Tryz.prog.underlying t=some (.struct fs))(h:Value.okWide Tryz.prog W r b0 t v):∃cs,v= .agg cs/\cs.size=Tryz.prog.cellsOf t:=by
 simp only[Value.okWide,ht]at h;obtain⟨cs,h1,h2,_⟩:=h;exact⟨cs,h1,h2⟩
theorem Wv{r:Reach}{b0:Nat}{v:Value}{d:DataW H}{p:List MemPlace}(hv:Value.okWide Tryz.prog W r b0 26 v)(h:DataW.Trod enc Tryz.prog W 0 (fun _=>true) held 26 v d p):
  ∃(pv sv:Value) (pl sl:List Int) (fr:Int),v= .agg #[pv,sv,fr]/\Aj W pv pl/\Aj W sv sl:=by
 obtain⟨cs,rfl,aA⟩:=Ln Tryz.underlying26 hv;obtain⟨c0,c1,c2,rfl⟩:=Go.Joins.array3 (aA.trans c_mon);obtain⟨fuel,hf⟩:=h;obtain⟨pl,sl,fr,h1,h2,rfl⟩:=U0 (by simpa[Value.cells]using hf);exact⟨_,_,pl,sl,fr,rfl,h1,h2⟩
theorem array5{α:Type}{cs:Array α}(h:cs.size=5):∃c0 c1 c2 c3 c4,cs= #[c0,c1,c2,c3,c4]:=by
 obtain⟨l⟩:=cs
 match l,h with
 | [c0,c1,c2,c3,c4],_=>exact⟨c0,c1,c2,c3,c4,rfl⟩
end
end
section
open Go.RowKit Go.ChangeShapes Go.WideShapes Go.ChangeAt
section
variable {H:Type} {enc:TypeId × Value->H} {W:World} {held:Bool}
theorem c_code:Tryz.prog.cellsOf 39=5:=ah
theorem UR{r:Reach}{b0:Nat}{v:Value}{d:DataW H}{p:List MemPlace}(hv:Value.okWide Tryz.prog W r b0 39 v)(h:DataW.Trod enc Tryz.prog W 0 (fun _=>true) held 39 v d p):
  ∃(c:AZ) (mv gv:Value),v=c.arg mv gv/\c.at W mv gv:=by
 obtain⟨cs,rfl,aC⟩:=Ln Tryz.underlying39 hv;obtain⟨c0,c1,c2,c3,c4,rfl⟩:=array5 (aC.trans c_code);obtain⟨fuel,hf⟩:=h;obtain⟨xs,k,_,_,_,aB,aA⟩:=DataW.trod_struct Tryz.underlying39 hf;have g0:=aA 0 _ rfl;have g1:=aA 1 _ rfl;have g2:=aA 2 _ rfl
 match xs,aB with
 | [y0,y1,y2],_=>
  simp[X8,c_fld,c_rows,Value.cells]at g0 g1 g2;obtain⟨P,M,ml,rfl,rfl,hm⟩:=Vf g0;obtain⟨N,e0,_,_⟩:=DataW.trod_int Tryz.underlying3 g1;obtain⟨rows,hr⟩:=WG g2;simp at e0;subst e0;exact⟨⟨P,M,ml,N,rows⟩,_,_,rfl,hm,hr⟩
end
end
end Go.Proofs.YtehieobniamagaaGreat
