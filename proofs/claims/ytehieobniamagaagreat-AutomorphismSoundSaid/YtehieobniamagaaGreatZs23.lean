/- Sound 23 -/
import Derived.Test.YtehieobniamagaaGreatZs22
namespace Go.Proofs.YtehieobniamagaaGreat
open Go.RowKit
set_option linter.all false
set_option maxRecDepth 100000
set_option maxHeartbeats 8000000
theorem FS{w:World}{base b':Nat}{e:TypeId}{size:Nat}{v:Value}{n:Nat}{xs:List Value}(h:w.ownsRow base e size v n xs)(hb:b'<=base):w.ownsRow b' e size v n xs:=by
 obtain⟨h1,h2⟩:=h;refine⟨h1,?_⟩;rcases h2 with h2|⟨g,cap,cur,a,b,c⟩
 .exact .inl h2
 .exact .inr ⟨g,cap,cur,a,Nat.le_trans hb b,c⟩
section
variable {m e0 b0:Nat} {w0 w:World} {v0:Value} {te:TypeId} {size n:Nat} {xs:List Value} {L:Nat->Bool} {V:Nat->Value} {w' w'':World}
theorem GU{u v:Value}{N:Nat}(h1:∀B,u.ownBlock=some B->N<=B)(h2:∀B,v.ownBlock=some B->B<N):AR u v:=by
 unfold AR
 cases hu:u.ownBlock with
 | none=>exact .inl rfl
 | some B=>
  right;intro e;have:=h1 B hu;have:=h2 B e.symm;omega
variable {l:List Oper} {i:Nat} {u:Value}
end
section
variable {P:Program} {Q:Exit->Act->World->Prop} {l:List Oper} {a0:Act} {m e0 b0:Nat} {w0 w:World} {v0:Value} {te:TypeId} {size n:Nat} {xs:List Value} {i:Nat} {o:Oper}
end
theorem zcJ{P:Prop}(h:P:=by
 go_enter Tryz.func53,Tryz.ntmps53
 go_wp2_with fail
 go_ret2;exact⟨rfl,rfl⟩):P:=h
theorem Hv(w:World)(n q:Nat)(hn:n<=64)(aA:1<=q)(hq:q<=256):
  Calls Tryz.prog 53 #[n,q] w fun r w'=>r= .returned (.tuple #[((if 64<n*(q-1) then 0 else n*(q-1):Nat):Int),.int .i64 (if 64<n*(q-1) then 8 else 0)])/\w=w':=by
 obtain⟨D,hD⟩:=nA (n*(q-1));have hDb:D<=20000:=by rw[<-hD];exact Nat.le_trans (Nat.mul_le_mul hn (show q-1<=255 by omega)) ac
 have k1:(n:Int)*((q:Int)-1)=(D:Int):=by rw[<-hD,Int.natCast_mul,Int.natCast_sub aA];rfl
 rw[hD];clear hD;by_cases h:64<D
 .rw[if_pos h,if_pos h];have h2:(64:Int)<(D:Int):=by omega
  exact zcJ
 .rw[if_neg h,if_neg h];have h2:¬(64:Int)<(D:Int):=by omega
  exact zcJ
def O7(p m:Nat)(ml pl sl:List Int)(k:Nat):Int:=
 ((BF pl (k/(p^m-1))*(p^m-1)+Ai p m (lw ml) (Ar (p^m) (sl.getD (k/(p^m-1)) 0)) (k%(p^m-1)+1):Nat):Int)-1
def Gi(p m:Nat)(ml pl sl:List Int):List Int:=il (pl.length*(p^m-1)) (O7 p m ml pl sl)
section
variable {b p m x0:Nat} {ml:List Int}
theorem RK(w:World)(hg:Bh w b p m ml x0)(N:Nat)(hN:N<=64)(pl sl:List Int)(pv sv:Value)(hp:Al w pv pl)(hs:Al w sv sl)(aI:pl.length=N)(aH:sl.length=N)(hr:BB pl N=true)(hd:N*(p^m-1)<=64)(fr:Int):
  Calls Tryz.prog 55 #[.pointer (some (b,0)),.agg #[pv,sv,fr]] w fun r w'=>∃v,r= .returned v/\w'.ownsRow w.heap.size 3 1 v (N*(p^m-1)) (vs (N*(p^m-1)) (iv (O7 p m ml pl sl)))/\Ex w w':=by
 obtain⟨b0,b1,b2,eb⟩:=Bd w pv sv fr;have bF:=Aa (fun (w1:World) (h1:Ex w w1) (y z:Int)=>Fa w1 (hg.ex h1) y z);have aO:=Aa (Cs _ (hg.ex eb));have bP:2<=p^m:=Nat.le_trans hg.sh.p2 (Nat.le_self_pow (by have:=hg.sh.m1;omega) p);have bO:=hg.sh.q;have bH:=Aa (fun (x y:Nat)=>AY (p:=p) (m:=m) (low:=lw ml) (by have:=hg.sh.p2;omega) x y);obtain⟨pa,pc,rfl,_,q2,p3⟩:=hp.open;obtain⟨sa,sc,rfl,_,s2,s3⟩:=hs.open;unfold maxLen at q2 s2;rw[aI]at p3;rw[aH]at s3;obtain⟨P3,S3,bT,bX,bW⟩:=Of p3 s3 (fun i (hi:i<N)=>Df hr (i:=i) ac) (fun i (hi:i<N)=>AS (l:=pl) (i:=i) ac) (fun i (hi:i<N)=>AS (l:=sl) (i:=i) ac);rw[aI,aH]at b0 b1 eb aO ⊢;have aF:=Aa eb;obtain⟨q,hq⟩:=nA (p^m);obtain⟨Q,hQ⟩:=nA (q-1);obtain⟨F,hF⟩:=nA (O7 p m ml pl sl);have bY:=Aa (show ∀i c:Nat,c<Q->F (i*Q+c)=((BF pl i*Q+Ai p m (lw ml) (Ar q (sl.getD i 0)) (c+1):Nat):Int)-1 from fun i c hc=>by
  rw[<-hF];unfold O7;rw[hq,hQ,Nat.mul_comm i Q,Nat.mul_add_div ac,Nat.mul_add_mod,Nat.div_eq_of_lt hc,Nat.mod_eq_of_lt hc,Nat.add_zero])
 rw[hq]at aO bF bH bP bO hd ⊢;rw[hQ]at hd ⊢;rw[hF];obtain⟨D,hD⟩:=nA (N*Q);have bM:=Aa (show ∀i,i<N->i*Q+Q<=D from fun i hi=>by rw[<-hD];have:=Nat.mul_le_mul_right Q (show i+1<=N from hi);rwa[Nat.succ_mul]at this);have k1:(N:Int)*((q:Int)-1)=(D:Int):=by rw[<-hD,<-hQ,Int.natCast_mul,Int.natCast_sub ac];rfl
 rw[hD]at hd ⊢;have HQ:=Aa (show(q:Int)-1=(Q:Int) from ac);have aN:=Aa (show q=Q+1 from ac);have cB:=Aa hD;clear hg hp hs p3 s3 eb aI aH hr hF hq hQ hD;go_enter Tryz.func55,Tryz.ntmps55
 go_upto_region 1 with fail
 obtain⟨B,hB⟩:=nA w.heap.size;rw[hB]at b0 b1 b2
 try simp only[hB]
 have HBW:=Aa hB;clear hB;generalize w.alloc (.cells #[.slice pa N pc,.slice sa N sc,fr] 26)=w1 at *;go_upto_region 2 with (go_at_call 54;refine aO.o.mono ?_;rintro e w2⟨rfl,rfl⟩)
 obtain⟨i0,aX,aT,aS,aR⟩:=info_parts AC;go_wp2_with (at_make;refine wpList_make_own _ rfl _ _ 22 rfl w1.heap.size 3 i0 (.int .i64 0) 1 Tryz.underlying22 aX aT aS .i64 .i64 (D:Int) D rfl rfl rfl (by rw[aR];omega) ai (Nat.le_refl _) ?_)
 intro w3 aA aY;obtain⟨V0,aZ⟩:∃v,Value.slice (some ⟨w1.heap.size,0,none⟩) 0 D=v:=⟨_,rfl⟩;rw[aZ]at aA ⊢;have bD:=Aa (show w3.ownsRow w1.heap.size 3 1 V0 (0*Q) (vs (0*Q) (iv F)) from by rw[Nat.zero_mul];exact aA);have bC:=Aa (show Ex w1 w3 from Below.grown (Ex.refl w1) aY (Nat.le_refl _) (fun k e=>by cases e));have B1:=Aa b1;replace b0:=bC.o.cell b0;have B0:=Aa b0;clear aA aY aZ aX aT aS aR;go_wp2_with fail
 go_loopw [6,22] (fun v' i' wr=>∃i:Nat,i<=N/\i'= .int .i64 i/\Hia (wr.ownsRow w1.heap.size 3 1 v' (i*Q) (vs (i*Q) (iv F)))/\Hia (Ex w1 wr)) (fun _ i' _=>N-(intOf i').toNat)
 case atStart=>exact⟨0,ac,rfl,bD,bC⟩
 case round=>
  clear bD;obtain⟨i,hi,rfl,aA,aB⟩:=hrel;by_cases hin:i<N
  .obtain⟨pb,po,rfl,aW⟩:=P3.o ac;obtain⟨sb,so,rfl,aV⟩:=S3.o ac;have bQ:=bT.o i hin;have cC:=Aa (aF.o.trans aB.o);obtain⟨y,hy⟩:=nA (BF pl i);have aU:pl.getD i 0=(y:Int):=by rw[<-hy];unfold BF;omega
   have bN:y<N:=ac;have aK:=bX.o i hin;rw[aU]at aK;have cp:=cC.o.cell (aW i _ aK);obtain⟨s,hs⟩:=nA (sl.getD i 0);have aJ:=bW.o i hin;rw[hs]at aJ;have cD:=Aa (aV i _ aJ);have i1:(0:Int)<=(i:Int):=ac;have i2:(i:Int)<(N:Int):=ac;obtain⟨YQ,aG⟩:∃z,y*Q=z:=⟨_,rfl⟩;have bS:=Aa (show YQ+Q<=D from by rw[<-aG];exact bM.o y bN);have bR:=Aa (show(y:Int)*((q:Int)-1)=(YQ:Int) from by rw[HQ.o,<-aG,Int.natCast_mul]);have bL:=Aa (show ∀c:Nat,c<Q->F (i*Q+c)=((YQ+Ai p m (lw ml) (Ar q s) (c+1):Nat):Int)-1 from fun c hc=>by
    have:=bY.o i c hc;rw[hy,hs,aG]at this;exact this)
   have bK:=Aa (bM.o i hin);have bV:=Aa (fun (w5:World) (h5:Ex w1 w5) (c:Nat) (hc:c<q)=>(by
    have:=bF.o w5 (aF.o.trans h5) s (c:Int);rw[Ay hc]at this;exact this:Calls Tryz.prog 106 #[.pointer (some ⟨b,0,none⟩),s,(c:Int)] w5 (Qt w5 (.int .i64 (Ai p m (lw ml) (Ar q s) c:Nat)))))
   have bI:=Aa (show(i+1)*Q=i*Q+Q from Nat.succ_mul i Q);obtain⟨IQ,bA⟩:∃z,i*Q=z:=⟨_,rfl⟩;rw[bA]at aA bL bK bI;obtain⟨bE,cA,aE,bJ⟩:=Eq aA.o aB.o aB.o hin;obtain⟨w8,h8⟩:∃w8,w8=wr:=⟨_,rfl⟩;rw[<-h8]at bE cA aE cp ⊢;have HW8:=Aa h8;clear bQ hy aU aK hs aJ aW aV aA aB aG bA hin h8 k1;go_wp2_with fail
   go_loopw [6,9] (fun v' c' wr=>∃c:Nat,1<=c/\c<=q/\c'= .int .i64 c/\Hia (wr.ownsRow w1.heap.size 3 1 v' (IQ+(c-1)) (vs (IQ+(c-1)) (iv F)))/\Hia (Ex w1 wr)) (fun _ c' _=>q-(intOf c').toNat)
   case atStart=>exact⟨1,ac,ac,rfl,bE,aE⟩
   case round=>
    obtain⟨c,hc1,hcq,rfl,aA,aB⟩:=hrel;by_cases hcn:c<q
    .have cs:=aB.o.cell (aF.o.cell cD.o);have cb:=aB.o.cell B1.o;obtain⟨t,ht⟩:=nA (Ai p m (lw ml) (Ar q s) c);have htq:t<q:=by rw[<-ht];exact bH.o _ _
     have bZ:=Aa (show F (IQ+(c-1))=((YQ+t:Nat):Int)-1 from by
      rw[bL.o (c-1) (by have:=aN.o;omega),show c-1+1=c from ac,ht])
     have bG:=Aa (fun (w5:World) (h5:Ex wr w5)=>bV.o w5 (aB.o.trans h5) c hcn);rw[ht]at bG;obtain⟨va,vc,rfl⟩:=Ae aA.o;have aD:=Aa aA.o;have aC:=Aa aB.o;have aQ:=Aa (show IQ+(c-1)<=64/\IQ+(c-1)+1=IQ+(c+1-1) from⟨by have:=bK.o;have:=aN.o;omega,ac⟩);have k3:=bR.o;have k4:YQ<=64:=by have:=bS.o;omega
     have k5:(c:Int)<(q:Int):=ac;clear ht aA aB;go_upto_region 9 with fail
     go_wp2_with (first|(go_at_call 106;(with_reducible refine(bG.o _ (Ex.refl _)).mono ?_);rintro e w6⟨rfl,n6,rfl⟩;have aM:=Aa ((Ex.refl wr).drewN n6);have bU:=Aa (Aj aD.o aM.o);generalize wr.drewN n6=w6 at *)|(at_builtin;refine Am _ rfl _ _ 22 rfl w1.heap.size 3 (.int .i64 0) 1 8 Tryz.underlying22 AC rfl ae _ (IQ+(c-1)) _ rfl bU.o [.int .i64 ((YQ:Int)+(t:Int)-1)] 3 _ rfl rfl rfl aj (by have:=aQ.o.1;unfold maxLen;omega) (by have:=aQ.o.1;omega) (Nat.le_trans aC.o.size aM.o.size) ?_))
     intro v9 w9 aL;have aP:=Aa (show w9.ownsRow w1.heap.size 3 1 v9 (IQ+(c+1-1)) (vs (IQ+(c+1-1)) (iv F)) from by
      have:=aL.own;rw[<-aQ.o.2,SE];have e:iv F (IQ+(c-1))=Value.int .i64 ((YQ:Int)+(t:Int)-1):=by show Value.int .i64 (F (IQ+(c-1)))=_;rw[bZ.o];push_cast;rfl
      rw[e];exact this)
     have bB:=Aa (aL.ex (aC.o.trans aM.o) (Nat.le_refl _));obtain⟨v9a,v9c,rfl⟩:=Ae aP.o;clear aL;go_wp2_with fail
     go_roundw
     case rel=>first|exact⟨c+1,ac,ac,by go_num,aP,bB⟩|((repeat apply Exists.intro);exact⟨⟨c+1,ac,ac,by go_num,aP,bB⟩,rfl⟩)
     case measure=>simp[intOf];omega
    .obtain rfl:c=q:=by omega
     rw[show IQ+(c-1)=IQ+Q from by have:=aN.o;omega,<-bI.o]at aA;have aD:=Aa aA.o;have aC:=Aa aB.o;clear aA aB;go_wp2_with fail
     go_roundw
     case rel=>first|exact⟨i+1,ac,by go_num,aD,aC⟩|((repeat apply Exists.intro);exact⟨⟨i+1,by have:=bJ.o;omega,by go_num,aD,aC⟩,rfl⟩)
     case measure=>have:=bJ.o;simp[intOf];omega
  .obtain rfl:i=N:=by omega
   rw[cB.o]at aA;have aD:=Aa aA.o;have aC:=Aa (aF.o.trans aB.o);obtain⟨va,vc,rfl⟩:=Ae aD.o;clear aA aB;go_wp2_with fail
   go_ret;exact⟨_,rfl,FS aD.o aF.o.size,aC.o⟩
end
def FO(Q:Nat)(P:List Int)(i:Nat):Int:=P.getD (i*Q) 0/(Q:Int)
def Gk(Q:Nat)(P:List Int)(i:Nat):Int:=P.getD (i*Q) 0%(Q:Int)+1
def US(p m:Nat)(ml:List Int)(N:Nat)(P:List Int):Bool:=decide (Gi p m ml (il N (FO (p^m-1) P)) (il N (Gk (p^m-1) P))=P)
section
variable {b p m x0:Nat} {ml:List Int}
theorem zb0{P:Prop}(h:P:=by
 have k9:IntKind.i64.wrap ((Q:Int))=(Q:Int):=IntWalk.i64_in _ (by omega);exact zds):P:=h
theorem dw{P:Prop}(h:P:=by rw[<-hB];simp):P:=h
theorem Qo(w:World)(hg:Bh w b p m ml x0)(N:Nat)(hN1:1<=N)(hN:N<=64)(P:List Int)(pv:Value)(hp:Al w pv P)(hd:N*(p^m-1)<=64)(aA:P.length=N*(p^m-1))(aT:∀x∈P,0<=x/\x<(P.length:Int)):
  Calls Tryz.prog 58 #[.pointer (some ⟨b,0,none⟩),.int .i64 N,pv] w fun r w'=>∃u v,r= .returned (.tuple #[.agg #[u,v,.int .i64 0],.bool (US p m ml N P)])/\Al w' u (il N (FO (p^m-1) P))/\Al w' v (il N (Gk (p^m-1) P))/\((∀X,u.ownBlock=some X->w.heap.size<=X)/\∀X,v.ownBlock=some X->w.heap.size<=X)/\Ex w w':=by
 have HG:=Aa hg;have bX:2<=p^m:=Nat.le_trans hg.sh.p2 (Nat.le_self_pow (by have:=hg.sh.m1;omega) p);have bW:=hg.sh.q;have bP:=Aa (fun w1 (h:Ex w w1)=>Cs w1 (hg.ex h));have bB:=Aa (fun (w1:World) (h:Ex w w1) (pl sl:List Int) (u v:Value) (hp:Al w1 u pl) (hs:Al w1 v sl) (h1:pl.length=N) (h2:sl.length=N) (h3:BB pl N=true)=>RK w1 (hg.ex h) N hN pl sl u v hp hs h1 h2 h3 hd 0);obtain⟨BE,aX⟩:∃b,US p m ml N P=b:=⟨_,rfl⟩;have bF:=Aa (show decide (il (N*(p^m-1)) (O7 p m ml (il N (FO (p^m-1) P)) (il N (Gk (p^m-1) P)))=P)=BE from by
  rw[<-aX];unfold US Gi;rw[An])
 rw[aX];obtain⟨pa,pc,rfl,z1,z2,p3⟩:=hp.open;unfold maxLen at z2;have P3:=Aa p3;have HP:=Aa hp;obtain⟨q,hq⟩:=nA (p^m);obtain⟨Q,hQ⟩:=nA (q-1);rw[hq]at bP bB bF bX bW hd aA ⊢;rw[hQ]at bB bF hd aA ⊢;have kQ:(q:Int)-1=(Q:Int):=ac;have bZ:1<=Q:=ac;obtain⟨PN,aV⟩:∃n,P.length=n:=⟨_,rfl⟩;rw[aV]at aA aT p3 P3 z1 HP ⊢;have bO:=Aa (show ∀i,i<N->∃X:Nat,P.getD (i*Q) 0=(X:Int)/\i*Q<PN/\X<PN from fun i hi=>by
  have h1:i*Q<PN:=by rw[aA];exact Nat.mul_lt_mul_of_pos_right hi bZ
  obtain⟨h2,h3⟩:=aT (P.getD (i*Q) 0) (List.mem_of_getElem? (AS ac));exact⟨(P.getD (i*Q) 0).toNat,ac,h1,ac⟩)
 obtain⟨cM,HPN,HLN,HD,cE⟩:=Of (fun i (hi:i<PN)=>AS (l:=P) (i:=i) ac) aV aA (show PN<=64 from ac) (show ∀X:Nat,X<PN->X/Q<N from fun X hX=>Nat.div_lt_of_lt_mul (by rw[Nat.mul_comm,<-aA];exact hX));clear hg hp aT aA hd aV p3 aX hq hQ;have kq0:¬(Q:Int)=0:=by omega
 have kq1:¬Q=0:=ac;have kqb:Q<=255:=ac;go_enter Tryz.func58,Tryz.ntmps58
 go_upto_region 1 with fail
 obtain⟨B0,hB⟩:∃B,w.heap.size=B:=⟨_,rfl⟩;have r0:(w.alloc (.cells #[.slice none 0 0,.slice none 0 0,.int .i64 0] 26)).cell? ⟨B0,0,none⟩=some (.slice none 0 0):=dw;have r1:(w.alloc (.cells #[.slice none 0 0,.slice none 0 0,.int .i64 0] 26)).cell? ⟨B0,1,none⟩=some (.slice none 0 0):=dw;have r2:(w.alloc (.cells #[.slice none 0 0,.slice none 0 0,.int .i64 0] 26)).cell? ⟨B0,2,none⟩=some (.int .i64 0):=dw;have s0:(w.alloc (.cells #[.slice none 0 0,.slice none 0 0,.int .i64 0] 26)).frozen? ⟨B0,0,none⟩=false:=dw;have s1:(w.alloc (.cells #[.slice none 0 0,.slice none 0 0,.int .i64 0] 26)).frozen? ⟨B0,1,none⟩=false:=dw;have s2:(w.alloc (.cells #[.slice none 0 0,.slice none 0 0,.int .i64 0] 26)).frozen? ⟨B0,2,none⟩=false:=dw;have aN:=Aa (show Ex w (w.alloc (.cells #[.slice none 0 0,.slice none 0 0,.int .i64 0] 26)) from(Ex.refl w).alloc _);have bM:=Aa (show(w.alloc (.cells #[.slice none 0 0,.slice none 0 0,.int .i64 0] 26)).heap.size=B0+1 from by simp[hB])
 try simp only[hB]
 have cO:=Aa hB;clear hB;generalize w.alloc (.cells #[.slice none 0 0,.slice none 0 0,.int .i64 0] 26)=w3 at *;have bN:=Aa (show ∀w',Ex w3 w'->w'.cell? ⟨B0,0,none⟩=some (.slice none 0 0)/\w'.cell? ⟨B0,1,none⟩=some (.slice none 0 0)/\w'.cell? ⟨B0,2,none⟩=some (.int .i64 0)/\w'.frozen? ⟨B0,0,none⟩=false/\w'.frozen? ⟨B0,1,none⟩=false/\w'.frozen? ⟨B0,2,none⟩=false from
  fun w' h=>⟨h.cell r0,h.cell r1,h.cell r2,h.frz r0 s0,h.frz r1 s1,h.frz r2 s2⟩)
 go_upto_region 2 with (go_at_call 54;refine(bP.o w3 aN.o).mono ?_;rintro e w2⟨rfl,rfl⟩)
 obtain⟨B1,aY⟩:∃B,w3.heap.size=B:=⟨_,rfl⟩;have bE:=Aa (Ho.new w3 0);rw[aY]at bE;have bT:=Aa aY;clear r0 r1 r2 s0 s1 s2 aY;go_upto_region 3 with fail
 try simp only[bT.o]
 generalize w3.alloc (.cells #[.slice none 0 0,.slice none 0 0,.int .i64 0] 26)=w4 at *;go_wp2_with fail
 go_loopw [15] (fun i' wr=>∃(i:Nat) (pv sv:Value),i<=N/\i'= .int .i64 i/\Hia (Ho w3 wr B1 0 pv sv (il i (FO Q P)) (il i (Gk Q P)))) (fun i' _=>N-(intOf i').toNat)
 case atStart=>exact⟨0,_,_,ac,rfl,bE⟩
 case round=>
  clear bE;obtain⟨i,pv,sv,hi,rfl,HC⟩:=hrel;by_cases aB:i<N
  .obtain⟨X,hX,bL,bY⟩:=bO.o i aB;obtain⟨A,hA⟩:=nA (X/Q);obtain⟨R,hR⟩:=nA (X%Q);have cL:=Aa (show il (i+1) (FO Q P)=il i (FO Q P) ++ [(A:Int)] from by rw[Tl];unfold FO;rw[hX,<-hA];norm_cast);have cK:=Aa (show il (i+1) (Gk Q P)=il i (Gk Q P) ++ [(R:Int)+1] from by rw[Tl];unfold Gk;rw[hX,<-hR];norm_cast);have kd:(X:Int).tdiv (Q:Int)=(A:Int):=by rw[Int.tdiv_eq_ediv_of_nonneg ac,<-hA];norm_cast
   have kr:(X:Int).tmod (Q:Int)=(R:Int):=by rw[Int.tmod_eq_emod_of_nonneg ac,<-hR];norm_cast
   have hAb:A<=64:=by rw[<-hA];exact Nat.le_trans (Nat.div_le_self _ _) (by have:=HD.o;omega)
   have hRb:R<=64:=by rw[<-hR];exact Nat.le_trans (Nat.mod_le _ _) (by have:=HD.o;omega)
   obtain⟨pb,po,rfl,bJ⟩:=P3.o ac;have cx:=(aN.o.trans HC.o.ex).cell (bJ _ _ (cM.o _ bL));rw[hX]at cx;obtain⟨IQ,aW⟩:∃z,i*Q=z:=⟨_,rfl⟩;rw[aW]at cx bL;have kI:(i:Int)*(Q:Int)=(IQ:Int):=by rw[<-aW];norm_cast
   have i1:(0:Int)<=(IQ:Int):=ac;have i2:(IQ:Int)<(PN:Int):=ac;have aQ:=Aa (show(il i (FO Q P)).length<=64/\(il i (Gk Q P)).length<=64 from by rw[An,An];omega);have aE:=Aa hN;obtain⟨va,vc,rfl⟩:=Ae HC.o.o0;obtain⟨ua,uc,rfl⟩:=Ae HC.o.o1;have HCW:=Aa HC.o.ex;have D0:=Aa HC.o.b0;have bC:=Aa aB;clear hX hA hR bJ aW aB bY;go_wp2_with fail
   go_upto_region 7 with fail
   clear cx kI i1 i2
   go_cut [25] from 25 to 33 (fun _ wx=>∃aH aG,Hia (Ho w3 wx B1 0 (.slice aH (il (i+1) (FO Q P)).length aG) (.slice ua (il i (Gk Q P)).length uc) (il (i+1) (FO Q P)) (il i (Gk Q P))))
   case first=>
    refine FP (fun k=>([.pointer (some ⟨B1,0,none⟩),.slice va (il i (FO Q P)).length vc,.int .i64 (X:Int),.int .i64 (q:Int),.int .i64 (Q:Int),.int .i64 (A:Int),undef,undef,.pointer (some ⟨B1,0,none⟩)]:List Value).getD k undef) 6 7 8 9 (.int .i64 (A:Int)) 3 (fun v w=>∃w1,Ho w3 w1 B1 0 (.slice va (il i (FO Q P)).length vc) (.slice ua (il i (Gk Q P)).length uc) (il i (FO Q P)) (il i (Gk Q P))/\SD w1 w w3.heap.size 3 1 (.slice va (il i (FO Q P)).length vc) v (il i (FO Q P)).length (Ao (il i (FO Q P))) [.int .i64 (A:Int)]) (fun v w=>Ho w3 w B1 0 v (.slice ua (il i (Gk Q P)).length uc) ((il i (FO Q P)) ++ [(A:Int)]) (il i (Gk Q P))) ah ah ah ?_ ?_ ?_ ?_ (fun B v k=>([.pointer (some ⟨B1,0,none⟩),.slice va (il i (FO Q P)).length vc,.int .i64 (X:Int),.int .i64 (q:Int),.int .i64 (Q:Int),.int .i64 (A:Int),.slice (some ⟨B,0,none⟩) 1 1,v,.pointer (some ⟨B1,0,none⟩)]:List Value).getD k undef) (fun _ _=>rfl) ?_
    .simp only[AJ];refine⟨?_,?_,?_,?_,?_,?_,?_,?_,?_,?_,trivial⟩
     all_goals first|exact IU.sk ae|refine IU.go ae fun a w T hx K hK=>?_|refine IU.gf ae fun a w T K hK=>?_
     .have e9:=T 9 _ rfl;exact zds
     .have e25:=T 25 _ rfl;have q1:=hx.cell D0.o;exact zds
     .have cA:=T 11 _ rfl;exact zds
     .exact za0
     .have e28:=T 28 _ rfl;exact zb0
     .have e27:=T 27 _ rfl;have e29:=T 29 _ rfl;have k9:IntKind.i64.wrap ((A:Int))=(A:Int):=IntWalk.i64_in _ ac;exact zds
     .have e9:=T 9 _ rfl;clear T;go_simp;exact hK
    .intro o a w1 K ho hx aB hK;injection (show some _=some o from ho) with ho;subst ho;have e30:=aB 5 30 _ ah ae ae ae rfl rfl;clear aB;go_simp;exact hK
    .intro o ob a w1 B8 K ho aK hx aS aU aB hA;injection (show some _=some o from ho) with ho;subst ho;injection (show some _=some ob from aK) with aK;subst aK;have e1:=Cz (aB 1 26 _ ah ae ae ae rfl rfl);have e2:=Cz (aS 31 rfl);refine Dr _ _ 22 rfl w3.heap.size 3 (.int .i64 0) 1 8 Tryz.underlying22 AC rfl ae (.slice va (il i (FO Q P)).length vc) (il i (FO Q P)).length (Ao (il i (FO Q P))) e1 ((HC.o.later hx).o0) _ 1 [.int .i64 (A:Int)] e2 (SO aU) aj (by have:=aQ.o.1;have:=aE.o;unfold maxLen;omega) (by have:=aQ.o.1;have:=aE.o;omega) ((HC.o.later hx).ex.size) ?_;intro v' w' aI hg ha;exact hA v' w' (⟨w1,HC.o.later hx,⟨aI,hg,ha,(HC.o.later hx).o0⟩⟩)
    .intro o oa of a w1 v K ho aL aJ hA h1 h2 hK;injection (show some _=some o from ho) with ho;subst ho;injection (show some _=some oa from aL) with aL;subst aL;injection (show some _=some of from aJ) with aJ;subst aJ;have e1:=h1 32 rfl;have e2:=h2 33 rfl;obtain⟨w2,aM,aD⟩:=hA;obtain⟨g1,g2⟩:=aM.at0g aD;have aC:=aM.app0g aD;obtain⟨aH,aG,rfl⟩:=Ae aD.own;clear aM aD h1 h2;have bD:=Aa aC;clear aC;go_simp;exact hK _ bD.o
    .intro B8 v w1 hF;rw[<-cL.o]at hF;obtain⟨aH,aG,bI⟩:=Ae hF.o0;rw[bI]at hF;have HF:=Aa hF;clear hF bI;simp only[Ci,Act.put,List.setIfInBounds_toArray,List.set_cons_zero,List.set_cons_succ];go_wp2_with fail
     go_meet
     exact⟨aH,aG,HF⟩
   case rest=>
    obtain⟨aH,aG,bK⟩:=hcut;have aP:=Aa bK.o;clear bK;have HCX:=Aa aP.o.ex;have D1:=Aa aP.o.b1;go_upto_region 8 with fail
    refine FP (fun k=>([.pointer (some ⟨B1,1,none⟩),.slice ua (il i (Gk Q P)).length uc,.int .i64 (X:Int),.int .i64 (q:Int),.int .i64 (Q:Int),.int .i64 (R:Int),.int .i64 ((R:Int)+1),undef,undef,.pointer (some ⟨B1,1,none⟩)]:List Value).getD k undef) 7 8 9 10 (.int .i64 ((R:Int)+1)) 3 (fun v w=>∃w1,Ho w3 w1 B1 0 (.slice aH (il (i+1) (FO Q P)).length aG) (.slice ua (il i (Gk Q P)).length uc) (il (i+1) (FO Q P)) (il i (Gk Q P))/\SD w1 w w3.heap.size 3 1 (.slice ua (il i (Gk Q P)).length uc) v (il i (Gk Q P)).length (Ao (il i (Gk Q P))) [.int .i64 ((R:Int)+1)]) (fun v w=>Ho w3 w B1 0 (.slice aH (il (i+1) (FO Q P)).length aG) v (il (i+1) (FO Q P)) ((il i (Gk Q P)) ++ [(R:Int)+1])) ah ah ah ?_ ?_ ?_ ?_ (fun B v k=>([.pointer (some ⟨B1,1,none⟩),.slice ua (il i (Gk Q P)).length uc,.int .i64 (X:Int),.int .i64 (q:Int),.int .i64 (Q:Int),.int .i64 (R:Int),.int .i64 ((R:Int)+1),.slice (some ⟨B,0,none⟩) 1 1,v,.pointer (some ⟨B1,1,none⟩)]:List Value).getD k undef) (fun _ _=>rfl) ?_
    .simp only[AJ];refine⟨?_,?_,?_,?_,?_,?_,?_,?_,?_,?_,?_,trivial⟩
     all_goals first|exact IU.sk ae|refine IU.go ae fun a w T hx K hK=>?_|refine IU.gf ae fun a w T K hK=>?_
     .have e9:=T 9 _ rfl;exact zds
     .have e34:=T 34 _ rfl;have q1:=hx.cell D1.o;exact zds
     .have cA:=T 11 _ rfl;exact zds
     .exact za0
     .have e37:=T 37 _ rfl;exact zb0
     .have e36:=T 36 _ rfl;have e38:=T 38 _ rfl;have k9:IntKind.i64.wrap ((R:Int))=(R:Int):=IntWalk.i64_in _ ac;exact zds
     .have e39:=T 39 _ rfl;have k9:IntKind.i64.wrap ((R:Int)+1)=(R:Int)+1:=IntWalk.i64_in _ ac;exact zds
     .have e9:=T 9 _ rfl;clear T;go_simp;exact hK
    .intro o a w1 K ho hx aB hK;injection (show some _=some o from ho) with ho;subst ho;have e40:=aB 6 40 _ ah ae ae ae rfl rfl;clear aB;go_simp;exact hK
    .intro o ob a w1 B8 K ho aK hx aS aU aB hA;injection (show some _=some o from ho) with ho;subst ho;injection (show some _=some ob from aK) with aK;subst aK;have e1:=Cz (aB 1 35 _ ah ae ae ae rfl rfl);have e2:=Cz (aS 41 rfl);refine Dr _ _ 22 rfl w3.heap.size 3 (.int .i64 0) 1 8 Tryz.underlying22 AC rfl ae (.slice ua (il i (Gk Q P)).length uc) (il i (Gk Q P)).length (Ao (il i (Gk Q P))) e1 ((aP.o.later hx).o1) _ 1 [.int .i64 ((R:Int)+1)] e2 (SO aU) aj (by have:=aQ.o.2;have:=aE.o;unfold maxLen;omega) (by have:=aQ.o.2;have:=aE.o;omega) ((aP.o.later hx).ex.size) ?_;intro v' w' aI hg ha;exact hA v' w' (⟨w1,aP.o.later hx,⟨aI,hg,ha,(aP.o.later hx).o1⟩⟩)
    .intro o oa of a w1 v K ho aL aJ hA h1 h2 hK;injection (show some _=some o from ho) with ho;subst ho;injection (show some _=some oa from aL) with aL;subst aL;injection (show some _=some of from aJ) with aJ;subst aJ;have e1:=h1 42 rfl;have e2:=h2 43 rfl;obtain⟨w2,aM,aD⟩:=hA;obtain⟨g1,g2⟩:=aM.at1g aD;have aC:=aM.app1g aD;obtain⟨va7,vc7,rfl⟩:=Ae aD.own;clear aM aD h1 h2;have bD:=Aa aC;clear aC;go_simp;exact hK _ bD.o
    .intro B8 v w1 hF;rw[<-cK.o]at hF;have HF:=Aa hF;clear hF;simp only[Ci,Act.put,List.setIfInBounds_toArray,List.set_cons_zero,List.set_cons_succ];go_wp2_with fail
     go_roundw
     case rel=>first|exact⟨i+1,_,_,by have:=bC.o;omega,by go_num,HF⟩|((repeat apply Exists.intro);exact⟨⟨i+1,_,_,by have:=bC.o;omega,by go_num,HF⟩,rfl⟩)
     case measure=>have:=bC.o;simp[intOf];omega
  .obtain rfl:i=N:=by omega
   obtain⟨va,vc,rfl⟩:=Ae HC.o.o0;obtain⟨ua,uc,rfl⟩:=Ae HC.o.o1;have HC:=Aa HC.o;have m0:=HC.o.b0;have m1:=HC.o.b1;have m2:=HC.o.b2;have bA:=Aa (show Al wr (.slice va (il i (FO Q P)).length vc) (il i (FO Q P)) from Sl.own HC.o.o0);have aZ:=Aa (show Al wr (.slice ua (il i (Gk Q P)).length uc) (il i (Gk Q P)) from Sl.own HC.o.o1);rw[An]at bA m0;rw[An]at aZ m1;have cI:=Aa (show BB (il i (FO Q P)) i=true from by
    unfold BB;rw[List.all_eq_true];intro x hx;unfold il at hx;obtain⟨j,hj,rfl⟩:=List.mem_map.1 hx;rw[List.mem_range]at hj;obtain⟨X,h1,h2,h3⟩:=bO.o j hj;have h4:=cE.o X h3;have h5:FO Q P j=((X/Q:Nat):Int):=by unfold FO;rw[h1];norm_cast
    rw[h5];generalize X/Q=Z at *;exact decide_eq_true ⟨ac,ac⟩)
   have cJ:=Aa (fun w' (h:Ex wr w')=>bB.o w' (aN.o.trans (HC.o.ex.trans h)) _ _ _ _ (bA.o.ex h) (aZ.o.ex h) (An _ _) (An _ _) cI.o);have cN:=Aa (fun w' (h:Ex wr w') (v:Value) (hv:Al w' v (il (i*Q) (O7 p m ml (il i (FO Q P)) (il i (Gk Q P)))))=>(by
    have:=Hb w' _ P v (.slice pa PN pc) hv (HP.o.ex (aN.o.trans (HC.o.ex.trans h)));rw[bF.o]at this;exact this:Calls Tryz.prog 101 #[v,.slice pa PN pc] w' fun r w''=>r= .returned (.bool BE)/\∃n,w''=w'.drewN n))
   obtain⟨HR,aF,M0,M1,M2,cF⟩:=To (bN.o wr HC.o.ex) (show B0≠B1 from by have:=bT.o;have:=bM.o;omega) m0 m1 m2 (aN.o.trans HC.o.ex);clear m0 m1 m2;go_wp2_with fail
   have G0:Ex wr wr.drew:=(Ex.refl wr).drew;obtain⟨aO,cH,bR,bQ⟩:=Eq (fun (w5:World) (h5:Ex wr w5)=>(⟨h5.cell M0.o,h5.cell M1.o,h5.cell M2.o⟩:w5.cell? ⟨B1,0,none⟩=some (.slice va i vc)/\w5.cell? ⟨B1,1,none⟩=some (.slice ua i uc)/\w5.cell? ⟨B1,2,none⟩=some (.int .i64 0))) (fun (w5:World) (h5:Ex wr w5)=>bN.o w5 (HC.o.ex.trans h5)) HC.o.o0 HC.o.o1;have bS:=Aa (show ∀v (L:List Int),wr.ownsRow w3.heap.size 3 1 v L.length (Ao L)->∀X,v.ownBlock=some X->X≠B0 from fun v L h X e=>by
    have:=(h.lt X e).1;have:=bM.o;omega)
   have bG:=Aa (fun (w5:World) (h5:Ex wr w5)=>(⟨(World.cell?_setCell_other _ _ _ _ (by intro e;have:=aF.o;simp at e <;> omega)).trans ((World.cell?_setCell_other _ _ _ _ (by intro e;have:=aF.o;simp at e <;> omega)).trans ((World.cell?_setCell_other _ _ _ _ (by intro e;have:=aF.o;simp at e <;> omega)).trans (h5.cell M0.o))),(World.cell?_setCell_other _ _ _ _ (by intro e;have:=aF.o;simp at e <;> omega)).trans ((World.cell?_setCell_other _ _ _ _ (by intro e;have:=aF.o;simp at e <;> omega)).trans ((World.cell?_setCell_other _ _ _ _ (by intro e;have:=aF.o;simp at e <;> omega)).trans (h5.cell M1.o))),(World.cell?_setCell_other _ _ _ _ (by intro e;have:=aF.o;simp at e <;> omega)).trans ((World.cell?_setCell_other _ _ _ _ (by intro e;have:=aF.o;simp at e <;> omega)).trans ((World.cell?_setCell_other _ _ _ _ (by intro e;have:=aF.o;simp at e <;> omega)).trans (h5.cell M2.o)))⟩:(((w5.setCell ⟨B0,0,none⟩ (.slice va i vc)).setCell ⟨B0,1,none⟩ (.slice ua i uc)).setCell ⟨B0,2,none⟩ (.int .i64 0)).cell? ⟨B1,0,none⟩=some (.slice va i vc)/\(((w5.setCell ⟨B0,0,none⟩ (.slice va i vc)).setCell ⟨B0,1,none⟩ (.slice ua i uc)).setCell ⟨B0,2,none⟩ (.int .i64 0)).cell? ⟨B1,1,none⟩=some (.slice ua i uc)/\(((w5.setCell ⟨B0,0,none⟩ (.slice va i vc)).setCell ⟨B0,1,none⟩ (.slice ua i uc)).setCell ⟨B0,2,none⟩ (.int .i64 0)).cell? ⟨B1,2,none⟩=some (.int .i64 0)));clear HC HR
   go_region_held3 (fun w'=>w'.cell? ⟨B1,0,none⟩=some (.slice va i vc)/\w'.cell? ⟨B1,1,none⟩=some (.slice ua i uc)/\w'.cell? ⟨B1,2,none⟩=some (.int .i64 0))
    (first|with_reducible exact bG.o _ X6|with_reducible exact aO.o _ X6|with_reducible exact aO.o _ X5|with_reducible exact aO.o _ G0)
    (first|(go_at_call 55;(with_reducible refine(cJ.o _ G0).mono ?_);rintro e w5⟨v5,rfl,aR,bH⟩;have X5:=G0.trans bH;obtain⟨bV,bU,rfl⟩:=Ae aR;have cG:=Aa (show Al w5 (.slice bV (i*Q) bU) (il (i*Q) (O7 p m ml (il i (FO Q P)) (il i (Gk Q P)))) from by unfold Al;rw[An,Cu];exact Sl.own aR);clear aR bH)|(go_at_call 101;(with_reducible refine(cN.o _ X5 _ cG.o).mono ?_);rintro e w6⟨rfl,n6,rfl⟩;have X6:=X5.drewN n6;obtain⟨cD,cC,cB,f60,f61,f62⟩:=cH.o _ X6))
   all_goals
    obtain⟨z0,z1,z2⟩:((((w5.drewN n6).setCell ⟨B0,0,none⟩ (.slice va i vc)).setCell ⟨B0,1,none⟩ (.slice ua i uc)).setCell ⟨B0,2,none⟩ (.int .i64 0)).cell? ⟨B0,0,none⟩=some (.slice va i vc)/\((((w5.drewN n6).setCell ⟨B0,0,none⟩ (.slice va i vc)).setCell ⟨B0,1,none⟩ (.slice ua i uc)).setCell ⟨B0,2,none⟩ (.int .i64 0)).cell? ⟨B0,1,none⟩=some (.slice ua i uc)/\((((w5.drewN n6).setCell ⟨B0,0,none⟩ (.slice va i vc)).setCell ⟨B0,1,none⟩ (.slice ua i uc)).setCell ⟨B0,2,none⟩ (.int .i64 0)).cell? ⟨B0,2,none⟩=some (.int .i64 0):=⟨by rw[Ag ae,Ag ae];exact World.cell?_setCell_same _ _ _ cD,by rw[Ag ae];exact World.cell?_setCell_same _ _ _ ((Ag ae).trans cC),World.cell?_setCell_same _ _ _ ((Ag ae).trans ((Ag ae).trans cB))⟩;go_wp2_with fail
    exact bodyPost_ret (v:= .tuple #[.agg #[.slice va i vc,.slice ua i uc,.int .i64 0],.bool BE]) (by simp[results,Tryz.results58,go_sem,z0,z1,z2]) rfl ⟨_,_,rfl,Fo (bA.o.ex X6) (by have:=bS.o _ _ bR.o;rw[An]at this;exact this) _ _ _,Fo (aZ.o.ex X6) (by have:=bS.o _ _ bQ.o;rw[An]at this;exact this) _ _ _,⟨fun X e=>by have:=(bR.o.lt X (by rw[An];exact e)).1;have:=aN.o.size;omega,fun X e=>by have:=(bQ.o.lt X (by rw[An];exact e)).1;have:=aN.o.size;omega⟩,Cj (cF.o.trans X6) (Nat.le_of_eq cO.o) _ _ _⟩
end
def VZ(p m:Int)(ml pl sl:List Int)(fr:Int):Int:=
 if CI p m ml pl.length pl sl fr≠0 then CI p m ml pl.length pl sl fr else if fr≠0 then 5 else if 64<pl.length*(p.toNat^m.toNat-1) then 8 else 0
def ptL(p m:Int)(ml pl sl:List Int)(fr:Int):List Int:=if VZ p m ml pl sl fr=0 then Gi p.toNat m.toNat ml pl sl else []
def LeR(L:List Int)(e:Int)(r:Ending)(w':World):Prop:=∃v,r= .returned (.tuple #[v,e])/\Al w' v L
theorem Oe{L L':List Int}{e e':Int}{v:Value}{w':World}(h1:L=L')(h2:e=e')(h:Al w' v L):LeR L' e' (.returned (.tuple #[v,e])) w':=by subst h1 h2;exact⟨v,rfl,h⟩
theorem zdk{P:Prop}(h:P:=by
 clear aB aA hd;go_simp;exact hK _ (Ex.refl w)):P:=h
theorem zau{P:Prop}(h:P:=by
 refine Bu.on rfl fun L a w aB aA hd hx K hK=>?_;have e31:=aB 6 31 _ (hd ⟨6,.data⟩ (by simp) rfl) rfl rfl;exact zdk):P:=h
theorem zci{P:Prop}(h:P:=by
 go_wp2_with fail
 go_ret2;exact⟨Oe aF.o.symm HR.o.symm (A7 _),HE.o.trans aK.o⟩):P:=h
theorem zdg{P:Prop}(h:P:=by
 rintro e w5⟨rfl,rfl⟩;exact hK _ (Ex.refl _)):P:=h
theorem Ma(w:World)(p m:Int)(ml:List Int)(mv:Value)(aM:Al w mv ml)(pl sl:List Int)(pv sv:Value)(hp:Al w pv pl)(hs:Al w sv sl)(fr:Int):
  Calls Tryz.prog 15 #[.agg #[p,m,mv],.agg #[pv,sv,fr]] w fun r w'=>LeR (ptL p m ml pl sl fr) (VZ p m ml pl sl fr) r w'/\Ex w w':=by
 obtain⟨a0,a1,a2,ea⟩:=F5 w p m mv;obtain⟨b0,b1,b2,eb⟩:=Bd (w.alloc (.cells #[p,m,mv] 24)) pv sv fr;replace a0:=eb.cell a0;replace a1:=eb.cell a1;replace a2:=eb.cell a2;have HE:=Aa (ea.trans eb);have bD:=Aa (aM.ex HE.o);have HP:=Aa (hp.ex HE.o);have HS:=Aa (hs.ex HE.o);obtain⟨ma,mc,rfl,_,_,_⟩:=aM.open;obtain⟨pa,pc,rfl,_,z2,_⟩:=hp.open;obtain⟨sa,sc,rfl,_,_,_⟩:=hs.open;unfold maxLen at z2;have aY:(w.alloc (.cells #[p,m,.slice ma ml.length mc] 24)).heap.size=w.heap.size+1:=ag;rw[aY]at b0 b1 b2;obtain⟨B,hB⟩:=nA w.heap.size;rw[hB]at a0 a1 a2 b0 b1 b2;obtain⟨E,hE⟩:=nA (CI p m ml pl.length pl sl fr);obtain⟨bL,aC,aE,bE⟩:=Eq hE (show VZ p m ml pl sl fr=if E≠0 then E else if fr≠0 then 5 else if 64<pl.length*(p.toNat^m.toNat-1) then 8 else 0 from by unfold VZ;rw[hE]) (show ptL p m ml pl sl fr=if VZ p m ml pl sl fr=0 then Gi p.toNat m.toNat ml pl sl else [] from rfl) (fun (h:E=0)=>Ji (hE.trans h));obtain⟨PE,aX⟩:∃x,VZ p m ml pl sl fr=x:=⟨_,rfl⟩;obtain⟨PL,aW⟩:∃x,ptL p m ml pl sl fr=x:=⟨_,rfl⟩;rw[aX]at aC aE ⊢;rw[aW]at aE ⊢;have aS:=Aa (fun w1 (h:Ex ((w.alloc (.cells #[p,m,.slice ma ml.length mc] 24)).alloc (.cells #[.slice pa pl.length pc,.slice sa sl.length sc,fr] 26)) w1)=>R8 w1 p m ml _ (bD.o.ex h) pl.length pl sl _ _ (HP.o.ex h) (HS.o.ex h) fr);rw[hE]at aS;clear hE aX aW aM hp hs aY ea eb;have aZ:=Aa b0;go_enter Tryz.func15,Tryz.ntmps15
 go_upto_region 1 with fail
 try simp only[hB]
 clear hB;generalize (w.alloc (.cells #[p,m,.slice ma ml.length mc] 24)).alloc (.cells #[.slice pa pl.length pc,.slice sa sl.length sc,fr] 26)=w1 at *;go_wp2_with fail
 refine(aS.o w1 (Ex.refl _)).mono ?_;rintro e w2⟨rfl,aD⟩;have aK:=Aa aD;replace a0:=aD.cell a0;replace a1:=aD.cell a1;replace a2:=aD.cell a2;replace b0:=aD.cell b0;replace b1:=aD.cell b1;replace b2:=aD.cell b2;clear aD;by_cases h0:E=0
 rotate_left
 .have hb:(E !=0)=true:=by simpa using h0
  have HR:=Aa (show PE=E from by rw[aC.o,if_pos h0]);have aF:=Aa (show PL= [] from by rw[aE.o,if_neg (by rw[HR.o];exact h0)]);clear h0;exact zci
 .obtain⟨n1,n2,n3,n4,n5,n6,n7,n8,n9,bF⟩:=bE.o h0;subst h0;by_cases hf:fr=0
  rotate_left
  .have hb:(fr !=0)=true:=by simpa using hf
   have HR:=Aa (show PE=5 from by rw[aC.o,if_neg ag,if_pos hf]);have aF:=Aa (show PL= [] from by rw[aE.o,if_neg (by rw[HR.o];decide)]);clear hf;exact zci
  .subst hf;have bC:=Aa (F8 p m ml _ w2 (bD.o.ex aK.o));have bJ:=Aa (show sl.length=pl.length from ac);have aR:=Aa (show pl.length<=64 from ac);go_wp2_with fail
   refine bC.o.mono ?_;rintro e w3⟨bH,aH⟩;rcases bH with⟨pn,mn,x0,gb,rfl,rfl,rfl,hg,x1,x2⟩|⟨hbad,-⟩
   rotate_left
   .exact absurd ((Cm p m ml).1 n1) hbad
   have aJ:=Aa (aK.o.trans aH);replace b0:=aH.cell b0;replace b1:=aH.cell b1;replace b2:=aH.cell b2;have aZ:=Aa b0;have HG:=Aa hg;replace aC:=Aa (show PE=if ((0:Int)≠0) then(0:Int) else if ((0:Int)≠0) then 5 else if 64<pl.length*(pn^mn-1) then 8 else 0 from aC.o);replace aE:=Aa (show PL=if PE=0 then Gi pn mn ml pl sl else [] from aE.o);have bG:2<=pn^mn:=Nat.le_trans hg.sh.p2 (Nat.le_self_pow (by have:=hg.sh.m1;omega) pn);have aU:=hg.sh.q;have aI:=aR.o;have aQ:=Aa (fun (w5:World) (h5:Ex w3 w5) (hd:pl.length*(pn^mn-1)<=64)=>RK w5 (HG.o.ex h5) pl.length aI pl sl _ _ (HP.o.ex (aJ.o.trans h5)) (HS.o.ex (aJ.o.trans h5)) rfl bJ.o n6 hd 0);have bB:=Aa (fun (w5:World) (h5:Ex w3 w5)=>Cs w5 (HG.o.ex h5));have aL:=Aa (fun (w5:World)=>Hv w5 pl.length (pn^mn) aI ac aU);obtain⟨q,hq⟩:=nA (pn^mn);have aP:=Aa (show Gi pn mn ml pl sl=il (pl.length*(pn^mn-1)) (O7 pn mn ml pl sl) from rfl);rw[hq]at aC aQ bB aL aP bG aU;obtain⟨D,hD⟩:=nA (pl.length*(q-1));rw[hD]at aC aQ aL aP;obtain⟨T0,aV⟩:∃z,((if 64<D then 0 else D:Nat):Int)=z:=⟨_,rfl⟩;obtain⟨T1,aN⟩:∃z,(if 64<D then(8:Int) else 0)=z:=⟨_,rfl⟩;rw[aV,aN]at aL;have bA:=Aa aN;clear aV aN hD hq aH hg x1 x2 n1 n2 n3 n4 n5 n6 n7 n8 n9 bF bC bE bL aS;go_wp2_with fail
   go_upto_region 9 with fail
   refine BL (fun k=>([.pointer (some ⟨B+1,0,none⟩),.slice pa pl.length pc,.int .i64 (pl.length:Int),.pointer (some ⟨gb,0,none⟩),.int .i64 (q:Int),.tuple #[T0,T1],.tuple #[T0,T1],.int .i64 T0,.int .i64 T1,.int .i64 T0,.int .i64 T1]:List Value).getD k undef) ah ah ah ?_ ?_
   .simp only[AJ];refine⟨?_,?_,?_,?_,?_,?_,?_,?_,?_,?_,?_,trivial⟩
    .refine Bu.on rfl fun L a w aB aA hd hx K hK=>?_;have e3:a.tmps[3]?=some (.pointer (some (B+1,0))):=aA 3 ah;exact zdk
    .refine Bu.on rfl fun L a w aB aA hd hx K hK=>?_;have e32:=aB 0 32 _ (hd ⟨0,.data⟩ ag rfl) rfl rfl;have c1:=hx.cell aZ.o;exact zdk
    .refine Bu.on rfl fun L a w aB aA hd hx K hK=>?_;have e33:=aB 1 33 _ (hd ⟨1,.data⟩ ag rfl) rfl rfl;exact zdk
    .refine Bu.on rfl fun L a w aB aA hd hx K hK=>?_;have e7:a.tmps[7]?=some (.pointer (some (gb,0))):=aA 7 ah;exact zdk
    .refine Bu.on rfl fun L a w aB aA hd hx K hK=>?_;have e35:=aB 3 35 _ (hd ⟨3,.data⟩ ag rfl) rfl rfl;clear aB aA hd;go_simp;refine(bB.o _ hx).mono ?_;exact zdg
    .refine Bu.on rfl fun L a w aB aA hd hx K hK=>?_;have e34:=aB 2 34 _ (hd ⟨2,.data⟩ ag rfl) rfl rfl;have e36:=aB 4 36 _ (hd ⟨4,.data⟩ ag rfl) rfl rfl;clear aB aA hd;go_simp;refine(aL.o _).mono ?_;exact zdg
    .refine Bu.on rfl fun L a w aB aA hd hx K hK=>?_;have e37:=aB 5 37 _ (hd ⟨5,.data⟩ ag rfl) rfl rfl;exact zdk
    .exact zau
    .exact zau
    .refine Bu.on rfl fun L a w aB aA hd hx K hK=>?_;have e38:=aB 7 38 _ (hd ⟨7,.data⟩ ag rfl) rfl rfl;exact zdk
    .refine Bu.on rfl fun L a w aB aA hd hx K hK=>?_;have e39:=aB 8 39 _ (hd ⟨8,.data⟩ ag rfl) rfl rfl;exact zdk
   .intro w5 aG;simp only[Ci,Act.put,List.setIfInBounds_toArray,List.set_cons_zero,List.set_cons_succ];have aO:=Aa aG;replace b0:=aG.cell b0;replace b1:=aG.cell b1;replace b2:=aG.cell b2;clear aG;by_cases hD:64<D
    .have hT:T1=8:=by rw[<-bA.o,if_pos hD]
     subst hT;have HR:=Aa (show PE=8 from by rw[aC.o,if_neg ag,if_neg ag,if_pos hD]);have aF:=Aa (show PL= [] from by rw[aE.o,if_neg (by rw[HR.o];decide)]);clear hD;go_wp2_with fail
     go_ret2;exact⟨Oe aF.o.symm HR.o.symm (A7 _),HE.o.trans (aJ.o.trans aO.o)⟩
    .have hT:T1=0:=by rw[<-bA.o,if_neg hD]
     subst hT;have HR:=Aa (show PE=0 from by rw[aC.o,if_neg ag,if_neg ag,if_neg hD]);have aF:=Aa (show PL=Gi pn mn ml pl sl from by rw[aE.o,if_pos HR.o]);have bK:=Aa (aQ.o w5 aO.o ac);clear hD;go_wp2_with fail
     refine bK.o.mono ?_;rintro e w6⟨v,rfl,hv,aT⟩;have HV:=Aa (show Al w6 v PL from by rw[aF.o,aP.o];unfold Al;rw[An,Cu];exact Sl.own hv);have bI:=Aa (aO.o.trans aT);obtain⟨va,vc,rfl⟩:=Ae hv;clear hv aT;go_wp2_with fail
     go_ret2;exact⟨Oe rfl HR.o.symm HV.o,HE.o.trans (aJ.o.trans bI.o)⟩
def mpE(p m:Int)(ml:List Int)(n:Int)(P:List Int):Int:=
 if Ce p m ml≠0 then 1 else if n<1∨64<n then 4 else if 64<n.toNat*(p.toNat^m.toNat-1) then 8 else if BR P≠0 then BR P else if P.length≠n.toNat*(p.toNat^m.toNat-1) then 10 else if US p.toNat m.toNat ml n.toNat P=false then 5 else 0
def mpM(p m:Int)(ml:List Int)(n:Int)(P:List Int):CW:=if mpE p m ml n P=0 then⟨il n.toNat (FO (p.toNat^m.toNat-1) P),il n.toNat (Gk (p.toNat^m.toNat-1) P),0⟩ else⟨[], [],0⟩
theorem V5{P:List Int}(h:BR P=0):∀x∈P,0<=x/\x<(P.length:Int):=by
 intro x hx;unfold BR at h;split at h
 .cases h
 .split at h
  .cases h
  .rename_i h1;have h3:¬(x<0∨(P.length:Int)<=x):=fun h2=>h1 ⟨x,hx,h2⟩;omega
theorem La{M:CW}{e e':Int}{w':World}(h1:M=⟨[], [],0⟩)(h2:e=e'):MoR M e (.returned (.tuple #[.agg #[.slice none 0 0,.slice none 0 0,(0:Int)],e'])) w':=by subst h1 h2;exact⟨_,_,rfl,A7 _,A7 _⟩
theorem zbi{P:Prop}(h:P:=by
 clear HG;go_wp2_with fail
 exact bodyPost_ret (v:= .tuple #[.agg #[.slice none 0 0,.slice none 0 0,(0:Int)],(4:Int)]) (by simp[results,Tryz.results17,go_sem,q0,q1,q2]) rfl ⟨La (aC.o 4 (by decide) HR.o) HR.o,Cj (HE.o.trans aB.o) aA.o _ _ _⟩):P:=h
theorem ax{P:Prop}(h:P:=by simp[results,Tryz.results17,go_sem,q0,q1,q2]):P:=h
theorem Map_any(w:World)(p m:Int)(ml:List Int)(mv:Value)(aR:Al w mv ml)(n:Int)(hn:-9223372036854775808<=n/\n<=9223372036854775807)(P:List Int)(pv:Value)(hp:Al w pv P):
  Calls Tryz.prog 17 #[.agg #[p,m,mv],n,pv] w fun r w'=>MoR (mpM p m ml n P) (mpE p m ml n P) r w'/\Ex w w':=by
 obtain⟨a0,a1,a2,ea⟩:=F5 w p m mv;obtain⟨BX,aG⟩:∃B,w.heap.size=B:=⟨_,rfl⟩;have bI:(w.alloc (.cells #[p,m,mv] 24)).heap.size=BX+1:=by simp[aG]
 have bq:=BxM.new (w.alloc (.cells #[p,m,mv] 24));rw[bI]at bq;have eb:=(Ex.refl (w.alloc (.cells #[p,m,mv] 24))).alloc (.cells #[.slice none 0 0,.slice none 0 0,(0:Int)] 26);replace a0:=eb.cell a0;replace a1:=eb.cell a1;replace a2:=eb.cell a2;have HE:=Aa (ea.trans eb);have bY:=Aa (aR.ex HE.o);have HP:=Aa (hp.ex HE.o);obtain⟨ma,mc,rfl,_,_,_⟩:=aR.open;obtain⟨pa,pc,rfl,_,z2,_⟩:=hp.open;unfold maxLen at z2;rw[aG]at a0 a1 a2;have aA:=Aa (show w.heap.size<=BX+1 from ac);have bU:=Aa (show((w.alloc (.cells #[p,m,.slice ma ml.length mc] 24)).alloc (.cells #[.slice none 0 0,.slice none 0 0,(0:Int)] 26)).heap.size=BX+1+1 from by simp[aG]);have BQ:=Aa bq;obtain⟨ME,aM⟩:∃x,mpE p m ml n P=x:=⟨_,rfl⟩;obtain⟨MM,aS⟩:∃x,mpM p m ml n P=x:=⟨_,rfl⟩;have aK:=Aa aM;have aY:=Aa (show MM=if ME=0 then⟨il n.toNat (FO (p.toNat^m.toNat-1) P),il n.toNat (Gk (p.toNat^m.toNat-1) P),0⟩ else⟨[], [],0⟩ from by rw[<-aS,<-aM];rfl);have aC:=Aa (show ∀e,e≠0->ME=e->MM=⟨[], [],0⟩ from fun e h1 h2=>by rw[aY.o,if_neg (by rw[h2];exact h1)]);rw[aM,aS];clear aM aS aR hp ea eb bq bI;go_enter Tryz.func17,Tryz.ntmps17
 go_upto_region 1 with fail
 try simp only[aG]
 clear aG;generalize (w.alloc (.cells #[p,m,.slice ma ml.length mc] 24)).alloc (.cells #[.slice none 0 0,.slice none 0 0,(0:Int)] 26)=w1 at *;have bM:=Aa (F8 p m ml _ w1 bY.o);go_wp2_with fail
 refine bM.o.mono ?_;rintro e w2⟨bR,aL⟩;obtain⟨q0,q1,q2,aQ,aP,aO⟩:=BQ.o.ex aL;have aB:=Aa aL;rcases bR with⟨pn,mn,x0,gb,rfl,rfl,rfl,hg,x1,x2⟩|⟨hbad,rfl⟩
 rotate_left
 .have HR:=Aa (show ME=1 from by rw[<-aK.o];unfold mpE;rw[if_pos (fun h=>hbad ((Cm p m ml).1 h))]);clear aL hbad;go_wp2_with fail
  exact bodyPost_ret (v:= .tuple #[.agg #[.slice none 0 0,.slice none 0 0,(0:Int)],(1:Int)]) ax rfl ⟨La (aC.o 1 ae HR.o) HR.o,Cj (HE.o.trans aB.o) aA.o _ _ _⟩
 .have aZ:=Aa (show Ce (pn:Int) mn ml=0 from(Cm _ _ _).2 ⟨pn,mn,rfl,rfl,hg.sh,hg.pr,hg.isF x1 x2⟩);have HG:=Aa hg;have bC:2<=pn^mn:=Nat.le_trans hg.sh.p2 (Nat.le_self_pow (by have:=hg.sh.m1;omega) pn);have bB:=hg.sh.q;have aV:=Aa (show 2<=pn^mn/\pn^mn<=256 from⟨bC,bB⟩);clear hg x1 x2 aL bM bC bB;by_cases hn1:n<1
  .have HR:=Aa (show ME=4 from by rw[<-aK.o];unfold mpE;rw[if_neg (by rw[aZ.o];decide),if_pos (.inl hn1)]);exact zbi
  by_cases hn64:64<n
  .have HR:=Aa (show ME=4 from by rw[<-aK.o];unfold mpE;rw[if_neg (by rw[aZ.o];decide),if_pos (.inr hn64)]);exact zbi
  obtain⟨N,rfl⟩:∃N:Nat,n=N:=⟨n.toNat,ac⟩;have HN:=Aa (show 1<=N/\N<=64 from ac);have aJ:=Aa (show ME=if 64<N*(pn^mn-1) then 8 else if BR P≠0 then BR P else if P.length≠N*(pn^mn-1) then 10 else if US pn mn ml N P=false then 5 else 0 from by
   rw[<-aK.o];unfold mpE;rw[if_neg (by rw[aZ.o];decide),if_neg ac];rfl)
  have bN:=Aa (show MM=if ME=0 then⟨il N (FO (pn^mn-1) P),il N (Gk (pn^mn-1) P),0⟩ else⟨[], [],0⟩ from aY.o);clear aY aK;obtain⟨q,hq⟩:=nA (pn^mn);have aW:=Aa (Cs w2 HG.o);have aD:=Aa (Hv w2 N (pn^mn) HN.o.2 (by have:=aV.o;omega) aV.o.2);have aN:=Aa (fun (w5:World) (h5:Ex w2 w5) (h1:N*(pn^mn-1)<=64) (h2:P.length=N*(pn^mn-1)) (h3:BR P=0)=>Qo w5 (HG.o.ex h5) N HN.o.1 HN.o.2 P _ (HP.o.ex (aB.o.trans h5)) h1 h2 (V5 h3));rw[hq]at aJ bN aW aD aN aV;obtain⟨D,hD⟩:=nA (N*(q-1));rw[hD]at aJ aD aN;clear hq hD;by_cases h8:64<D
  .rw[if_pos h8,if_pos h8]at aD;have HR:=Aa (show ME=8 from by rw[aJ.o,if_pos h8]);clear h8;go_wp2_with (first|(go_at_call 54;refine aW.o.mono ?_;rintro e w5⟨rfl,rfl⟩)|(go_at_call 53;refine aD.o.mono ?_;rintro e w5⟨rfl,rfl⟩))
   exact bodyPost_ret (v:= .tuple #[.agg #[.slice none 0 0,.slice none 0 0,(0:Int)],(8:Int)]) ax rfl ⟨La (aC.o 8 ae HR.o) HR.o,Cj (HE.o.trans aB.o) aA.o _ _ _⟩
  rw[if_neg h8,if_neg h8]at aD;have bX:=Aa h8;have aI:=Aa (show ME=if BR P≠0 then BR P else if P.length≠D then 10 else if US pn mn ml N P=false then 5 else 0 from by rw[aJ.o,if_neg h8]);have bP:=Aa (JI w2 P _ (HP.o.ex aB.o));obtain⟨K,hK⟩:=nA (BR P);have HK:=Aa hK;rw[hK]at bP aI;clear h8 aJ hK;go_wp2_with (first|(go_at_call 54;refine aW.o.mono ?_;rintro e w5⟨rfl,rfl⟩)|(go_at_call 53;refine aD.o.mono ?_;rintro e w5⟨rfl,rfl⟩))
  refine bP.o.mono ?_;rintro e w3⟨rfl,aE⟩;have aH:=Aa (aB.o.trans aE);obtain⟨q0,q1,q2,aQ,aP,aO⟩:=BQ.o.ex aH.o;by_cases h0:K=0
  rotate_left
  .have hb:(K==0)=false:=by simpa using h0
   have hb2:(K !=0)=true:=by simpa using h0
   have HR:=Aa (show ME=K from by rw[aI.o,if_pos h0]);have bV:=Aa (aC.o K h0 HR.o);clear h0 aE;go_wp2_with fail
   exact bodyPost_ret (v:= .tuple #[.agg #[.slice none 0 0,.slice none 0 0,(0:Int)],K]) ax rfl ⟨La bV.o HR.o,Cj (HE.o.trans aH.o) aA.o _ _ _⟩
  subst h0;by_cases hl:P.length=D
  rotate_left
  .have hb:((P.length:Int) !=(D:Int))=true:=by simp;omega
   have HR:=Aa (show ME=10 from by rw[aI.o,if_neg ag,if_pos hl]);clear hl aE;go_wp2_with fail
   exact bodyPost_ret (v:= .tuple #[.agg #[.slice none 0 0,.slice none 0 0,(0:Int)],(10:Int)]) ax rfl ⟨La (aC.o 10 ae HR.o) HR.o,Cj (HE.o.trans aH.o) aA.o _ _ _⟩
  have hb:((P.length:Int) !=(D:Int))=false:=aq;have bO:=Aa (aN.o w3 aE (by have:=bX.o;omega) hl HK.o);have aU:=Aa (show ME=if US pn mn ml N P=false then 5 else 0 from by rw[aI.o,if_neg ag,if_neg (by rw[hl];simp)]);obtain⟨BE,bH⟩:∃b,US pn mn ml N P=b:=⟨_,rfl⟩;rw[bH]at bO aU;clear hl aE aI bH aN;go_wp2_with fail
  refine bO.o.mono ?_;rintro e w4⟨u,v,rfl,hu,hv,⟨bE,bD⟩,bA⟩;obtain⟨bQ,bJ,bL,bK⟩:=Eq (show BX+1<w3.heap.size from by have:=aH.o.size;have:=bU.o;omega) (aH.o.trans bA) bE bD;clear bE bD;obtain⟨q0,q1,q2,aQ,aP,aO⟩:=BQ.o.ex bJ.o;have HU:=Aa hu;have HV:=Aa hv;obtain⟨ua,uc,rfl,_,_,_⟩:=hu.open;obtain⟨va,vc,rfl,_,_,_⟩:=hv.open;obtain⟨TB,aF⟩:∃x,w4.heap.size=x:=⟨_,rfl⟩;obtain⟨LU,bG⟩:∃x,(il N (FO (q-1) P)).length=x:=⟨_,rfl⟩;obtain⟨LV,bF⟩:∃x,(il N (Gk (q-1) P)).length=x:=⟨_,rfl⟩;rw[bG]at HU bL ⊢;rw[bF]at HV bK ⊢;obtain⟨t0,t1,t2,et⟩:=Bd w4 (.slice ua LU uc) (.slice va LV vc) 0;rw[aF]at t0 t1 t2;have aT:=Aa (bJ.o.trans et);obtain⟨q0,q1,q2,aQ,aP,aO⟩:=BQ.o.ex aT.o;have bT:=Aa (HU.o.ex et);have bS:=Aa (HV.o.ex et);have HTB:=Aa aF;clear hu hv bA bG bF et
  cases BE with
  | false=>
   have HR:=Aa (show ME=5 from by rw[aU.o];rfl);go_wp2_with fail
   try simp only[aF]
   exact bodyPost_ret (v:= .tuple #[.agg #[.slice none 0 0,.slice none 0 0,(0:Int)],(5:Int)]) ax rfl ⟨La (aC.o 5 ae HR.o) HR.o,Cj (HE.o.trans aT.o) aA.o _ _ _⟩
  | true=>
   have HR:=Aa (show ME=0 from by rw[aU.o];rfl);have HM:=Aa (show MM=⟨il N (FO (q-1) P),il N (Gk (q-1) P),0⟩ from by rw[bN.o,if_pos HR.o]);go_upto_region 14 with fail
   try simp only[aF]
   clear aF;generalize w4.alloc (.cells #[.slice ua LU uc,.slice va LV vc,(0:Int)] 26)=w5 at *;go_wp2_with fail
   have bW:=HR.o;have aX:=HM.o;subst bW;subst aX;exact bodyPost_ret (v:= .tuple #[.agg #[.slice ua LU uc,.slice va LV vc,(0:Int)],(0:Int)]) ax rfl ⟨⟨_,_,rfl,Fo bT.o (fun X e=>by have:=bL.o X e;have:=bQ.o;omega) _ _ _,Fo bS.o (fun X e=>by have:=bK.o X e;have:=bQ.o;omega) _ _ _⟩,Cj (HE.o.trans aT.o) aA.o _ _ _⟩
theorem GQ{p m n:Int}{ml:List Int}{rows:List (List Int)}(h:BI p m ml n rows 0):∃pn mn N:Nat,p=pn/\m=mn/\n=N/\Ha pn mn ml/\Hf pn mn (lw ml)/\1<=N/\N<=64/\rows.length<=256/\∀r∈rows,r.length=N/\Cc (pn^mn) r=0:=by
 obtain⟨hF,hn1,hn2⟩:=EI h;rcases h with⟨_,h⟩|⟨_,h1,h2⟩|⟨h1,h2,h3⟩
 .cases h
 .exact absurd h2.symm h1
 .rcases h3 with⟨h3,h4⟩|⟨_,pn,mn,N,piv,a',rfl,rfl,rfl,_,hm,_⟩
  .exact absurd h4.symm h3
  .obtain⟨p1,m1,e1,e2,aA,_,hI⟩:=hF;obtain rfl:pn=p1:=by omega
   obtain rfl:mn=m1:=ac;obtain⟨_,_,s3,s4⟩:=EF hm;exact⟨pn,mn,N,rfl,rfl,rfl,aA,hI,ac,ac,s3,fun r hr=>⟨by have:=(s4 r hr).1;omega,(s4 r hr).2⟩⟩
theorem Pw{N k i j:Nat}{a:Nat->Nat->Int}(hi:i<k)(hj:j<N):Ak (Aw N k a) i j=a i j:=by
 unfold Ak;rw[List.getD_eq_getElem?_getD (l:=Aw N k a),Dq hi];exact GP hj _
theorem ZV{p m:Nat}{ml:List Int}{N R:Nat}{a a':Nat->Nat->Int}{piv:List Nat}(hp:2<=p)(h:H7 p m ml N R a a' piv)(x:Nat->Int):BY p m ml N (Aw N piv.length a').length (Ak (Aw N piv.length a')) x↔BY p m ml N R a x:=by
 obtain⟨c,hc,hP,aA,hS⟩:=h;rw[<-hS x,AZ];have e:∀i,i<piv.length->dt p m ml N (Ak (Aw N piv.length a') i) x=dt p m ml N (a' i) x:=fun i hi=>FH (fun j hj=>Pw hi hj) fun _ _=>rfl;constructor
 .intro h i hi;by_cases hip:i<piv.length
  .rw[<-e i hip];exact h i hip
  .refine E7 hp fun j hj=>?_;rcases aA with h1|h1
   .omega
   .exact hP.tail i j ac hi ac
 .intro h i hi;rw[e i hi];exact h i (by have:=hP.le;omega)
theorem Ui{p m:Nat}{ml pl ul:List Int}{N:Nat}{l1:List (List Int)}{i j:Nat}(hp:2<=p)(hm:1<=m)(hi:i<l1.length)(hj:j<N):Ak (E6 p m ml pl ul 0 N l1 l1.length) i j=plc (BF pl) (DZ p m ml ul (Ak l1 i)) N j:=by
 have e:(E6 p m ml pl ul 0 N l1 l1.length).getD i []=il N (Ln p m ml pl ul 0 (l1.getD i []) N):=by
  unfold E6;rw[List.getD_eq_getElem?_getD,List.getElem?_map,List.getElem?_take_of_lt hi,List.getElem?_eq_getElem hi,List.getD_eq_getElem?_getD,List.getElem?_eq_getElem hi];rfl
 show((E6 p m ml pl ul 0 N l1 l1.length).getD i []).getD j 0=_
 rw[e,GP hj];rfl
theorem SL{p m:Nat}{ml pl ul:List Int}{N:Nat}{l1:List (List Int)}(hp:2<=p)(hm:1<=m)(x:Nat->Int):BY p m ml N (E6 p m ml pl ul 0 N l1 l1.length).length (Ak (E6 p m ml pl ul 0 N l1 l1.length)) x↔BY p m ml N l1.length (fun i=>plc (BF pl) (DZ p m ml ul (Ak l1 i)) N) x:=by
 rw[IC (Nat.le_refl _)];have e:∀i,i<l1.length->dt p m ml N (Ak (E6 p m ml pl ul 0 N l1 l1.length) i) x=dt p m ml N (plc (BF pl) (DZ p m ml ul (Ak l1 i)) N) x:=fun i hi=>FH (fun j hj=>Ui hp hm hi hj) fun _ _=>rfl;exact⟨fun h i hi=>by show dt p m ml N (plc _ _ N) x=0;rw[<-e i hi];exact h i hi,fun h i hi=>by rw[e i hi];exact h i hi⟩
theorem Pm{p m:Nat}{ml pl ul:List Int}{N:Nat}{l1 l2:List (List Int)}(h:Bo p m ml pl ul 0 N)(h0:∀i,i<N->0<=pl.getD i 0){a':Nat->Nat->Int}{piv:List Nat}(aA:H7 p m ml N (E6 p m ml pl ul 0 N l1 l1.length).length (Ak (E6 p m ml pl ul 0 N l1 l1.length)) a' piv)(hd:Aw N piv.length a'=l2):AW p m ml N l1 l2 pl ul:=by
 refine⟨h.pll,h.sll,h0,h.inj,h.sc,fun x=>?_⟩;rw[<-hd,ZV h.hp aA x];exact SL h.hp h.hm x
theorem ckE_ok{E:Int}{R:Nat × Int}{es:List Rf}(h:ckE E R es=0):E=0/\R.2=0:=by
 unfold ckE at h;split at h
 .rename_i h1;exact absurd h h1
 .rename_i h1;split at h
  .cases h
  .exact⟨ac,h⟩
theorem Ii{pl tl:List Int}(h:tl.length<=pl.length)(aA:∀i,i<tl.length->pl.getD i 0=tl.getD i 0):pl.take tl.length=tl:=by
 refine List.ext_getElem bn fun i h1 h2=>?_;have:=aA i h2;rw[List.getD_eq_getElem?_getD,List.getElem?_eq_getElem ac,List.getD_eq_getElem?_getD,List.getElem?_eq_getElem h2]at this;rw[List.getElem_take];exact this
def KB(N q:Nat):Nat->Nat × Nat
 | 0=>(1,1)
 | i+1=>((KB N q i).1*((N-i)*max 1 (q-1)),(KB N q i).2+(KB N q i).1*((N-i)*max 1 (q-1)))
def U9(n:Int)(q:Nat):Prop:=(n<1∨7<n->n<1∨64<n)/\(1<=n->n<=7->∀i,i<=n.toNat->(KB n.toNat q i).2<=3000)
theorem Ud:∀N,N<8->∀q,q<17->(KB N q N).2<=3000->O8 (N*(q-1)) N<=65536:=ak
theorem Zl{q N:Nat}{rows:List (List Int)}(hN:N<=256)(hr:rows.length<=256)(h:∀r∈rows,r.length=N/\Cc q r=0):B6 q N rows=0:=by
 unfold B6;rw[if_neg ac,if_pos (List.all_eq_true.2 fun r hr=>by simp[(h r hr).1]),if_pos (List.all_eq_true.2 fun r hr=>by simp[(h r hr).2])]
theorem WQ{p m:Nat}{ml pl ul:List Int}{fr N:Nat}{x:List Int}(h:Bo p m ml pl ul fr N):Cc (p^m) (il N (Ln p m ml pl ul fr x N))=0:=TE fun y hy=>by
 obtain⟨i,hi,rfl⟩:=List.getElem_of_mem hy;rw[AL]at hi;obtain⟨z,h1,h2⟩:=Zy h (x:=x) i hi;rw[List.getD_eq_getElem?_getD,List.getElem?_eq_getElem (by rw[AL];exact hi)]at h1;have aA:(il N (Ln p m ml pl ul fr x N))[i]'(by rw[AL];exact hi)=z:=h1;rw[aA];omega
theorem imL_ok{p m:Nat}{ml pl ul:List Int}{fr N:Nat}{l1:List (List Int)}(h:Bo p m ml pl ul fr N):∀r∈E6 p m ml pl ul fr N l1 l1.length,r.length=N/\Cc (p^m) r=0:=fun r hr=>by
 unfold E6 at hr;obtain⟨x,_,rfl⟩:=List.mem_map.1 hr;exact⟨AL _ _,WQ h⟩
theorem Wg{p m:Nat}{ml pl ul:List Int}{fr N:Nat}{l1:List (List Int)}(hc:Ce p m ml=0)(hl:l1.length<=256)(h:Bo p m ml pl ul fr N):K8 p m ml N (E6 p m ml pl ul fr N l1 l1.length)=0:=by
 have h1:DI p m ml N (E6 p m ml pl ul fr N l1 l1.length)=0:=by
  unfold DI;rw[if_neg (fun h=>h hc)];have e:(p:Int).toNat^(m:Int).toNat=p^m:=ag;rw[e];exact Zl (by have:=h.n2;omega) (by rw[IC (Nat.le_refl _)];exact hl) (imL_ok h)
 unfold K8;rw[if_neg (fun h=>h h1)];unfold ET;rw[if_neg (by have:=h.n1;have:=h.n2;omega)]
section
variable {p m:Nat} {ml:List Int} {n:Nat} {l1 l2:List (List Int)} {pl sl:List Int}
theorem d9{P:Prop}(h:P:=by rw[h.len];exact hi):P:=h
theorem Yh.takes{tl sc:List Int}{nd:Nd}(hp:2<=p)(h:Yh p m ml l1 l2 n nd tl sc):AW p m ml n l1 l2 nd.tl nd.sc:=
 AW.of hp h.len (by rw[h.v.len];exact h.len) (fun i hi=>(h.v.rng i d9).1) (h.v.injN h.len) (fun i hi=>h.v.sc i d9) h.c
end
theorem XN{p m N fr:Nat}{ml pl ul:List Int}{rows:List (List Int)}{b0:Nat}{r:Ending}{w':World}(h:AppR p m ml N rows pl ul fr b0 r w')(ho:BI p m ml N rows 0)(aA:CI p m ml N pl ul fr=0):
  ∃(piv:List Nat) (a':Nat->Nat->Int) (rv v':Value),r= .returned (.tuple #[.agg #[p,m,v',N,rv],(0:Int)])/\H7 p m ml N (E6 p m ml pl ul fr N rows rows.length).length (Ak (E6 p m ml pl ul fr N rows rows.length)) a' piv/\Al w' v' ml/\BZ w' rv (Aw N piv.length a'):=by
 obtain⟨e1,aB,h⟩:=h;obtain rfl:=BW aB ho;have aC:imA p m ml pl ul fr N rows=E6 p m ml pl ul fr N rows rows.length:=by unfold imA;simp
 obtain⟨p2,m2,N2,f2,j1,j2,j3,j4,hf,aD,hM⟩:=Gv aA;obtain rfl:p=p2:=ac;obtain rfl:m=m2:=ac;obtain rfl:N=N2:=ac;obtain rfl:fr=f2:=ac;rcases h with⟨h,_⟩|⟨_,h,_⟩|⟨_,_,h⟩
 .exact absurd rfl h
 .exact absurd aA h
 .rw[aC]at h;rcases h with⟨h,_⟩|⟨_,pn,mn,N',piv,a',rv,v',e1,e2,e3,_,_,hr,hel,hv,hrv,_⟩
  .exact absurd (Wg aD (Ds ho).1 hM) h
  .obtain rfl:p=pn:=by omega
   obtain rfl:m=mn:=ac;obtain rfl:N=N':=ac;exact⟨piv,a',rv,v',hr,hel,hv,hrv⟩
theorem PU{p m:Nat}{ml:List Int}(h:Ha p m ml):CG p m=((p^m:Nat):Int):=by
 unfold CG;have h1:((p:Int)^(m:Int).toNat)=((p^m:Nat):Int):=ag;have h2:=h.p2;have h3:=h.m1;have h4:=h.m8;have h5:=h.q;rw[h1,if_pos ac]
theorem Qh:(Tryz.prog.info? 129).map (fun i=>(i.zero,i.size,i.bytes))=some (some (.agg #[(0:Int),(0:Int),(0:Int),.slice none 0 0,.slice none 0 0]),5,72):=ah
structure Ca where
 i:Nat
 j:Nat
 a:Nat
def Lp(k:Nat):List Int:=(List.range k).map fun (x:Nat)=>(x:Int)
theorem WT(k:Nat):Lp (k+1)=Lp k ++ [(k:Int)]:=by unfold Lp;rw[List.range_succ,List.map_append];rfl
theorem FY(k:Nat):(Lp k).length=k:=by unfold Lp;simp
def Mf(k:Nat):List Int:=List.replicate k 1
theorem Wd(k:Nat):Mf (k+1)=Mf k ++ [(1:Int)]:=by unfold Mf;rw[List.replicate_succ']
theorem FT(k:Nat):(Mf k).length=k:=by unfold Mf;simp
def Ca.tl(g:Ca):List Int:=Lp g.i ++ [(g.j:Int)]
def Ca.sl(g:Ca):List Int:=Mf g.i ++ [(g.a:Int)]
def FE:List Ca->List (Value × Value)->List Value
 | g :: gs,c :: cs=> .int .i64 g.i :: .int .i64 g.j :: .int .i64 g.a :: c.1 :: c.2 :: FE gs cs
 | _,_=> []
theorem Ql:∀(L:List Ca) (os:List (Value × Value)) (i:Nat) (l:Ca) (o:Value × Value),L[i]?=some l->os[i]?=some o->(FE L os)[5*i]?=some (.int .i64 l.i)/\(FE L os)[5*i+1]?=some (.int .i64 l.j)/\(FE L os)[5*i+2]?=some (.int .i64 l.a)/\(FE L os)[5*i+3]?=some o.1/\(FE L os)[5*i+4]?=some o.2
 | l' :: L,o' :: os,0,l,o,h,k=>by
  simp at h k;subst h k;exact⟨rfl,rfl,rfl,rfl,rfl⟩
 | l' :: L,o' :: os,i+1,l,o,h,k=>by
  have:=Ql L os i l o ay (by simpa using k);rw[show 5*(i+1)=5*i+5 by omega,show 5*i+5+1=5*i+1+5 by omega,show 5*i+5+2=5*i+2+5 by omega,show 5*i+5+3=5*i+3+5 by omega,show 5*i+5+4=5*i+4+5 by omega];simpa[FE]using this
 | [],os,i,l,o,h,k=>by simp at h
 | l' :: L, [],i,l,o,h,k=>by simp at k
theorem Lr:∀(L:List Ca) (os:List (Value × Value)) (l:Ca) (o:Value × Value),os.length=L.length->FE (L ++ [l]) (os ++ [o])=FE L os ++ [.int .i64 l.i,.int .i64 l.j,.int .i64 l.a,o.1,o.2]
 | [], [],l,o,_=>rfl
 | l' :: L,o' :: os,l,o,h=>by
  have:=Lr L os l o ay;simp only[List.cons_append,FE,this]
 | [],o' :: os,l,o,h=>by simp at h
 | l' :: L, [],l,o,h=>by simp at h
def Yg(b0:Nat)(w:World)(v:Value)(gs:List Ca):Prop:=∃cs:List (Value × Value),cs.length=gs.length/\Sl w v gs.length 5 (FE gs cs)/\∀(i:Nat) (g:Ca) (c:Value × Value),gs[i]?=some g->cs[i]?=some c->(Al w c.1 g.tl/\Al w c.2 g.sl)/\(∀X,c.1.ownBlock=some X->b0<=X)/\∀X,c.2.ownBlock=some X->b0<=X
theorem Yg.mono{b0 b1:Nat}{w:World}{v:Value}{L:List Ca}(h:Yg b0 w v L)(hb:b1<=b0):Yg b1 w v L:=by
 obtain⟨os,h1,h2,h3⟩:=h;exact⟨os,h1,h2,fun i l o a b=>⟨(h3 i l o a b).1,fun X e=>Nat.le_trans hb ((h3 i l o a b).2.1 X e),fun X e=>Nat.le_trans hb ((h3 i l o a b).2.2 X e)⟩⟩
theorem Yg.open{b0:Nat}{w:World}{v:Value}{L:List Ca}(h:Yg b0 w v L):∃a cap,v= .slice a L.length cap/\L.length<=cap/\cap<=maxLen/\
  (0<L.length->∃b o,a=some ⟨b,o,none⟩/\∀(i:Nat) (l:Ca),L[i]?=some l->∃u r,w.cell? ⟨b,o+5*i,none⟩=some (.int .i64 l.i)/\w.cell? ⟨b,o+(5*i+1),none⟩=some (.int .i64 l.j)/\w.cell? ⟨b,o+(5*i+2),none⟩=some (.int .i64 l.a)/\w.cell? ⟨b,o+(5*i+3),none⟩=some u/\w.cell? ⟨b,o+(5*i+4),none⟩=some r/\Al w u l.tl/\Al w r l.sl/\(∀X,u.ownBlock=some X->b0<=X)/\∀X,r.ownBlock=some X->b0<=X):=by
 obtain⟨os,h1,⟨h2,a,cap,h3,h4,h5,h6⟩,h7⟩:=h;refine⟨a,cap,h3,h4,h5,fun hn=>?_⟩;obtain⟨b,o,h8,h9⟩:=h6 hn;refine⟨b,o,h8,fun i l hl=>?_⟩;have hi:=(List.getElem?_eq_some_iff.1 hl).1;have ho:os[i]?=some (os[i]'ac):=List.getElem?_eq_getElem _;obtain⟨g1,g2,g3,g4,g5⟩:=Ql L os i l _ hl ho;obtain⟨⟨k1,k2⟩,k3,k4⟩:=h7 i l _ hl ho;exact⟨_,_,h9 _ _ g1,h9 _ _ g2,h9 _ _ g3,h9 _ _ g4,h9 _ _ g5,k1,k2,k3,k4⟩
structure NA(w1 wr:World)(B i j a:Nat)(pv sv:Value)(L0 L1:List Int):Prop where
 c0:wr.cell? (B,0)=some (.int .i64 i)
 c1:wr.cell? (B,1)=some (.int .i64 j)
 c2:wr.cell? (B,2)=some (.int .i64 a)
 b0:wr.cell? (B,3)=some pv
 b1:wr.cell? (B,4)=some sv
 f0:wr.frozen? (B,3)=false
 f1:wr.frozen? (B,4)=false
 o0:wr.ownsRow w1.heap.size 3 1 pv L0.length (Ao L0)
 o1:wr.ownsRow w1.heap.size 3 1 sv L1.length (Ao L1)
 ap:AR pv sv
 n0:∀X,pv.ownBlock=some X->X≠B
 n1:∀X,sv.ownBlock=some X->X≠B
 lb:w1.heap.size<=B
 ex:Ex w1 wr
section
variable {w1 wr w':World} {B i j a:Nat} {pv sv v':Value} {L0 L1:List Int} {x:Int}
theorem NA.no0(h:NA w1 wr B i j a pv sv L0 L1):some B≠pv.ownBlock:=fun e=>h.n0 B e.symm rfl
theorem NA.no1(h:NA w1 wr B i j a pv sv L0 L1):some B≠sv.ownBlock:=fun e=>h.n1 B e.symm rfl
theorem NA.at0(h:NA w1 wr B i j a pv sv L0 L1)(ha:Bv wr w' w1.heap.size 3 1 pv v' L0.length (Ao L0) [.int .i64 x]):
  w'.cell? (B,3)=some pv/\w'.frozen? (B,3)=false:=⟨ha.cell h.b0 h.no0,ha.frz h.b0 h.f0 h.no0⟩
theorem NA.at1(h:NA w1 wr B i j a pv sv L0 L1)(ha:Bv wr w' w1.heap.size 3 1 sv v' L1.length (Ao L1) [.int .i64 x]):
  w'.cell? (B,4)=some sv/\w'.frozen? (B,4)=false:=⟨ha.cell h.b1 h.no1,ha.frz h.b1 h.f1 h.no1⟩
theorem NA.app0(h:NA w1 wr B i j a pv sv L0 L1)(ha:Bv wr w' w1.heap.size 3 1 pv v' L0.length (Ao L0) [.int .i64 x]):
  NA w1 (w'.setCell (B,3) v') B i j a v' sv (L0 ++ [x]) L1:=by
 have hn:=Ho.blk ha h.c0 h.n0;have hr:=ha.row h.o1 h.ap.symm;refine⟨?_,?_,?_,World.cell?_setCell_same _ _ _ (ha.cell h.b0 h.no0),?_,?_,?_,?_,?_,hr.2.symm,hn,h.n1,h.lb,(ha.ex h.ex (Nat.le_refl _)).setCell (p:=⟨B,3,none⟩) h.lb _⟩
 .rw[Ag ae];exact ha.cell h.c0 h.no0
 .rw[Ag ae];exact ha.cell h.c1 h.no0
 .rw[Ag ae];exact ha.cell h.c2 h.no0
 .rw[Ag ae];exact ha.cell h.b1 h.no0
 .rw[Ax];exact ha.frz h.b0 h.f0 h.no0
 .rw[Ax];exact ha.frz h.b1 h.f1 h.no0
 .have:=Ac (a:=⟨B,3,none⟩) ha.own (fun e=>hn B e rfl) v';exact zb6
 .exact Ac (a:=⟨B,3,none⟩) hr.1 (fun e=>h.n1 B e rfl) v'
theorem NA.app1(h:NA w1 wr B i j a pv sv L0 L1)(ha:Bv wr w' w1.heap.size 3 1 sv v' L1.length (Ao L1) [.int .i64 x]):
  NA w1 (w'.setCell (B,4) v') B i j a pv v' L0 (L1 ++ [x]):=by
 have hn:=Ho.blk ha h.c0 h.n1;have hr:=ha.row h.o0 h.ap;refine⟨?_,?_,?_,?_,World.cell?_setCell_same _ _ _ (ha.cell h.b1 h.no1),?_,?_,?_,?_,hr.2,h.n0,hn,h.lb,(ha.ex h.ex (Nat.le_refl _)).setCell (p:=⟨B,4,none⟩) h.lb _⟩
 .rw[Ag ae];exact ha.cell h.c0 h.no1
 .rw[Ag ae];exact ha.cell h.c1 h.no1
 .rw[Ag ae];exact ha.cell h.c2 h.no1
 .rw[Ag ae];exact ha.cell h.b0 h.no1
 .rw[Ax];exact ha.frz h.b0 h.f0 h.no1
 .rw[Ax];exact ha.frz h.b1 h.f1 h.no1
 .exact Ac (a:=⟨B,4,none⟩) hr.1 (fun e=>h.n0 B e rfl) v'
 .have:=Ac (a:=⟨B,4,none⟩) ha.own (fun e=>hn B e rfl) v';exact zb7
end
theorem NA.new(w1:World)(i j a:Nat):NA w1 (w1.alloc (.cells #[i,j,a,.slice none 0 0,.slice none 0 0] 129)) w1.heap.size i j a (.slice none 0 0) (.slice none 0 0) [] []:=
 ⟨ag,ag,ag,ag,ag,ag,ag,World.ownsRow_nil _ _ _ _,World.ownsRow_nil _ _ _ _,AR.nil _,by simp[Value.ownBlock],by simp[Value.ownBlock],Nat.le_refl _,(Ex.refl _).alloc _⟩
structure Pa(w1 wr:World)(v:Value)(gs:List Ca)(cs:List (Value × Value)):Prop where
 ex:Ex w1 wr
 len:cs.length=gs.length
 own:wr.ownsRow w1.heap.size 129 5 v gs.length (FE gs cs)
 at_:∀(i:Nat) (g:Ca) (c:Value × Value),gs[i]?=some g->cs[i]?=some c->(wr.ownsRow w1.heap.size 3 1 c.1 g.tl.length (Ao g.tl)/\AR c.1 v)/\(wr.ownsRow w1.heap.size 3 1 c.2 g.sl.length (Ao g.sl)/\AR c.2 v)
section
variable {w1 wr w' w0:World} {v v' pv sv:Value} {gs:List Ca} {cs:List (Value × Value)} {B:Nat}
theorem Pa.nil(h:Ex w1 wr):Pa w1 wr (.slice none 0 0) [] []:=⟨h,rfl,World.ownsRow_nil _ _ _ _,fun i x c h=>by simp at h⟩
theorem Pa.later(h:Pa w1 wr v gs cs)(hx:Ex wr w'):Pa w1 w' v gs cs:=
 ⟨h.ex.trans hx,h.len,Aj h.own hx,fun i x c a b=>⟨⟨Aj (h.at_ i x c a b).1.1 hx,(h.at_ i x c a b).1.2⟩,⟨Aj (h.at_ i x c a b).2.1 hx,(h.at_ i x c a b).2.2⟩⟩⟩
theorem Pa.gsl(h:Pa w1 wr v gs cs):Yg w1.heap.size wr v gs:=⟨cs,h.len,Sl.own h.own,fun i x c a b=>⟨⟨Sl.own (h.at_ i x c a b).1.1,Sl.own (h.at_ i x c a b).2.1⟩,fun X e=>((h.at_ i x c a b).1.1.lt X e).1,fun X e=>((h.at_ i x c a b).2.1.lt X e).1⟩⟩
theorem Pa.app(h:Pa w1 wr v gs cs){g:Ca}(hx:NA w0 wr B g.i g.j g.a pv sv g.tl g.sl)(h0:∀X,v.ownBlock=some X->X<w0.heap.size)(hw:w1.heap.size<=w0.heap.size)
  (ha:Bv wr w' w1.heap.size 129 5 v v' gs.length (FE gs cs) [.int .i64 g.i,.int .i64 g.j,.int .i64 g.a,pv,sv]):Pa w1 w' v' (gs ++ [g]) (cs ++ [(pv,sv)]):=by
 refine⟨ha.ex h.ex (Nat.le_refl _),by simp[h.len],?_,fun i x c a b=>?_⟩
 .have:=ha.own;rw[Lr gs cs g (pv,sv) h.len,List.length_append];exact this
 .by_cases hi:i<gs.length
  .rw[List.getElem?_append_left hi]at a;rw[List.getElem?_append_left d9]at b;obtain⟨⟨p1,p2⟩,⟨p3,p4⟩⟩:=h.at_ i x c a b;exact⟨ha.row p1 p2,ha.row p3 p4⟩
  .have aA:i=gs.length:=by
    exact zc8
   subst aA;rw[List.getElem?_append_right (Nat.le_refl _)]at a;rw[List.getElem?_append_right (by rw[h.len];exact Nat.le_refl _),h.len]at b;simp at a b;subst a b;exact⟨ha.row (FS hx.o0 hw) (GU (fun X e=>(hx.o0.lt X e).1) h0),ha.row (FS hx.o1 hw) (GU (fun X e=>(hx.o1.lt X e).1) h0)⟩
end
def gA(i j c:Nat):List Ca:=(List.range c).map fun a=>⟨i,j,a+1⟩
def gJ(q i k:Nat):List Ca:=(List.range k).flatMap fun j=>gA i (i+j) (q-1)
def gI(n q k:Nat):List Ca:=(List.range k).flatMap fun i=>gJ q i (n-i)
def Du(n q:Nat):List Ca:=gI n q n
theorem ZM(i j c:Nat):gA i j (c+1)=gA i j c ++ [⟨i,j,c+1⟩]:=by unfold gA;rw[List.range_succ,List.map_append];rfl
theorem Ox(q i k:Nat):gJ q i (k+1)=gJ q i k++gA i (i+k) (q-1):=by unfold gJ;rw[List.range_succ,List.flatMap_append];simp
theorem Oy(n q k:Nat):gI n q (k+1)=gI n q k++gJ q k (n-k):=by unfold gI;rw[List.range_succ,List.flatMap_append];simp
theorem R4(i j c:Nat):(gA i j c).length=c:=by unfold gA;simp
theorem R0(q i:Nat)(hq:q<=256):∀k,(gJ q i k).length<=k*256
 | 0=>by unfold gJ;simp
 | k+1=>by
  rw[Ox,List.length_append,R4];have:=R0 q i hq k;omega
theorem Oz(n q:Nat)(hn:n<=64)(hq:q<=256):∀k,(gI n q k).length<=k*16384
 | 0=>by unfold gI;simp
 | k+1=>by
  rw[Oy,List.length_append];have:=Oz n q hn hq k;have:=R0 q k hq (n-k);omega
theorem Ng(w:World)(n q:Nat)(hn:n<=64)(bB:1<=q)(hq:q<=256):
  Calls Tryz.prog 121 #[n,q] w fun r w'=>∃v cs,r= .returned v/\Pa w w' v (Du n q) cs:=by
 obtain⟨bG,bP,bO,HQ,HN⟩:=Of (Pa.nil (Ex.refl w)) (Oz n q hn hq) (fun i=>R0 q i hq) (show 1<=q/\q<=256 from⟨bB,hq⟩) hn;clear bB hq;go_enter Tryz.func121,Tryz.ntmps121
 go_wp2_with fail
 go_loopw [5,12] (fun v' i' wr=>∃(i:Nat) (cs:List (Value × Value)),i<=n/\i'= .int .i64 i/\Hia (Pa w wr v' (gI n q i) cs)) (fun _ i' _=>n-(intOf i').toNat)
 case atStart=>exact⟨0, [],ac,rfl,bG⟩
 case round=>
  clear bG;obtain⟨i,cs,hi,rfl,hg⟩:=hrel;obtain⟨pa,pc,aM⟩:=Ae hg.o.own;subst aM;by_cases hin:i<n
  .obtain⟨GI,aT⟩:∃g,gI n q i=g:=⟨_,rfl⟩;have bM:=Aa (show gI n q (i+1)=GI++gJ q i (n-i) from by rw[Oy,aT]);have bD:=Aa (show GI.length<=1048576 from by rw[<-aT];have:=bP.o i;omega);rw[aT]at hg ⊢;obtain⟨LI,aQ⟩:∃l,GI.length=l:=⟨_,rfl⟩;rw[aQ]at bD ⊢;have bJ:=Aa aQ;have HG:=Aa (show Pa w wr (.slice pa LI pc) (GI++gJ q i (i-i)) cs from by rw[Nat.sub_self];unfold gJ;rw[List.range_zero,List.flatMap_nil,List.append_nil,<-aQ];exact hg.o);obtain⟨w8,h8⟩:∃w8,w8=wr:=⟨_,rfl⟩;rw[<-h8]at HG ⊢;have aW:=Aa hin;clear h8 hg aT aQ;go_wp2_with fail
   clear hin
   go_loopw [5,7] (fun v' j' wr=>∃(j:Nat) (cs:List (Value × Value)),i<=j/\j<=n/\j'= .int .i64 j/\Hia (Pa w wr v' (GI++gJ q i (j-i)) cs)) (fun _ j' _=>n-(intOf j').toNat)
   case atStart=>exact⟨i,cs,ac,ac,rfl,HG⟩
   case round=>
    clear HG;obtain⟨j,cs,hj1,hj2,rfl,hg⟩:=hrel;obtain⟨pa,pc,aM⟩:=Ae hg.o.own;subst aM;by_cases hjn:j<n
    .obtain⟨GJ,aS⟩:∃g,GI++gJ q i (j-i)=g:=⟨_,rfl⟩;have bL:=Aa (show GI++gJ q i (j+1-i)=GJ++gA i j (q-1) from by rw[<-aS,show j+1-i=j-i+1 from ac,Ox,show i+(j-i)=j from ac,List.append_assoc]);have bC:=Aa (show GJ.length<=1100000 from by rw[<-aS,List.length_append];have:=bO.o i (j-i);have:=bD.o;have:=bJ.o;have:=HN.o;omega);rw[aS]at hg ⊢;obtain⟨LJ,aP⟩:∃l,GJ.length=l:=⟨_,rfl⟩;rw[aP]at bC ⊢;have bK:=Aa aP;have HG:=Aa (show Pa w wr (.slice pa LJ pc) (GJ++gA i j (1-1)) cs from by unfold gA;rw[Nat.sub_self,List.range_zero,List.map_nil,List.append_nil,<-aP];exact hg.o);obtain⟨w7,h7⟩:∃w7,w7=wr:=⟨_,rfl⟩;rw[<-h7]at HG ⊢;have bA:=Aa hjn;clear h7 hg aS aP;go_wp2_with fail
     clear hjn
     go_loopw [5,8] (fun v' a' wr=>∃(a:Nat) (cs:List (Value × Value)),1<=a/\a<=q/\a'= .int .i64 a/\Hia (Pa w wr v' (GJ++gA i j (a-1)) cs)) (fun _ a' _=>q-(intOf a').toNat)
     case atStart=>exact⟨1,cs,ac,HQ.o.1,rfl,HG⟩
     case round=>
      clear HG;obtain⟨a,cs,ha1,ha2,rfl,hg⟩:=hrel;obtain⟨pa,pc,aM⟩:=Ae hg.o.own;subst aM;by_cases han:a<q
      .obtain⟨GA,aU⟩:∃g,GJ++gA i j (a-1)=g:=⟨_,rfl⟩;have bN:=Aa (show GJ++gA i j (a+1-1)=GA ++ [⟨i,j,a⟩] from by
        rw[<-aU,show a+1-1=a-1+1 from ac,ZM,show a-1+1=a from ac,List.append_assoc])
       have aZ:=Aa (show GA.length<=1200000 from by rw[<-aU,List.length_append,R4];have:=bC.o;have:=bK.o;have:=HQ.o;omega);rw[aU]at hg ⊢;obtain⟨LA,aR⟩:∃l,GA.length=l:=⟨_,rfl⟩;have bE:=Aa aR;rw[aR]at aZ ⊢;obtain⟨HG,aV,aD,aX⟩:=Eq (show Pa w wr (.slice pa LA pc) GA cs from by rw[<-aR];exact hg.o) (NA.new wr i j a) (show i<=64 from by have:=aW.o;have:=HN.o;omega) han;obtain⟨w5,h5⟩:∃w5,w5=wr:=⟨_,rfl⟩;rw[<-h5]at HG aV ⊢;clear h5 hg aU aR;go_upto_region 12 with fail
       clear han;obtain⟨XB,aO⟩:∃x,w5.heap.size=x:=⟨_,rfl⟩;rw[aO]at aV
       try simp only[aO]
       have HXB:=Aa aO;clear aO;generalize w5.alloc (.cells #[i,j,a,.slice none 0 0,.slice none 0 0] 129)=w6 at *;go_wp2_with fail
       go_loopw [31] (fun k' wr=>∃(k:Nat) (pv sv:Value),k<=i/\k'= .int .i64 k/\Hia (NA w5 wr XB i j a pv sv (Lp k) (Mf k))) (fun k' _=>i-(intOf k').toNat)
       case atStart=>exact⟨0,_,_,ac,rfl,aV⟩
       case round=>
        clear aV;obtain⟨k,pv,sv,hk,rfl,HC⟩:=hrel;obtain⟨va,vc,rfl⟩:=Ae HC.o.o0;obtain⟨ua,uc,rfl⟩:=Ae HC.o.o1;rw[FY,FT]at *;have c3:=HC.o.b0;by_cases hki:k<i
        .have aY:=Aa (show wr.ownsRow w5.heap.size 3 1 (.slice va k vc) k (Ao (Lp k)) from by have:=HC.o.o0;rwa[FY]at this);have bF:=Aa hki;go_wp2_with (at_builtin;refine Am _ rfl _ _ 22 rfl w5.heap.size 3 (.int .i64 0) 1 8 Tryz.underlying22 AC rfl ae _ k (Ao (Lp k)) rfl aY.o [.int .i64 (k:Int)] 3 _ rfl ag rfl aj (by have:=aD.o;unfold maxLen;omega) (by have:=aD.o;omega) HC.o.ex.size ?_)
         intro v7 w7 aC;have aA:Bv wr w7 w5.heap.size 3 1 (.slice va k vc) v7 (Lp k).length (Ao (Lp k)) [.int .i64 (k:Int)]:=by rw[FY];exact aC
         obtain⟨g1,g2⟩:=HC.o.at0 aA;have aB:=HC.o.app0 aA;rw[<-WT]at aB;obtain⟨aI,aH,rfl⟩:=Ae aC.own;have aF:=Aa aB;have aL:=Aa (show(w7.setCell (XB,3) (.slice aI (k+1) aH)).ownsRow w5.heap.size 3 1 (.slice ua k uc) k (Ao (Mf k)) from by have:=aF.o.o1;rwa[FT]at this);have c4:=aF.o.b1;clear aC aA aB c3;go_wp2_with (at_builtin;refine Am _ rfl _ _ 22 rfl w5.heap.size 3 (.int .i64 0) 1 8 Tryz.underlying22 AC rfl ae _ k (Ao (Mf k)) rfl aL.o [.int .i64 1] 3 _ rfl ag rfl aj (by have:=aD.o;unfold maxLen;omega) (by have:=aD.o;omega) aF.o.ex.size ?_)
         intro v8 w8 aC;have aA:Bv (w7.setCell (XB,3) (.slice aI (k+1) aH)) w8 w5.heap.size 3 1 (.slice ua k uc) v8 (Mf k).length (Ao (Mf k)) [.int .i64 1]:=by rw[FT];exact aC
         obtain⟨h1,h2⟩:=aF.o.at1 aA;have aB:=aF.o.app1 aA;rw[<-Wd]at aB;obtain⟨aK,aJ,rfl⟩:=Ae aC.own;have aE:=Aa aB;clear aC aA aB c4 g1 g2;go_wp2_with fail
         go_roundw
         case rel=>first|exact⟨k+1,_,_,ac,by go_num,aE⟩|((repeat apply Exists.intro);exact⟨⟨k+1,_,_,by have:=bF.o;omega,by go_num,aE⟩,rfl⟩)
         case measure=>have:=bF.o;simp[intOf];omega
        .obtain rfl:i=k:=by omega
         have aY:=Aa (show wr.ownsRow w5.heap.size 3 1 (.slice va i vc) i (Ao (Lp i)) from by have:=HC.o.o0;rwa[FY]at this);go_wp2_with (at_builtin;refine Am _ rfl _ _ 22 rfl w5.heap.size 3 (.int .i64 0) 1 8 Tryz.underlying22 AC rfl ae _ i (Ao (Lp i)) rfl aY.o [.int .i64 (j:Int)] 3 _ rfl ag rfl aj (by have:=aD.o;unfold maxLen;omega) (by have:=aD.o;omega) HC.o.ex.size ?_)
         intro v7 w7 aC;have aA:Bv wr w7 w5.heap.size 3 1 (.slice va i vc) v7 (Lp i).length (Ao (Lp i)) [.int .i64 (j:Int)]:=by rw[FY];exact aC
         obtain⟨g1,g2⟩:=HC.o.at0 aA;have aB:=HC.o.app0 aA;obtain⟨aI,aH,rfl⟩:=Ae aC.own;have aF:=Aa aB;have aL:=Aa (show(w7.setCell (XB,3) (.slice aI (i+1) aH)).ownsRow w5.heap.size 3 1 (.slice ua i uc) i (Ao (Mf i)) from by have:=aF.o.o1;rwa[FT]at this);have c4:=aF.o.b1;clear aC aA aB c3;go_wp2_with (at_builtin;refine Am _ rfl _ _ 22 rfl w5.heap.size 3 (.int .i64 0) 1 8 Tryz.underlying22 AC rfl ae _ i (Ao (Mf i)) rfl aL.o [.int .i64 (a:Int)] 3 _ rfl ag rfl aj (by have:=aD.o;unfold maxLen;omega) (by have:=aD.o;omega) aF.o.ex.size ?_)
         intro v8 w8 aC;have aA:Bv (w7.setCell (XB,3) (.slice aI (i+1) aH)) w8 w5.heap.size 3 1 (.slice ua i uc) v8 (Mf i).length (Ao (Mf i)) [.int .i64 (a:Int)]:=by rw[FT];exact aC
         obtain⟨h1,h2⟩:=aF.o.at1 aA;have aB:=aF.o.app1 aA;obtain⟨aK,aJ,rfl⟩:=Ae aC.own;have aE:=Aa (show NA w5 (w8.setCell (XB,4) (.slice aK (i+1) aJ)) XB i j a (.slice aI (i+1) aH) (.slice aK (i+1) aJ) (Ca.tl ⟨i,j,a⟩) (Ca.sl ⟨i,j,a⟩) from aB);clear aC aA aB c4 g1 g2;have bI:=Aa (show(w8.setCell (XB,4) (.slice aK (i+1) aJ)).ownsRow w.heap.size 129 5 (.slice pa LA pc) LA (FE GA cs) from by have:=Aj HG.o.own aE.o.ex;rwa[bE.o]at this);have bH:=Aa (HG.o.later aE.o.ex).ex.size;have d0:=aE.o.c0;have d1:=aE.o.c1;have d2:=aE.o.c2;have d3:=aE.o.b0;have d4:=aE.o.b1;go_wp2_with (at_builtin;refine Am _ rfl _ _ 109 rfl w.heap.size 129 (.agg #[(0:Int),(0:Int),(0:Int),.slice none 0 0,.slice none 0 0]) 5 72 Tryz.underlying109 Qh rfl ae _ LA (FE GA cs) rfl bI.o [.int .i64 (i:Int),.int .i64 (j:Int),.int .i64 (a:Int),.slice aI (i+1) aH,.slice aK (i+1) aJ] 129 _ rfl ag rfl aj (by have:=aZ.o;unfold maxLen;omega) (by have:=aZ.o;omega) bH.o ?_)
         intro v9 w9 aC;have aA:Bv (w8.setCell (XB,4) (.slice aK (i+1) aJ)) w9 w.heap.size 129 5 (.slice pa LA pc) v9 GA.length (FE GA cs) [.int .i64 (i:Int),.int .i64 (j:Int),.int .i64 (a:Int),.slice aI (i+1) aH,.slice aK (i+1) aJ]:=by rw[bE.o];exact aC
         have aG:=Aa ((HG.o.later aE.o.ex).app (g:=⟨i,j,a⟩) aE.o (fun X e=>(HG.o.own.lt X e).2) HG.o.ex.size aA);rw[<-bN.o]at aG;obtain⟨pa9,pc9,rfl⟩:=Ae aC.own;have hab:a<=256:=by have:=aX.o;have:=HQ.o;omega
         clear aC aA d0 d1 d2 d3 d4 h1 h2;go_wp2_with fail
         go_roundw
         case rel=>first|exact⟨a+1,_,ac,by have:=aX.o;omega,by go_num,aG⟩|((repeat apply Exists.intro);exact⟨⟨a+1,_,ac,by have:=aX.o;omega,by go_num,aG⟩,rfl⟩)
         case measure=>have:=aX.o;simp[intOf];omega
      .obtain rfl:q=a:=by omega
       obtain⟨LX,aN⟩:∃x,(GJ++gA i j (q-1)).length=x:=⟨_,rfl⟩;rw[aN]at hg ⊢;rw[<-bL.o]at hg;clear aN;have aG:=Aa hg.o;clear hg;go_wp2_with fail
       go_roundw
       case rel=>first|exact⟨j+1,cs,ac,by have:=bA.o;omega,by go_num,aG⟩|((repeat apply Exists.intro);exact⟨⟨j+1,cs,ac,by have:=bA.o;omega,by go_num,aG⟩,rfl⟩)
       case measure=>have:=bA.o;simp[intOf];omega
    .obtain rfl:n=j:=by omega
     obtain⟨LX,aN⟩:∃x,(GI++gJ q i (n-i)).length=x:=⟨_,rfl⟩;rw[aN]at hg ⊢;rw[<-bM.o]at hg;clear aN;have aG:=Aa hg.o;clear hg;go_wp2_with fail
     go_roundw
     case rel=>first|exact⟨i+1,cs,by have:=aW.o;omega,by go_num,aG⟩|((repeat apply Exists.intro);exact⟨⟨i+1,cs,by have:=aW.o;omega,by go_num,aG⟩,rfl⟩)
     case measure=>have:=aW.o;simp[intOf];omega
  .obtain rfl:n=i:=by omega
   go_wp2_with fail
   go_ret;exact⟨_,cs,rfl,hg.o⟩
section
variable {p m:Nat} {low:Vc}
end
section
variable {p m:Nat} {ml pl sl sl':List Int} {fr N:Nat}
end
end Go.Proofs.YtehieobniamagaaGreat
