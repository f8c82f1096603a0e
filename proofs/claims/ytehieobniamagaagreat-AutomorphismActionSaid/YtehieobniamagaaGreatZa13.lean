/- Walk of automorphism.points, of. -/
import Derived.Deep.AppendLies
import Derived.Test.YtehieobniamagaaGreatZa12
namespace Go.Proofs.YtehieobniamagaaGreat
open Go.RowKit
set_option linter.all false
set_option maxRecDepth 100000
set_option maxHeartbeats 8000000
theorem zcl{P:Prop}(h:P:=by
 go_enter Tryz.func53,Tryz.ntmps53
 go_wp2_with fail
 go_ret2;exact⟨rfl,rfl⟩):P:=h
theorem Gh(w:World)(n q:Nat)(hn:n<=64)(aA:1<=q)(hq:q<=256):
  Calls Tryz.prog 53 #[.int .i64 n,.int .i64 q] w fun r w'=>r= .returned (.tuple #[.int .i64 ((if 64<n*(q-1) then 0 else n*(q-1):Nat):Int),.int .i64 (if 64<n*(q-1) then 8 else 0)])/\w=w':=by
 obtain⟨D,hD⟩:=nA (n*(q-1));have hDb:D<=20000:=by rw[<-hD];exact Nat.le_trans (Nat.mul_le_mul hn (show q-1<=255 by omega)) ac
 have k1:(n:Int)*((q:Int)-1)=(D:Int):=by rw[<-hD,Int.natCast_mul,Int.natCast_sub aA];rfl
 rw[hD];clear hD;by_cases h:64<D
 .rw[if_pos h,if_pos h];have h2:(64:Int)<(D:Int):=by omega
  exact zcl
 .rw[if_neg h,if_neg h];have h2:¬(64:Int)<(D:Int):=by omega
  exact zcl
def OF(p m:Nat)(ml pl sl:List Int)(k:Nat):Int:=
 ((FV pl (k/(p^m-1))*(p^m-1)+Ap p m (lw ml) (Az (p^m) (sl.getD (k/(p^m-1)) 0)) (k%(p^m-1)+1):Nat):Int)-1
def L3(p m:Nat)(ml pl sl:List Int):List Int:=il (pl.length*(p^m-1)) (OF p m ml pl sl)
section
variable {b p m x0:Nat} {ml:List Int}
theorem Pd(w:World)(hg:AP w b p m ml x0)(N:Nat)(hN:N<=64)(pl sl:List Int)(pv sv:Value)(hp:Aj w pv pl)(hs:Aj w sv sl)(aI:pl.length=N)(aH:sl.length=N)(hr:Bz pl N=true)(hd:N*(p^m-1)<=64)(fr:Int):
  Calls Tryz.prog 55 #[.pointer (some ⟨b,0,none⟩),.agg #[pv,sv,.int .i64 fr]] w fun r w'=>∃v,r= .returned v/\w'.ownsRow w.heap.size 3 1 v (N*(p^m-1)) (vs (N*(p^m-1)) (iv (OF p m ml pl sl)))/\Ex w w':=by
 obtain⟨b0,b1,b2,eb⟩:=Ay w pv sv fr;have bF:=Aa (fun (w1:World) (h1:Ex w w1) (y z:Int)=>DC w1 (hg.ex h1) y z);have aO:=Aa (BN _ (hg.ex eb));have bP:2<=p^m:=Nat.le_trans hg.sh.p2 (Nat.le_self_pow (by have:=hg.sh.m1;omega) p);have bO:=hg.sh.q;have bH:=Aa (fun (x y:Nat)=>Cb (p:=p) (m:=m) (low:=lw ml) (by have:=hg.sh.p2;omega) x y);obtain⟨pa,pc,rfl,_,q2,p3⟩:=hp.open;obtain⟨sa,sc,rfl,_,s2,s3⟩:=hs.open;unfold maxLen at q2 s2;rw[aI]at p3;rw[aH]at s3;obtain⟨P3,S3,bT,bX,bW⟩:=Of p3 s3 (fun i (hi:i<N)=>Dd hr (i:=i) ac) (fun i (hi:i<N)=>Aw (l:=pl) (i:=i) ac) (fun i (hi:i<N)=>Aw (l:=sl) (i:=i) ac);rw[aI,aH]at b0 b1 eb aO ⊢;have aF:=Aa eb;obtain⟨q,hq⟩:=nA (p^m);obtain⟨Q,hQ⟩:=nA (q-1);obtain⟨F,hF⟩:=nA (OF p m ml pl sl);have bY:=Aa (show ∀i c:Nat,c<Q->F (i*Q+c)=((FV pl i*Q+Ap p m (lw ml) (Az q (sl.getD i 0)) (c+1):Nat):Int)-1 from fun i c hc=>by
  rw[<-hF];unfold OF;rw[hq,hQ,Nat.mul_comm i Q,Nat.mul_add_div ac,Nat.mul_add_mod,Nat.div_eq_of_lt hc,Nat.mod_eq_of_lt hc,Nat.add_zero])
 rw[hq]at aO bF bH bP bO hd ⊢;rw[hQ]at hd ⊢;rw[hF];obtain⟨D,hD⟩:=nA (N*Q);have bM:=Aa (show ∀i,i<N->i*Q+Q<=D from fun i hi=>by rw[<-hD];have:=Nat.mul_le_mul_right Q (show i+1<=N from hi);rwa[Nat.succ_mul]at this);have k1:(N:Int)*((q:Int)-1)=(D:Int):=by rw[<-hD,<-hQ,Int.natCast_mul,Int.natCast_sub ac];rfl
 rw[hD]at hd ⊢;have HQ:=Aa (show(q:Int)-1=(Q:Int) from ac);have aN:=Aa (show q=Q+1 from ac);have cB:=Aa hD;clear hg hp hs p3 s3 eb aI aH hr hF hq hQ hD;go_enter Tryz.func55,Tryz.ntmps55
 go_upto_region 1 with fail
 obtain⟨B,hB⟩:=nA w.heap.size;rw[hB]at b0 b1 b2
 try simp only[hB]
 have HBW:=Aa hB;clear hB;generalize w.alloc (.cells #[.slice pa N pc,.slice sa N sc,.int .i64 fr] 26)=w1 at *;go_upto_region 2 with (go_at_call 54;refine aO.o.mono ?_;rintro e w2⟨rfl,rfl⟩)
 obtain⟨i0,aX,aT,aS,aR⟩:=info_parts Au;go_wp2_with (at_make;refine wpList_make_own _ rfl _ _ 22 rfl w1.heap.size 3 i0 (.int .i64 0) 1 Tryz.underlying22 aX aT aS .i64 .i64 (D:Int) D rfl rfl rfl (by rw[aR];omega) ai (Nat.le_refl _) ?_)
 intro w3 aA aY;obtain⟨V0,aZ⟩:∃v,Value.slice (some ⟨w1.heap.size,0,none⟩) 0 D=v:=⟨_,rfl⟩;rw[aZ]at aA ⊢;have bD:=Aa (show w3.ownsRow w1.heap.size 3 1 V0 (0*Q) (vs (0*Q) (iv F)) from by rw[Nat.zero_mul];exact aA);have bC:=Aa (show Ex w1 w3 from Below.grown (Ex.refl w1) aY (Nat.le_refl _) (fun k e=>by cases e));have B1:=Aa b1;replace b0:=bC.o.cell b0;have B0:=Aa b0;clear aA aY aZ aX aT aS aR;go_wp2_with fail
 go_loopw [6,22] (fun v' i' wr=>∃i:Nat,i<=N/\i'= .int .i64 i/\Hia (wr.ownsRow w1.heap.size 3 1 v' (i*Q) (vs (i*Q) (iv F)))/\Hia (Ex w1 wr)) (fun _ i' _=>N-(intOf i').toNat)
 case atStart=>exact⟨0,ac,rfl,bD,bC⟩
 case round=>
  clear bD;obtain⟨i,hi,rfl,aA,aB⟩:=hrel;by_cases hin:i<N
  .obtain⟨pb,po,rfl,aW⟩:=P3.o ac;obtain⟨sb,so,rfl,aV⟩:=S3.o ac;have bQ:=bT.o i hin;have cC:=Aa (aF.o.trans aB.o);obtain⟨y,hy⟩:=nA (FV pl i);have aU:pl.getD i 0=(y:Int):=by rw[<-hy];unfold FV;omega
   have bN:y<N:=ac;have aK:=bX.o i hin;rw[aU]at aK;have cp:=cC.o.cell (aW i _ aK);obtain⟨s,hs⟩:=nA (sl.getD i 0);have aJ:=bW.o i hin;rw[hs]at aJ;have cD:=Aa (aV i _ aJ);have i1:(0:Int)<=(i:Int):=ac;have i2:(i:Int)<(N:Int):=ac;obtain⟨YQ,aG⟩:∃z,y*Q=z:=⟨_,rfl⟩;have bS:=Aa (show YQ+Q<=D from by rw[<-aG];exact bM.o y bN);have bR:=Aa (show(y:Int)*((q:Int)-1)=(YQ:Int) from by rw[HQ.o,<-aG,Int.natCast_mul]);have bL:=Aa (show ∀c:Nat,c<Q->F (i*Q+c)=((YQ+Ap p m (lw ml) (Az q s) (c+1):Nat):Int)-1 from fun c hc=>by
    have:=bY.o i c hc;rw[hy,hs,aG]at this;exact this)
   have bK:=Aa (bM.o i hin);have bV:=Aa (fun (w5:World) (h5:Ex w1 w5) (c:Nat) (hc:c<q)=>(by
    have:=bF.o w5 (aF.o.trans h5) s (c:Int);rw[Bj hc]at this;exact this:Calls Tryz.prog 106 #[.pointer (some ⟨b,0,none⟩),.int .i64 s,.int .i64 (c:Int)] w5 (Qt w5 (.int .i64 (Ap p m (lw ml) (Az q s) c:Nat)))))
   have bI:=Aa (show(i+1)*Q=i*Q+Q from Nat.succ_mul i Q);obtain⟨IQ,bA⟩:∃z,i*Q=z:=⟨_,rfl⟩;rw[bA]at aA bL bK bI;obtain⟨bE,cA,aE,bJ⟩:=Eq aA.o aB.o aB.o hin;obtain⟨w8,h8⟩:∃w8,w8=wr:=⟨_,rfl⟩;rw[<-h8]at bE cA aE cp ⊢;have HW8:=Aa h8;clear bQ hy aU aK hs aJ aW aV aA aB aG bA hin h8 k1;go_wp2_with fail
   go_loopw [6,9] (fun v' c' wr=>∃c:Nat,1<=c/\c<=q/\c'= .int .i64 c/\Hia (wr.ownsRow w1.heap.size 3 1 v' (IQ+(c-1)) (vs (IQ+(c-1)) (iv F)))/\Hia (Ex w1 wr)) (fun _ c' _=>q-(intOf c').toNat)
   case atStart=>exact⟨1,ac,ac,rfl,bE,aE⟩
   case round=>
    obtain⟨c,hc1,hcq,rfl,aA,aB⟩:=hrel;by_cases hcn:c<q
    .have cs:=aB.o.cell (aF.o.cell cD.o);have cb:=aB.o.cell B1.o;obtain⟨t,ht⟩:=nA (Ap p m (lw ml) (Az q s) c);have htq:t<q:=by rw[<-ht];exact bH.o _ _
     have bZ:=Aa (show F (IQ+(c-1))=((YQ+t:Nat):Int)-1 from by
      rw[bL.o (c-1) (by have:=aN.o;omega),show c-1+1=c from ac,ht])
     have bG:=Aa (fun (w5:World) (h5:Ex wr w5)=>bV.o w5 (aB.o.trans h5) c hcn);rw[ht]at bG;obtain⟨va,vc,rfl⟩:=Ab aA.o;have aD:=Aa aA.o;have aC:=Aa aB.o;have aQ:=Aa (show IQ+(c-1)<=64/\IQ+(c-1)+1=IQ+(c+1-1) from⟨by have:=bK.o;have:=aN.o;omega,ac⟩);have k3:=bR.o;have k4:YQ<=64:=by have:=bS.o;omega
     have k5:(c:Int)<(q:Int):=ac;clear ht aA aB;go_upto_region 9 with fail
     go_wp2_with (first|(go_at_call 106;(with_reducible refine(bG.o _ (Ex.refl _)).mono ?_);rintro e w6⟨rfl,n6,rfl⟩;have aM:=Aa ((Ex.refl wr).drewN n6);have bU:=Aa (Ai aD.o aM.o);generalize wr.drewN n6=w6 at *)|(at_builtin;refine Ak _ rfl _ _ 22 rfl w1.heap.size 3 (.int .i64 0) 1 8 Tryz.underlying22 Au rfl ae _ (IQ+(c-1)) _ rfl bU.o [.int .i64 ((YQ:Int)+(t:Int)-1)] 3 _ rfl rfl rfl aj (by have:=aQ.o.1;unfold maxLen;omega) (by have:=aQ.o.1;omega) (Nat.le_trans aC.o.size aM.o.size) ?_))
     intro v9 w9 aL;have aP:=Aa (show w9.ownsRow w1.heap.size 3 1 v9 (IQ+(c+1-1)) (vs (IQ+(c+1-1)) (iv F)) from by
      have:=aL.own;rw[<-aQ.o.2,PZ];have e:iv F (IQ+(c-1))=Value.int .i64 ((YQ:Int)+(t:Int)-1):=by show Value.int .i64 (F (IQ+(c-1)))=_;rw[bZ.o];push_cast;rfl
      rw[e];exact this)
     have bB:=Aa (aL.ex (aC.o.trans aM.o) (Nat.le_refl _));obtain⟨v9a,v9c,rfl⟩:=Ab aP.o;clear aL;go_wp2_with fail
     go_roundw
     case rel=>first|exact⟨c+1,ac,ac,by go_num,aP,bB⟩|((repeat apply Exists.intro);exact⟨⟨c+1,ac,ac,by go_num,aP,bB⟩,rfl⟩)
     case measure=>simp[intOf];omega
    .obtain rfl:c=q:=by omega
     rw[show IQ+(c-1)=IQ+Q from by have:=aN.o;omega,<-bI.o]at aA;have aD:=Aa aA.o;have aC:=Aa aB.o;clear aA aB;go_wp2_with fail
     go_roundw
     case rel=>first|exact⟨i+1,ac,by go_num,aD,aC⟩|((repeat apply Exists.intro);exact⟨⟨i+1,by have:=bJ.o;omega,by go_num,aD,aC⟩,rfl⟩)
     case measure=>have:=bJ.o;simp[intOf];omega
  .obtain rfl:i=N:=by omega
   rw[cB.o]at aA;have aD:=Aa aA.o;have aC:=Aa (aF.o.trans aB.o);obtain⟨va,vc,rfl⟩:=Ab aD.o;clear aA aB;go_wp2_with fail
   go_ret;exact⟨_,rfl,EG aD.o aF.o.size,aC.o⟩
end
theorem Gi{p m:Int}{ml:List Int}{n:Int}{pl sl:List Int}{fr:Int}(h:BF p m ml n pl sl fr=0):
  BY p m ml=0/\1<=n/\n<=64/\(pl.length:Int)=n/\(sl.length:Int)=n/\Bz pl n=true/\0<=fr/\fr<m/\Dt pl=false/\DS (p.toNat^m.toNat) sl=0:=by
 unfold BF at h;split at h
 .cases h
 rename_i h1;split at h
 .cases h
 rename_i h2;split at h
 .cases h
 rename_i h3;split at h
 .cases h
 rename_i h4;split at h
 .cases h
 rename_i h5;refine⟨by simpa using h1,ac,ac,ac,ac,?_,ac,ac,by simpa using h5,h⟩
 cases hr:Bz pl n with
 | true=>rfl
 | false=>exact absurd (.inl hr) h4
section
variable {b p m x0:Nat} {ml:List Int}
end
theorem XI{q:Nat}{l:List Int}(h:DS q l=0){i:Nat}(hi:i<l.length):∃z:Nat,l.getD i 0=(z:Int)/\1<=z/\z<q:=by
 unfold DS at h;split at h
 .cases h
 rename_i h1;split at h
 .cases h
 rename_i h2;have hm:l.getD i 0∈l:=dl;have ha:Fa q (l.getD i 0)=true:=by
  cases hb:Fa q (l.getD i 0) with
  | true=>rfl
  | false=>exact absurd (List.any_eq_true.2 ⟨_,hm,by rw[hb];rfl⟩) h1
 have hz:l.getD i 0≠0:=fun e=>h2 (List.contains_iff_mem.2 (e ▸ hm));clear hm;generalize l.getD i 0=z at *;unfold Fa at ha;simp at ha;exact⟨z.toNat,ac,ac,ac⟩
structure Cw where
 perm:List Int
 scale:List Int
 frob:Int
def ZX(M:Cw)(e:Int)(r:Ending)(w':World):Prop:=∃u v,r= .returned (.tuple #[.agg #[u,v,.int .i64 M.frob],.int .i64 e])/\Aj w' u M.perm/\Aj w' v M.scale
structure WA(w:World)(b:Nat):Prop where
 c0:w.cell? ⟨b,0,none⟩=some (.slice none 0 0)
 c1:w.cell? ⟨b,1,none⟩=some (.slice none 0 0)
 c2:w.cell? ⟨b,2,none⟩=some (.int .i64 0)
 f0:w.frozen? ⟨b,0,none⟩=false
 f1:w.frozen? ⟨b,1,none⟩=false
 f2:w.frozen? ⟨b,2,none⟩=false
theorem WA.new(w:World):WA (w.alloc (.cells #[.slice none 0 0,.slice none 0 0,.int .i64 0] 26)) w.heap.size:=⟨ag,ag,ag,ag,ag,ag⟩
theorem WA.ex{w w':World}{b:Nat}(h:WA w b)(hx:Ex w w'):WA w' b:=⟨hx.cell h.c0,hx.cell h.c1,hx.cell h.c2,hx.frz h.c0 h.f0,hx.frz h.c1 h.f1,hx.frz h.c2 h.f2⟩
theorem Bf{w0 w:World}{q:Nat}(hx:Ex w0 w)(hq:w0.heap.size<=q)(u v z:Value):Ex w0 (((w.setCell ⟨q,0,none⟩ u).setCell ⟨q,1,none⟩ v).setCell ⟨q,2,none⟩ z):=
 ((hx.setCell (p:=⟨q,0,none⟩) hq _).setCell (p:=⟨q,1,none⟩) hq _).setCell (p:=⟨q,2,none⟩) hq _
theorem Di{w:World}{q:Nat}{v:Value}{l:List Int}(h:Aj w v l)(hq:∀B,v.ownBlock=some B->B≠q)(a b c:Value):Aj (((w.setCell ⟨q,0,none⟩ a).setCell ⟨q,1,none⟩ b).setCell ⟨q,2,none⟩ c) v l:=
 Sl.other (Sl.other (Sl.other h (fun B e=>hq B e) _) (fun B e=>hq B e) _) (fun B e=>hq B e) _
theorem Ar(w:World)(a b:Addr)(u:Value):(w.setCell a u).frozen? b=w.frozen? b:=ag
structure ET(w1 wr:World)(B:Nat)(bk:Int)(pv sv:Value)(L0 L1:List Int):Prop where
 b0:wr.cell? ⟨B,0,none⟩=some pv
 b1:wr.cell? ⟨B,1,none⟩=some sv
 b2:wr.cell? ⟨B,2,none⟩=some (.int .i64 bk)
 f0:wr.frozen? ⟨B,0,none⟩=false
 f1:wr.frozen? ⟨B,1,none⟩=false
 o0:wr.ownsRow w1.heap.size 3 1 pv L0.length (Al L0)
 o1:wr.ownsRow w1.heap.size 3 1 sv L1.length (Al L1)
 ap:AJ pv sv
 n0:∀X,pv.ownBlock=some X->X≠B
 n1:∀X,sv.ownBlock=some X->X≠B
 lb:w1.heap.size<=B
 ex:Ex w1 wr
section
variable {w1 wr w':World} {B:Nat} {bk:Int} {pv sv v':Value} {L0 L1:List Int} {x:Int}
theorem ET.later(h:ET w1 wr B bk pv sv L0 L1)(hx:Ex wr w'):ET w1 w' B bk pv sv L0 L1:=
 ⟨hx.cell h.b0,hx.cell h.b1,hx.cell h.b2,hx.frz h.b0 h.f0,hx.frz h.b1 h.f1,Ai h.o0 hx,Ai h.o1 hx,h.ap,h.n0,h.n1,h.lb,h.ex.trans hx⟩
theorem ET.no0(h:ET w1 wr B bk pv sv L0 L1):some B≠pv.ownBlock:=fun e=>h.n0 B e.symm rfl
theorem ET.no1(h:ET w1 wr B bk pv sv L0 L1):some B≠sv.ownBlock:=fun e=>h.n1 B e.symm rfl
theorem zbp{P:Prop}(h:P:=by
 have aA:=World.block_lt_of_cell? _ _ hB;rcases ha.at_ with h1|h1
 .rw[h1]at e;exact h X e
 .rw[h1]at e;injection e with e;have:B<wr.heap.size:=aA;omega):P:=h
theorem ET.blk{b:Nat}{u:Value}{e:TypeId}{n:Nat}{xs news:List Value}(ha:AZ wr w' b e 1 u v' n xs news)(hB:wr.cell? ⟨B,0,none⟩=some pv)(h:∀X,u.ownBlock=some X->X≠B):∀X,v'.ownBlock=some X->X≠B:=fun X e=>by
 exact zbp
end
section
variable {w1 wr w':World} {B:Nat} {bk:Int} {pv sv v':Value} {L0 L1:List Int} {x:Int}
theorem ET.at0g(h:ET w1 wr B bk pv sv L0 L1)(ha:Oz wr w' w1.heap.size 3 1 pv v' L0.length (Al L0) [.int .i64 x]):
  w'.cell? ⟨B,0,none⟩=some pv/\w'.frozen? ⟨B,0,none⟩=false:=⟨ha.cell h.b0 h.no0,ha.frz h.b0 h.f0 h.no0⟩
theorem ET.at1g(h:ET w1 wr B bk pv sv L0 L1)(ha:Oz wr w' w1.heap.size 3 1 sv v' L1.length (Al L1) [.int .i64 x]):
  w'.cell? ⟨B,1,none⟩=some sv/\w'.frozen? ⟨B,1,none⟩=false:=⟨ha.cell h.b1 h.no1,ha.frz h.b1 h.f1 h.no1⟩
theorem ET.blkg{b:Nat}{u:Value}{e:TypeId}{n:Nat}{xs news:List Value}(ha:Oz wr w' b e 1 u v' n xs news)(hB:wr.cell? ⟨B,0,none⟩=some pv)(h:∀X,u.ownBlock=some X->X≠B):∀X,v'.ownBlock=some X->X≠B:=fun X e=>by
 exact zbp
theorem zbN{P:Prop}(h:P:=by
 rw[List.length_append,show Al (L0 ++ [x])=Al L0 ++ [.int .i64 x] from by unfold Al;simp];exact this):P:=h
theorem ET.app0g(h:ET w1 wr B bk pv sv L0 L1)(ha:Oz wr w' w1.heap.size 3 1 pv v' L0.length (Al L0) [.int .i64 x]):
  ET w1 (w'.setCell ⟨B,0,none⟩ v') B bk v' sv (L0 ++ [x]) L1:=by
 have hn:=ET.blkg ha h.b0 h.n0;have hr:=ha.row h.o1 h.ap.symm;refine⟨World.cell?_setCell_same _ _ _ (ha.cell h.b0 h.no0),?_,?_,?_,?_,?_,?_,hr.2.symm,hn,h.n1,h.lb,(ha.ex h.ex (Nat.le_refl _)).setCell (p:=⟨B,0,none⟩) h.lb _⟩
 .rw[Af ae];exact ha.cell h.b1 h.no0
 .rw[Af ae];exact ha.cell h.b2 h.no0
 .rw[Ar];exact ha.frz h.b0 h.f0 h.no0
 .rw[Ar];exact ha.frz h.b1 h.f1 h.no0
 .have:=Ac (a:=⟨B,0,none⟩) ha.own (fun e=>hn B e rfl) v';exact zbN
 .exact Ac (a:=⟨B,0,none⟩) hr.1 (fun e=>h.n1 B e rfl) v'
theorem zbO{P:Prop}(h:P:=by
 rw[List.length_append,show Al (L1 ++ [x])=Al L1 ++ [.int .i64 x] from by unfold Al;simp];exact this):P:=h
theorem ET.app1g(h:ET w1 wr B bk pv sv L0 L1)(ha:Oz wr w' w1.heap.size 3 1 sv v' L1.length (Al L1) [.int .i64 x]):
  ET w1 (w'.setCell ⟨B,1,none⟩ v') B bk pv v' L0 (L1 ++ [x]):=by
 have hn:=ET.blkg ha h.b0 h.n1;have hr:=ha.row h.o0 h.ap;refine⟨?_,World.cell?_setCell_same _ _ _ (ha.cell h.b1 h.no1),?_,?_,?_,?_,?_,hr.2,h.n0,hn,h.lb,(ha.ex h.ex (Nat.le_refl _)).setCell (p:=⟨B,1,none⟩) h.lb _⟩
 .rw[Af ae];exact ha.cell h.b0 h.no1
 .rw[Af ae];exact ha.cell h.b2 h.no1
 .rw[Ar];exact ha.frz h.b0 h.f0 h.no1
 .rw[Ar];exact ha.frz h.b1 h.f1 h.no1
 .exact Ac (a:=⟨B,1,none⟩) hr.1 (fun e=>h.n0 B e rfl) v'
 .have:=Ac (a:=⟨B,1,none⟩) ha.own (fun e=>hn B e rfl) v';exact zbO
end
theorem ET.new(w1:World)(bk:Int):ET w1 (w1.alloc (.cells #[.slice none 0 0,.slice none 0 0,.int .i64 bk] 26)) w1.heap.size bk (.slice none 0 0) (.slice none 0 0) [] []:=
 ⟨ag,ag,ag,ag,ag,World.ownsRow_nil _ _ _ _,World.ownsRow_nil _ _ _ _,AJ.nil _,by simp[Value.ownBlock],by simp[Value.ownBlock],Nat.le_refl _,(Ex.refl _).alloc _⟩
def cP(al bl:List Int)(i:Nat):Int:=bl.getD (FV al i) 0
def cS(p m:Nat)(ml al aB bs:List Int)(aA i:Nat):Int:=
 ((Ap p m (lw ml) (Az (p^m) (bs.getD (FV al i) 0)) (QA p m (lw ml) (Az (p^m) (aB.getD i 0)) aA):Nat):Int)
def N9(p m:Int)(ml al aC:List Int)(aB:Int)(bl bs:List Int)(aA:Int):Int:=
 if BF p m ml al.length al aC aB≠0 then BF p m ml al.length al aC aB else if BF p m ml bl.length bl bs aA≠0 then BF p m ml bl.length bl bs aA else if al.length≠bl.length then 10 else 0
def Pz(p m:Int)(ml al aC:List Int)(aB:Int)(bl bs:List Int)(aA:Int):Cw:=
 if N9 p m ml al aC aB bl bs aA≠0 then⟨[], [],0⟩ else⟨il al.length (cP al bl),il al.length (cS p.toNat m.toNat ml al aC bs aA.toNat),((aB.toNat+aA.toNat)%m.toNat:Nat)⟩
theorem zcY{P:Prop}(h:P:=by
 clear T;go_simp;exact hK _ (.refl w)):P:=h
theorem zaR{P:Prop}(h:P:=by
 have e5:=T 5 _ rfl;exact zcY):P:=h
theorem zaS{P:Prop}(h:P:=by
 have e8:=T 8 _ rfl;exact zcY):P:=h
theorem zaT{P:Prop}(h:P:=by
 have e4:=T 4 _ rfl;exact zcY):P:=h
theorem bj{P:Prop}(h:P:=by simp[results,Tryz.results46,go_sem,q0,q1,q2]):P:=h
theorem bw{P:Prop}(h:P:=by simpa using h1):P:=h
theorem Ox(w:World)(p m:Int)(ml:List Int)(mv:Value)(bG:Aj w mv ml)(al aA:List Int)(pv sv:Value)(hp:Aj w pv al)(hs:Aj w sv aA)(aC:Int)(bl bs:List Int)(aV aU:Value)(bT:Aj w aV bl)(bS:Aj w aU bs)(aE:Int):
  Calls Tryz.prog 46 #[.agg #[.int .i64 p,.int .i64 m,mv],.agg #[pv,sv,.int .i64 aC],.agg #[aV,aU,.int .i64 aE]] w fun r w'=>ZX (Pz p m ml al aA aC bl bs aE) (N9 p m ml al aA aC bl bs aE) r w'/\Ex w w':=by
 obtain⟨a0,a1,a2,ea⟩:=Da w p m mv;obtain⟨b0,b1,b2,eb⟩:=Ay (w.alloc (.cells #[.int .i64 p,.int .i64 m,mv] 24)) pv sv aC;obtain⟨c0,c1,c2,ec⟩:=Ay ((w.alloc (.cells #[.int .i64 p,.int .i64 m,mv] 24)).alloc (.cells #[pv,sv,.int .i64 aC] 26)) aV aU aE;have bq:=WA.new (((w.alloc (.cells #[.int .i64 p,.int .i64 m,mv] 24)).alloc (.cells #[pv,sv,.int .i64 aC] 26)).alloc (.cells #[aV,aU,.int .i64 aE] 26));have ed:Ex (((w.alloc (.cells #[.int .i64 p,.int .i64 m,mv] 24)).alloc (.cells #[pv,sv,.int .i64 aC] 26)).alloc (.cells #[aV,aU,.int .i64 aE] 26)) _:=(Ex.refl _).alloc (.cells #[.slice none 0 0,.slice none 0 0,.int .i64 0] 26);replace a0:=(eb.trans (ec.trans ed)).cell a0;replace a1:=(eb.trans (ec.trans ed)).cell a1;replace a2:=(eb.trans (ec.trans ed)).cell a2;replace b0:=(ec.trans ed).cell b0;replace b1:=(ec.trans ed).cell b1;replace b2:=(ec.trans ed).cell b2;replace c0:=ed.cell c0;replace c1:=ed.cell c1;replace c2:=ed.cell c2;have cW:(w.alloc (.cells #[.int .i64 p,.int .i64 m,mv] 24)).heap.size=w.heap.size+1:=ag;have bA:((w.alloc (.cells #[.int .i64 p,.int .i64 m,mv] 24)).alloc (.cells #[pv,sv,.int .i64 aC] 26)).heap.size=w.heap.size+1+1:=ag;have aZ:(((w.alloc (.cells #[.int .i64 p,.int .i64 m,mv] 24)).alloc (.cells #[pv,sv,.int .i64 aC] 26)).alloc (.cells #[aV,aU,.int .i64 aE] 26)).heap.size=w.heap.size+1+1+1:=ag;rw[cW]at b0 b1 b2;rw[bA]at c0 c1 c2;rw[aZ]at bq;have HE:=Aa (ea.trans (eb.trans (ec.trans ed)));obtain⟨dD,HP,HS,dS,dO,dU⟩:=To (Hs _ p m ml mv (bG.ex HE.o) al.length al aA pv sv (hp.ex HE.o) (hs.ex HE.o) aC) (hp.ex HE.o) (hs.ex HE.o) (bT.ex HE.o) (bS.ex HE.o) (bG.ex HE.o);obtain⟨ma,mc,rfl,-,-,-⟩:=bG.open;obtain⟨pa,pc,rfl,-,p2,p3⟩:=hp.open;obtain⟨sa,sc,rfl,-,s2,s3⟩:=hs.open;obtain⟨qa,qc,rfl,-,q2,q3⟩:=bT.open;obtain⟨ta,tc,rfl,-,t2,t3⟩:=bS.open;unfold maxLen at p2 s2 q2 t2;obtain⟨E,hE⟩:=nA (N9 p m ml al aA aC bl bs aE);obtain⟨M,hM⟩:=nA (Pz p m ml al aA aC bl bs aE);have cC:=hE;have bH:=hM;unfold N9 at cC;unfold Pz at bH;rw[hE]at bH;rw[hE,hM];have aH:=Aa cC;have bD:=Aa bH;obtain⟨E1,cE⟩:∃e,BF p m ml al.length al aA aC=e:=⟨_,rfl⟩;obtain⟨E2,cD⟩:∃e,BF p m ml bl.length bl bs aE=e:=⟨_,rfl⟩;rw[cE]at dD aH;rw[cD]at aH;have eE:=Aa cE;have dE:=Aa cD;clear bG hp hs bT bS hE cW bA aZ ea eb ec ed hM cC bH cE cD;go_enter Tryz.func46,Tryz.ntmps46
 go_wp2_with fail
 obtain⟨q,hq⟩:=nA w.heap.size;rw[hq]at a0 a1 a2 b0 b1 b2 c0 c1 c2 bq
 try simp only[hq]
 have HQ:=Aa hq;clear hq;generalize (((w.alloc (.cells #[.int .i64 p,.int .i64 m,.slice ma ml.length mc] 24)).alloc (.cells #[.slice pa al.length pc,.slice sa aA.length sc,.int .i64 aC] 26)).alloc (.cells #[.slice qa bl.length qc,.slice ta bs.length tc,.int .i64 aE] 26)).alloc (.cells #[.slice none 0 0,.slice none 0 0,.int .i64 0] 26)=w1 at *;obtain⟨A0,A1,A2,B0,B1,B2,C0,C1,C2,BQ⟩:=Ty a0 a1 a2 b0 b1 b2 c0 c1 c2 bq;have dQ:=Aa (show q+1+1+1<w1.heap.size from World.block_lt_of_cell? w1 ⟨q+1+1+1,0,none⟩ BQ.o.c0);have bI:=Aa (show w.heap.size<=q+1+1+1 from by have:=HQ.o;omega);clear a0 a1 a2 b0 b1 b2 c0 c1 c2 bq;refine dD.o.mono ?_;rintro e w2⟨ho,aD⟩;have bC:=Aa aD;have f0:=aD.cell A0.o;have f1:=aD.cell A1.o;have f2:=aD.cell A2.o;have g0:=aD.cell B0.o;have g1:=aD.cell B1.o;have g2:=aD.cell B2.o;have k0:=aD.cell C0.o;have k1:=aD.cell C1.o;have k2:=aD.cell C2.o;have aX:=Aa (JO w2 p m ml _ (dU.o.ex aD) bl.length bl bs _ _ (dS.o.ex aD) (dO.o.ex aD) aE);have bB:=Aa (HE.o.trans aD);clear aD;by_cases h0:E1=0
 .subst h0;rw[if_neg ae]at aH;rcases ho with⟨_,b,pn,mn,x0,rfl,rfl,rfl,hg,x1,x2'⟩|⟨h0,_⟩
  rotate_left
  .exact absurd rfl h0
  rw[dE.o]at aX;by_cases h1:E2=0
  .subst h1;rw[if_neg ae]at aH;by_cases h2:al.length=bl.length
   .rw[if_neg (fun h=>h h2)]at aH;have h3:=aH.o;subst h3;have aF:=bD.o;rw[if_neg ae,Int.toNat_natCast,Int.toNat_natCast]at aF;obtain⟨-,n1,n2,-,n4,n5,n6,n7,-,-⟩:=Gi eE.o;obtain⟨-,-,-,-,m4,-,m6,m7,-,-⟩:=Gi dE.o;obtain⟨u1,rfl⟩:∃u:Nat,aC=u:=⟨aC.toNat,ac⟩;obtain⟨u2,rfl⟩:∃u:Nat,aE=u:=⟨aE.toNat,ac⟩;rw[Int.toNat_natCast,Int.toNat_natCast]at aF;have m8:=hg.sh.m8;have i1:IntKind.i64.wrap ((u1:Int)+(u2:Int))=(u1:Int)+(u2:Int):=IntWalk.i64_in _ ac;have i2:((u1:Int)+(u2:Int)).tmod (mn:Int)=(((u1+u2)%mn:Nat):Int):=by
     rw[Int.tmod_eq_emod_of_nonneg ac];simp
    have i3:¬mn=0:=ac;have i4:¬((mn:Int)=0):=ac;obtain⟨bk,dC⟩:=nA ((u1+u2)%mn);rw[dC]at i2 aF;have dW:=Aa aF;have bW:aA.length=al.length:=ac;have bV:bl.length=al.length:=ac;have bU:bs.length=al.length:=ac;have hn64:al.length<=64:=ac;have cT:u2<mn:=ac;have cZ:1<=pn^mn:=Nat.pow_pos (by have:=hg.sh.p2;omega);have eD:=Aa (fun (z:Int)=>Mm (low:=lw ml) hg.sh.p2 hg.sh.m1 (Cr cZ z) u2);have HG:=Aa hg;clear cZ;obtain⟨P3,S3,Q3,T3⟩:=Eq p3 s3 q3 t3;rw[bW]at S3;rw[bV]at Q3;rw[bU]at T3;obtain⟨dP,eB,dZ,eA,dY,eC,dT⟩:=OK (fun i (hi:i<al.length)=>Dd n5 hi) (fun i (hi:i<al.length)=>Aw (l:=al) hi) (fun i (hi:i<al.length)=>Aw (l:=aA) (i:=i) ac) (fun i (hi:i<al.length)=>Aw (l:=bl) (i:=i) ac) (fun i (hi:i<al.length)=>Aw (l:=bs) (i:=i) ac) (fun (w5:World) (h5:Ex w2 w5) (y:Int)=>Ga w5 (HG.o.ex h5) y u2 cT) (fun (w5:World) (h5:Ex w2 w5) (y z:Int)=>DC w5 (HG.o.ex h5) y z);rw[bW]at g1 ⊢;rw[bV]at k0 aX ⊢;rw[bU]at k1 aX ⊢;clear hg x1 x2' n1 n2 n4 n5 n6 n7 m4 m6 m7 p3 s3 q3 t3 bW bV bU h2 aF dC cT aH bD;go_wp2_with fail
    refine aX.o.mono ?_;rintro e w3⟨rfl,aB⟩;have dM:=aB.cell f1;have cG:=aB.cell g0;have dL:=aB.cell g2;have cN:=aB.cell k0;have dI:=aB.cell k2;obtain⟨aJ,G0,G1,K0,K1,K2⟩:=To aB g0 g1 k0 k1 k2;have cF:=((Ex.refl w3).alloc (.cells #[.slice none 0 0,.slice none 0 0,.int .i64 (bk:Int)] 26)).cell cG;have dG:=Aa (ET.new w3 (bk:Int));clear aB f0 f1 f2 g0 g1 g2 k0 k1 k2;go_wp2_with fail
    go_loopw [57] (fun i' wr=>∃(i:Nat) (pv sv:Value),i<=al.length/\i'= .int .i64 i/\Hia (ET w3 wr w3.heap.size (bk:Int) pv sv (il i (cP al bl)) (il i (cS pn mn ml al aA bs u2)))) (fun i' _=>al.length-(intOf i').toNat)
    case atStart=>exact⟨0,_,_,ac,rfl,dG⟩
    case round=>
     clear dG cF dM cG dL cN dI;obtain⟨i,pv,sv,hi,rfl,hc⟩:=hrel;by_cases aG:i<al.length
     .obtain⟨pb,po,rfl,dA⟩:=P3.o ac;obtain⟨sb,so,rfl,cX⟩:=S3.o ac;obtain⟨qb,qo,rfl,cY⟩:=Q3.o ac;obtain⟨tb,bF,rfl,cV⟩:=T3.o ac;have dJ:=dP.o i aG;have bK:=Aa (bB.o.trans aJ.o);have HC:=Aa hc.o;obtain⟨y,hy⟩:=nA (FV al i);have cO:al.getD i 0=(y:Int):=by rw[<-hy];unfold FV;omega
      have cQ:y<al.length:=ac;have cA:=eB.o i aG;rw[cO]at cA;have CP:=Aa (bK.o.cell (dA i _ cA));have cp:=HC.o.ex.cell CP.o;obtain⟨z3,bO⟩:∃z,aA.getD i 0=z:=⟨_,rfl⟩;have bY:=dZ.o i aG;rw[bO]at bY;have CS:=Aa (bK.o.cell (cX i _ bY));obtain⟨z1,bQ⟩:∃z,bl.getD y 0=z:=⟨_,rfl⟩;have bZ:=eA.o y cQ;rw[bQ]at bZ;have CQ:=Aa (bK.o.cell (cY y _ bZ));obtain⟨z2,bP⟩:∃z,bs.getD y 0=z:=⟨_,rfl⟩;have bX:=dY.o y cQ;rw[bP]at bX;have CT:=Aa (bK.o.cell (cV y _ bX));have j1:(0:Int)<=(i:Int):=ac;have j2:(i:Int)<(al.length:Int):=ac;have j3:(0:Int)<=(y:Int):=ac;have j4:(y:Int)<(al.length:Int):=ac;have bJ:=Aa (show(il i (cP al bl)).length=i/\(il i (cS pn mn ml al aA bs u2)).length=i from⟨by simp[il],by simp[il]⟩);have aL:=Aa (show i<64 by omega);have dX:=Aa (show il (i+1) (cP al bl)=il i (cP al bl) ++ [z1] from by
       rw[IP,show cP al bl i=z1 from by unfold cP;rw[hy,bQ]])
      have cK:=Aa (show il (i+1) (cS pn mn ml al aA bs u2)=il i (cS pn mn ml al aA bs u2) ++ [((Ap pn mn (lw ml) (Az (pn^mn) z2) (QA pn mn (lw ml) (Az (pn^mn) z3) u2):Nat):Int)] from by
       rw[IP,show cS pn mn ml al aA bs u2 i=_ from by unfold cS;rw[hy,bP,bO]])
      have bE:=Aa (fun (w5:World) (h5:Ex w2 w5)=>eC.o w5 h5 z3);obtain⟨t,ht⟩:=nA (QA pn mn (lw ml) (Az (pn^mn) z3) u2);have cU:t<pn^mn:=by rw[<-ht];exact eD.o z3
      rw[ht]at bE cK;have aW:=Aa (fun (w5:World) (h5:Ex w2 w5)=>dT.o w5 h5 z2 (t:Int));rw[Bj cU]at aW;obtain⟨u,hu⟩:=nA (Ap pn mn (lw ml) (Az (pn^mn) z2) t);rw[hu]at aW cK;clear hu ht cU;obtain⟨va,vc,rfl⟩:=Ab HC.o.o0;obtain⟨ua,uc,rfl⟩:=Ab HC.o.o1;have dF:=Aa HC.o.ex;have D0:=Aa HC.o.b0;have KQ:=Aa (dF.o.cell (aJ.o.cell K0.o));have eH:=Aa (dF.o.cell CQ.o);clear hc dJ hy cO cA bQ bP bO bY bZ bX dA cX cY cV;go_wp2_with fail
      go_upto_region 12 with fail
      clear cp
      go_cut [62] from 62 to 71 (fun _ wx=>∃aN aM,Hia (ET w3 wx w3.heap.size (bk:Int) (.slice aN (il (i+1) (cP al bl)).length aM) (.slice ua (il i (cS pn mn ml al aA bs u2)).length uc) (il (i+1) (cP al bl)) (il i (cS pn mn ml al aA bs u2))))
      case first=>
       refine Dw (fun k=>([.pointer (some ⟨w3.heap.size,0,none⟩),.slice va (il i (cP al bl)).length vc,.pointer (some ⟨q+1+1,0,none⟩),.slice (some ⟨qb,qo,none⟩) al.length qc,.int .i64 (y:Int),.pointer (some ⟨qb,qo+y,none⟩),.int .i64 z1,undef,undef,.pointer (some ⟨w3.heap.size,0,none⟩)]:List Value).getD k undef) 7 8 9 10 (.int .i64 z1) 3 (fun v w=>∃w1,ET w3 w1 w3.heap.size (bk:Int) (.slice va (il i (cP al bl)).length vc) (.slice ua (il i (cS pn mn ml al aA bs u2)).length uc) (il i (cP al bl)) (il i (cS pn mn ml al aA bs u2))/\Oz w1 w w3.heap.size 3 1 (.slice va (il i (cP al bl)).length vc) v (il i (cP al bl)).length (Al (il i (cP al bl))) [.int .i64 z1]) (fun v w=>ET w3 w w3.heap.size (bk:Int) v (.slice ua (il i (cS pn mn ml al aA bs u2)).length uc) ((il i (cP al bl)) ++ [z1]) (il i (cS pn mn ml al aA bs u2))) ah ah ah ?_ ?_ ?_ ?_ (fun B v k=>([.pointer (some ⟨w3.heap.size,0,none⟩),.slice va (il i (cP al bl)).length vc,.pointer (some ⟨q+1+1,0,none⟩),.slice (some ⟨qb,qo,none⟩) al.length qc,.int .i64 (y:Int),.pointer (some ⟨qb,qo+y,none⟩),.int .i64 z1,.slice (some ⟨B,0,none⟩) 1 1,v,.pointer (some ⟨w3.heap.size,0,none⟩)]:List Value).getD k undef) (fun _ _=>rfl) ?_
       .simp only[AG];refine⟨?_,?_,?_,?_,?_,?_,?_,?_,?_,?_,?_,trivial⟩
        all_goals first|exact Ev.sk ae|refine Ev.go ae fun a w T hx K hK=>?_|refine Ev.gf ae fun a w T K hK=>?_
        .have cH:=T 10 _ rfl;exact zcY
        .have e62:=T 62 _ rfl;have q1:=hx.cell D0.o;exact zcY
        .exact zaR
        .have e64:=T 64 _ rfl;have q1:=hx.cell KQ.o;exact zcY
        .have dN:=T 12 _ rfl;exact zcY
        .have e65:=T 65 _ rfl;have e66:=T 66 _ rfl;exact zcY
        .have e67:=T 67 _ rfl;have q1:=hx.cell eH.o;exact zcY
        .have cH:=T 10 _ rfl;clear T;go_simp;exact hK
       .intro o a w1 K ho hx aG hK;injection (show some _=some o from ho) with ho;subst ho;have e68:=aG 6 68 _ ah ae ae ae rfl rfl;clear aG;go_simp;exact hK
       .intro o ob a w1 B8 K ho aQ hx bR cB aG hA;injection (show some _=some o from ho) with ho;subst ho;injection (show some _=some ob from aQ) with aQ;subst aQ;have e1:=Bo (aG 1 63 _ ah ae ae ae rfl rfl);have e2:=Bo (bR 69 rfl);refine BO _ _ 22 rfl w3.heap.size 3 (.int .i64 0) 1 8 Tryz.underlying22 Au rfl ae (.slice va (il i (cP al bl)).length vc) (il i (cP al bl)).length (Al (il i (cP al bl))) e1 ((HC.o.later hx).o0) _ 1 [.int .i64 z1] e2 (IA cB) aj (by have:=bJ.o.1;have:=aL.o;unfold maxLen;omega) (by have:=bJ.o.1;have:=aL.o;omega) ((HC.o.later hx).ex.size) ?_;intro v' w' aO hg ha;exact hA v' w' (⟨w1,HC.o.later hx,⟨aO,hg,ha,(HC.o.later hx).o0⟩⟩)
       .intro o oa of a w1 v K ho aR aP hA h1 h2 hK;injection (show some _=some o from ho) with ho;subst ho;injection (show some _=some oa from aR) with aR;subst aR;injection (show some _=some of from aP) with aP;subst aP;have e1:=h1 70 rfl;have e2:=h2 71 rfl;obtain⟨w2,aS,aK⟩:=hA;obtain⟨g1,g2⟩:=aS.at0g aK;have aI:=aS.app0g aK;obtain⟨aN,aM,rfl⟩:=Ab aK.own;clear aS aK h1 h2;have cM:=Aa aI;clear aI;go_simp;exact hK _ cM.o
       .intro B8 v w1 hF;rw[<-dX.o]at hF;obtain⟨aN,aM,cR⟩:=Ab hF.o0;rw[cR]at hF;have HF:=Aa hF;clear hF cR;simp only[BU,Act.put,List.setIfInBounds_toArray,List.set_cons_zero,List.set_cons_succ];go_wp2_with fail
        go_meet
        exact⟨aN,aM,HF⟩
      case rest=>
       obtain⟨aN,aM,dB⟩:=hcut;have aY:=Aa dB.o;clear dB;have aT:=Aa aY.o.ex;obtain⟨D1,KT,KS,KU,eF,eG,cL,cJ⟩:=On aY.o.b1 (aT.o.cell (aJ.o.cell K1.o)) (aT.o.cell (aJ.o.cell G1.o)) (aT.o.cell (aJ.o.cell K2.o)) (aT.o.cell CT.o) (aT.o.cell CS.o) bE.o aW.o;clear bE aW;have bE:=Aa (fun (w5:World) (h5:Ex wc w5)=>cL.o w5 (aJ.o.trans (aT.o.trans h5)));have aW:=Aa (fun (w5:World) (h5:Ex wc w5)=>cJ.o w5 (aJ.o.trans (aT.o.trans h5)));go_upto_region 13 with fail
       refine Dw (fun k=>([.pointer (some ⟨w3.heap.size,1,none⟩),.slice ua (il i (cS pn mn ml al aA bs u2)).length uc,.pointer (some ⟨b,0,none⟩),.pointer (some ⟨q+1+1,1,none⟩),.slice (some ⟨tb,bF,none⟩) al.length tc,.int .i64 (y:Int),.pointer (some ⟨tb,bF+y,none⟩),.int .i64 z2,.pointer (some ⟨b,0,none⟩),.pointer (some ⟨q+1,1,none⟩),.slice (some ⟨sb,so,none⟩) al.length sc,.int .i64 (i:Int),.pointer (some ⟨sb,so+i,none⟩),.int .i64 z3,.pointer (some ⟨q+1+1,2,none⟩),.int .i64 (u2:Int),.int .i64 (t:Int),.int .i64 (u:Int),undef,undef,.pointer (some ⟨w3.heap.size,1,none⟩)]:List Value).getD k undef) 18 19 20 21 (.int .i64 (u:Int)) 3 (fun v w=>∃w1,ET w3 w1 w3.heap.size (bk:Int) (.slice aN (il (i+1) (cP al bl)).length aM) (.slice ua (il i (cS pn mn ml al aA bs u2)).length uc) (il (i+1) (cP al bl)) (il i (cS pn mn ml al aA bs u2))/\Oz w1 w w3.heap.size 3 1 (.slice ua (il i (cS pn mn ml al aA bs u2)).length uc) v (il i (cS pn mn ml al aA bs u2)).length (Al (il i (cS pn mn ml al aA bs u2))) [.int .i64 (u:Int)]) (fun v w=>ET w3 w w3.heap.size (bk:Int) (.slice aN (il (i+1) (cP al bl)).length aM) v (il (i+1) (cP al bl)) ((il i (cS pn mn ml al aA bs u2)) ++ [(u:Int)])) ah ah ah ?_ ?_ ?_ ?_ (fun B v k=>([.pointer (some ⟨w3.heap.size,1,none⟩),.slice ua (il i (cS pn mn ml al aA bs u2)).length uc,.pointer (some ⟨b,0,none⟩),.pointer (some ⟨q+1+1,1,none⟩),.slice (some ⟨tb,bF,none⟩) al.length tc,.int .i64 (y:Int),.pointer (some ⟨tb,bF+y,none⟩),.int .i64 z2,.pointer (some ⟨b,0,none⟩),.pointer (some ⟨q+1,1,none⟩),.slice (some ⟨sb,so,none⟩) al.length sc,.int .i64 (i:Int),.pointer (some ⟨sb,so+i,none⟩),.int .i64 z3,.pointer (some ⟨q+1+1,2,none⟩),.int .i64 (u2:Int),.int .i64 (t:Int),.int .i64 (u:Int),.slice (some ⟨B,0,none⟩) 1 1,v,.pointer (some ⟨w3.heap.size,1,none⟩)]:List Value).getD k undef) (fun _ _=>rfl) ?_
       .simp only[AG];refine⟨?_,?_,?_,?_,?_,?_,?_,?_,?_,?_,?_,?_,?_,?_,?_,?_,?_,?_,?_,?_,?_,?_,trivial⟩
        all_goals first|exact Ev.sk ae|refine Ev.go ae fun a w T hx K hK=>?_|refine Ev.gf ae fun a w T K hK=>?_
        .have cH:=T 10 _ rfl;exact zcY
        .have e72:=T 72 _ rfl;have q1:=hx.cell D1.o;exact zcY
        .exact zaS
        .exact zaR
        .have e75:=T 75 _ rfl;have q1:=hx.cell KT.o;exact zcY
        .have dN:=T 12 _ rfl;exact zcY
        .have e76:=T 76 _ rfl;have e77:=T 77 _ rfl;exact zcY
        .have e78:=T 78 _ rfl;have q1:=hx.cell eF.o;exact zcY
        .exact zaS
        .exact zaT
        .have e81:=T 81 _ rfl;have q1:=hx.cell KS.o;exact zcY
        .have e11:=T 11 _ rfl;exact zcY
        .have e82:=T 82 _ rfl;have e83:=T 83 _ rfl;exact zcY
        .have e84:=T 84 _ rfl;have q1:=hx.cell eG.o;exact zcY
        .exact zaR
        .have e86:=T 86 _ rfl;have q1:=hx.cell KU.o;exact zcY
        .have e80:=T 80 _ rfl;have e85:=T 85 _ rfl;have e87:=T 87 _ rfl;clear T;go_simp;refine(bE.o _ hx).mono ?_;rintro e w'⟨rfl,h5⟩;exact hK _ h5
        .have e74:=T 74 _ rfl;have e79:=T 79 _ rfl;have e88:=T 88 _ rfl;clear T;go_simp;refine(aW.o _ hx).mono ?_;rintro e w'⟨rfl,n9,rfl⟩;exact hK _ ((Ex.refl w).drewN n9)
        .have cH:=T 10 _ rfl;clear T;go_simp;exact hK
       .intro o a w1 K ho hx aG hK;injection (show some _=some o from ho) with ho;subst ho;have e89:=aG 17 89 _ ah ae ae ae rfl rfl;clear aG;go_simp;exact hK
       .intro o ob a w1 B8 K ho aQ hx bR cB aG hA;injection (show some _=some o from ho) with ho;subst ho;injection (show some _=some ob from aQ) with aQ;subst aQ;have e1:=Bo (aG 1 73 _ ah ae ae ae rfl rfl);have e2:=Bo (bR 90 rfl);refine BO _ _ 22 rfl w3.heap.size 3 (.int .i64 0) 1 8 Tryz.underlying22 Au rfl ae (.slice ua (il i (cS pn mn ml al aA bs u2)).length uc) (il i (cS pn mn ml al aA bs u2)).length (Al (il i (cS pn mn ml al aA bs u2))) e1 ((aY.o.later hx).o1) _ 1 [.int .i64 (u:Int)] e2 (IA cB) aj (by have:=bJ.o.2;have:=aL.o;unfold maxLen;omega) (by have:=bJ.o.2;have:=aL.o;omega) ((aY.o.later hx).ex.size) ?_;intro v' w' aO hg ha;exact hA v' w' (⟨w1,aY.o.later hx,⟨aO,hg,ha,(aY.o.later hx).o1⟩⟩)
       .intro o oa of a w1 v K ho aR aP hA h1 h2 hK;injection (show some _=some o from ho) with ho;subst ho;injection (show some _=some oa from aR) with aR;subst aR;injection (show some _=some of from aP) with aP;subst aP;have e1:=h1 91 rfl;have e2:=h2 92 rfl;obtain⟨w2,aS,aK⟩:=hA;obtain⟨g1,g2⟩:=aS.at1g aK;have aI:=aS.app1g aK;obtain⟨va7,vc7,rfl⟩:=Ab aK.own;clear aS aK h1 h2;have cM:=Aa aI;clear aI;go_simp;exact hK _ cM.o
       .intro B8 v w1 hF;rw[<-cK.o]at hF;have HF:=Aa hF;clear hF;simp only[BU,Act.put,List.setIfInBounds_toArray,List.set_cons_zero,List.set_cons_succ];go_wp2_with fail
        go_roundw
        case rel=>first|exact⟨i+1,_,_,ac,by go_num,HF⟩|((repeat apply Exists.intro);exact⟨⟨i+1,_,_,ac,by go_num,HF⟩,rfl⟩)
        case measure=>simp[intOf];omega
     .obtain rfl:i=al.length:=by omega
      have HC:=Aa hc.o;obtain⟨va,vc,rfl⟩:=Ab HC.o.o0;obtain⟨ua,uc,rfl⟩:=Ab HC.o.o1;have k0:=HC.o.b0;have k1:=HC.o.b1;have k2:=HC.o.b2;have X0:=Aa ((bB.o.trans aJ.o).trans HC.o.ex);have dR:=Aa (show q+1+1+1<w3.heap.size from by have:=bC.o.size;have:=aJ.o.size;have:=dQ.o;omega);obtain⟨q0,q1,q2,bN,bM,bL⟩:=BQ.o.ex ((bC.o.trans aJ.o).trans HC.o.ex);have dH:=Aa (show ∀v (L:List Int),wr.ownsRow w3.heap.size 3 1 v L.length (Al L)->∀X,v.ownBlock=some X->X≠q+1+1+1 from fun v L h X e=>by
       have:=(h.lt X e).1;have:=dR.o;omega)
      have dV:=dW.o;clear hc;go_wp2_with fail
      subst dV;exact bodyPost_ret (v:= .tuple #[.agg #[.slice va (il al.length (cP al bl)).length vc,.slice ua (il al.length (cS pn mn ml al aA bs u2)).length uc,.int .i64 bk],.int .i64 0]) bj rfl ⟨⟨_,_,rfl,Di (Sl.own HC.o.o0) (dH.o _ _ HC.o.o0) _ _ _,Di (Sl.own HC.o.o1) (dH.o _ _ HC.o.o1) _ _ _⟩,Bf X0.o bI.o _ _ _⟩
   .rw[if_pos h2]at aH;have h3:=aH.o;subst h3;have aF:=bD.o;rw[if_pos ae]at aF;subst aF;have i1:((al.length:Int) !=(bl.length:Int))=true:=by simp;omega
    have n2':¬((al.length:Int)=(bl.length:Int)):=ac;clear h2;go_wp2_with fail
    refine aX.o.mono ?_;rintro e w3⟨rfl,aB⟩;obtain⟨q0,q1,q2,bN,bM,bL⟩:=BQ.o.ex (bC.o.trans aB);have cG:=aB.cell g0;have cN:=aB.cell k0;have cI:=Aa (bB.o.trans aB);clear aB;go_wp2_with fail
    exact bodyPost_ret (v:= .tuple #[.agg #[.slice none 0 0,.slice none 0 0,.int .i64 0],.int .i64 10]) bj rfl ⟨⟨_,_,rfl,AF _,AF _⟩,Bf cI.o bI.o _ _ _⟩
  .rw[if_pos h1]at aH;have h3:=aH.o;subst h3;have aF:=bD.o;rw[if_pos h1]at aF;subst aF;have hb:(E2 !=0)=true:=by simpa using h1
   have dK:(E2==0)=false:=bw;clear h1;go_wp2_with fail
   refine aX.o.mono ?_;rintro e w3⟨rfl,aB⟩;obtain⟨q0,q1,q2,bN,bM,bL⟩:=BQ.o.ex (bC.o.trans aB);have cI:=Aa (bB.o.trans aB);clear aB;go_wp2_with fail
   exact bodyPost_ret (v:= .tuple #[.agg #[.slice none 0 0,.slice none 0 0,.int .i64 0],.int .i64 E2]) bj rfl ⟨⟨_,_,rfl,AF _,AF _⟩,Bf cI.o bI.o _ _ _⟩
 .rw[if_pos h0]at aH;have h3:=aH.o;subst h3;have aF:=bD.o;rw[if_pos h0]at aF;subst aF;rcases ho with⟨h1,_⟩|⟨_,ptr,rfl⟩
  .exact absurd h1 h0
  obtain⟨q0,q1,q2,bN,bM,bL⟩:=BQ.o.ex bC.o;have hb:(E1 !=0)=true:=by simpa using h0
  have dK:(E1==0)=false:=by simpa using h0
  clear h0;go_wp2_with fail
  exact bodyPost_ret (v:= .tuple #[.agg #[.slice none 0 0,.slice none 0 0,.int .i64 0],.int .i64 E1]) bj rfl ⟨⟨_,_,rfl,AF _,AF _⟩,Bf bB.o bI.o _ _ _⟩
theorem NX{p m:Nat}{ml:List Int}{N R:Nat}{a a':Nat->Nat->Int}{piv:List Nat}(h:OI p m ml N R a a' piv):piv.length<=R/\∀t∈AL N piv.length a',t.length=N/\Cs (p^m) t=0:=by
 obtain⟨c,hc,hP,_,hS⟩:=h;refine⟨hP.le,fun t ht=>?_⟩;unfold AL at ht;obtain⟨i,hi,rfl⟩:=List.mem_map.1 ht;have hi:=List.mem_range.1 hi;refine⟨AR _ _,QJ fun x hx=>?_⟩;obtain⟨j,hj,rfl⟩:=XC hx;exact hP.rng i (by have:=hP.le;omega) j hj
def Dn(p m:Int)(ml:List Int)(aA:Int)(rows:List (List Int)):Int:=if BY p m ml≠0 then 1 else BR (p.toNat^m.toNat) aA rows
def Z4(p m:Int)(ml:List Int)(aA:Int)(rows:List (List Int))(b0:Nat)(r:Ending)(w':World):Prop:=
 (Dn p m ml aA rows=0/\∃(pn mn N:Nat) (piv:List Nat) (a':Nat->Nat->Int) (rv pv:Value),p=pn/\m=mn/\aA=N/\F5 p m ml/\BR (pn^mn) N rows=0/\r= .returned (.tuple #[.agg #[.int .i64 N,rv],pv,.int .i64 0])/\OI pn mn ml N rows.length (AQ rows) a' piv/\BT w' rv (AL N piv.length a')/\Aj w' pv (pI piv)/\∃g blk cap base,b0<=base/\rv= .slice (some ⟨g,0,none⟩) piv.length piv.length/\EM w' base g rows.length N blk cap a' [])∨
 (Dn p m ml aA rows≠0/\r= .returned (.tuple #[.agg #[.int .i64 0,.slice none 0 0],.slice none 0 0,.int .i64 (Dn p m ml aA rows)]))
theorem cq{P:Prop}(h:P:=by show w.heap.size<=xb+1+1;omega):P:=h
theorem dj{P:Prop}(h:P:=by simp[results,Tryz.results152,go_sem,q0,q1]):P:=h
theorem Gb(w:World)(p m:Int)(ml:List Int)(mv:Value)(aX:Aj w mv ml)(aA:Int)(rows:List (List Int))(v:Value)(hv:BT w v rows)(h0:Dn p m ml aA rows=0->1<=aA):
  Calls Tryz.prog 152 #[.agg #[.int .i64 p,.int .i64 m,mv],.agg #[.int .i64 aA,v]] w fun r w'=>Z4 p m ml aA rows w.heap.size r w'/\Ex w w':=by
 have HO:=Aa (fun w' B h1 h2 h3 h4=>Rt p m ml mv w' h1 aA rows v h2 B h3 h4);obtain⟨g0,g1,g2,e0,aQ⟩:=Bc w p m mv;have aU:=Aa aX;have HV:=Aa hv;have H0:=Aa h0;obtain⟨za,zc,rfl,z1,z2,z3⟩:=hv.open;clear z1 z3;unfold maxLen at z2;obtain⟨xb,bB⟩:=nA w.heap.size;rw[bB]at g0 g1 g2 aQ;clear aX hv h0;go_enter Tryz.func152,Tryz.ntmps152
 go_wp2_with fail
 generalize w.alloc (.cells #[.int .i64 p,.int .i64 m,mv] 24)=wA at *;obtain⟨a0,a1,ea⟩:=DP wA aA (.slice za rows.length zc);have aL:(wA.alloc (.cells #[.int .i64 aA,.slice za rows.length zc] 137)).heap.size=xb+1+1:=by simp[aQ]
 rw[aQ]at a0 a1;generalize wA.alloc (.cells #[.int .i64 aA,.slice za rows.length zc] 137)=wB at *;obtain⟨q0,q1,eb⟩:=DP wB 0 (.slice none 0 0);have qf:(wB.alloc (.cells #[.int .i64 0,.slice none 0 0] 137)).frozen? ⟨xb+1+1,1,none⟩=false:=dn;have aH:(wB.alloc (.cells #[.int .i64 0,.slice none 0 0] 137)).frozen? ⟨xb+1+1,0,none⟩=false:=dn;have aY:(wB.alloc (.cells #[.int .i64 0,.slice none 0 0] 137)).heap.size=xb+1+1+1:=by simp[aL]
 rw[aL]at q0 q1;generalize wB.alloc (.cells #[.int .i64 0,.slice none 0 0] 137)=wC at *;obtain⟨l0,l1,ec⟩:=DP wC aA (.slice za rows.length zc);rw[aY]at l0 l1;generalize wC.alloc (.cells #[.int .i64 aA,.slice za rows.length zc] 137)=wD at *;have eD:Ex w wD:=((e0.trans ea).trans eb).trans ec;obtain⟨A0,A1,Q0,Q1,QF,aM,bE⟩:=OK ((eb.trans ec).cell a0) ((eb.trans ec).cell a1) (ec.cell q0) (ec.cell q1) (ec.frz q1 qf) (ec.frz q0 aH) eD;refine(HO.o wD (xb+1+1+1) (aU.o.ex eD) (HV.o.ex eD) l0 l1).mono ?_;clear g0 g1 g2 e0 aQ ea aL a0 a1 eb aY q0 q1 qf aH l0 l1 ec eD HO;rintro e w2⟨ho,aC⟩;have aR:=Aa (bE.o.trans aC);have QF:=Aa (aC.frz Q1.o QF.o);have aM:=Aa (aC.frz Q0.o aM.o);have c0:=aC.cell A0.o;have c1:=aC.cell A1.o;have Q0:=Aa (aC.cell Q0.o);have Q1:=Aa (aC.cell Q1.o);have A0:=Aa c0;clear aC A1;have bA:=Aa (fun (i:Value) (j:Value)=>((aR.o).setCell (p:=⟨xb+1+1,0,none⟩) cq i).setCell (p:=⟨xb+1+1,1,none⟩) cq j);rcases ho with⟨pn,mn,x0,b,rfl,rfl,hg,hx01,hx02,⟨hmk,rfl⟩|⟨hno,rfl⟩⟩|⟨hno,rfl⟩
 .have aG:BY pn mn ml=0:=(Cm _ _ _).2 ⟨pn,mn,rfl,rfl,hg.sh,hg.pr,hg.isF hx01 hx02⟩;have aB:Dn pn mn ml aA rows=0:=by
   unfold Dn;rw[if_neg (by simp[aG]),Int.toNat_natCast,Int.toNat_natCast];exact hmk
  have bD:=H0.o aB;obtain⟨s1,s2,s3,s4⟩:=Gl hmk;obtain⟨N,rfl⟩:∃N:Nat,aA=N:=⟨aA.toNat,ac⟩;have aD:=Aa aB;have bL:=Aa ((Cm _ _ _).1 aG);have bK:=Aa hmk;have bN:=Aa (PA w2 hg hx01 hx02 N rows.length rows _ (HV.o.ex aR.o) rfl s3 ac ac fun i r h=>by
   have:=s4 r (List.mem_of_getElem? h);exact⟨ac,this.2⟩)
  have bG:=Aa s3;clear hg aG aB bD s1 s2 s3 s4 hmk hx01 hx02;go_wp2_with (go_at_call 157;refine bN.o.mono ?_;rintro e w8⟨piv2,pv2,rv2,a2,rfl,aK,aS,aF,aE,g8,blk8,cap8,rfl,aJ,aI⟩;have a0n:=aE.cell A0.o;have q0:=aE.cell Q0.o;have aH:=aE.frz Q0.o aM.o;have q1:=aE.cell Q1.o;have aW:=aE.frz Q1.o QF.o;have aO:=Aa aK;have aN:=Aa aJ;have bF:=Aa aE;have aT:=Aa aF;have bH:=Aa aI;obtain⟨pa,pc,rfl,-,-,-⟩:=aF.open;clear aK aJ aE aI aS aF)
  have aP:xb+1+1<w2.heap.size:=World.block_lt_of_cell? _ _ Q0.o;have bC:=(NX aO.o).1;obtain⟨bJ,aV,aZ,bM⟩:=Eq (((aN.o.low (A:=⟨xb+1+1,0,none⟩) aP (.int .i64 N)).low (A:=⟨xb+1+1,1,none⟩) aP (.slice (some ⟨g8,0,none⟩) piv2.length piv2.length)).msl bC bG.o) ((aN.o.low (A:=⟨xb+1+1,0,none⟩) aP (.int .i64 N)).low (A:=⟨xb+1+1,1,none⟩) aP (.slice (some ⟨g8,0,none⟩) piv2.length piv2.length)) (fun B h=>show B≠xb+1+1 from by have:=bH.o B h;omega) ((((aR.o).trans bF.o).setCell (p:=⟨xb+1+1,0,none⟩) cq (.int .i64 N)).setCell (p:=⟨xb+1+1,1,none⟩) cq (.slice (some ⟨g8,0,none⟩) piv2.length piv2.length));exact bodyPost_ret (v:= .tuple #[.agg #[.int .i64 N,.slice (some ⟨g8,0,none⟩) piv2.length piv2.length],.slice pa (pI piv2).length pc,.int .i64 0]) dj rfl ⟨.inl ⟨aD.o,pn,mn,N,piv2,a2,_,_,rfl,rfl,rfl,bL.o,bK.o,rfl,aO.o,bJ.o,Sl.other (Sl.other aT.o (fun B h=>aZ.o B h) _) (fun B h=>aZ.o B h) _,g8,blk8,cap8,_,aR.o.size,rfl,aV.o⟩,bM.o⟩
 .have aG:BY pn mn ml=0:=(Cm _ _ _).2 ⟨pn,mn,rfl,rfl,hg.sh,hg.pr,hg.isF hx01 hx02⟩;have aB:Dn pn mn ml aA rows=BR (pn^mn) aA rows:=by
   unfold Dn;rw[if_neg (by simp[aG]),Int.toNat_natCast,Int.toNat_natCast]
  have aD:=Aa aB;clear hg aG aB hx01 hx02 aU HV H0;obtain⟨E,hE⟩:=nA (BR (pn^mn) aA rows);rw[hE]at aD hno ⊢;have hb:(E !=0)=true:=by simpa using hno
  have bI:=Aa hno;have q0:=Q0.o;have q1:=Q1.o;have aH:=aM.o;have aW:=QF.o;clear hE hno;go_wp2_with fail
  exact bodyPost_ret (v:= .tuple #[.agg #[.int .i64 0,.slice none 0 0],.slice none 0 0,.int .i64 E]) dj rfl ⟨.inr ⟨by rw[aD.o];exact bI.o,by rw[aD.o]⟩,bA.o _ _⟩
 .have aB:Dn p m ml aA rows=1:=by
   unfold Dn;rw[if_pos (fun h=>hno ((Cm _ _ _).1 h))]
  have aD:=Aa aB;clear hno aB aU HV H0;have q0:=Q0.o;have q1:=Q1.o;have aH:=aM.o;have aW:=QF.o;go_wp2_with fail
  exact bodyPost_ret (v:= .tuple #[.agg #[.int .i64 0,.slice none 0 0],.slice none 0 0,.int .i64 1]) dj rfl ⟨.inr ⟨by rw[aD.o];decide,by rw[aD.o]⟩,bA.o _ _⟩
theorem zcd{P:Prop}(h:P:=by
 cases l with
 | nil=>rfl
 | cons x t=>obtain⟨_,_,h,_⟩:=s3 (by simp);cases h):P:=h
theorem EV(w:World)(l:List Int)(v:Value)(hl:Aj w v l)(hn2:l.length<=1000):
  Calls Tryz.prog 154 #[v] w fun r w'=>∃v',r= .returned v'/\Aj w' v' l/\(∀B,v'.ownBlock=some B->w.heap.size<=B)/\Ex w w':=by
 have HL:=Aa hl;obtain⟨a,cap,rfl,s1,s2,s3⟩:=hl.open;have aD:∀u∈Al l,u.oneCell'=true:=by
  exact zcK
 have aG:=Aa aD;clear hl aD
 cases a with
 | none=>
  have h0:l= []:=by
   exact zcd
  subst h0;have aB:=fun w'=>AD (P:=Tryz.prog) w' 22 3 none 0 cap Tryz.underlying22;simp only[Option.isNone]at aB;clear s1 s2 s3;go_enter Tryz.func154,Tryz.ntmps154
  go_wp2_with fail
  go_ret;exact⟨_,rfl,AF _,by simp[Value.ownBlock],Ex.refl _⟩
 | some ad=>
  have aB:=fun w'=>AD (P:=Tryz.prog) w' 22 3 (some ad) l.length cap Tryz.underlying22;simp only[Option.isNone]at aB;clear s3;go_enter Tryz.func154,Tryz.ntmps154
  go_wp2_with (at_builtin;refine A8 _ rfl _ _ 22 rfl w.heap.size 3 (.int .i64 0) 1 8 Tryz.underlying22 Au rfl ae _ 0 [] rfl (Bn w 3) (.slice (some ad) l.length cap) l.length (Al l) rfl (HL.o.ex ((Ex.refl w).alloc _)) aG.o ai ac ag ?_)
  intro v1 w1 aA aE aF;have aC:Ex w w1:=Ex.grown ((Ex.refl w).alloc _) (Bn w 3) (Nat.le_refl _) aE;have HI:=Aa (show Aj w1 v1 l from Sl.own aA);have HB:=Aa (fun B (e:v1.ownBlock=some B)=>(aA.lt B e).1);have HX:=Aa aC;clear aA aE aF aC aB;go_wp2_with fail
  go_ret;exact⟨_,rfl,HI.o,HB.o,HX.o⟩
def GK(n:Int):Int:=if n<1∨64<n then 4 else 0
theorem Jy(w:World)(n:Int):Calls Tryz.prog 148 #[.int .i64 n] w fun r w'=>r= .returned (.int .i64 (GK n))/\w'=w:=by
 unfold GK;go_enter Tryz.func148,Tryz.ntmps148
 by_cases h1:n<1
 .have b1:decide (n<1)=true:=by simpa using h1
  rw[if_pos (.inl h1)];exact zcT
 .have b1:decide (n<1)=false:=by simpa using h1
  by_cases h2:64<n
  .have b2:decide (64<n)=true:=by simpa using h2
   rw[if_pos (.inr h2)];exact zcT
  .have b2:decide (64<n)=false:=by simpa using h2
   rw[if_neg ac];exact zcT
theorem Gt(w:World)(p m:Int)(mv:Value)(n:Int)(gv:Value):(w.alloc (.cells #[.int .i64 p,.int .i64 m,mv,.int .i64 n,gv] 39)).cell? ⟨w.heap.size,0,none⟩=some (.int .i64 p)/\(w.alloc (.cells #[.int .i64 p,.int .i64 m,mv,.int .i64 n,gv] 39)).cell? ⟨w.heap.size,1,none⟩=some (.int .i64 m)/\(w.alloc (.cells #[.int .i64 p,.int .i64 m,mv,.int .i64 n,gv] 39)).cell? ⟨w.heap.size,2,none⟩=some mv/\(w.alloc (.cells #[.int .i64 p,.int .i64 m,mv,.int .i64 n,gv] 39)).cell? ⟨w.heap.size,3,none⟩=some (.int .i64 n)/\(w.alloc (.cells #[.int .i64 p,.int .i64 m,mv,.int .i64 n,gv] 39)).cell? ⟨w.heap.size,4,none⟩=some gv/\Ex w (w.alloc (.cells #[.int .i64 p,.int .i64 m,mv,.int .i64 n,gv] 39)):=
 ⟨ag,ag,ag,ag,ag,(Ex.refl _).alloc _⟩
theorem V5(w:World)(p m:Int)(mv:Value)(n:Int)(rows:List (List Int))(gv:Value)(hg:BT w gv rows):
  Calls Tryz.prog 104 #[.agg #[.int .i64 p,.int .i64 m,mv,.int .i64 n,gv]] w fun r w'=>r= .returned (.agg #[.int .i64 n,gv])/\Ex w w':=by
 obtain⟨a0,a1,a2,a3,a4,ea⟩:=Gt w p m mv n gv;obtain⟨za,zc,rfl,z1,z2,z3⟩:=hg.open;clear z3;unfold maxLen at z2;go_enter Tryz.func104,Tryz.ntmps104
 go_wp2_with fail
 exact bodyPost_ret (v:= .agg #[.int .i64 n,.slice za rows.length zc]) (by simp[results,Tryz.results104,go_sem]) rfl ⟨rfl,ea.trans ((Ex.refl _).alloc _)⟩
theorem dw{P:Prop}(h:P:=by show w.heap.size<=xb+1;omega):P:=h
theorem Vt(w:World)(p m:Int)(ml:List Int)(mv:Value)(aD:Aj w mv ml)(hn:ml.length<=1000):
  Calls Tryz.prog 159 #[.agg #[.int .i64 p,.int .i64 m,mv]] w fun r w'=>∃v',r= .returned (.agg #[.int .i64 p,.int .i64 m,v'])/\Aj w' v' ml/\(∀B,v'.ownBlock=some B->w.heap.size<=B)/\Ex w w':=by
 obtain⟨a0,a1,a2,e0,aJ⟩:=Bc w p m mv;obtain⟨q0,q1,q2,eb,aI⟩:=Bc (w.alloc (.cells #[.int .i64 p,.int .i64 m,mv] 24)) 0 0 (.slice none 0 0);have af:(w.alloc (.cells #[.int .i64 p,.int .i64 m,mv] 24)).frozen? ⟨w.heap.size,2,none⟩=false:=ag;have qf:((w.alloc (.cells #[.int .i64 p,.int .i64 m,mv] 24)).alloc (.cells #[.int .i64 0,.int .i64 0,.slice none 0 0] 24)).frozen? ⟨(w.alloc (.cells #[.int .i64 p,.int .i64 m,mv] 24)).heap.size,0,none⟩=false/\((w.alloc (.cells #[.int .i64 p,.int .i64 m,mv] 24)).alloc (.cells #[.int .i64 0,.int .i64 0,.slice none 0 0] 24)).frozen? ⟨(w.alloc (.cells #[.int .i64 p,.int .i64 m,mv] 24)).heap.size,1,none⟩=false/\((w.alloc (.cells #[.int .i64 p,.int .i64 m,mv] 24)).alloc (.cells #[.int .i64 0,.int .i64 0,.slice none 0 0] 24)).frozen? ⟨(w.alloc (.cells #[.int .i64 p,.int .i64 m,mv] 24)).heap.size,2,none⟩=false:=⟨ag,ag,ag⟩;replace af:=eb.frz a2 af;replace a0:=eb.cell a0;replace a1:=eb.cell a1;replace a2:=eb.cell a2;rw[aJ]at q0 q1 q2 qf aI;have HE:=Aa (e0.trans eb);have aO:=Aa (aD.ex HE.o);obtain⟨ma,mc,rfl,m1',m2,m3⟩:=aD.open;unfold maxLen at m2;clear aD m3 e0 eb aJ;go_enter Tryz.func159,Tryz.ntmps159
 go_wp2_with fail
 obtain⟨xb,aA⟩:=nA w.heap.size;rw[aA]at a0 a1 a2 q0 q1 q2 qf aI af
 try simp only[aA]
 generalize (w.alloc (.cells #[.int .i64 p,.int .i64 m,.slice ma ml.length mc] 24)).alloc (.cells #[.int .i64 0,.int .i64 0,.slice none 0 0] 24)=w1 at *;have aN:=Aa aA;obtain⟨aG,aF,aE⟩:=qf;clear aA;refine(EV w1 ml _ aO.o hn).mono ?_;rintro e w2⟨v',rfl,aC,aH,hx⟩;have HV:=Aa aC;have HB:=Aa (fun B e=>show xb+1+1<=B from by have:=aH B e;omega);have HX:=Aa hx;obtain⟨va,vc,rfl,-,-,-⟩:=aC.open;have a0':=hx.cell a0;have a1':=hx.cell a1;have af':=hx.frz a2 af;have a2':=hx.cell a2;have aM:=hx.cell q0;have aL:=hx.cell q1;have aK:=hx.cell q2;have qf0':=hx.frz q0 aG;have qf1':=hx.frz q1 aF;have qf2':=hx.frz q2 aE;clear a0 a1 a2 af q0 q1 q2 aG aF aE aC aH hx;go_wp2_with fail
 have aB:∀B,(Value.slice va ml.length vc).ownBlock=some B->B≠xb/\B≠xb+1:=fun B e=>by have:=HB.o B e;omega
 have hw:w.heap.size=xb:=aN.o;exact bodyPost_ret (v:= .agg #[.int .i64 p,.int .i64 m,.slice va ml.length vc]) (by simp[results,Tryz.results159,go_sem,aM,aL,aK]) rfl ⟨_,rfl,Sl.other (Sl.other (Sl.other (Sl.other HV.o (fun B h=>(aB B h).1) _) (fun B h=>(aB B h).2) _) (fun B h=>(aB B h).2) _) (fun B h=>(aB B h).2) _,fun B e=>by have:=HB.o B e;omega,
  ((((HE.o.trans HX.o).setCell (p:=⟨xb,2,none⟩) (by show w.heap.size<=xb;omega) _).setCell (p:=⟨xb+1,0,none⟩) dw _).setCell (p:=⟨xb+1,1,none⟩) dw _).setCell (p:=⟨xb+1,2,none⟩) dw _⟩
end Go.Proofs.YtehieobniamagaaGreat
