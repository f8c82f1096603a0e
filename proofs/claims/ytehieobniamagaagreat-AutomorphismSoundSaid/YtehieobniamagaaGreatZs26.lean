/- Walk of member. -/
import Derived.Sort.OwnSortedInts
import Derived.Test.YtehieobniamagaaGreatZs25
namespace Go.Proofs.YtehieobniamagaaGreat
open Go.RowKit
set_option linter.all false
set_option maxRecDepth 100000
set_option maxHeartbeats 8000000
def Gy(p m:Nat)(N:Nat)(P:List Int):List Int:=il N (FO (p^m-1) P)
def Gx(p m:Nat)(N:Nat)(P:List Int):List Int:=il N (Gk (p^m-1) P)
open Classical in
noncomputable def FU (p m:Nat) (ml:List Int) (N:Nat) (rows:List (List Int)) (P:List Int):Bool:=
 decide (US p m ml N P=true/\CI p m ml N (Gy p m N P) (Gx p m N P) 0=0/\∃(piv:List Nat) (a':Nat->Nat->Int),
  H7 p m ml N (E6 p m ml (Gy p m N P) (Gx p m N P) 0 N rows rows.length).length (Ak (E6 p m ml (Gy p m N P) (Gx p m N P) 0 N rows rows.length)) a' piv/\rows=Aw N piv.length a')
theorem Lb{p m:Nat}{ml:List Int}{N:Nat}{rows:List (List Int)}{P:List Int}:FU p m ml N rows P=true↔(US p m ml N P=true/\CI p m ml N (Gy p m N P) (Gx p m N P) 0=0/\∃(piv:List Nat) (a':Nat->Nat->Int),
  H7 p m ml N (E6 p m ml (Gy p m N P) (Gx p m N P) 0 N rows rows.length).length (Ak (E6 p m ml (Gy p m N P) (Gx p m N P) 0 N rows rows.length)) a' piv/\rows=Aw N piv.length a'):=by
 unfold FU;simp only[decide_eq_true_eq]
theorem dq{P:Prop}(h:P:=by simp[results,Tryz.results73,go_sem]):P:=h
theorem RO(w:World){b p m x0 N:Nat}{ml:List Int}{rows:List (List Int)}(hg:Bh w b p m ml x0)(bK:1<=N)(hN:N<=64)(hd:N*(p^m-1)<=64)(ho:BI p m ml N rows 0)(m1 v1:Value)(hc:(⟨p,m,ml,N,rows⟩:AT).at w m1 v1)(P:List Int)(pv:Value)(hp:Al w pv P)(aF:P.length=N*(p^m-1))(aW:∀x∈P,0<=x/\x<(P.length:Int)):
  Calls Tryz.prog 73 #[.pointer (some (b,0)),(⟨p,m,ml,N,rows⟩:AT).arg m1 v1,pv] w fun r w'=>r= .returned (.bool (FU p m ml N rows P))/\Ex w w':=by
 obtain⟨c0,c1,c2,c3,c4⟩:=CY w ⟨p,m,ml,N,rows⟩ m1 v1;have aE:=AI w ((⟨p,m,ml,N,rows⟩:AT).obj m1 v1);have HG:=Aa (hg.ex aE);have aI:=Aa (hc.ex aE);have HP:=Aa (hp.ex aE);have aN:=Aa (Qo (w.alloc ((⟨p,m,ml,N,rows⟩:AT).obj m1 v1)) HG.o N bK hN P pv HP.o hd aF aW);obtain⟨x1,y1,bJ,-,z1,-⟩:=hc.g.open;obtain⟨x3,y3,bI,-,z3,-⟩:=hc.m.open;obtain⟨x5,y5,bH,-,z5,-⟩:=hp.open;unfold maxLen at z1 z3 z5;have aU:=Aa (fun (w5:World) (h5:Ex (w.alloc ((⟨p,m,ml,N,rows⟩:AT).obj m1 v1)) w5) (u r:Value) (hu:Al w5 u (Gy p m N P)) (hr:Al w5 r (Gx p m N P))=>NE w5 p m ml m1 (aI.o.ex h5).m N rows v1 (aI.o.ex h5).g _ _ u r hu hr 0);have aM:=Aa (show ∀q:Bool,(q=true↔(US p m ml N P=true/\CI p m ml N (Gy p m N P) (Gx p m N P) 0=0/\∃(piv:List Nat) (a':Nat->Nat->Int),H7 p m ml N (E6 p m ml (Gy p m N P) (Gx p m N P) 0 N rows rows.length).length (Ak (E6 p m ml (Gy p m N P) (Gx p m N P) 0 N rows rows.length)) a' piv/\rows=Aw N piv.length a'))->q=FU p m ml N rows P from fun q h=>
  Bool.eq_iff_iff.2 (h.trans Lb.symm))
 obtain⟨MB,bA⟩:∃x,FU p m ml N rows P=x:=⟨_,rfl⟩;rw[bA]at aM ⊢;obtain⟨B,hB⟩:=nA w.heap.size;rw[hB]at c0 c1 c2 c3 c4;have aH:=Aa aE;unfold AT.arg;unfold AT.obj at aH aN aU aI HG HP c0 c1 c2 c3 c4;dsimp only at aH aN aU aI HG HP c0 c1 c2 c3 c4 ⊢;subst bJ bI bH;have HO:=Aa ho;have HRW:=Aa hc.g;clear hc aE hg hp ho bA aF aW hd;go_enter Tryz.func73,Tryz.ntmps73
 go_upto_region 1 with fail
 try simp only[hB]
 clear hB;generalize w.alloc _=w1 at *;have bE:=Aa aN.o;go_wp2_with fail
 refine bE.o.mono ?_;rintro e w2⟨u,v,rfl,hu,hv,-,aA⟩;have HU:=Aa (show Al w2 u (Gy p m N P) from hu);have HV:=Aa (show Al w2 v (Gx p m N P) from hv);obtain⟨ua,uc,rfl,-,-,-⟩:=hu.open;obtain⟨va,vc,rfl,-,-,-⟩:=hv.open;simp only[An]at HU HV ⊢;obtain⟨FB,aQ⟩:∃x,US p m ml N P=x:=⟨_,rfl⟩;have bD:=Aa aQ;rw[aQ];replace c0:=aA.cell c0;replace c1:=aA.cell c1;replace c2:=aA.cell c2;replace c3:=aA.cell c3;replace c4:=aA.cell c4;obtain⟨t0,t1,t2,et⟩:=Bd w2 (.slice ua N uc) (.slice va N vc) 0;obtain⟨TB,aP⟩:∃x,w2.heap.size=x:=⟨_,rfl⟩;rw[aP]at t0 t1 t2;have aL:=Aa (aA.trans et);replace c0:=et.cell c0;replace c1:=et.cell c1;replace c2:=et.cell c2;replace c3:=et.cell c3;replace c4:=et.cell c4;have bN:=Aa (HU.o.ex et);have bM:=Aa (HV.o.ex et);clear hu hv aA et aN bE aQ HU HV;go_upto_region 2 with fail
 try simp only[aP]
 clear aP;generalize w2.alloc (.cells #[.slice ua N uc,.slice va N vc,(0:Int)] 26)=w3 at *;have bG:=Aa (aU.o w3 aL.o _ _ bN.o bM.o);by_cases hf:FB=true
 rotate_left
 .obtain rfl:FB=false:=by cases FB with
   | true=>exact absurd rfl hf
   | false=>rfl
  have HM:=Aa (aM.o false ⟨fun h=>bi,fun h=>(by have:=h.1.symm.trans bD.o;cases this)⟩);clear hf;go_wp2_with fail
  exact bodyPost_ret (v:= .bool false) dq rfl ⟨by rw[HM.o],aH.o.trans aL.o⟩
 .subst hf;by_cases hm0:CI p m ml N (Gy p m N P) (Gx p m N P) 0=0
  .have aB:=Aa hm0;clear hm0;go_wp2_with fail
   refine bG.o.mono ?_;rintro e w4⟨aG,aD⟩;obtain⟨piv,a',rv,v',rfl,aY,aV,aJ⟩:=XN (fr:=0) (show AppR p m ml N rows _ _ ((0:Nat):Int) _ _ _ from aG) HO.o aB.o;have bF:=Aa aY;obtain⟨M,hM⟩:∃x,Aw N piv.length a'=x:=⟨_,rfl⟩;rw[hM]at aJ;have bC:=Aa hM;obtain⟨d0,d1,d2,d3,d4⟩:=CY w4 ⟨p,m,ml,N,M⟩ v' rv;have aC:=AI w4 ((⟨p,m,ml,N,M⟩:AT).obj v' rv);have aT:=Aa (aJ.ex aC);obtain⟨a6,b6,rfl,-,-,-⟩:=aV.open;obtain⟨a7,b7,rfl,-,-,-⟩:=aJ.open;unfold AT.obj at d0 d1 d2 d3 d4 aC aT;dsimp only at d0 d1 d2 d3 d4 aC aT;obtain⟨DB,aS⟩:∃x,w4.heap.size=x:=⟨_,rfl⟩;rw[aS]at d0 d1 d2 d3 d4;have aK:=Aa (aL.o.trans (aD.trans aC));replace c4:=aC.cell (aD.cell c4);clear aG aY hM aV aJ aC aD c0 c1 c2 c3 t0 t1 t2;go_upto_region 5 with fail
   try simp only[aS]
   clear aS;generalize w4.alloc (.cells #[p,m,.slice a6 ml.length b6,N,.slice a7 M.length b7] 39)=w5 at *;have HQ:=Aa (D9 w5 rows M _ _ (aI.o.ex aK.o).g aT.o);have HM:=Aa (aM.o (decide (rows=M)) ⟨fun h=>⟨bD.o,aB.o,piv,a',bF.o,by rw[bC.o];exact of_decide_eq_true h⟩,fun h=>by
    obtain⟨-,-,piv2,a2,h1,h2⟩:=h;obtain⟨_,_,_,_,g1,g2,g3,g4,-,-,aZ⟩:=Gv aB.o;obtain rfl:p=_:=Int.ofNat.inj g1;obtain rfl:m=_:=Int.ofNat.inj g2;have:=(Ly aZ.hp aZ.hm (fun x=>Iff.rfl) h1 bF.o).1;exact decide_eq_true (by rw[h2,this,bC.o])⟩)
   clear d0 d1 d2 d3;obtain⟨DD,bB⟩:∃x,decide (rows=M)=x:=⟨_,rfl⟩;rw[bB]at HQ HM;clear bB;go_wp2_with fail
   refine HQ.o.mono ?_;rintro e w6⟨rfl,n6,rfl⟩;have bL:=Aa (aK.o.drewN n6);clear c4 d4;go_wp2_with fail
   exact bodyPost_ret (v:= .bool DD) dq rfl ⟨by rw[HM.o],aH.o.trans bL.o⟩
  .have aB:=Aa hm0;have HM:=Aa (aM.o false ⟨fun h=>bi,fun h=>absurd h.2.1 aB.o⟩);obtain⟨EE,aR⟩:∃x,CI p m ml N (Gy p m N P) (Gx p m N P) 0=x:=⟨_,rfl⟩;have bO:=Aa aR;have hb:(EE==0)=false:=by
    have h1:=aB.o;rw[aR]at h1;simpa using h1
   clear hm0 aR;go_wp2_with fail
   refine bG.o.mono ?_;rintro e w4⟨⟨e1,aX,aG⟩,aD⟩;obtain rfl:=BW aX HO.o;have aO:e= .returned (.tuple #[.agg #[(0:Int),(0:Int),.slice none 0 0,(0:Int),.slice none 0 0],EE]):=by
    rcases aG with⟨h,_⟩|⟨_,_,h⟩|⟨_,h,_⟩
    .exact absurd rfl h
    .rw[bO.o]at h;exact h
    .exact absurd h aB.o
   subst aO;have aK:=Aa (aL.o.trans (aD.trans (AI w4 (.cells #[(0:Int),(0:Int),.slice none 0 0,(0:Int),.slice none 0 0] 39))));clear aG aX aD c0 c1 c2 c3 c4 t0 t1 t2;go_wp2_with fail
   exact bodyPost_ret (v:= .bool false) dq rfl ⟨by rw[HM.o],aH.o.trans aK.o⟩
theorem ZU(w:World)(pt:Int)(u v:Value)(YB QB i q:Nat)(hi:i<=64)(hq:1<=q)(hq2:q<=1048576)(h0:w.cell? (YB,0)=some (.int .i64 i))(h1:w.cell? (QB,0)=some (.int .i64 q)):
  Calls Tryz.prog 131 #[.agg #[pt,u,v],.pointer (some (YB,0)),.pointer (some (QB,0))] w fun r w'=>r= .returned (.bool (pt==(i:Int)*((q:Int)-1)))/\Ex w w':=by
 have b0:(w.alloc (.cells #[pt,u,v] 90)).cell? (w.heap.size,0)=some (.int .i64 pt):=ag;have HX:=Aa (AI w (.cells #[pt,u,v] 90));replace h0:=HX.o.cell h0;replace h1:=HX.o.cell h1;have a1:(0:Int)<=(i:Int):=ac;have a2:(i:Int)<=64:=ac;have a3:(1:Int)<=(q:Int):=ac;have a4:(q:Int)<=1048576:=ac;have h2:wrap64 ((i:Int)*((q:Int)-1))=(i:Int)*((q:Int)-1):=by
  have m1:(0:Int)<=(i:Int)*((q:Int)-1):=Int.mul_nonneg a1 ac;have m2:(i:Int)*((q:Int)-1)<=64*1048576:=Int.mul_le_mul a2 ac ac ac;unfold wrap64;omega
 go_enter Tryz.func131,Tryz.ntmps131
 obtain⟨B,hB⟩:=nA w.heap.size;rw[hB]at b0;go_upto_region 1 with fail
 try simp only[hB]
 clear hB;generalize w.alloc (.cells #[pt,u,v] 90)=w1 at *;exact zdi
theorem MF(w:World)(YB QB i0 q:Nat)(hi:i0<=64)(hq:1<=q)(aC:q<=1048576)(h0:w.cell? (YB,0)=some (.int .i64 i0))(h1:w.cell? (QB,0)=some (.int .i64 q))(L:List Lv)(v:Value)(hL:DX w v L)(pr:Nat->Bool)
  (hp:∀(j:Nat) (l:Lv),L[j]?=some l->pr j=(l.pt==(i0:Int)*((q:Int)-1))):
  Calls Tryz.prog 130 #[v,.func (.func 131) #[] #[.pointer (some (YB,0)),.pointer (some (QB,0))]] w fun r w'=>r= .returned (.int .i64 (Cv pr L.length))/\Ex w w':=by
 obtain⟨a,cap,rfl,s1,s2,s3⟩:=hL.open3;have S3:=Aa s3;have HP:=Aa hp;have aE:=Aa (fun (w1:World) (h:Ex w w1) (pt:Int) (u v:Value)=>ZU w1 pt u v YB QB i0 q hi hq aC (h.cell h0) (h.cell h1));obtain⟨n,hn⟩:=nA L.length;have HL:=Aa hn;rw[hn]at S3 s1 ⊢;unfold maxLen at s2;clear s3 hp hn hL h0 h1;go_enter Tryz.func130,Tryz.ntmps130
 go_wp2_with fail
 go_loopg [5,8] n (fun gg _ i' wr=>∃i:Nat,i<=n/\n-i<=gg/\i'= .int .i64 i/\Hia (Ex w wr)/\Hia (∀j,j<i->pr j=false))
 case atStart=>exact⟨0,ac,ac,rfl,Aa (Ex.refl _),Aa (fun j hj=>ac)⟩
 case round=>
  obtain⟨i,hi,hg,rfl,aA,aB⟩:=hrel;by_cases hlt:i<n
  .obtain⟨l,hl⟩:∃l,L[i]?=some l:=⟨_,List.getElem?_eq_getElem a8⟩;obtain⟨bb,o,rfl,hc⟩:=S3.o ac;obtain⟨u,r,c0,c1,c2,-,-⟩:=hc i l hl;replace c0:=aA.o.cell c0;replace c1:=aA.o.cell c1;replace c2:=aA.o.cell c2;have aD:=Aa (HP.o i l hl);have HC:=Aa (aE.o wr aA.o l.pt u r);have i1:(0:Int)<=(i:Int):=by omega
   have hlt':(i:Int)<(n:Int):=ac;rw[<-aD.o]at HC;clear hc hl
   cases hb:pr i with
   | true=>
    rw[hb]at HC;have HF:=Aa (Cy hlt hb aB.o);clear hb;go_wp2_with (go_at_call 131;refine HC.o.mono ?_;rintro e w'⟨rfl,hx⟩;have HX:=Aa (aA.o.trans hx);clear hx)
    exact zdo
   | false=>
    rw[hb]at HC;have HA:=Aa (show ∀j,j<i+1->pr j=false from fun j hj=>by
     by_cases e:j=i
     .subst e;exact hb
     .exact aB.o j ac)
    clear hb;go_wp2_with (go_at_call 131;refine HC.o.mono ?_;rintro e w'⟨rfl,hx⟩;have HX:=Aa (aA.o.trans hx);clear hx)
    exact zb2
  .obtain rfl:i=n:=by omega
   have HF:=Aa (BV aB.o);go_wp2_with fail
   go_ret;exact⟨Af HF.o.symm,aA.o⟩
theorem sortOK:Sp:=by
 intro w base v l hv h1 h2;rcases hv.2 with⟨_,h0⟩|⟨g,cap,cur,rfl,hbase,hb,c1,c2,c3,c4⟩
 .omega
 .have aA:cur.toList.take l.length=l.map (Value.int .i64):=by simpa[Ao]using c4
  have hg:g<w.heap.size:=(Array.getElem?_eq_some_iff.1 hb).1;refine(Tryz.slices_Sort_int g 0 cap l w (holds_of_blockI hb aA) hg ac).mono ?_;rintro e w'⟨rfl,n,os,rfl⟩;have hl:(l.mergeSort fun x y=>decide (x<=y)).length=l.length:=List.length_mergeSort _;exact⟨rfl,ownsRow_sortedI hl hbase hb c1 c2 c3,grownBy_sortedI _⟩
def Jd(p m:Nat)(ml pl sl:List Int):Nat->Nat:=CL (Gi p m ml pl sl)
theorem Fr{N Q k:Nat}(hk:k<N*Q):∃i c,i<N/\c<Q/\k=i*Q+c:=by
 have hQ:0<Q:=by
  apply Nat.pos_of_ne_zero;intro e;rw[e,Nat.mul_zero]at hk;omega
 refine⟨k/Q,k%Q,Nat.div_lt_of_lt_mul (by rw[Nat.mul_comm];exact hk),Nat.mod_lt _ hQ,?_⟩;rw[Nat.mul_comm];exact(Nat.div_add_mod k Q).symm
theorem VY{N Q i c:Nat}(hi:i<N)(hc:c<Q):i*Q+c<N*Q:=by
 have:=Nat.mul_le_mul_right Q (show i+1<=N from hi);rw[Nat.succ_mul]at this;omega
theorem RE{Q i j c d:Nat}(hc:c<Q)(hd:d<Q)(h:i*Q+c=j*Q+d):i=j/\c=d:=by
 have h1:=congrArg (·/ Q) h;simp only[Nat.mul_comm _ Q]at h1;rw[Nat.mul_add_div ac,Nat.mul_add_div ac,Nat.div_eq_of_lt hc,Nat.div_eq_of_lt hd,Nat.add_zero,Nat.add_zero]at h1;subst h1;exact⟨rfl,ac⟩
section
variable {p m N:Nat} {ml pl sl ql tl:List Int}
theorem DQ(h:Bo p m ml pl sl 0 N){i c:Nat}(hi:i<N)(hc:c<p^m-1):∃z:Nat,sl.getD i 0=z/\1<=z/\z<p^m/\1<=Ai p m (lw ml) z (c+1)/\Ai p m (lw ml) z (c+1)<p^m/\Jd p m ml pl sl (i*(p^m-1)+c)=BF pl i*(p^m-1)+(Ai p m (lw ml) z (c+1)-1):=by
 obtain⟨z,hz,h1,h2⟩:=h.sc i hi;have k1:=h.hF.ne_zero h.hp h.hm h1 h2 (show 1<=c+1 by omega) (show c+1<p^m by omega);have k2:=AY (p:=p) (m:=m) (low:=lw ml) (by have:=h.hp;omega) z (c+1);have aA:=VY hi hc;refine⟨z,hz,h1,h2,k1,k2,?_⟩;unfold Jd CL Gi;rw[An,h.pll,if_pos aA,List.getD_eq_getElem?_getD,AQ aA];show(O7 p m ml pl sl (i*(p^m-1)+c)).toNat=_
 unfold O7;have hQ:0<p^m-1:=ac;rw[Nat.mul_comm i,Nat.mul_add_div hQ,Nat.mul_add_mod,Nat.div_eq_of_lt hc,Nat.mod_eq_of_lt hc,Nat.add_zero,hz,Ay h2];omega
theorem YW(h:Bo p m ml pl sl 0 N){k:Nat}(hk:N*(p^m-1)<=k):Jd p m ml pl sl k=k:=by
 unfold Jd CL Gi;rw[An,h.pll,if_neg ac]
theorem CE(h:Bo p m ml pl sl 0 N):Be (N*(p^m-1)) (Jd p m ml pl sl):=by
 refine Be.of_inj (fun k hk=>?_) (fun k hk=>YW h hk) fun a b ha hb e=>?_
 .obtain⟨i,c,hi,hc,rfl⟩:=Fr hk;obtain⟨z,hz,h1,h2,h3,h4,h5⟩:=DQ h hi hc;rw[h5];exact VY (h.inj.lt i hi) ac
 .obtain⟨i,c,hi,hc,rfl⟩:=Fr ha;obtain⟨j,d,hj,hd,rfl⟩:=Fr hb;obtain⟨z,hz,h1,h2,h3,h4,h5⟩:=DQ h hi hc;obtain⟨y,hy,g1,g2,g3,g4,g5⟩:=DQ h hj hd;rw[h5,g5]at e;obtain⟨e1,e2⟩:=RE ac ac e;obtain rfl:=h.inj.inj i j hi hj e1;have aA:z=y:=by rw[hz]at hy;exact_mod_cast hy
  subst aA;have e3:Ai p m (lw ml) (c+1) z=Ai p m (lw ml) (d+1) z:=by rw[AU (c+1),AU (d+1)];omega
  have:=h.hF.cancel h.hp h.hm h1 h2 (show c+1<p^m by omega) (show d+1<p^m by omega) e3;omega
theorem Jc(h:Bo p m ml pl sl 0 N):li (N*(p^m-1)) (Jd p m ml pl sl)=Gi p m ml pl sl:=by
 unfold li;have hl:(Gi p m ml pl sl).length=N*(p^m-1):=by unfold Gi;rw[An,h.pll]
 refine RY hl fun k hk=>?_;have hP:=(CE h);unfold Jd CL;rw[hl,if_pos hk];have:(Gi p m ml pl sl).getD k 0=O7 p m ml pl sl k:=by
  unfold Gi;rw[h.pll,List.getD_eq_getElem?_getD,AQ hk];rfl
 rw[this];obtain⟨z,z1,z2,z3,zi,zp,zf⟩:=Uz h hk;rw[zf];omega
theorem YZ(h:Bo p m ml pl sl 0 N)(k:Bo p m ml ql tl 0 N):Jd p m ml (il N (cP pl ql)) (il N (cS p m ml pl sl tl 0))=Aq (Jd p m ml pl sl) (Jd p m ml ql tl):=by
 have hc:Bo p m ml (il N (cP pl ql)) (il N (cS p m ml pl sl tl 0)) 0 N:=by
  have:=XC h k
  rwa[show(0+0)%m=0 from ag]at this
 refine G5 (n:=N*(p^m-1)) (CE hc) ((CE h).comp (CE k)) fun x hx=>?_;obtain⟨i,c,hi,aA,rfl⟩:=Fr hx;obtain⟨z,hz,h1,h2,h3,h4,h5⟩:=DQ h hi aA;obtain⟨y,hy,g1,g2,g3,g4,g5⟩:=DQ k (h.inj.lt i hi) (show Ai p m (lw ml) z (c+1)-1<p^m-1 by omega);obtain⟨x,hx,f1,f2,f3,f4,f5⟩:=DQ hc hi aA;show _=Jd p m ml ql tl (Jd p m ml pl sl (i*(p^m-1)+c))
 rw[h5,g5,f5,LR h hi];rw[CU hi]at hx;unfold cS at hx;rw[hz,hy,Ay h2,Ay g2]at hx;have aB:x=Ai p m (lw ml) y z:=by exact_mod_cast hx.symm
 rw[aB,show Ai p m (lw ml) z (c+1)-1+1=Ai p m (lw ml) z (c+1) from ac,Bb (by have:=h.hp;omega)]
theorem Iq(h:Bo p m ml pl sl 0 N)(hn:∀i,i<N->0<=pl.getD i 0){i:Nat}(hi:i<=N):A5 (i*(p^m-1)) (Jd p m ml pl sl)↔∀k,k<i->pl.getD k 0=(k:Int)/\sl.getD k 0=1:=by
 constructor
 .intro hf k hk;obtain⟨z,hz,h1,h2⟩:=h.sc k ac;have hQ:0<p^m-1:=by omega
  obtain⟨z',aA,_,_,h3,h4,h5⟩:=DQ h (show k<N by omega) hQ;have aB:z'=z:=by rw[hz]at aA;exact_mod_cast aA.symm
  subst aB;have:=hf (k*(p^m-1)+0) (VY hk hQ);rw[h5]at this;obtain⟨e1,e2⟩:=RE ac hQ this;rw[Nat.zero_add,BA h.hp h.hm h2]at e2 h3;have:=hn k ac;unfold BF at e1;exact⟨ac,by rw[hz];omega⟩
 .intro hf k hk;obtain⟨j,c,hj,hc,rfl⟩:=Fr hk;obtain⟨z,hz,h1,h2,h3,h4,h5⟩:=DQ h (show j<N by omega) hc;obtain⟨e1,e2⟩:=hf j hj;have aC:z=1:=by rw[e2]at hz;exact_mod_cast hz.symm
  subst aC;rw[h5,Cp h.hp h.hm (show c+1<p^m by omega)];unfold BF;rw[e1];simp
theorem Hj{l k:List Int}{N:Nat}(h1:l.length=N)(h2:k.length=N)(h:∀i,i<N->l.getD i 0=k.getD i 0):l=k:=by
 rw[<-RY h1 (f:=fun i=>l.getD i 0) fun i hi=>rfl,<-RY h2 (f:=fun i=>k.getD i 0) fun i hi=>rfl];exact FC h
theorem YY(h:Bo p m ml pl sl 0 N)(k:Bo p m ml ql tl 0 N)(hn:∀i,i<N->0<=pl.getD i 0)(kn:∀i,i<N->0<=ql.getD i 0)(e:Jd p m ml pl sl=Jd p m ml ql tl):pl=ql/\sl=tl:=by
 have e2:Gi p m ml pl sl=Gi p m ml ql tl:=by rw[<-Jc h,<-Jc k,e]
 have h1:=SZ h;have h2:=SZ k;rw[e2]at h1;have h3:=h1.1.symm.trans h2.1;have h4:=h1.2.symm.trans h2.2;constructor
 .refine Hj h.pll k.pll fun i hi=>?_;have:=congrArg (fun l=>l.getD i 0) h3;simp only[CU hi]at this;have a:=hn i hi;have b:=kn i hi;unfold BF at this;omega
 .refine Hj h.sll k.sll fun i hi=>?_;have:=congrArg (fun l=>l.getD i 0) h4;simp only[CU hi]at this;exact this
end
def tF(p m:Nat)(ml pl sl:List Int)(x:Nat->Int)(j:Nat):Int:=((Ai p m (lw ml) (Ar (p^m) (sl.getD j 0)) (Ar (p^m) (x (BF pl j))):Nat):Int)
section
variable {p m n:Nat} {ml:List Int} {l1 l2 l3:List (List Int)} {pl sl ql tl:List Int}
theorem dt_tF(hp:2<=p)(hi:F9 n (BF pl))(v x:Nat->Int):dt p m ml n (plc (BF pl) (DZ p m ml sl v) n) x=dt p m ml n v (tF p m ml pl sl x):=by
 have h1:1<=p:=ac;rw[OJ h1 hi,Hm,Hm];refine GC n fun j hj=>?_;unfold DZ tF;rw[Ay (AY h1 _ _),Ay (AY h1 _ _),AU (Ar (p^m) (sl.getD j 0)),Bb h1]
theorem Xx(v:Nat->Int){x y:Nat->Int}(h:∀j,j<n->Ar (p^m) (x j)=Ar (p^m) (y j)):dt p m ml n v x=dt p m ml n v y:=by
 rw[Hm,Hm];exact GC n fun j hj=>by rw[h j hj]
theorem NK{R:Nat}(a:Nat->Nat->Int){x y:Nat->Int}(h:∀j,j<n->Ar (p^m) (x j)=Ar (p^m) (y j)):BY p m ml n R a x↔BY p m ml n R a y:=
 ⟨fun k i hi=>by rw[<-Xx (ml:=ml) (a i) h];exact k i hi,fun k i hi=>by rw[Xx (ml:=ml) (a i) h];exact k i hi⟩
theorem GV(hp:2<=p)(h1:pl.length=n)(h2:sl.length=n)(h3:∀i,i<n->0<=pl.getD i 0)(h4:F9 n (BF pl))(h5:∀i,i<n->∃z:Nat,sl.getD i 0=z/\1<=z/\z<p^m):
  AW p m ml n l1 l2 pl sl↔∀x,BY p m ml n l2.length (Ak l2) x↔BY p m ml n l1.length (Ak l1) (tF p m ml pl sl x):=by
 have e:∀x,BY p m ml n l1.length (fun i=>plc (BF pl) (DZ p m ml sl (Ak l1 i)) n) x↔BY p m ml n l1.length (Ak l1) (tF p m ml pl sl x):=fun x=>by
  constructor
  .intro h i hi;rw[<-dt_tF hp h4];exact h i hi
  .intro h i hi;show dt p m ml n (plc (BF pl) (DZ p m ml sl (Ak l1 i)) n) x=0
   rw[dt_tF hp h4];exact h i hi
 exact⟨fun h x=>(h.sol x).trans (e x),fun h=>⟨h1,h2,h3,h4,h5,fun x=>(h x).trans (e x).symm⟩⟩
theorem AW.solT(hp:2<=p)(h:AW p m ml n l1 l2 pl sl)(x:Nat->Int):BY p m ml n l2.length (Ak l2) x↔BY p m ml n l1.length (Ak l1) (tF p m ml pl sl x):=
 (GV hp h.pll h.sll h.nn h.inj h.sc).1 h x
structure He(p m:Nat)(ml:List Int)(n:Nat):Prop where
 hp:2<=p
 hm:1<=m
 hF:Hf p m (lw ml)
 n1:1<=n
 n2:n<=64
theorem AW.mon(hW:He p m ml n)(h:AW p m ml n l1 l2 pl sl):Bo p m ml pl sl 0 n:=⟨hW.hp,hW.hm,hW.hF,hW.n1,hW.n2,h.pll,h.sll,h.inj,h.sc,by have:=hW.hm;omega⟩
theorem cmp_nn(h:Bo p m ml pl sl 0 n)(kn:∀i,i<n->0<=ql.getD i 0):∀i,i<n->0<=(il n (cP pl ql)).getD i 0:=fun i hi=>by
 rw[CU hi];exact kn _ (h.inj.lt i hi)
theorem mon0(h:Bo p m ml pl sl ((0+0)%m) n):Bo p m ml pl sl 0 n:=by rwa[show(0+0)%m=0 from ag]at h
theorem AW.comp(hW:He p m ml n)(h:AW p m ml n l1 l2 pl sl)(k:AW p m ml n l2 l3 ql tl):AW p m ml n l1 l3 (il n (cP pl ql)) (il n (cS p m ml pl sl tl 0)):=by
 have hc:=mon0 (XC (h.mon hW) (k.mon hW));have h1:1<=p:=by have:=hW.hp;omega
 refine(GV hW.hp hc.pll hc.sll (cmp_nn (h.mon hW) k.nn) hc.inj hc.sc).2 fun x=>?_;rw[k.solT hW.hp,h.solT hW.hp];refine NK _ fun j hj=>?_;unfold tF;rw[CU hj,LR (h.mon hW) hj];obtain⟨s,hs,hs1,aB⟩:=h.sc j hj;obtain⟨t,ht,ht1,aA⟩:=k.sc _ (h.inj.lt j hj);unfold cS;rw[hs,ht,Ay aB,Ay aA];show _=Ar (p^m) ((Ai p m (lw ml) (Ar (p^m) ((Ai p m (lw ml) t s:Nat):Int)) _:Nat):Int)
 rw[Ay (AY h1 _ _),Ay (AY h1 _ _),Ay (AY h1 _ _),Ay (AY h1 _ _),AU t s,Bb h1]
theorem AW.inv(hW:He p m ml n)(h:AW p m ml n l1 l2 pl sl):AW p m ml n l2 l1 (il n (plc (BF pl) (fun i=>(i:Int)) n)) (il n (plc (BF pl) (ivS p m ml sl 0) n)):=by
 have hM:=h.mon hW;have hv:=WM hM 0 (by have:=hW.hm;omega);have h1:1<=p:=by have:=hW.hp;omega
 refine(GV hW.hp hv.pll hv.sll (fun j hj=>?_) hv.inj hv.sc).2 fun x=>?_
 .obtain⟨i,hi,rfl⟩:=h.inj.surj hj;rw[Lj hM _ hi];omega
 .rw[h.solT hW.hp];refine NK _ fun j hj=>?_;unfold tF;rw[Lj hM _ hj,Li hM hj];obtain⟨s,hs,aB,aA⟩:=h.sc j hj;obtain⟨k1,k2,k3⟩:=Oi hW.hp hW.hm hW.hF aB aA;unfold ivS;rw[hs,Ay aA];show Ar (p^m) (x j)=Ar (p^m) ((Ai p m (lw ml) s (Ar (p^m) ((Ai p m (lw ml) (Ar (p^m) ((Ed p m ml s:Nat):Int)) (Ar (p^m) (x j)):Nat):Int)):Nat):Int)
  rw[Ay k2,Ay (AY h1 _ _),Ay (AY h1 _ _),<-Bb h1,k3,Cp hW.hp hW.hm (B9 (Nat.pow_pos ac) _)]
theorem YX(h:Bo p m ml pl sl 0 n):Jd p m ml (il n (plc (BF pl) (fun i=>(i:Int)) n)) (il n (plc (BF pl) (ivS p m ml sl 0) n))=A8 (n*(p^m-1)) (Jd p m ml pl sl):=by
 have hv:=WM h 0 (by have:=h.hm;omega);have h1:1<=p:=by have:=h.hp;omega
 refine(CE h).inv_unique (G5 (n:=n*(p^m-1)) ((CE h).comp (CE hv)) (Fk _) fun x hx=>?_);obtain⟨i,c,hi,hc,rfl⟩:=Fr hx;obtain⟨z,hz,g1,g2,g3,g4,g5⟩:=DQ h hi hc;obtain⟨y,hy,f1,f2,f3,f4,f5⟩:=DQ hv (h.inj.lt i hi) (show Ai p m (lw ml) z (c+1)-1<p^m-1 by omega);show Jd p m ml _ _ (Jd p m ml pl sl (i*(p^m-1)+c))=i*(p^m-1)+c
 rw[g5,f5,Li h hi];rw[Lj h _ hi]at hy;obtain⟨k1,k2,k3⟩:=Oi h.hp h.hm h.hF g1 g2;unfold ivS at hy;rw[hz,Ay g2]at hy;have aA:y=Ed p m ml z:=by
  have:((Tz p m (lw ml) (Ed p m ml z) 0:Nat):Int)=((Ed p m ml z:Nat):Int):=rfl;rw[this]at hy
  exact_mod_cast hy.symm
 rw[aA,show Ai p m (lw ml) z (c+1)-1+1=Ai p m (lw ml) z (c+1) from ac,<-Bb h1,AU (Ed p m ml z),k3,Cp h.hp h.hm (show c+1<p^m by omega)];omega
theorem Wo(hW:He p m ml n):Bo p m ml (Lp n) (Mf n) 0 n where
 hp:=hW.hp
 hm:=hW.hm
 hF:=hW.hF
 n1:=hW.n1
 n2:=hW.n2
 pll:=FY n
 sll:=FT n
 inj:=by
  have e:∀i,i<n->BF (Lp n) i=i:=fun i hi=>by
   unfold BF Lp;rw[List.getD_eq_getElem?_getD,List.getElem?_map,List.getElem?_range hi];simp
  exact⟨fun i hi=>by rw[e i hi];exact hi,fun i j hi hj h=>by rw[e i hi,e j hj]at h;exact h⟩
 sc:=fun i hi=>⟨1,by unfold Mf;rw[List.getD_eq_getElem?_getD,List.getElem?_replicate,if_pos hi];rfl,Nat.le_refl _,Bz hW.hp hW.hm⟩
 frm:=by have:=hW.hm;omega
theorem Ou{i:Nat}(hi:i<n):(Lp n).getD i 0=(i:Int):=by
 unfold Lp;rw[List.getD_eq_getElem?_getD,List.getElem?_map,List.getElem?_range hi];simp
theorem We{i:Nat}(hi:i<n):(Mf n).getD i 0=1:=by
 unfold Mf;rw[List.getD_eq_getElem?_getD,List.getElem?_replicate,if_pos hi];rfl
theorem AW.id(hW:He p m ml n)(l:List (List Int)):AW p m ml n l l (Lp n) (Mf n):=by
 have h:=Wo hW;refine(GV hW.hp h.pll h.sll (fun i hi=>by rw[Ou hi];omega) h.inj h.sc).2 fun x=>NK _ fun j hj=>?_;unfold tF BF;have h1:1<=p:=by have:=hW.hp;omega
 rw[Ou hj,We hj];show Ar (p^m) (x j)=Ar (p^m) ((Ai p m (lw ml) (Ar (p^m) ((1:Nat):Int)) (Ar (p^m) (x j)):Nat):Int)
 rw[Ay (Bz hW.hp hW.hm),Cp hW.hp hW.hm (B9 (Nat.pow_pos ac) _),Ay (B9 (Nat.pow_pos ac) _)]
theorem ptF_id(hW:He p m ml n):Jd p m ml (Lp n) (Mf n)=Ek:=by
 have h:=Wo hW;exact A5.all (CE h) ((Iq h (fun i hi=>by rw[Ou hi];omega) (Nat.le_refl _)).2 fun k hk=>⟨Ou hk,We hk⟩)
def Gl(p m:Nat)(ml:List Int)(n:Nat)(l1 l2:List (List Int))(f:Nat->Nat):Prop:=∃pl sl,AW p m ml n l1 l2 pl sl/\f=Jd p m ml pl sl
theorem Gl.isP(hW:He p m ml n){f:Nat->Nat}(h:Gl p m ml n l1 l2 f):Be (n*(p^m-1)) f:=by
 obtain⟨pl,sl,h,rfl⟩:=h;exact CE (h.mon hW)
theorem Gl.comp(hW:He p m ml n){f g:Nat->Nat}(h:Gl p m ml n l1 l2 f)(k:Gl p m ml n l2 l3 g):Gl p m ml n l1 l3 (Aq f g):=by
 obtain⟨pl,sl,h,rfl⟩:=h;obtain⟨ql,tl,k,rfl⟩:=k;exact⟨_,_,h.comp hW k,(YZ (h.mon hW) (k.mon hW)).symm⟩
theorem Gl.inv(hW:He p m ml n){f:Nat->Nat}(h:Gl p m ml n l1 l2 f):Gl p m ml n l2 l1 (A8 (n*(p^m-1)) f):=by
 obtain⟨pl,sl,h,rfl⟩:=h;exact⟨_,_,h.inv hW,(YX (h.mon hW)).symm⟩
theorem Gl.grp(hW:He p m ml n)(l:List (List Int)):XY (n*(p^m-1)) (Gl p m ml n l l):=
 ⟨⟨_,_,AW.id hW l,(ptF_id hW).symm⟩,fun f g hf hg=>hf.comp hW hg,fun f hf=>hf.inv hW,fun f hf=>hf.isP hW⟩
theorem Gl.fx(hW:He p m ml n){f:Nat->Nat}(h:Gl p m ml n l1 l2 f){i:Nat}(hi:i<n)(hf:A5 (i*(p^m-1)) f)(he:f (i*(p^m-1))=i*(p^m-1)):A5 ((i+1)*(p^m-1)) f:=by
 obtain⟨pl,sl,h,rfl⟩:=h;have hM:=h.mon hW;refine(Iq hM h.nn ac).2 fun k hk=>?_;by_cases e:k=i
 .subst e;obtain⟨z,hz,h1,h2⟩:=h.sc k hi;have hQ:0<p^m-1:=by omega
  obtain⟨z',aA,_,_,h3,h4,h5⟩:=DQ hM hi hQ;have aB:z'=z:=by rw[hz]at aA;exact_mod_cast aA.symm
  subst aB;rw[Nat.add_zero]at h5;rw[h5]at he;obtain⟨e1,e2⟩:=RE (Q:=p^m-1) (i:=BF pl k) (j:=k) (c:=Ai p m (lw ml) z' (0+1)-1) (d:=0) ac hQ (by rw[he,Nat.add_zero]);rw[Nat.zero_add,BA hM.hp hM.hm h2]at e2 h3;have:=h.nn k hi;unfold BF at e1;exact⟨ac,by rw[hz];omega⟩
 .exact(Iq hM h.nn (Nat.le_of_lt hi)).1 hf k ac
end
theorem Kw{n N Q:Nat}(hn:n=N*Q){H:(Nat->Nat)->Prop}(hG:XY n H)(aF:∀i f,i<N->H f->A5 (i*Q) f->f (i*Q)=i*Q->A5 ((i+1)*Q) f){S:List (Nat->Nat)}(hS:∀s∈S,H s)
  (hc:∀i f,i<N->H f->A5 (i*Q) f->∃s,Gn S s/\A5 (i*Q) s/\s (i*Q)=f (i*Q)) (f:Nat->Nat):Gn S f↔H f:=by
 refine⟨fun h=>h.sub hG hS,?_⟩;have hSP:∀s∈S,Be n s:=fun s hs=>hG.isP s (hS s hs);have aC:∀d i f,i+d=N->H f->A5 (i*Q) f->Gn S f:=fun d=>by
  induction d with
  | zero=>
   intro i f hi hf hx;obtain rfl:i=N:=ac;rw[<-hn]at hx;rw[A5.all (hG.isP f hf) hx];exact .one
  | succ d ih=>
   intro i f hi hf hx;obtain⟨s,hs,aD,aE⟩:=hc i f ac hf hx;have aB:=hs.sub hG hS;have aA:=hG.isP s aB;have h1:H (Aq f (A8 n s)):=hG.mul _ _ hf (hG.inv _ aB);have h2:A5 (i*Q) (Aq f (A8 n s)):=hx.comp (aD.inv aA);have h3:Aq f (A8 n s) (i*Q)=i*Q:=by
    show A8 n s (f (i*Q))=i*Q
    rw[<-aE];exact aA.inv_l _
   have h4:=ih (i+1) _ ac h1 (aF i _ ac h1 h2 h3);have h5:Aq (Aq f (A8 n s)) s=f:=aA.cancel;rw[<-h5];exact h4.mul hs
 intro hf;exact aC N 0 f ac hf fun i hi=>by rw[Nat.zero_mul]at hi;omega
structure E9(p m:Nat)(ml:List Int)(N:Nat)(l:List (List Int)):Prop where
 co:BI p m ml N l 0
 hd:N*(p^m-1)<=64
 sm:U9 N (p^m)
 hq:p^m<=16
section
variable {p m N:Nat} {ml:List Int} {l:List (List Int)}
theorem E9.two(h:E9 p m ml N l):He p m ml N/\QU p m ml N l l/\Ha p m ml/\l.length<=256:=by
 obtain⟨p1,m1,N1,g1,g2,g3,aA,hI,n1,aC,aB,q2⟩:=GQ h.co;obtain rfl:p=p1:=ac;obtain rfl:m=m1:=ac;obtain rfl:N=N1:=ac;exact⟨⟨aA.p2,aA.m1,hI,n1,aC⟩,⟨aA.p2,aA.m1,hI,q2,q2⟩,aA,aB⟩
theorem E9.n7(h:E9 p m ml N l):N<=7:=by
 have:=h.two.1.n2;apply Classical.byContradiction;intro h7;rcases h.sm.1 (.inr ac) with h|h <;> omega
theorem ZG{q:Nat}{g:Ca}(h:EP N q g):Yf q N g.tl g.sl where
 len:=by rw[AM,BH]
 rng:=fun i hi=>by
  rw[AM]at hi;rw[CR g ac];have:=h.ij;have:=h.j;split <;> omega
 inj:=fun i j hi hj e=>by
  rw[AM]at hi;rw[CR g ac,CR g ac]at e;have:=h.ij;split at e <;> split at e <;> omega
 sc:=fun i hi=>by
  rw[AM]at hi;have:=h.a1;have:=h.a;exact⟨if i<g.i then 1 else g.a,FD g ac,by split <;> omega,by split <;> omega⟩
def O5(g:Ca)(pl sl:List Int):Prop:=pl.take (g.i+1)=g.tl/\sl.take (g.i+1)=g.sl
theorem Qk{g:Ca}{pl sl:List Int}(h1:g.i<pl.length)(h2:g.i<sl.length):O5 g pl sl↔(∀k,k<g.i->pl.getD k 0=(k:Int)/\sl.getD k 0=1)/\pl.getD g.i 0=(g.j:Int)/\sl.getD g.i 0=(g.a:Int):=by
 constructor
 .rintro⟨e1,e2⟩;have k1:∀k,k<=g.i->pl.getD k 0=g.tl.getD k 0:=fun k hk=>by rw[<-e1];exact(Cn ac).symm
  have k2:∀k,k<=g.i->sl.getD k 0=g.sl.getD k 0:=fun k hk=>by rw[<-e2];exact(Cn ac).symm
  refine⟨fun k hk=>⟨?_,?_⟩,?_,?_⟩
  .rw[k1 k ac,CR g ac,if_pos hk]
  .rw[k2 k ac,FD g ac,if_pos hk];rfl
  .rw[k1 _ (Nat.le_refl _),CR g (Nat.le_refl _),if_neg ac]
  .rw[k2 _ (Nat.le_refl _),FD g (Nat.le_refl _),if_neg ac]
 .rintro⟨h,e1,e2⟩;constructor
  .have:=Ii (pl:=pl) (tl:=g.tl) (by rw[AM];omega) fun i hi=>by
    rw[AM]at hi;rw[CR g ac];by_cases e:i<g.i
    .rw[if_pos e];exact(h i e).1
    .obtain rfl:i=g.i:=by omega
     rw[if_neg e];exact e1
   rwa[AM]at this
  .have:=Ii (pl:=sl) (tl:=g.sl) (by rw[BH];omega) fun i hi=>by
    rw[BH]at hi;rw[FD g ac];by_cases e:i<g.i
    .rw[if_pos e];exact(h i e).2
    .obtain rfl:i=g.i:=by omega
     rw[if_neg e];exact e2
   rwa[BH]at this
theorem E9.srch(h:E9 p m ml N l){g:Ca}(hg:EP N (p^m) g):
  ((gF ⟨p,m,ml,N,l⟩ g).2=18/\AW p m ml N l l (gM ⟨p,m,ml,N,l⟩ g).perm (gM ⟨p,m,ml,N,l⟩ g).scale/\O5 g (gM ⟨p,m,ml,N,l⟩ g).perm (gM ⟨p,m,ml,N,l⟩ g).scale/\
   ∀pl sl,AW p m ml N l l pl sl->O5 g pl sl->Ny N (Cq (gF ⟨p,m,ml,N,l⟩ g).1.2) pl sl/\(gM ⟨p,m,ml,N,l⟩ g).perm=(Cq (gF ⟨p,m,ml,N,l⟩ g).1.2).tl/\(gM ⟨p,m,ml,N,l⟩ g).scale=(Cq (gF ⟨p,m,ml,N,l⟩ g).1.2).sc)∨
  ((gF ⟨p,m,ml,N,l⟩ g).2=0/\∀pl sl,AW p m ml N l l pl sl->¬O5 g pl sl):=by
 obtain⟨hP,hW,hsh,k256⟩:=h.two;have hn7:=h.n7;have hv:=ZG hg;have hB:O8 (N*(p^m-1)) N<=65536:=by
  refine Ud N ac (p^m) (by have:=h.hq;omega) ?_;have:=h.sm.2 (by have:=hP.n1;omega) ac N ag;simpa using this
 have hlt:g.tl.length<=N:=by rw[AM];have:=hg.ij;have:=hg.j;omega
 have aB:=SK hW (N-g.tl.length) g.tl g.sl (0, []) hv ac (by have:=Wh (N*(p^m-1)) (show N-g.tl.length<=N by omega);show 0+_<=_;omega);have hS:gF ⟨p,m,ml,N,l⟩ g=Mj p m ml l l N (N-g.tl.length) (0, []) g.tl g.sl:=by
  unfold gF GN;simp only[Int.toNat_natCast]
 rw[<-hS]at aB;have hM:(gF ⟨p,m,ml,N,l⟩ g).2=18->gM ⟨p,m,ml,N,l⟩ g=⟨(Cq (gF ⟨p,m,ml,N,l⟩ g).1.2).tl,(Cq (gF ⟨p,m,ml,N,l⟩ g).1.2).sc,0⟩:=fun e=>by
  unfold gM Jq;rw[if_neg ag,if_pos e]
 have aA:∀pl sl,AW p m ml N l l pl sl->O5 g pl sl->(gF ⟨p,m,ml,N,l⟩ g).2=18/\Ny N (Cq (gF ⟨p,m,ml,N,l⟩ g).1.2) pl sl:=fun pl sl hT hG=>
  aB.fnd pl sl hT (by rw[AM];exact hG.1) (by rw[AM];exact hG.2)
 rcases aB.res with h0|⟨h18,hfd⟩
 .right;refine⟨h0,fun pl sl hT hG=>?_⟩;have:=(aA pl sl hT hG).1;rw[h0]at this;cases this
 .left;refine⟨h18,?_,?_,fun pl sl hT hG=>⟨(aA pl sl hT hG).2,by rw[hM h18],by rw[hM h18]⟩⟩
  .rw[hM h18];exact hfd.takes hP.hp
  .rw[hM h18];have h1:=hfd.t;have h2:=hfd.s;rw[AM]at h1 h2;exact⟨h1,h2⟩
theorem Tt{c:AT}{g:Ca}:((gF c g).2=18->gE c g=0)/\((gF c g).2=0->gE c g=11):=by
 unfold gE J5;constructor
 .intro e;rw[if_neg ag,if_pos e]
 .intro e;rw[if_neg ag,if_neg (by rw[e];decide),if_pos e]
theorem E9.gE01(h:E9 p m ml N l){g:Ca}(hg:EP N (p^m) g):gE ⟨p,m,ml,N,l⟩ g=0∨gE ⟨p,m,ml,N,l⟩ g=11:=by
 rcases h.srch hg with⟨e,_⟩|⟨e,_⟩
 .exact .inl (Tt.1 e)
 .exact .inr (Tt.2 e)
theorem E9.hit(h:E9 p m ml N l){g:Ca}(hg:EP N (p^m) g)(he:gE ⟨p,m,ml,N,l⟩ g=0):AW p m ml N l l (gM ⟨p,m,ml,N,l⟩ g).perm (gM ⟨p,m,ml,N,l⟩ g).scale/\O5 g (gM ⟨p,m,ml,N,l⟩ g).perm (gM ⟨p,m,ml,N,l⟩ g).scale:=by
 rcases h.srch hg with⟨e,h1,h2,_⟩|⟨e,_⟩
 .exact⟨h1,h2⟩
 .rw[Tt.2 e]at he;cases he
theorem E9.some(h:E9 p m ml N l){g:Ca}(hg:EP N (p^m) g){pl sl:List Int}(hT:AW p m ml N l l pl sl)(hG:O5 g pl sl):gE ⟨p,m,ml,N,l⟩ g=0:=by
 rcases h.srch hg with⟨e,_⟩|⟨e,h1⟩
 .exact Tt.1 e
 .exact absurd hG (h1 pl sl hT)
theorem gA_mem{i j c:Nat}{g:Ca}:g∈gA i j c↔g.i=i/\g.j=j/\1<=g.a/\g.a<=c:=by
 unfold gA;rw[List.mem_map];constructor
 .rintro⟨a,ha,rfl⟩;rw[List.mem_range]at ha;exact⟨rfl,rfl,by show 1<=a+1;omega,by show a+1<=c;omega⟩
 .rintro⟨h1,h2,h3,h4⟩;refine⟨g.a-1,by rw[List.mem_range];omega,?_⟩;obtain⟨gi,gj,ga⟩:=g;dsimp only at h1 h2 h3 h4 ⊢;subst h1 h2;rw[show ga-1+1=ga from ac]
theorem IG{n q:Nat}{g:Ca}:g∈Du n q↔EP n q g:=by
 refine⟨IF,fun h=>?_⟩;unfold Du gI;refine List.mem_flatMap.2 ⟨g.i,by rw[List.mem_range];have:=h.ij;have:=h.j;omega,?_⟩;unfold gJ;refine List.mem_flatMap.2 ⟨g.j-g.i,by rw[List.mem_range];have:=h.ij;have:=h.j;omega,?_⟩;exact gA_mem.2 ⟨rfl,by have:=h.ij;omega,h.a1,by have:=h.a;omega⟩
theorem Tr(q i:Nat):∀k,(gJ q i k).length=k*(q-1)
 | 0=>by unfold gJ;simp
 | k+1=>by rw[Ox,List.length_append,R4,Tr q i k,Nat.succ_mul]
theorem Ts(n q:Nat):∀k,(gI n q k).length<=k*(n*(q-1))
 | 0=>by unfold gI;simp
 | k+1=>by
  rw[Oy,List.length_append,Tr,Nat.succ_mul];have:=Ts n q k;have:=Nat.mul_le_mul_right (q-1) (show n-k<=n by omega);omega
theorem E9.gol_len(h:E9 p m ml N l):(Du N (p^m)).length<=448:=by
 have h1:=Ts N (p^m) N;have h2:=Nat.mul_le_mul h.n7 h.hd;unfold Du;omega
theorem GK:AD ⟨p,m,ml,N,l⟩=Du N (p^m):=by
 unfold AD;simp only[Int.toNat_natCast]
theorem E9.len(h:E9 p m ml N l):(C9 ⟨p,m,ml,N,l⟩ (AD ⟨p,m,ml,N,l⟩)).length<=448:=by
 unfold C9;rw[List.length_map,GK];exact Nat.le_trans (List.length_filter_le _ _) h.gol_len
theorem SU{c:AT}{gs:List Ca}{M:CW}:M∈C9 c gs↔∃g∈gs,gE c g=0/\gM c g=M:=by
 unfold C9;simp only[List.mem_map,List.mem_filter,beq_iff_eq];exact⟨fun ⟨g,⟨h1,h2⟩,h3⟩=>⟨g,h1,h2,h3⟩,fun ⟨g,h1,h2,h3⟩=>⟨g,⟨h1,h2⟩,h3⟩⟩
theorem E9.tak(h:E9 p m ml N l){M:CW}(hM:M∈C9 ⟨p,m,ml,N,l⟩ (AD ⟨p,m,ml,N,l⟩)):AW p m ml N l l M.perm M.scale:=by
 obtain⟨g,hg,he,rfl⟩:=SU.1 hM;rw[GK]at hg;exact(h.hit (IG.1 hg) he).1
theorem AW.mv{l1 l2:List (List Int)}{M:CW}(h:AW p m ml N l1 l2 M.perm M.scale):My N M:=by
 refine⟨h.pll,h.sll,?_⟩;have:=h.rng N
 rwa[List.take_of_length_le (by rw[h.pll];exact Nat.le_refl _)]at this
theorem E9.mv(h:E9 p m ml N l):∀M∈C9 ⟨p,m,ml,N,l⟩ (AD ⟨p,m,ml,N,l⟩),My (⟨p,m,ml,N,l⟩:AT).n.toNat M:=fun M hM=>(h.tak hM).mv
theorem E9.rnB(h:E9 p m ml N l):NR ⟨p,m,ml,N,l⟩ (AD ⟨p,m,ml,N,l⟩)=none:=by
 unfold Go.Proofs.YtehieobniamagaaGreat.NR;rw[List.find?_eq_none];intro g hg;rw[GK]at hg;rcases h.gE01 (IG.1 hg) with e|e <;> rw[e] <;> decide
theorem E9.opE(h:E9 p m ml N l):Iw ⟨p,m,ml,N,l⟩ 0=0:=by
 unfold Go.Proofs.YtehieobniamagaaGreat.Iw;simp only[Int.toNat_natCast];rw[if_neg ag,if_neg (by have:=h.hd;omega)]
theorem E9.grE(h:E9 p m ml N l):J4 ⟨p,m,ml,N,l⟩ 0=0:=by
 unfold Go.Proofs.YtehieobniamagaaGreat.J4;rw[if_neg (by rw[h.opE];simp),Pz h.rnB]
def Xa(p m:Nat)(ml:List Int)(N:Nat)(l:List (List Int)):List (Nat->Nat):=(C9 ⟨p,m,ml,N,l⟩ (AD ⟨p,m,ml,N,l⟩)).map fun M=>Jd p m ml M.perm M.scale
theorem E9.fnd_isP(h:E9 p m ml N l):∀s∈Xa p m ml N l,Be (N*(p^m-1)) s:=fun s hs=>by
 obtain⟨M,hM,rfl⟩:=List.mem_map.1 hs;exact CE ((h.tak hM).mon h.two.1)
theorem E9.genL(h:E9 p m ml N l):Er p m ml (C9 ⟨p,m,ml,N,l⟩ (AD ⟨p,m,ml,N,l⟩))=(Xa p m ml N l).map (li (N*(p^m-1))):=by
 unfold Go.Proofs.YtehieobniamagaaGreat.Er Xa;rw[List.map_map];refine List.map_congr_left fun M hM=>?_;exact(Jc ((h.tak hM).mon h.two.1)).symm
theorem SH(hW:He p m ml N){l1 l2:List (List Int)}{pl sl:List Int}(hT:AW p m ml N l1 l2 pl sl){i:Nat}(hi:i<N)(hx:A5 (i*(p^m-1)) (Jd p m ml pl sl)):∃g,EP N (p^m) g/\g.i=i/\O5 g pl sl/\Jd p m ml pl sl (i*(p^m-1))=g.j*(p^m-1)+(g.a-1):=by
 have hM:=hT.mon hW;have aA:=(Iq hM hT.nn (Nat.le_of_lt hi)).1 hx;obtain⟨z,hz,z1,z2⟩:=hT.sc i hi;have hQ:0<p^m-1:=ac;obtain⟨z',aB,_,_,h3,h4,h5⟩:=DQ hM hi hQ;have aD:z'=z:=by rw[hz]at aB;exact_mod_cast aB.symm
 subst aD;rw[Nat.add_zero,Nat.zero_add,BA hM.hp hM.hm z2]at h5;have hnn:=hT.nn i hi;have aC:=hT.inj.lt i hi;have aE:i<=BF pl i:=by
  apply Classical.byContradiction;intro hlt2;have e:=(aA (BF pl i) ac).1;have e2:BF pl (BF pl i)=BF pl i:=by
   show(pl.getD (BF pl i) 0).toNat=_
   rw[e];simp
  have:=hT.inj.inj _ _ aC hi e2;omega
 refine⟨⟨i,BF pl i,z'⟩,⟨aE,aC,z1,z2⟩,rfl,(Qk (by rw[hT.pll];exact hi) (by rw[hT.sll];exact hi)).2 ⟨aA,?_,hz⟩,h5⟩;show pl.getD i 0=((BF pl i:Nat):Int)
 unfold BF;omega
theorem gol_pt(hW:He p m ml N){l1 l2:List (List Int)}{pl sl:List Int}(hT:AW p m ml N l1 l2 pl sl){g:Ca}(hg:EP N (p^m) g)(hG:O5 g pl sl):A5 (g.i*(p^m-1)) (Jd p m ml pl sl)/\Jd p m ml pl sl (g.i*(p^m-1))=g.j*(p^m-1)+(g.a-1):=by
 have hi:g.i<N:=by have:=hg.ij;have:=hg.j;omega
 have hM:=hT.mon hW;obtain⟨h1,h2,h3⟩:=(Qk (by rw[hT.pll];exact hi) (by rw[hT.sll];exact hi)).1 hG;refine⟨(Iq hM hT.nn (Nat.le_of_lt hi)).2 h1,?_⟩;have hQ:0<p^m-1:=by have:=hg.a1;have:=hg.a;omega
 obtain⟨z,hz,z1,z2,k3,k4,k5⟩:=DQ hM hi hQ;have aA:z=g.a:=by rw[h3]at hz;exact_mod_cast hz.symm
 subst aA;rw[Nat.add_zero,Nat.zero_add,BA hM.hp hM.hm z2]at k5;rw[k5];unfold BF;rw[h2];simp
theorem E9.gen(h:E9 p m ml N l)(f:Nat->Nat):Gn (Xa p m ml N l) f↔Gl p m ml N l l f:=by
 obtain⟨hP,hW,hsh,k256⟩:=h.two;refine Kw (n:=N*(p^m-1)) (N:=N) (Q:=p^m-1) rfl (Gl.grp hP l) (fun i f hi hf hx he=>hf.fx hP hi hx he) (fun s hs=>?_) (fun i f hi hf hx=>?_) f
 .obtain⟨M,hM,rfl⟩:=List.mem_map.1 hs;exact⟨_,_,h.tak hM,rfl⟩
 .obtain⟨pl,sl,hT,rfl⟩:=hf;obtain⟨g,hg,rfl,hG,aA⟩:=SH hP hT hi hx;have he:=h.some hg hT hG;obtain⟨aB,aC⟩:=h.hit hg he;obtain⟨k1,k2⟩:=gol_pt hP aB hg aC;exact⟨_,.of (List.mem_map.2 ⟨_,SU.2 ⟨g,by rw[GK];exact IG.2 hg,he,rfl⟩,rfl⟩),k1,by rw[k2,aA]⟩
theorem E9.d1(h:E9 p m ml N l):1<=N*(p^m-1):=by
 have hP:=h.two.1;have:=Bz hP.hp hP.hm;exact Nat.mul_pos (by have:=hP.n1;omega) ac
theorem Z6{n:Nat}{S:List (Nat->Nat)}(h1:1<=n)(h2:n<=64)(hS:∀s∈S,Be n s):Dd n (S.map (li n))=(⟨n,Cd n S n⟩,0):=by
 unfold Dd;rw[Tp h1 h2 hS,if_neg ae,Ep hS];rfl
noncomputable def OT(p m:Nat)(ml:List Int)(N:Nat)(l:List (List Int)):List Lv:=Cd (N*(p^m-1)) (Xa p m ml N l) (N*(p^m-1))
theorem E9.bld(h:E9 p m ml N l):L3 ⟨p,m,ml,N,l⟩=(⟨((N*(p^m-1):Nat):Int),OT p m ml N l⟩,0):=by
 unfold L3 El;simp only[Int.toNat_natCast];rw[h.genL,Z6 h.d1 h.hd h.fnd_isP];rfl
end
theorem W0(n:Nat)(S:List (Nat->Nat)):(AF (Cd n S n)).length<=n*n:=by
 rw[EJ,G6,List.length_map];unfold B3;have aA:∀bs:List Nat,(bs.flatMap fun b=>(Bp S b n).map (Fi n S b)).length<=bs.length*n:=by
  intro bs
  induction bs with
  | nil=>simp
  | cons b bs ih=>
   rw[List.flatMap_cons,List.length_append,List.length_map,List.length_cons,Nat.add_mul,Nat.one_mul];have:=Fu S b n;omega
 refine Nat.le_trans (aA _) (Nat.mul_le_mul_right n ?_);exact zbM
theorem XG{n:Nat}{S:List (Nat->Nat)}(h1:1<=n)(h2:n<=64)(hS:∀s∈S,Be n s):Bf n (Cd n S n)=0:=by
 rw[EJ];exact TP h1 h2 hS (Ik n S)
theorem SR{n:Nat}{S:List (Nat->Nat)}{f:Nat->Nat}(h1:1<=n)(h2:n<=64)(hS:∀s∈S,Be n s)(hP:Be n f):DN n (Cd n S n) (li n f)=0:=by
 unfold DN;rw[XG h1 h2 hS,if_neg ae,N4 h1 h2 hP,if_neg ae,Ch,if_neg ag]
theorem ZE{n:Nat}{S:List (Nat->Nat)}{f:Nat->Nat}(h1:1<=n)(h2:n<=64)(hS:∀s∈S,Be n s)(hP:Be n f):Jo n (Cd n S n) (li n f)=true↔Gn S f:=
 Qj hS hP rfl (SR h1 h2 hS hP)
section
variable {p m N:Nat} {ml:List Int} {l l1 l2:List (List Int)}
theorem E9.has(h:E9 p m ml N l){pl sl:List Int}(hM:Bo p m ml pl sl 0 N)(hn:∀i,i<N->0<=pl.getD i 0):DN ((N*(p^m-1):Nat):Int) (OT p m ml N l) (Gi p m ml pl sl)=0/\(Jo ((N*(p^m-1):Nat):Int) (OT p m ml N l) (Gi p m ml pl sl)=true↔AW p m ml N l l pl sl):=by
 have hP:=h.two.1;rw[<-Jc hM];refine⟨SR h.d1 h.hd h.fnd_isP (CE hM),(ZE h.d1 h.hd h.fnd_isP (CE hM)).trans ((h.gen _).trans ⟨?_,fun hT=>⟨_,_,hT,rfl⟩⟩)⟩;rintro⟨ql,tl,hT,e⟩;obtain⟨rfl,rfl⟩:=YY hM (hT.mon hP) hn hT.nn e;exact hT
end
def Smp(c:AT)(k:Nat):Prop:=BI c.p c.m c.ml c.n c.rows 0->El c<=64->El c<=k/\U9 c.n (c.p.toNat^c.m.toNat)
open Classical in
noncomputable def smB (c:AT) (k:Nat):Bool:=decide (Qr 0 c.rows 80=true/\Smp c k)
theorem SN{c:AT}{k:Nat}:smB c k=true↔Qr 0 c.rows 80=true/\Smp c k:=by
 unfold smB;simp only[decide_eq_true_eq]
theorem Sd{P:Program}{f:FuncId}{aA:Array Value}{w:World}{R:Ending->World->Prop}(h:Calls P f aA w R):∃e w',R e w':=by
 obtain⟨e,w',_,h1,_⟩:=h [];exact⟨e,w',h1⟩
theorem ZX{w:World}{c:AT}{m1 v1:Value}(hc:c.at w m1 v1):∃e0,BI c.p c.m c.ml c.n c.rows e0/\∀w',Ex w w'->Calls Tryz.prog 37 #[c.arg m1 v1] w' fun r w''=>r= .returned (.int .i64 e0)/\Ex w' w'':=by
 obtain⟨_,_,⟨e0,_,h0⟩,_⟩:=Sd (Ht w c.p c.m c.ml m1 hc.m c.n c.rows v1 hc.g);refine⟨e0,h0,fun w' hx=>(Ht w' c.p c.m c.ml m1 (hc.ex hx).m c.n c.rows v1 (hc.ex hx).g).mono ?_⟩;rintro r w''⟨⟨e,rfl,h⟩,h2⟩;obtain rfl:=BW h h0;exact⟨rfl,h2⟩
theorem zcB{P:Prop}(h:P:=by
 go_wp2_with fail
 go_ret;exact⟨Ap HR.o,HX.o.trans (aB.o.trans aC.o)⟩):P:=h
theorem NY(w:World)(c:AT)(m1 v1:Value)(hc:c.at w m1 v1)(k:Nat)(hk:k<=64):
  Calls Tryz.prog 21 #[c.arg m1 v1,(k:Int)] w fun r w'=>r= .returned (.bool (smB c k))/\Ex w w':=by
 obtain⟨c0,c1,c2,c3,c4⟩:=CY w c m1 v1;obtain⟨HX,aI,aR,aG,aH,HS⟩:=To (AI w (c.obj m1 v1)) (fun (w':World) (h:Ex w w')=>Rw w' c.p c.m m1 c.n c.rows v1 (hc.ex h).g 80 ac ac) (fun (w':World) (h:Ex w w')=>Ht w' c.p c.m c.ml m1 (hc.ex h).m c.n c.rows v1 (hc.ex h).g) (fun (w':World) (h:Ex w w')=>Rr w' c m1 v1 (hc.ex h)) (fun w'=>DP c.p c.m m1 w') (show ∀b:Bool,(b=true↔Qr 0 c.rows 80=true/\(BI c.p c.m c.ml c.n c.rows 0->El c<=64->El c<=k/\U9 c.n (c.p.toNat^c.m.toNat)))->b=smB c k from fun b h=>Bool.eq_iff_iff.2 (h.trans SN.symm));obtain⟨SB,hS⟩:∃S,smB c k=S:=⟨_,rfl⟩;rw[hS]at HS ⊢;have aD:=Aa (show El c=c.n.toNat*(c.p.toNat^c.m.toNat-1) from rfl);obtain⟨DG,aP⟩:∃D,El c=D:=⟨_,rfl⟩;rw[aP]at HS aD;obtain⟨x1,y1,rfl,-,z1,-⟩:=hc.g.open;obtain⟨x3,y3,rfl,-,z3,-⟩:=hc.m.open;obtain⟨p,m,ml,n,rows⟩:=c;obtain⟨B,hB⟩:=nA w.heap.size;rw[hB]at c0 c1 c2 c3 c4;dsimp only[AT.arg,AT.obj]at *;have hk2:(k:Int)<=64:=bf;clear hc hS z1 z3 aP;obtain⟨FW,aO⟩:∃b,Qr 0 rows 80=b:=⟨_,rfl⟩;rw[aO]at aI HS;clear aO;go_enter Tryz.func21,Tryz.ntmps21
 go_upto_region 1 with fail
 try simp only[hB]
 clear hB;generalize w.alloc (.cells #[p,m,.slice x3 ml.length y3,n,.slice x1 rows.length y1] 39)=w1 at *;have aE:=Aa (fun w' (h:Ex w1 w')=>(⟨h.cell c0,h.cell c1,h.cell c2,h.cell c3,h.cell c4⟩:w'.cell? (B,0)=some (.int .i64 p)/\w'.cell? (B,1)=some (.int .i64 m)/\w'.cell? (B,2)=some (.slice x3 ml.length y3)/\w'.cell? (B,3)=some (.int .i64 n)/\w'.cell? (B,4)=some (.slice x1 rows.length y1)));go_wp2_with fail
 refine(aI.o w1 HX.o).mono ?_;rintro e w2⟨rfl,aM⟩;have aF:=Aa aM;clear c0 c1 c2 c3 c4 aM
 cases FW with
 | false=>
  have HR:=Aa (HS.o false ⟨fun h=>bi,fun h=>(by cases h.1)⟩);go_wp2_with fail
  go_ret;exact⟨Ap HR.o,HX.o.trans aF.o⟩
 | true=>
  replace HS:=Aa (fun (b:Bool) (h:b=true↔(BI p m ml n rows 0->DG<=64->DG<=k/\U9 n (p.toNat^m.toNat)))=>HS.o b (h.trans ⟨fun h=>⟨rfl,h⟩,fun h=>h.2⟩));obtain⟨c0,c1,c2,c3,c4⟩:=aE.o w2 aF.o;go_wp2_with fail
  refine(aR.o w2 (HX.o.trans aF.o)).mono ?_;rintro e w3⟨⟨E,rfl,ho⟩,aL⟩;have aB:=Aa (aF.o.trans aL);have HO:=Aa ho;clear c0 c1 c2 c3 c4 aL ho;by_cases h0:E=0
  rotate_left
  .have hb:(E !=0)=true:=by simpa using h0
   have HR:=Aa (HS.o true ⟨fun _ h=>absurd (BW HO.o h) h0,fun _=>rfl⟩);clear h0;go_wp2_with fail
   go_ret;exact⟨Ap HR.o,HX.o.trans aB.o⟩
  subst h0;obtain⟨pn,mn,N,rfl,rfl,rfl,hf,hI,aW,aN,hr,aT⟩:=GQ HO.o;have aQ:=Aa HO.o;have DV:=PU hf;rw[DV]at aH aG;rw[Int.toNat_natCast]at aG;simp only[Int.toNat_natCast]at aD HS;have aV:2<=pn^mn:=Nat.le_trans hf.p2 (Nat.le_self_pow (by have:=hf.m1;omega) pn);have aU:=hf.q;obtain⟨q,hq⟩:=nA (pn^mn);rw[hq]at aH aG aD HS aV aU;have hDb:DG<=20000:=by rw[aD.o];exact Nat.le_trans (Nat.mul_le_mul aN (show q-1<=255 by omega)) ac
  have k1:(N:Int)*((q:Int)-1)=(DG:Int):=by rw[aD.o,Int.natCast_mul,Int.natCast_sub ac];rfl
  have k2:(N:Int)<=64:=ac;have k3:(q:Int)<=256:=ac;have k4:(1:Int)<=(q:Int):=ac;have W1:=Aa (show IntKind.i64.wrap ((q:Int)-1)=(q:Int)-1 from IntWalk.i64_in _ ac);have W2:=Aa (show IntKind.i64.wrap ((N:Int)*((q:Int)-1))=(DG:Int) from by rw[k1];exact IntWalk.i64_in _ ac);have aA:=Aa (fun (w':World) (h:Ex w3 w')=>aE.o w' (aB.o.trans h));have G0:Ex w3 w3.drew:=(Ex.refl w3).drew;clear hf hI DV hq HO aT hr aR aI aW aN;go_wp2_with fail
  go_upto_region 5 with fail
  go_region_held3 (fun w'=>w'.cell? (B,0)=some (.int .i64 pn)/\w'.cell? (B,1)=some (.int .i64 mn)/\w'.cell? (B,2)=some (.slice x3 ml.length y3)/\w'.cell? (B,3)=some (.int .i64 N)/\w'.cell? (B,4)=some (.slice x1 rows.length y1))
   (first|with_reducible exact aA.o _ X5|with_reducible exact aA.o _ G0)
   (first|(go_at_call 14;(with_reducible refine(aH.o _).mono ?_);rintro e w5⟨rfl,aK⟩;have X5:=G0.trans aK;have aC:=Aa X5;clear aK))
  all_goals
   simp only[W1.o,W2.o];by_cases h1:64<DG
   .have j1:(64:Int)<(DG:Int):=by omega
    have j2:decide ((64:Int)<(DG:Int))=true:=decide_eq_true j1;have HR:=Aa (HS.o true ⟨fun _ _ h=>absurd h ac,fun _=>rfl⟩);clear h1;exact zcB
   .have j1:¬(64:Int)<(DG:Int):=by omega
    have j2:decide ((64:Int)<(DG:Int))=false:=decide_eq_false j1;have aS:=Aa (show DG<=64 from ac);clear h1;by_cases h2:DG<=k
    .have j3:(DG:Int)<=(k:Int):=by omega
     have j4:decide ((DG:Int)<=(k:Int))=true:=decide_eq_true j3;have H2:=Aa h2;have aY:=Aa (aG.o _ (HX.o.trans (aB.o.trans aC.o)));obtain⟨c0,c1,c2,c3,c4⟩:=aA.o _ aC.o;clear h2;go_wp2_with fail
     refine aY.o.mono ?_;rintro e w9⟨⟨b,rfl,hb⟩,aJ⟩;have HR:=Aa (HS.o b ⟨fun h _ _=>⟨H2.o,hb.1 h⟩,fun h=>hb.2 (h aQ.o aS.o).2⟩);have aX:=Aa aJ;clear hb aJ c0 c1 c2 c3 c4;go_wp2_with fail
     go_ret;exact⟨Ap HR.o,HX.o.trans (aB.o.trans (aC.o.trans aX.o))⟩
    .have j3:¬(DG:Int)<=(k:Int):=by omega
     have j4:decide ((DG:Int)<=(k:Int))=false:=decide_eq_false j3;have HR:=Aa (HS.o false ⟨fun h=>bi,fun h=>absurd (h aQ.o aS.o).1 h2⟩);clear h2;exact zcB
section
variable {p m N k:Nat} {ml pl sl:List Int} {l l1 l2:List (List Int)}
theorem Vu(ho:BI p m ml N l 0)(hs:Smp ⟨p,m,ml,N,l⟩ k)(hk:k<=12)(hd:N*(p^m-1)<=64):E9 p m ml N l:=by
 have aA:El ⟨p,m,ml,N,l⟩=N*(p^m-1):=by unfold El;simp only[Int.toNat_natCast]
 obtain⟨h1,h2⟩:=hs ho (by rw[aA];exact hd);rw[aA]at h1;simp only[Int.toNat_natCast]at h2;obtain⟨_,_,N1,_,_,g3,_,_,n1,_⟩:=GQ ho;obtain rfl:N=N1:=by omega
 refine⟨ho,hd,h2,?_⟩;have:=Nat.mul_le_mul_right (p^m-1) n1;omega
theorem U1(h:BI p m ml N l 0):∃(piv:List Nat) (a':Nat->Nat->Int),H7 p m ml N l.length (Ak l) a' piv/\Aw N piv.length a'=l:=by
 rcases h with⟨_,h⟩|⟨_,h1,h2⟩|⟨h1,h2,h3⟩
 .cases h
 .exact absurd h2.symm h1
 .rcases h3 with⟨h3,h4⟩|⟨_,pn,mn,N',piv,a',e1,e2,e3,_,hm,hel,he⟩
  .exact absurd h4.symm h3
  .obtain rfl:p=pn:=by omega
   obtain rfl:m=mn:=ac;obtain rfl:N=N':=ac;refine⟨piv,a',hel,?_⟩;split at he
   .assumption
   .cases he
theorem Rc(hW:He p m ml N)(ho:BI p m ml N l2 0)(hT:AW p m ml N l1 l2 pl sl){piv:List Nat}{a':Nat->Nat->Int}(aA:H7 p m ml N (E6 p m ml pl sl 0 N l1 l1.length).length (Ak (E6 p m ml pl sl 0 N l1 l1.length)) a' piv):Aw N piv.length a'=l2:=by
 obtain⟨piv2,a2,h2,e2⟩:=U1 ho;rw[<-e2];refine(Ly hW.hp hW.hm (fun x=>?_) aA h2).1;exact(SL hW.hp hW.hm x).trans (hT.sol x).symm
theorem MW(h:E9 p m ml N l)(hM:Bo p m ml pl sl 0 N)(hn:∀i,i<N->0<=pl.getD i 0){piv:List Nat}{a':Nat->Nat->Int}(aA:H7 p m ml N (E6 p m ml pl sl 0 N l l.length).length (Ak (E6 p m ml pl sl 0 N l l.length)) a' piv):Pu ⟨p,m,ml,N,l⟩ ⟨p,m,ml,N,Aw N piv.length a'⟩=true↔AW p m ml N l l pl sl:=by
 rw[VE];constructor
 .intro e;simp only[AT.mk.injEq,true_and]at e;exact Pm hM hn aA e.symm
 .intro hT;rw[Rc h.two.1 h.co hT aA]
theorem E9.grO(h:E9 p m ml N l){r:Ending}{w':World}(hg:GrO ⟨p,m,ml,N,l⟩ r w'):∃lv,r= .returned (.tuple #[.agg #[((N*(p^m-1):Nat):Int),lv],(0:Int)])/\DX w' lv (OT p m ml N l):=by
 obtain⟨e0,ho,hr⟩:=hg;obtain rfl:=BW ho h.co;rcases hr with⟨h1,_⟩|⟨_,v,h3,h4⟩
 .exact absurd h.grE h1
 .have hb:Dd (El ⟨p,m,ml,N,l⟩:Int) (Go.Proofs.YtehieobniamagaaGreat.Er (⟨p,m,ml,N,l⟩:AT).p.toNat (⟨p,m,ml,N,l⟩:AT).m.toNat (⟨p,m,ml,N,l⟩:AT).ml (C9 ⟨p,m,ml,N,l⟩ (AD ⟨p,m,ml,N,l⟩)))=(⟨((N*(p^m-1):Nat):Int),OT p m ml N l⟩,0):=h.bld;rw[hb]at h3 h4;exact⟨v,h3,h4⟩
theorem E9.bnd(h:E9 p m ml N l):(C9 ⟨p,m,ml,N,l⟩ (AD ⟨p,m,ml,N,l⟩)).length<=1000/\∀M∈C9 ⟨p,m,ml,N,l⟩ (AD ⟨p,m,ml,N,l⟩),My (⟨p,m,ml,N,l⟩:AT).n.toNat M:=⟨by have:=h.len;omega,h.mv⟩
theorem W5(n:Nat)(hn:n<=30)(S:List (Nat->Nat)):(AF (Cd n S n)).length<=1000:=by
 have:=W0 n S;have:=Nat.mul_le_mul hn hn;omega
theorem Zk(ho:BI p m ml N l 0)(hm:CI p m ml N pl sl 0=0)(hs:Smp ⟨p,m,ml,N,l⟩ k)(hk:k<=12)(hd:N*(p^m-1)<=64):
  (C9 ⟨p,m,ml,N,l⟩ (AD ⟨p,m,ml,N,l⟩)).length<=1000/\(∀M∈C9 ⟨p,m,ml,N,l⟩ (AD ⟨p,m,ml,N,l⟩),My N M)/\
  (∀r w',GrO ⟨p,m,ml,N,l⟩ r w'->∃lv,r= .returned (.tuple #[.agg #[((N*(p^m-1):Nat):Int),lv],(0:Int)])/\DX w' lv (OT p m ml N l))/\
  (VZ p m ml pl sl 0=0/\ptL p m ml pl sl 0=Gi p m ml pl sl/\CI p m ml N pl sl 0=0)/\
  ((AF (OT p m ml N l)).length<=1000/\DN ((N*(p^m-1):Nat):Int) (OT p m ml N l) (Gi p m ml pl sl)=0/\(Jo ((N*(p^m-1):Nat):Int) (OT p m ml N l) (Gi p m ml pl sl)=true↔AW p m ml N l l pl sl))/\
  ∀(piv:List Nat) (a':Nat->Nat->Int) (HB:Bool),H7 p m ml N (E6 p m ml pl sl 0 N l l.length).length (Ak (E6 p m ml pl sl 0 N l l.length)) a' piv->(HB=true↔AW p m ml N l l pl sl)->Pu ⟨p,m,ml,N,l⟩ ⟨p,m,ml,N,Aw N piv.length a'⟩=HB:=by
 have h:=Vu ho hs hk hd;obtain⟨pn,mn,N',fn,e1,e2,e3,e4,hf,hc,hM⟩:=Gv hm;obtain rfl:p=pn:=ac;obtain rfl:m=mn:=ac;obtain rfl:N=N':=ac;obtain rfl:fn=0:=ac;obtain⟨_,_,_,_,_,q6,_⟩:=Ji hm;have hn:∀i,i<N->0<=pl.getD i 0:=fun i hi=>(Df q6 (i:=i) (by have:=hM.pll;omega)).1;have hdk:N*(p^m-1)<=12:=by
  have aA:El ⟨p,m,ml,N,l⟩=N*(p^m-1):=by unfold El;simp only[Int.toNat_natCast]
  have:=(hs ho (by rw[aA];exact hd)).1;rw[aA]at this;omega
 obtain⟨g1,g2⟩:=h.has hM hn;have hE:VZ p m ml pl sl 0=0:=by
  unfold VZ;rw[hM.pll,if_neg (by rw[hm];simp),if_neg ag,if_neg (by simp only[Int.toNat_natCast];omega)]
 refine⟨h.bnd.1,fun M hM=>h.bnd.2 M hM,fun r w' hg=>h.grO hg,⟨hE,?_,hm⟩,⟨W5 _ ac _,g1,g2⟩,fun piv a' HB aB aC=>?_⟩
 .unfold ptL;rw[if_pos hE];simp only[Int.toNat_natCast]
 .exact Bool.eq_iff_iff.2 ((MW h hM hn aB).trans aC.symm)
end
section
variable {n:Nat} {S:List (Nat->Nat)}
end
section
variable {p m N k:Nat} {ml pl sl:List Int} {l l1 l2 ks:List (List Int)}
end
section
variable {p m N k:Nat} {ml pl sl:List Int} {l:List (List Int)}
end
end Go.Proofs.YtehieobniamagaaGreat
