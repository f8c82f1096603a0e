/- slices.IndexFunc over the levels of a chain; the closure of automorphism.excluded. -/
import Derived.Test.YtehieobniamagaaGreatZc27
namespace Go.Proofs.YtehieobniamagaaGreat
open Go.RowKit
set_option linter.all false
set_option maxRecDepth 100000
set_option maxHeartbeats 8000000
theorem exc_clo(w:World)(pt:Int)(u v:Value)(YB QB i q:Nat)(hi:i<=64)(hq:1<=q)(hq2:q<=1048576)(h0:w.cell? (YB,0)=some (.int .i64 i))(h1:w.cell? (QB,0)=some (.int .i64 q)):
  Calls Tryz.prog 131 #[.agg #[pt,u,v],.pointer (some (YB,0)),.pointer (some (QB,0))] w fun r w'=>r= .returned (.bool (pt==(i:Int)*((q:Int)-1)))/\Ex w w':=by
 have b0:(w.alloc (.cells #[pt,u,v] 90)).cell? (w.heap.size,0)=some (.int .i64 pt):=ag;have HX:=Aa (AI w (.cells #[pt,u,v] 90));replace h0:=HX.o.cell h0;replace h1:=HX.o.cell h1;have a1:(0:Int)<=(i:Int):=ac;have a2:(i:Int)<=64:=ac;have a3:(1:Int)<=(q:Int):=ac;have a4:(q:Int)<=1048576:=ac;have h2:wrap64 ((i:Int)*((q:Int)-1))=(i:Int)*((q:Int)-1):=by
  have m1:(0:Int)<=(i:Int)*((q:Int)-1):=Int.mul_nonneg a1 ac;have m2:(i:Int)*((q:Int)-1)<=64*1048576:=Int.mul_le_mul a2 ac ac ac;unfold wrap64;omega
 go_enter Tryz.func131,Tryz.ntmps131
 obtain⟨B,hB⟩:=nA w.heap.size;rw[hB]at b0;go_upto_region 1 with fail
 try simp only[hB]
 clear hB;generalize w.alloc (.cells #[pt,u,v] 90)=w1 at *;exact zc9
theorem MZ(w:World)(YB QB i0 q:Nat)(hi:i0<=64)(hq:1<=q)(aC:q<=1048576)(h0:w.cell? (YB,0)=some (.int .i64 i0))(h1:w.cell? (QB,0)=some (.int .i64 q))(L:List Lv)(v:Value)(hL:EH w v L)(pr:Nat->Bool)
  (hp:∀(j:Nat) (l:Lv),L[j]?=some l->pr j=(l.pt==(i0:Int)*((q:Int)-1))):
  Calls Tryz.prog 130 #[v,.func (.func 131) #[] #[.pointer (some (YB,0)),.pointer (some (QB,0))]] w fun r w'=>r= .returned (.int .i64 (Cx pr L.length))/\Ex w w':=by
 obtain⟨a,cap,rfl,s1,s2,s3⟩:=hL.open3;have S3:=Aa s3;have HP:=Aa hp;have aE:=Aa (fun (w1:World) (h:Ex w w1) (pt:Int) (u v:Value)=>exc_clo w1 pt u v YB QB i0 q hi hq aC (h.cell h0) (h.cell h1));obtain⟨n,hn⟩:=nA L.length;have HL:=Aa hn;rw[hn]at S3 s1 ⊢;unfold maxLen at s2;clear s3 hp hn hL h0 h1;go_enter Tryz.func130,Tryz.ntmps130
 go_wp2_with fail
 go_loopg [5,8] n (fun gg _ i' wr=>∃i:Nat,i<=n/\n-i<=gg/\i'= .int .i64 i/\Hia (Ex w wr)/\Hia (∀j,j<i->pr j=false))
 case atStart=>exact⟨0,ac,ac,rfl,Aa (Ex.refl _),Aa (fun j hj=>ac)⟩
 case round=>
  obtain⟨i,hi,hg,rfl,aA,aB⟩:=hrel;by_cases hlt:i<n
  .obtain⟨l,hl⟩:∃l,L[i]?=some l:=⟨_,List.getElem?_eq_getElem a8⟩;obtain⟨bb,o,rfl,hc⟩:=S3.o ac;obtain⟨u,r,c0,c1,c2,-,-⟩:=hc i l hl;replace c0:=aA.o.cell c0;replace c1:=aA.o.cell c1;replace c2:=aA.o.cell c2;have aD:=Aa (HP.o i l hl);have HC:=Aa (aE.o wr aA.o l.pt u r);have i1:(0:Int)<=(i:Int):=by omega
   have hlt':(i:Int)<(n:Int):=ac;rw[<-aD.o]at HC;clear hc hl
   cases hb:pr i with
   | true=>
    rw[hb]at HC;have HF:=Aa (CA hlt hb aB.o);clear hb;go_wp2_with (go_at_call 131;refine HC.o.mono ?_;rintro e w'⟨rfl,hx⟩;have HX:=Aa (aA.o.trans hx);clear hx)
    exact zdf
   | false=>
    rw[hb]at HC;have HA:=Aa (show ∀j,j<i+1->pr j=false from fun j hj=>by
     by_cases e:j=i
     .subst e;exact hb
     .exact aB.o j ac)
    clear hb;go_wp2_with (go_at_call 131;refine HC.o.mono ?_;rintro e w'⟨rfl,hx⟩;have HX:=Aa (aA.o.trans hx);clear hx)
    exact zbU
  .obtain rfl:i=n:=by omega
   have HF:=Aa (BZ aB.o);go_wp2_with fail
   go_ret;exact⟨Af HF.o.symm,aA.o⟩
def PY(Ms:List CZ):List (List Int):=Ms.map (·.perm)
def PosO(c:AZ)(r:Ending)(w':World):Prop:=∃e0:Int,BK c.p c.m c.ml c.n c.rows e0/\
 ((J6 c e0≠0/\r= .returned (.tuple #[.slice none 0 0,.int .i64 (J6 c e0)]))∨(J6 c e0=0/\OrbR c.n (PY (Da c (AC c))) r w'))
theorem MT(bK:SC)(w:World)(c:AZ)(m1 v1:Value)(hc:c.at w m1 v1)(aB:(Da c (AC c)).length<=1000):
  Calls Tryz.prog 24 #[c.arg m1 v1] w fun r w'=>PosO c r w'/\Ex w w':=by
 obtain⟨c0,c1,c2,c3,c4⟩:=Du w c m1 v1;have aL:=AI w (c.obj m1 v1);obtain⟨x1,y1,aO,-,z1,-⟩:=hc.g.open;obtain⟨x3,y3,aN,-,z3,-⟩:=hc.m.open;unfold maxLen at z1 z3;obtain⟨B,hB⟩:=nA w.heap.size;have aC:=Aa (Jd (w.alloc (c.obj m1 v1)) c m1 v1 (hc.ex aL));rw[hB]at c0 c1 c2 c3 c4;have aG:=Aa aL;obtain⟨C,hC⟩:∃C:AZ,C=c:=⟨_,rfl⟩;have cD:=Aa hC;have bF:=Aa (show ∀r w',PosO C r w'->PosO c r w' from fun r w' h=>by rw[<-hC];exact h);rw[<-hC]at aB;obtain⟨cp,cm,bO,cn,bN⟩:=c;unfold AZ.arg at aC ⊢;unfold AZ.obj at aG aC c0 c1 c2 c3 c4;dsimp only at aG aC c0 c1 c2 c3 c4 aO aN ⊢;rw[aO,aN]at aG aC c0 c1 c2 c3 c4 ⊢;rw[<-hC]at aC;have aU:=Aa aB;clear hc aL hC aO aN aB;go_enter Tryz.func24,Tryz.ntmps24
 go_upto_region 1 with fail
 try simp only[hB]
 clear hB;generalize w.alloc (.cells #[cp,cm,.slice x3 bO.length y3,cn,.slice x1 bN.length y1] 39)=w1 at *;go_wp2_with fail
 refine aC.o.mono ?_;rintro e w2⟨aE,aD⟩;have bE:=Aa aD;obtain⟨e0,bB,ho⟩:=Ro aE;have bJ:=Aa bB;replace c3:=aD.cell c3;obtain⟨GE,aS⟩:∃x,J6 C e0=x:=⟨_,rfl⟩;rw[aS]at ho;have aX:=Aa aS;clear aE aD bB aC aS c0 c1 c2 c4;rcases ho with⟨h0,rfl⟩|⟨h0,hbn,pn,mn,N,b,x0,mv,nv,hp,hm,hn,hN1,hN64,hD,rfl,hg,hx1,aD,hms,hns⟩
 .have hb:(GE !=0)=true:=by simpa using h0
  have H0:=Aa h0;clear h0;go_wp2_with fail
  exact bodyPost_ret (v:= .tuple #[.slice none 0 0,GE]) (by simp[results,Tryz.results24,go_sem]) rfl ⟨bF.o _ _ ⟨e0,bJ.o,.inl ⟨by rw[aX.o];exact H0.o,by rw[aX.o]⟩⟩,aG.o.trans bE.o⟩
 .subst h0;have bM:cn=(N:Int):=by have:=cD.o;rw[this]at hn;exact hn
  subst bM;have bV:=Aa (show C.n=(N:Int) from hn);have bX:=Aa hms;obtain⟨ma,mc,rfl,-,zm,m3⟩:=hms.open;obtain⟨na,nc,rfl,-,-,-⟩:=hns.open;unfold maxLen at zm;obtain⟨Ms,aR⟩:∃x,Da C (AC C)=x:=⟨_,rfl⟩;have bW:=Aa aR;rw[aR]at bX m3 aU ⊢;obtain⟨LM,aF⟩:∃x,Ms.length=x:=⟨_,rfl⟩;have bZ:=Aa aF;have aV:=Aa (show LM<=1000 from by rw[<-aF];exact aU.o);rw[aF]at m3 ⊢;have M3:=Aa m3;obtain⟨GL,aJ⟩:∃g,PY Ms=g:=⟨_,rfl⟩;have cC:=Aa (show ∀k (M:CZ),Ms[k]?=some M->GL.take (k+1)=GL.take k ++ [M.perm] from fun k M h=>by
   rw[<-aJ];exact EN (by unfold PY;rw[List.getElem?_map,h];rfl))
  have bI:=Aa (show GL.length=LM from by rw[<-aJ,<-aF];unfold PY;rw[List.length_map]);have cB:=Aa aJ;have bG:=Aa (Gv.nil w2);clear hbn hp hm hn hN1 hN64 hD hg hx1 aD hms hns aR aF m3 aJ aU;go_wp2_with fail
  go_loopw [8,23] (fun gv k' wr=>∃(k:Nat) (vals:List Value),k<=LM/\k'= .int .i64 k/\Hia (Gv w2 wr gv (GL.take k) vals)) (fun _ k' _=>LM-(intOf k').toNat)
  case atStart=>exact⟨0, [],ac,rfl,bG⟩
  case round=>
   clear bG;obtain⟨k,vals,hk,rfl,hr⟩:=hrel;obtain⟨ga,gc,rfl⟩:=Ad hr.o.own;by_cases hkl:k<LM
   .obtain⟨mb,mo,rfl,bA⟩:=M3.o ac;obtain⟨M,hM⟩:∃M,Ms[k]?=some M:=⟨_,List.getElem?_eq_getElem (by rw[bZ.o];exact hkl)⟩;obtain⟨u,r,d0,d1,d2,hu,aZ⟩:=bA k M hM;obtain⟨ua,uc,rfl,-,-,-⟩:=hu.open;obtain⟨ra,rc,rfl,-,-,-⟩:=aZ.open;replace d0:=hr.o.ex.cell d0;replace d1:=hr.o.ex.cell d1;replace d2:=hr.o.ex.cell d2;rw[show mo+3*k=mo+k*3 from ac]at d0;rw[show mo+(3*k+1)=mo+k*3+1 from ac]at d1;rw[show mo+(3*k+2)=mo+k*3+2 from ac]at d2;have HU:=Aa hu;obtain⟨LP,bD⟩:∃x,M.perm.length=x:=⟨_,rfl⟩;obtain⟨LS,bC⟩:∃x,M.scale.length=x:=⟨_,rfl⟩;rw[bD]at d0 HU;rw[bC]at d1;have HR:=Aa hr.o;have bY:=Aa hM;have i1:(0:Int)<=(k:Int):=by omega
    have i2:(k:Int)<(LM:Int):=ac;have aW:=Aa hkl;obtain⟨TB,aP⟩:∃x,wr.heap.size=x:=⟨_,rfl⟩;obtain⟨t0,t1,t2,et⟩:=Bh wr (.slice ua LP uc) (.slice ra LS rc) M.frob;rw[aP]at t0 t1 t2;have aK:=Aa et;clear hr hM hu aZ bA hkl bD bC et;go_upto_region 8 with fail
    try simp only[aP]
    clear aP d0 d1 d2 i1 i2;generalize wr.alloc (.cells #[.slice ua LP uc,.slice ra LS rc,M.frob] 26)=w5 at *;obtain⟨LG,aA⟩:∃x,(GL.take k).length=x:=⟨_,rfl⟩;have cA:=Aa aA;have aH:=Aa (show LG<=1000 from by rw[<-aA,List.length_take];have:=aV.o;omega);rw[aA]at HR ⊢;have bU:=Aa (show w5.ownsRow w2.heap.size 22 1 (.slice ga LG gc) LG vals from by have:=(HR.o.later aK.o).own;rwa[aA]at this);have bS:=Aa (HR.o.later aK.o).ex.size;have hkb:k<=1000:=by have:=aV.o;omega
    clear aA;go_wp2_with (at_builtin;refine Am _ rfl _ _ 37 rfl w2.heap.size 22 (.slice none 0 0) 1 24 Tryz.underlying37 BG rfl ae _ LG vals rfl bU.o [.slice ua LP uc] 22 _ rfl ag rfl aj (by have:=aH.o;unfold maxLen;omega) (by have:=aH.o;omega) bS.o ?_)
    intro v8 w8 aI;have HN:=Aa ((HR.o.later aK.o).app (R:= [M.perm]) (us:= [.slice ua LP uc]) (gv':=v8) (w':=w8) (fun i r u h1 h2=>by
     rcases i with _|i
     .simp at h1 h2;subst h1 h2;exact HU.o
     .simp at h1) (by rw[cA.o];exact aI.own) (aI.ex (HR.o.later aK.o).ex (Nat.le_refl _)))
    rw[<-cC.o k M bY.o]at HN;obtain⟨ga8,gc8,rfl⟩:=Ad aI.own;clear aI;go_wp2_with fail
    go_roundw
    case rel=>first|exact⟨k+1,_,by have:=aW.o;omega,by go_num,HN⟩|((repeat apply Exists.intro);exact⟨⟨k+1,_,by have:=aW.o;omega,by go_num,HN⟩,rfl⟩)
    case measure=>have:=aW.o;simp[intOf];omega
   .obtain rfl:LM=k:=by omega
    have bR:=Aa (show GL.take LM=GL from List.take_of_length_le (by rw[bI.o];exact Nat.le_refl _));rw[bR.o]at hr ⊢;have HX:=Aa hr.o.ex;have bH:=Aa (SD bK wr (N:Int) GL _ hr.o.msl (by rw[bI.o];exact aV.o));have c3':=hr.o.ex.cell c3;obtain⟨OS,aQ⟩:∃x,ID (N:Int) GL=x:=⟨_,rfl⟩;have bT:=Aa aQ;obtain⟨ol,oe⟩:=OS;obtain⟨LG,aA⟩:∃x,GL.length=x:=⟨_,rfl⟩;have aT:=Aa (show Calls Tryz.prog 65 #[(N:Int),.slice ga LG gc] wr fun r w'=>(∃v,r= .returned (.tuple #[v,oe])/\B9 w' v ol)/\Ex wr w' from by
     rw[<-aA];exact bH.o.mono (by
      rintro r w'⟨⟨v,h1,h2⟩,h3⟩;rw[aQ]at h1 h2;exact⟨⟨v,h1,h2⟩,h3⟩))
    rw[aA];clear hr bH aQ aA c3;go_wp2_with (go_at_call 65;refine aT.o.mono ?_;rintro e w6⟨⟨v6,rfl,aM⟩,aY⟩;obtain⟨la,lc,bL,_,_,_⟩:=aM.open;subst bL;have bQ:=Aa aM;have bP:=Aa aY;clear aM aY)
    exact bodyPost_ret (v:= .tuple #[.slice la ol.length lc,oe]) (by simp[results,Tryz.results24,go_sem]) rfl ⟨bF.o _ _ ⟨e0,bJ.o,.inr ⟨aX.o,by rw[bV.o,bW.o,cB.o];exact Ok bT.o bQ.o⟩⟩,aG.o.trans (bE.o.trans (HX.o.trans bP.o))⟩
def Ic(p m:Nat)(ml pl sl:List Int):Nat->Nat:=CJ (Hm p m ml pl sl)
theorem Fw{N Q k:Nat}(hk:k<N*Q):∃i c,i<N/\c<Q/\k=i*Q+c:=by
 have hQ:0<Q:=by
  apply Nat.pos_of_ne_zero;intro e;rw[e,Nat.mul_zero]at hk;omega
 refine⟨k/Q,k%Q,Nat.div_lt_of_lt_mul (by rw[Nat.mul_comm];exact hk),Nat.mod_lt _ hQ,?_⟩;rw[Nat.mul_comm];exact(Nat.div_add_mod k Q).symm
theorem Wl{N Q i c:Nat}(hi:i<N)(hc:c<Q):i*Q+c<N*Q:=by
 have:=Nat.mul_le_mul_right Q (show i+1<=N from hi);rw[Nat.succ_mul]at this;omega
theorem RC{Q i j c d:Nat}(hc:c<Q)(hd:d<Q)(h:i*Q+c=j*Q+d):i=j/\c=d:=by
 have h1:=congrArg (·/ Q) h;simp only[Nat.mul_comm _ Q]at h1;rw[Nat.mul_add_div ac,Nat.mul_add_div ac,Nat.div_eq_of_lt hc,Nat.div_eq_of_lt hd,Nat.add_zero,Nat.add_zero]at h1;subst h1;exact⟨rfl,ac⟩
section
variable {p m N:Nat} {ml pl sl ql tl:List Int}
theorem DS(h:Bo p m ml pl sl 0 N){i c:Nat}(hi:i<N)(hc:c<p^m-1):∃z:Nat,sl.getD i 0=z/\1<=z/\z<p^m/\1<=Al p m (lw ml) z (c+1)/\Al p m (lw ml) z (c+1)<p^m/\Ic p m ml pl sl (i*(p^m-1)+c)=BH pl i*(p^m-1)+(Al p m (lw ml) z (c+1)-1):=by
 obtain⟨z,hz,h1,h2⟩:=h.sc i hi;have k1:=h.hF.ne_zero h.hp h.hm h1 h2 (show 1<=c+1 by omega) (show c+1<p^m by omega);have k2:=Bc (p:=p) (m:=m) (low:=lw ml) (by have:=h.hp;omega) z (c+1);have aA:=Wl hi hc;refine⟨z,hz,h1,h2,k1,k2,?_⟩;unfold Ic CJ Hm;rw[Ao,h.pll,if_pos aA,List.getD_eq_getElem?_getD,AQ aA];show(Pi p m ml pl sl (i*(p^m-1)+c)).toNat=_
 unfold Pi;have hQ:0<p^m-1:=ac;rw[Nat.mul_comm i,Nat.mul_add_div hQ,Nat.mul_add_mod,Nat.div_eq_of_lt hc,Nat.mod_eq_of_lt hc,Nat.add_zero,hz,AA h2];omega
theorem Zo(h:Bo p m ml pl sl 0 N){k:Nat}(hk:N*(p^m-1)<=k):Ic p m ml pl sl k=k:=by
 unfold Ic CJ Hm;rw[Ao,h.pll,if_neg ac]
theorem CO(h:Bo p m ml pl sl 0 N):AY (N*(p^m-1)) (Ic p m ml pl sl):=by
 refine AY.of_inj (fun k hk=>?_) (fun k hk=>Zo h hk) fun a b ha hb e=>?_
 .obtain⟨i,c,hi,hc,rfl⟩:=Fw hk;obtain⟨z,hz,h1,h2,h3,h4,h5⟩:=DS h hi hc;rw[h5];exact Wl (h.inj.lt i hi) ac
 .obtain⟨i,c,hi,hc,rfl⟩:=Fw ha;obtain⟨j,d,hj,hd,rfl⟩:=Fw hb;obtain⟨z,hz,h1,h2,h3,h4,h5⟩:=DS h hi hc;obtain⟨y,hy,g1,g2,g3,g4,g5⟩:=DS h hj hd;rw[h5,g5]at e;obtain⟨e1,e2⟩:=RC ac ac e;obtain rfl:=h.inj.inj i j hi hj e1;have aA:z=y:=by rw[hz]at hy;exact_mod_cast hy
  subst aA;have e3:Al p m (lw ml) (c+1) z=Al p m (lw ml) (d+1) z:=by rw[A5 (c+1),A5 (d+1)];omega
  have:=h.hF.cancel h.hp h.hm h1 h2 (show c+1<p^m by omega) (show d+1<p^m by omega) e3;omega
theorem Jk(h:Bo p m ml pl sl 0 N):li (N*(p^m-1)) (Ic p m ml pl sl)=Hm p m ml pl sl:=by
 unfold li;have hl:(Hm p m ml pl sl).length=N*(p^m-1):=by unfold Hm;rw[Ao,h.pll]
 refine R4 hl fun k hk=>?_;have hP:=(CO h);unfold Ic CJ;rw[hl,if_pos hk];have:(Hm p m ml pl sl).getD k 0=Pi p m ml pl sl k:=by
  unfold Hm;rw[h.pll,List.getD_eq_getElem?_getD,AQ hk];rfl
 rw[this];obtain⟨z,z1,z2,z3,zi,zp,zf⟩:=UT h hk;rw[zf];omega
theorem Zr(h:Bo p m ml pl sl 0 N)(k:Bo p m ml ql tl 0 N):Ic p m ml (il N (cP pl ql)) (il N (cS p m ml pl sl tl 0))=Ak (Ic p m ml pl sl) (Ic p m ml ql tl):=by
 have hc:Bo p m ml (il N (cP pl ql)) (il N (cS p m ml pl sl tl 0)) 0 N:=by
  have:=XW h k
  rwa[show(0+0)%m=0 from ag]at this
 refine Hb (n:=N*(p^m-1)) (CO hc) ((CO h).comp (CO k)) fun x hx=>?_;obtain⟨i,c,hi,aA,rfl⟩:=Fw hx;obtain⟨z,hz,h1,h2,h3,h4,h5⟩:=DS h hi aA;obtain⟨y,hy,g1,g2,g3,g4,g5⟩:=DS k (h.inj.lt i hi) (show Al p m (lw ml) z (c+1)-1<p^m-1 by omega);obtain⟨x,hx,f1,f2,f3,f4,f5⟩:=DS hc hi aA;show _=Ic p m ml ql tl (Ic p m ml pl sl (i*(p^m-1)+c))
 rw[h5,g5,f5,Mh h hi];rw[CY hi]at hx;unfold cS at hx;rw[hz,hy,AA h2,AA g2]at hx;have aB:x=Al p m (lw ml) y z:=by exact_mod_cast hx.symm
 rw[aB,show Al p m (lw ml) z (c+1)-1+1=Al p m (lw ml) z (c+1) from ac,Bp (by have:=h.hp;omega)]
theorem IA(h:Bo p m ml pl sl 0 N)(hn:∀i,i<N->0<=pl.getD i 0){i:Nat}(hi:i<=N):AW (i*(p^m-1)) (Ic p m ml pl sl)↔∀k,k<i->pl.getD k 0=(k:Int)/\sl.getD k 0=1:=by
 constructor
 .intro hf k hk;obtain⟨z,hz,h1,h2⟩:=h.sc k ac;have hQ:0<p^m-1:=by omega
  obtain⟨z',aA,_,_,h3,h4,h5⟩:=DS h (show k<N by omega) hQ;have aB:z'=z:=by rw[hz]at aA;exact_mod_cast aA.symm
  subst aB;have:=hf (k*(p^m-1)+0) (Wl hk hQ);rw[h5]at this;obtain⟨e1,e2⟩:=RC ac hQ this;rw[Nat.zero_add,Bz h.hp h.hm h2]at e2 h3;have:=hn k ac;unfold BH at e1;exact⟨ac,by rw[hz];omega⟩
 .intro hf k hk;obtain⟨j,c,hj,hc,rfl⟩:=Fw hk;obtain⟨z,hz,h1,h2,h3,h4,h5⟩:=DS h (show j<N by omega) hc;obtain⟨e1,e2⟩:=hf j hj;have aC:z=1:=by rw[e2]at hz;exact_mod_cast hz.symm
  subst aC;rw[h5,Cr h.hp h.hm (show c+1<p^m by omega)];unfold BH;rw[e1];simp
theorem Hu{l k:List Int}{N:Nat}(h1:l.length=N)(h2:k.length=N)(h:∀i,i<N->l.getD i 0=k.getD i 0):l=k:=by
 rw[<-R4 h1 (f:=fun i=>l.getD i 0) fun i hi=>rfl,<-R4 h2 (f:=fun i=>k.getD i 0) fun i hi=>rfl];exact FH h
theorem Zq(h:Bo p m ml pl sl 0 N)(k:Bo p m ml ql tl 0 N)(hn:∀i,i<N->0<=pl.getD i 0)(kn:∀i,i<N->0<=ql.getD i 0)(e:Ic p m ml pl sl=Ic p m ml ql tl):pl=ql/\sl=tl:=by
 have e2:Hm p m ml pl sl=Hm p m ml ql tl:=by rw[<-Jk h,<-Jk k,e]
 have h1:=Tb h;have h2:=Tb k;rw[e2]at h1;have h3:=h1.1.symm.trans h2.1;have h4:=h1.2.symm.trans h2.2;constructor
 .refine Hu h.pll k.pll fun i hi=>?_;have:=congrArg (fun l=>l.getD i 0) h3;simp only[CY hi]at this;have a:=hn i hi;have b:=kn i hi;unfold BH at this;omega
 .refine Hu h.sll k.sll fun i hi=>?_;have:=congrArg (fun l=>l.getD i 0) h4;simp only[CY hi]at this;exact this
end
def tF(p m:Nat)(ml pl sl:List Int)(x:Nat->Int)(j:Nat):Int:=((Al p m (lw ml) (Av (p^m) (sl.getD j 0)) (Av (p^m) (x (BH pl j))):Nat):Int)
section
variable {p m n:Nat} {ml:List Int} {l1 l2 l3:List (List Int)} {pl sl ql tl:List Int}
theorem dt_tF(hp:2<=p)(hi:Gg n (BH pl))(v x:Nat->Int):dt p m ml n (plc (BH pl) (Gl p m ml sl v) n) x=dt p m ml n v (tF p m ml pl sl x):=by
 have h1:1<=p:=ac;rw[OV h1 hi,Hx,Hx];refine GH n fun j hj=>?_;unfold Gl tF;rw[AA (Bc h1 _ _),AA (Bc h1 _ _),A5 (Av (p^m) (sl.getD j 0)),Bp h1]
theorem XQ(v:Nat->Int){x y:Nat->Int}(h:∀j,j<n->Av (p^m) (x j)=Av (p^m) (y j)):dt p m ml n v x=dt p m ml n v y:=by
 rw[Hx,Hx];exact GH n fun j hj=>by rw[h j hj]
theorem N4{R:Nat}(a:Nat->Nat->Int){x y:Nat->Int}(h:∀j,j<n->Av (p^m) (x j)=Av (p^m) (y j)):Cb p m ml n R a x↔Cb p m ml n R a y:=
 ⟨fun k i hi=>by rw[<-XQ (ml:=ml) (a i) h];exact k i hi,fun k i hi=>by rw[XQ (ml:=ml) (a i) h];exact k i hi⟩
theorem GZ(hp:2<=p)(h1:pl.length=n)(h2:sl.length=n)(h3:∀i,i<n->0<=pl.getD i 0)(h4:Gg n (BH pl))(h5:∀i,i<n->∃z:Nat,sl.getD i 0=z/\1<=z/\z<p^m):
  A8 p m ml n l1 l2 pl sl↔∀x,Cb p m ml n l2.length (An l2) x↔Cb p m ml n l1.length (An l1) (tF p m ml pl sl x):=by
 have e:∀x,Cb p m ml n l1.length (fun i=>plc (BH pl) (Gl p m ml sl (An l1 i)) n) x↔Cb p m ml n l1.length (An l1) (tF p m ml pl sl x):=fun x=>by
  constructor
  .intro h i hi;rw[<-dt_tF hp h4];exact h i hi
  .intro h i hi;show dt p m ml n (plc (BH pl) (Gl p m ml sl (An l1 i)) n) x=0
   rw[dt_tF hp h4];exact h i hi
 exact⟨fun h x=>(h.sol x).trans (e x),fun h=>⟨h1,h2,h3,h4,h5,fun x=>(h x).trans (e x).symm⟩⟩
theorem A8.solT(hp:2<=p)(h:A8 p m ml n l1 l2 pl sl)(x:Nat->Int):Cb p m ml n l2.length (An l2) x↔Cb p m ml n l1.length (An l1) (tF p m ml pl sl x):=
 (GZ hp h.pll h.sll h.nn h.inj h.sc).1 h x
structure Hp(p m:Nat)(ml:List Int)(n:Nat):Prop where
 hp:2<=p
 hm:1<=m
 hF:Hr p m (lw ml)
 n1:1<=n
 n2:n<=64
theorem A8.mon(hW:Hp p m ml n)(h:A8 p m ml n l1 l2 pl sl):Bo p m ml pl sl 0 n:=⟨hW.hp,hW.hm,hW.hF,hW.n1,hW.n2,h.pll,h.sll,h.inj,h.sc,by have:=hW.hm;omega⟩
theorem cmp_nn(h:Bo p m ml pl sl 0 n)(kn:∀i,i<n->0<=ql.getD i 0):∀i,i<n->0<=(il n (cP pl ql)).getD i 0:=fun i hi=>by
 rw[CY hi];exact kn _ (h.inj.lt i hi)
theorem mon0(h:Bo p m ml pl sl ((0+0)%m) n):Bo p m ml pl sl 0 n:=by rwa[show(0+0)%m=0 from ag]at h
theorem A8.comp(hW:Hp p m ml n)(h:A8 p m ml n l1 l2 pl sl)(k:A8 p m ml n l2 l3 ql tl):A8 p m ml n l1 l3 (il n (cP pl ql)) (il n (cS p m ml pl sl tl 0)):=by
 have hc:=mon0 (XW (h.mon hW) (k.mon hW));have h1:1<=p:=by have:=hW.hp;omega
 refine(GZ hW.hp hc.pll hc.sll (cmp_nn (h.mon hW) k.nn) hc.inj hc.sc).2 fun x=>?_;rw[k.solT hW.hp,h.solT hW.hp];refine N4 _ fun j hj=>?_;unfold tF;rw[CY hj,Mh (h.mon hW) hj];obtain⟨s,hs,hs1,aB⟩:=h.sc j hj;obtain⟨t,ht,ht1,aA⟩:=k.sc _ (h.inj.lt j hj);unfold cS;rw[hs,ht,AA aB,AA aA];show _=Av (p^m) ((Al p m (lw ml) (Av (p^m) ((Al p m (lw ml) t s:Nat):Int)) _:Nat):Int)
 rw[AA (Bc h1 _ _),AA (Bc h1 _ _),AA (Bc h1 _ _),AA (Bc h1 _ _),A5 t s,Bp h1]
theorem A8.inv(hW:Hp p m ml n)(h:A8 p m ml n l1 l2 pl sl):A8 p m ml n l2 l1 (il n (plc (BH pl) (fun i=>(i:Int)) n)) (il n (plc (BH pl) (ivS p m ml sl 0) n)):=by
 have hM:=h.mon hW;have hv:=W9 hM 0 (by have:=hW.hm;omega);have h1:1<=p:=by have:=hW.hp;omega
 refine(GZ hW.hp hv.pll hv.sll (fun j hj=>?_) hv.inj hv.sc).2 fun x=>?_
 .obtain⟨i,hi,rfl⟩:=h.inj.surj hj;rw[LH hM _ hi];omega
 .rw[h.solT hW.hp];refine N4 _ fun j hj=>?_;unfold tF;rw[LH hM _ hj,LF hM hj];obtain⟨s,hs,aB,aA⟩:=h.sc j hj;obtain⟨k1,k2,k3⟩:=Oz hW.hp hW.hm hW.hF aB aA;unfold ivS;rw[hs,AA aA];show Av (p^m) (x j)=Av (p^m) ((Al p m (lw ml) s (Av (p^m) ((Al p m (lw ml) (Av (p^m) ((Ef p m ml s:Nat):Int)) (Av (p^m) (x j)):Nat):Int)):Nat):Int)
  rw[AA k2,AA (Bc h1 _ _),AA (Bc h1 _ _),<-Bp h1,k3,Cr hW.hp hW.hm (Cc (Nat.pow_pos ac) _)]
theorem Zp(h:Bo p m ml pl sl 0 n):Ic p m ml (il n (plc (BH pl) (fun i=>(i:Int)) n)) (il n (plc (BH pl) (ivS p m ml sl 0) n))=AS (n*(p^m-1)) (Ic p m ml pl sl):=by
 have hv:=W9 h 0 (by have:=h.hm;omega);have h1:1<=p:=by have:=h.hp;omega
 refine(CO h).inv_unique (Hb (n:=n*(p^m-1)) ((CO h).comp (CO hv)) (DW _) fun x hx=>?_);obtain⟨i,c,hi,hc,rfl⟩:=Fw hx;obtain⟨z,hz,g1,g2,g3,g4,g5⟩:=DS h hi hc;obtain⟨y,hy,f1,f2,f3,f4,f5⟩:=DS hv (h.inj.lt i hi) (show Al p m (lw ml) z (c+1)-1<p^m-1 by omega);show Ic p m ml _ _ (Ic p m ml pl sl (i*(p^m-1)+c))=i*(p^m-1)+c
 rw[g5,f5,LF h hi];rw[LH h _ hi]at hy;obtain⟨k1,k2,k3⟩:=Oz h.hp h.hm h.hF g1 g2;unfold ivS at hy;rw[hz,AA g2]at hy;have aA:y=Ef p m ml z:=by
  have:((TQ p m (lw ml) (Ef p m ml z) 0:Nat):Int)=((Ef p m ml z:Nat):Int):=rfl;rw[this]at hy
  exact_mod_cast hy.symm
 rw[aA,show Al p m (lw ml) z (c+1)-1+1=Al p m (lw ml) z (c+1) from ac,<-Bp h1,A5 (Ef p m ml z),k3,Cr h.hp h.hm (show c+1<p^m by omega)];omega
theorem WI(hW:Hp p m ml n):Bo p m ml (LT n) (Mw n) 0 n where
 hp:=hW.hp
 hm:=hW.hm
 hF:=hW.hF
 n1:=hW.n1
 n2:=hW.n2
 pll:=F6 n
 sll:=FY n
 inj:=by
  have e:∀i,i<n->BH (LT n) i=i:=fun i hi=>by
   unfold BH LT;rw[List.getD_eq_getElem?_getD,List.getElem?_map,List.getElem?_range hi];simp
  exact⟨fun i hi=>by rw[e i hi];exact hi,fun i j hi hj h=>by rw[e i hi,e j hj]at h;exact h⟩
 sc:=fun i hi=>⟨1,by unfold Mw;rw[List.getD_eq_getElem?_getD,List.getElem?_replicate,if_pos hi];rfl,Nat.le_refl _,Bw hW.hp hW.hm⟩
 frm:=by have:=hW.hm;omega
theorem OI{i:Nat}(hi:i<n):(LT n).getD i 0=(i:Int):=by
 unfold LT;rw[List.getD_eq_getElem?_getD,List.getElem?_map,List.getElem?_range hi];simp
theorem Wx{i:Nat}(hi:i<n):(Mw n).getD i 0=1:=by
 unfold Mw;rw[List.getD_eq_getElem?_getD,List.getElem?_replicate,if_pos hi];rfl
theorem A8.id(hW:Hp p m ml n)(l:List (List Int)):A8 p m ml n l l (LT n) (Mw n):=by
 have h:=WI hW;refine(GZ hW.hp h.pll h.sll (fun i hi=>by rw[OI hi];omega) h.inj h.sc).2 fun x=>N4 _ fun j hj=>?_;unfold tF BH;have h1:1<=p:=by have:=hW.hp;omega
 rw[OI hj,Wx hj];show Av (p^m) (x j)=Av (p^m) ((Al p m (lw ml) (Av (p^m) ((1:Nat):Int)) (Av (p^m) (x j)):Nat):Int)
 rw[AA (Bw hW.hp hW.hm),Cr hW.hp hW.hm (Cc (Nat.pow_pos ac) _),AA (Cc (Nat.pow_pos ac) _)]
theorem ptF_id(hW:Hp p m ml n):Ic p m ml (LT n) (Mw n)=DA:=by
 have h:=WI hW;exact AW.all (CO h) ((IA h (fun i hi=>by rw[OI hi];omega) (Nat.le_refl _)).2 fun k hk=>⟨OI hk,Wx hk⟩)
def Fp(p m:Nat)(ml:List Int)(n:Nat)(l1 l2:List (List Int))(f:Nat->Nat):Prop:=∃pl sl,A8 p m ml n l1 l2 pl sl/\f=Ic p m ml pl sl
theorem Fp.isP(hW:Hp p m ml n){f:Nat->Nat}(h:Fp p m ml n l1 l2 f):AY (n*(p^m-1)) f:=by
 obtain⟨pl,sl,h,rfl⟩:=h;exact CO (h.mon hW)
theorem Fp.comp(hW:Hp p m ml n){f g:Nat->Nat}(h:Fp p m ml n l1 l2 f)(k:Fp p m ml n l2 l3 g):Fp p m ml n l1 l3 (Ak f g):=by
 obtain⟨pl,sl,h,rfl⟩:=h;obtain⟨ql,tl,k,rfl⟩:=k;exact⟨_,_,h.comp hW k,(Zr (h.mon hW) (k.mon hW)).symm⟩
theorem Fp.inv(hW:Hp p m ml n){f:Nat->Nat}(h:Fp p m ml n l1 l2 f):Fp p m ml n l2 l1 (AS (n*(p^m-1)) f):=by
 obtain⟨pl,sl,h,rfl⟩:=h;exact⟨_,_,h.inv hW,(Zp (h.mon hW)).symm⟩
theorem Fp.grp(hW:Hp p m ml n)(l:List (List Int)):Yn (n*(p^m-1)) (Fp p m ml n l l):=
 ⟨⟨_,_,A8.id hW l,(ptF_id hW).symm⟩,fun f g hf hg=>hf.comp hW hg,fun f hf=>hf.inv hW,fun f hf=>hf.isP hW⟩
theorem Fp.fx(hW:Hp p m ml n){f:Nat->Nat}(h:Fp p m ml n l1 l2 f){i:Nat}(hi:i<n)(hf:AW (i*(p^m-1)) f)(he:f (i*(p^m-1))=i*(p^m-1)):AW ((i+1)*(p^m-1)) f:=by
 obtain⟨pl,sl,h,rfl⟩:=h;have hM:=h.mon hW;refine(IA hM h.nn ac).2 fun k hk=>?_;by_cases e:k=i
 .subst e;obtain⟨z,hz,h1,h2⟩:=h.sc k hi;have hQ:0<p^m-1:=by omega
  obtain⟨z',aA,_,_,h3,h4,h5⟩:=DS hM hi hQ;have aB:z'=z:=by rw[hz]at aA;exact_mod_cast aA.symm
  subst aB;rw[Nat.add_zero]at h5;rw[h5]at he;obtain⟨e1,e2⟩:=RC (Q:=p^m-1) (i:=BH pl k) (j:=k) (c:=Al p m (lw ml) z' (0+1)-1) (d:=0) ac hQ (by rw[he,Nat.add_zero]);rw[Nat.zero_add,Bz hM.hp hM.hm h2]at e2 h3;have:=h.nn k hi;unfold BH at e1;exact⟨ac,by rw[hz];omega⟩
 .exact(IA hM h.nn (Nat.le_of_lt hi)).1 hf k ac
end
theorem Rh{n N Q:Nat}(hn:n=N*Q){H:(Nat->Nat)->Prop}(hG:Yn n H)(aF:∀i f,i<N->H f->AW (i*Q) f->f (i*Q)=i*Q->AW ((i+1)*Q) f){S:List (Nat->Nat)}(hS:∀s∈S,H s)
  (hc:∀i f,i<N->H f->AW (i*Q) f->∃s,Gn S s/\AW (i*Q) s/\s (i*Q)=f (i*Q)) (f:Nat->Nat):Gn S f↔H f:=by
 refine⟨fun h=>h.sub hG hS,?_⟩;have hSP:∀s∈S,AY n s:=fun s hs=>hG.isP s (hS s hs);have aC:∀d i f,i+d=N->H f->AW (i*Q) f->Gn S f:=fun d=>by
  induction d with
  | zero=>
   intro i f hi hf hx;obtain rfl:i=N:=ac;rw[<-hn]at hx;rw[AW.all (hG.isP f hf) hx];exact .one
  | succ d ih=>
   intro i f hi hf hx;obtain⟨s,hs,aD,aE⟩:=hc i f ac hf hx;have aB:=hs.sub hG hS;have aA:=hG.isP s aB;have h1:H (Ak f (AS n s)):=hG.mul _ _ hf (hG.inv _ aB);have h2:AW (i*Q) (Ak f (AS n s)):=hx.comp (aD.inv aA);have h3:Ak f (AS n s) (i*Q)=i*Q:=by
    show AS n s (f (i*Q))=i*Q
    rw[<-aE];exact aA.inv_l _
   have h4:=ih (i+1) _ ac h1 (aF i _ ac h1 h2 h3);have h5:Ak (Ak f (AS n s)) s=f:=aA.cancel;rw[<-h5];exact h4.mul hs
 intro hf;exact aC N 0 f ac hf fun i hi=>by rw[Nat.zero_mul]at hi;omega
structure Ek(p m:Nat)(ml:List Int)(N:Nat)(l:List (List Int)):Prop where
 co:BK p m ml N l 0
 hd:N*(p^m-1)<=64
 sm:Vt N (p^m)
 hq:p^m<=16
section
variable {p m N:Nat} {ml:List Int} {l:List (List Int)}
theorem Ek.two(h:Ek p m ml N l):Hp p m ml N/\Vy p m ml N l l/\Hh p m ml/\l.length<=256:=by
 obtain⟨p1,m1,N1,g1,g2,g3,aA,hI,n1,aC,aB,q2⟩:=IU h.co;obtain rfl:p=p1:=ac;obtain rfl:m=m1:=ac;obtain rfl:N=N1:=ac;exact⟨⟨aA.p2,aA.m1,hI,n1,aC⟩,⟨aA.p2,aA.m1,hI,q2,q2⟩,aA,aB⟩
theorem Ek.n7(h:Ek p m ml N l):N<=7:=by
 have:=h.two.1.n2;apply Classical.byContradiction;intro h7;rcases h.sm.1 (.inr ac) with h|h <;> omega
theorem Z0{q:Nat}{g:Cf}(h:EW N q g):Yy q N g.tl g.sl where
 len:=by rw[AM,BJ]
 rng:=fun i hi=>by
  rw[AM]at hi;rw[CW g ac];have:=h.ij;have:=h.j;split <;> omega
 inj:=fun i j hi hj e=>by
  rw[AM]at hi;rw[CW g ac,CW g ac]at e;have:=h.ij;split at e <;> split at e <;> omega
 sc:=fun i hi=>by
  rw[AM]at hi;have:=h.a1;have:=h.a;exact⟨if i<g.i then 1 else g.a,FI g ac,by split <;> omega,by split <;> omega⟩
def Pf(g:Cf)(pl sl:List Int):Prop:=pl.take (g.i+1)=g.tl/\sl.take (g.i+1)=g.sl
theorem Qq{g:Cf}{pl sl:List Int}(h1:g.i<pl.length)(h2:g.i<sl.length):Pf g pl sl↔(∀k,k<g.i->pl.getD k 0=(k:Int)/\sl.getD k 0=1)/\pl.getD g.i 0=(g.j:Int)/\sl.getD g.i 0=(g.a:Int):=by
 constructor
 .rintro⟨e1,e2⟩;have k1:∀k,k<=g.i->pl.getD k 0=g.tl.getD k 0:=fun k hk=>by rw[<-e1];exact(Cp ac).symm
  have k2:∀k,k<=g.i->sl.getD k 0=g.sl.getD k 0:=fun k hk=>by rw[<-e2];exact(Cp ac).symm
  refine⟨fun k hk=>⟨?_,?_⟩,?_,?_⟩
  .rw[k1 k ac,CW g ac,if_pos hk]
  .rw[k2 k ac,FI g ac,if_pos hk];rfl
  .rw[k1 _ (Nat.le_refl _),CW g (Nat.le_refl _),if_neg ac]
  .rw[k2 _ (Nat.le_refl _),FI g (Nat.le_refl _),if_neg ac]
 .rintro⟨h,e1,e2⟩;constructor
  .have:=Iw (pl:=pl) (tl:=g.tl) (by rw[AM];omega) fun i hi=>by
    rw[AM]at hi;rw[CW g ac];by_cases e:i<g.i
    .rw[if_pos e];exact(h i e).1
    .obtain rfl:i=g.i:=by omega
     rw[if_neg e];exact e1
   rwa[AM]at this
  .have:=Iw (pl:=sl) (tl:=g.sl) (by rw[BJ];omega) fun i hi=>by
    rw[BJ]at hi;rw[FI g ac];by_cases e:i<g.i
    .rw[if_pos e];exact(h i e).2
    .obtain rfl:i=g.i:=by omega
     rw[if_neg e];exact e2
   rwa[BJ]at this
theorem Ek.srch(h:Ek p m ml N l){g:Cf}(hg:EW N (p^m) g):
  ((gF ⟨p,m,ml,N,l⟩ g).2=18/\A8 p m ml N l l (gM ⟨p,m,ml,N,l⟩ g).perm (gM ⟨p,m,ml,N,l⟩ g).scale/\Pf g (gM ⟨p,m,ml,N,l⟩ g).perm (gM ⟨p,m,ml,N,l⟩ g).scale/\
   ∀pl sl,A8 p m ml N l l pl sl->Pf g pl sl->NO N (Cs (gF ⟨p,m,ml,N,l⟩ g).1.2) pl sl/\(gM ⟨p,m,ml,N,l⟩ g).perm=(Cs (gF ⟨p,m,ml,N,l⟩ g).1.2).tl/\(gM ⟨p,m,ml,N,l⟩ g).scale=(Cs (gF ⟨p,m,ml,N,l⟩ g).1.2).sc)∨
  ((gF ⟨p,m,ml,N,l⟩ g).2=0/\∀pl sl,A8 p m ml N l l pl sl->¬Pf g pl sl):=by
 obtain⟨hP,hW,hsh,k256⟩:=h.two;have hn7:=h.n7;have hv:=Z0 hg;have hB:Pj (N*(p^m-1)) N<=65536:=by
  refine Uw N ac (p^m) (by have:=h.hq;omega) ?_;have:=h.sm.2 (by have:=hP.n1;omega) ac N ag;simpa using this
 have hlt:g.tl.length<=N:=by rw[AM];have:=hg.ij;have:=hg.j;omega
 have aB:=ST hW (N-g.tl.length) g.tl g.sl (0, []) hv ac (by have:=WA (N*(p^m-1)) (show N-g.tl.length<=N by omega);show 0+_<=_;omega);have hS:gF ⟨p,m,ml,N,l⟩ g=MC p m ml l l N (N-g.tl.length) (0, []) g.tl g.sl:=by
  unfold gF GQ;simp only[Int.toNat_natCast]
 rw[<-hS]at aB;have hM:(gF ⟨p,m,ml,N,l⟩ g).2=18->gM ⟨p,m,ml,N,l⟩ g=⟨(Cs (gF ⟨p,m,ml,N,l⟩ g).1.2).tl,(Cs (gF ⟨p,m,ml,N,l⟩ g).1.2).sc,0⟩:=fun e=>by
  unfold gM Jv;rw[if_neg ag,if_pos e]
 have aA:∀pl sl,A8 p m ml N l l pl sl->Pf g pl sl->(gF ⟨p,m,ml,N,l⟩ g).2=18/\NO N (Cs (gF ⟨p,m,ml,N,l⟩ g).1.2) pl sl:=fun pl sl hT hG=>
  aB.fnd pl sl hT (by rw[AM];exact hG.1) (by rw[AM];exact hG.2)
 rcases aB.res with h0|⟨h18,hfd⟩
 .right;refine⟨h0,fun pl sl hT hG=>?_⟩;have:=(aA pl sl hT hG).1;rw[h0]at this;cases this
 .left;refine⟨h18,?_,?_,fun pl sl hT hG=>⟨(aA pl sl hT hG).2,by rw[hM h18],by rw[hM h18]⟩⟩
  .rw[hM h18];exact hfd.takes hP.hp
  .rw[hM h18];have h1:=hfd.t;have h2:=hfd.s;rw[AM]at h1 h2;exact⟨h1,h2⟩
theorem TM{c:AZ}{g:Cf}:((gF c g).2=18->gE c g=0)/\((gF c g).2=0->gE c g=11):=by
 unfold gE J7;constructor
 .intro e;rw[if_neg ag,if_pos e]
 .intro e;rw[if_neg ag,if_neg (by rw[e];decide),if_pos e]
theorem Ek.gE01(h:Ek p m ml N l){g:Cf}(hg:EW N (p^m) g):gE ⟨p,m,ml,N,l⟩ g=0∨gE ⟨p,m,ml,N,l⟩ g=11:=by
 rcases h.srch hg with⟨e,_⟩|⟨e,_⟩
 .exact .inl (TM.1 e)
 .exact .inr (TM.2 e)
theorem Ek.hit(h:Ek p m ml N l){g:Cf}(hg:EW N (p^m) g)(he:gE ⟨p,m,ml,N,l⟩ g=0):A8 p m ml N l l (gM ⟨p,m,ml,N,l⟩ g).perm (gM ⟨p,m,ml,N,l⟩ g).scale/\Pf g (gM ⟨p,m,ml,N,l⟩ g).perm (gM ⟨p,m,ml,N,l⟩ g).scale:=by
 rcases h.srch hg with⟨e,h1,h2,_⟩|⟨e,_⟩
 .exact⟨h1,h2⟩
 .rw[TM.2 e]at he;cases he
theorem Ek.some(h:Ek p m ml N l){g:Cf}(hg:EW N (p^m) g){pl sl:List Int}(hT:A8 p m ml N l l pl sl)(hG:Pf g pl sl):gE ⟨p,m,ml,N,l⟩ g=0:=by
 rcases h.srch hg with⟨e,_⟩|⟨e,h1⟩
 .exact TM.1 e
 .exact absurd hG (h1 pl sl hT)
theorem gA_mem{i j c:Nat}{g:Cf}:g∈gA i j c↔g.i=i/\g.j=j/\1<=g.a/\g.a<=c:=by
 unfold gA;rw[List.mem_map];constructor
 .rintro⟨a,ha,rfl⟩;rw[List.mem_range]at ha;exact⟨rfl,rfl,by show 1<=a+1;omega,by show a+1<=c;omega⟩
 .rintro⟨h1,h2,h3,h4⟩;refine⟨g.a-1,by rw[List.mem_range];omega,?_⟩;obtain⟨gi,gj,ga⟩:=g;dsimp only at h1 h2 h3 h4 ⊢;subst h1 h2;rw[show ga-1+1=ga from ac]
theorem LZ{n q:Nat}{g:Cf}:g∈Dw n q↔EW n q g:=by
 refine⟨IL,fun h=>?_⟩;unfold Dw gI;refine List.mem_flatMap.2 ⟨g.i,by rw[List.mem_range];have:=h.ij;have:=h.j;omega,?_⟩;unfold gJ;refine List.mem_flatMap.2 ⟨g.j-g.i,by rw[List.mem_range];have:=h.ij;have:=h.j;omega,?_⟩;exact gA_mem.2 ⟨rfl,by have:=h.ij;omega,h.a1,by have:=h.a;omega⟩
theorem TK(q i:Nat):∀k,(gJ q i k).length=k*(q-1)
 | 0=>by unfold gJ;simp
 | k+1=>by rw[OL,List.length_append,R7,TK q i k,Nat.succ_mul]
theorem TL(n q:Nat):∀k,(gI n q k).length<=k*(n*(q-1))
 | 0=>by unfold gI;simp
 | k+1=>by
  rw[OM,List.length_append,TK,Nat.succ_mul];have:=TL n q k;have:=Nat.mul_le_mul_right (q-1) (show n-k<=n by omega);omega
theorem Ek.gol_len(h:Ek p m ml N l):(Dw N (p^m)).length<=448:=by
 have h1:=TL N (p^m) N;have h2:=Nat.mul_le_mul h.n7 h.hd;unfold Dw;omega
theorem IM:AC ⟨p,m,ml,N,l⟩=Dw N (p^m):=by
 unfold AC;simp only[Int.toNat_natCast]
theorem Ek.len(h:Ek p m ml N l):(Da ⟨p,m,ml,N,l⟩ (AC ⟨p,m,ml,N,l⟩)).length<=448:=by
 unfold Da;rw[List.length_map,IM];exact Nat.le_trans (List.length_filter_le _ _) h.gol_len
theorem S4{c:AZ}{gs:List Cf}{M:CZ}:M∈Da c gs↔∃g∈gs,gE c g=0/\gM c g=M:=by
 unfold Da;simp only[List.mem_map,List.mem_filter,beq_iff_eq];exact⟨fun ⟨g,⟨h1,h2⟩,h3⟩=>⟨g,h1,h2,h3⟩,fun ⟨g,h1,h2,h3⟩=>⟨g,⟨h1,h2⟩,h3⟩⟩
theorem Ek.tak(h:Ek p m ml N l){M:CZ}(hM:M∈Da ⟨p,m,ml,N,l⟩ (AC ⟨p,m,ml,N,l⟩)):A8 p m ml N l l M.perm M.scale:=by
 obtain⟨g,hg,he,rfl⟩:=S4.1 hM;rw[IM]at hg;exact(h.hit (LZ.1 hg) he).1
theorem A8.mv{l1 l2:List (List Int)}{M:CZ}(h:A8 p m ml N l1 l2 M.perm M.scale):MU N M:=by
 refine⟨h.pll,h.sll,?_⟩;have:=h.rng N
 rwa[List.take_of_length_le (by rw[h.pll];exact Nat.le_refl _)]at this
theorem Ek.mv(h:Ek p m ml N l):∀M∈Da ⟨p,m,ml,N,l⟩ (AC ⟨p,m,ml,N,l⟩),MU (⟨p,m,ml,N,l⟩:AZ).n.toNat M:=fun M hM=>(h.tak hM).mv
theorem Ek.rnB(h:Ek p m ml N l):Oa ⟨p,m,ml,N,l⟩ (AC ⟨p,m,ml,N,l⟩)=none:=by
 unfold Go.Proofs.YtehieobniamagaaGreat.Oa;rw[List.find?_eq_none];intro g hg;rw[IM]at hg;rcases h.gE01 (LZ.1 hg) with e|e <;> rw[e] <;> decide
theorem Ek.opE(h:Ek p m ml N l):I8 ⟨p,m,ml,N,l⟩ 0=0:=by
 unfold Go.Proofs.YtehieobniamagaaGreat.I8;simp only[Int.toNat_natCast];rw[if_neg ag,if_neg (by have:=h.hd;omega)]
theorem Ek.grE(h:Ek p m ml N l):J6 ⟨p,m,ml,N,l⟩ 0=0:=by
 unfold Go.Proofs.YtehieobniamagaaGreat.J6;rw[if_neg (by rw[h.opE];simp),PG h.rnB]
def Xt(p m:Nat)(ml:List Int)(N:Nat)(l:List (List Int)):List (Nat->Nat):=(Da ⟨p,m,ml,N,l⟩ (AC ⟨p,m,ml,N,l⟩)).map fun M=>Ic p m ml M.perm M.scale
theorem Ek.fnd_isP(h:Ek p m ml N l):∀s∈Xt p m ml N l,AY (N*(p^m-1)) s:=fun s hs=>by
 obtain⟨M,hM,rfl⟩:=List.mem_map.1 hs;exact CO ((h.tak hM).mon h.two.1)
theorem Ek.genL(h:Ek p m ml N l):Ey p m ml (Da ⟨p,m,ml,N,l⟩ (AC ⟨p,m,ml,N,l⟩))=(Xt p m ml N l).map (li (N*(p^m-1))):=by
 unfold Go.Proofs.YtehieobniamagaaGreat.Ey Xt;rw[List.map_map];refine List.map_congr_left fun M hM=>?_;exact(Jk ((h.tak hM).mon h.two.1)).symm
theorem YE(hW:Hp p m ml N){l1 l2:List (List Int)}{pl sl:List Int}(hT:A8 p m ml N l1 l2 pl sl){i:Nat}(hi:i<N)(hx:AW (i*(p^m-1)) (Ic p m ml pl sl)):∃g,EW N (p^m) g/\g.i=i/\Pf g pl sl/\Ic p m ml pl sl (i*(p^m-1))=g.j*(p^m-1)+(g.a-1):=by
 have hM:=hT.mon hW;have aA:=(IA hM hT.nn (Nat.le_of_lt hi)).1 hx;obtain⟨z,hz,z1,z2⟩:=hT.sc i hi;have hQ:0<p^m-1:=ac;obtain⟨z',aB,_,_,h3,h4,h5⟩:=DS hM hi hQ;have aD:z'=z:=by rw[hz]at aB;exact_mod_cast aB.symm
 subst aD;rw[Nat.add_zero,Nat.zero_add,Bz hM.hp hM.hm z2]at h5;have hnn:=hT.nn i hi;have aC:=hT.inj.lt i hi;have aE:i<=BH pl i:=by
  apply Classical.byContradiction;intro hlt2;have e:=(aA (BH pl i) ac).1;have e2:BH pl (BH pl i)=BH pl i:=by
   show(pl.getD (BH pl i) 0).toNat=_
   rw[e];simp
  have:=hT.inj.inj _ _ aC hi e2;omega
 refine⟨⟨i,BH pl i,z'⟩,⟨aE,aC,z1,z2⟩,rfl,(Qq (by rw[hT.pll];exact hi) (by rw[hT.sll];exact hi)).2 ⟨aA,?_,hz⟩,h5⟩;show pl.getD i 0=((BH pl i:Nat):Int)
 unfold BH;omega
theorem gol_pt(hW:Hp p m ml N){l1 l2:List (List Int)}{pl sl:List Int}(hT:A8 p m ml N l1 l2 pl sl){g:Cf}(hg:EW N (p^m) g)(hG:Pf g pl sl):AW (g.i*(p^m-1)) (Ic p m ml pl sl)/\Ic p m ml pl sl (g.i*(p^m-1))=g.j*(p^m-1)+(g.a-1):=by
 have hi:g.i<N:=by have:=hg.ij;have:=hg.j;omega
 have hM:=hT.mon hW;obtain⟨h1,h2,h3⟩:=(Qq (by rw[hT.pll];exact hi) (by rw[hT.sll];exact hi)).1 hG;refine⟨(IA hM hT.nn (Nat.le_of_lt hi)).2 h1,?_⟩;have hQ:0<p^m-1:=by have:=hg.a1;have:=hg.a;omega
 obtain⟨z,hz,z1,z2,k3,k4,k5⟩:=DS hM hi hQ;have aA:z=g.a:=by rw[h3]at hz;exact_mod_cast hz.symm
 subst aA;rw[Nat.add_zero,Nat.zero_add,Bz hM.hp hM.hm z2]at k5;rw[k5];unfold BH;rw[h2];simp
theorem Ek.gen(h:Ek p m ml N l)(f:Nat->Nat):Gn (Xt p m ml N l) f↔Fp p m ml N l l f:=by
 obtain⟨hP,hW,hsh,k256⟩:=h.two;refine Rh (n:=N*(p^m-1)) (N:=N) (Q:=p^m-1) rfl (Fp.grp hP l) (fun i f hi hf hx he=>hf.fx hP hi hx he) (fun s hs=>?_) (fun i f hi hf hx=>?_) f
 .obtain⟨M,hM,rfl⟩:=List.mem_map.1 hs;exact⟨_,_,h.tak hM,rfl⟩
 .obtain⟨pl,sl,hT,rfl⟩:=hf;obtain⟨g,hg,rfl,hG,aA⟩:=YE hP hT hi hx;have he:=h.some hg hT hG;obtain⟨aB,aC⟩:=h.hit hg he;obtain⟨k1,k2⟩:=gol_pt hP aB hg aC;exact⟨_,.of (List.mem_map.2 ⟨_,S4.2 ⟨g,by rw[IM];exact LZ.2 hg,he,rfl⟩,rfl⟩),k1,by rw[k2,aA]⟩
theorem Ek.d1(h:Ek p m ml N l):1<=N*(p^m-1):=by
 have hP:=h.two.1;have:=Bw hP.hp hP.hm;exact Nat.mul_pos (by have:=hP.n1;omega) ac
theorem bldS_li{n:Nat}{S:List (Nat->Nat)}(h1:1<=n)(h2:n<=64)(hS:∀s∈S,AY n s):Dd n (S.map (li n))=(⟨n,B3 n S n⟩,0):=by
 unfold Dd;rw[TI h1 h2 hS,if_neg ae,Ev hS];rfl
noncomputable def DL(p m:Nat)(ml:List Int)(N:Nat)(l:List (List Int)):List Lv:=B3 (N*(p^m-1)) (Xt p m ml N l) (N*(p^m-1))
theorem Ek.bld(h:Ek p m ml N l):Mm ⟨p,m,ml,N,l⟩=(⟨((N*(p^m-1):Nat):Int),DL p m ml N l⟩,0):=by
 unfold Mm Ep;simp only[Int.toNat_natCast];rw[h.genL,bldS_li h.d1 h.hd h.fnd_isP];rfl
end
theorem Xo(n:Nat)(S:List (Nat->Nat)):(AE (B3 n S n)).length<=n*n:=by
 rw[DH,FK,List.length_map];unfold Ca;have aA:∀bs:List Nat,(bs.flatMap fun b=>(A7 S b n).map (CH n S b)).length<=bs.length*n:=by
  intro bs
  induction bs with
  | nil=>simp
  | cons b bs ih=>
   rw[List.flatMap_cons,List.length_append,List.length_map,List.length_cons,Nat.add_mul,Nat.one_mul];have:=Fz S b n;omega
 refine Nat.le_trans (aA _) (Nat.mul_le_mul_right n ?_);exact zbF
theorem Mj{n:Nat}{S:List (Nat->Nat)}(h1:1<=n)(h2:n<=64)(hS:∀s∈S,AY n s):Bb n (B3 n S n)=0:=by
 rw[DH];exact Ub h1 h2 hS (Fa n S)
theorem N6{n:Nat}{S:List (Nat->Nat)}{f:Nat->Nat}(h1:1<=n)(h2:n<=64)(hS:∀s∈S,AY n s)(hP:AY n f):Em n (B3 n S n) (li n f)=0:=by
 unfold Em;rw[Mj h1 h2 hS,if_neg ae,G6 h1 h2 hP,if_neg ae,BB,if_neg ag]
theorem TH{n:Nat}{S:List (Nat->Nat)}{f:Nat->Nat}(h1:1<=n)(h2:n<=64)(hS:∀s∈S,AY n s)(hP:AY n f):J5 n (B3 n S n) (li n f)=true↔Gn S f:=
 Xl hS hP rfl (N6 h1 h2 hS hP)
section
variable {p m N:Nat} {ml:List Int} {l l1 l2:List (List Int)}
theorem Ek.has(h:Ek p m ml N l){pl sl:List Int}(hM:Bo p m ml pl sl 0 N)(hn:∀i,i<N->0<=pl.getD i 0):Em ((N*(p^m-1):Nat):Int) (DL p m ml N l) (Hm p m ml pl sl)=0/\(J5 ((N*(p^m-1):Nat):Int) (DL p m ml N l) (Hm p m ml pl sl)=true↔A8 p m ml N l l pl sl):=by
 have hP:=h.two.1;rw[<-Jk hM];refine⟨N6 h.d1 h.hd h.fnd_isP (CO hM),(TH h.d1 h.hd h.fnd_isP (CO hM)).trans ((h.gen _).trans ⟨?_,fun hT=>⟨_,_,hT,rfl⟩⟩)⟩;rintro⟨ql,tl,hT,e⟩;obtain⟨rfl,rfl⟩:=Zq hM (hT.mon hP) hn hT.nn e;exact hT
end
def Smp(c:AZ)(k:Nat):Prop:=BK c.p c.m c.ml c.n c.rows 0->Ep c<=64->Ep c<=k/\Vt c.n (c.p.toNat^c.m.toNat)
open Classical in
noncomputable def smB (c:AZ) (k:Nat):Bool:=decide (Qw 0 c.rows 80=true/\Smp c k)
theorem SV{c:AZ}{k:Nat}:smB c k=true↔Qw 0 c.rows 80=true/\Smp c k:=by
 unfold smB;simp only[decide_eq_true_eq]
theorem Ss{P:Program}{f:FuncId}{aA:Array Value}{w:World}{R:Ending->World->Prop}(h:Calls P f aA w R):∃e w',R e w':=by
 obtain⟨e,w',_,h1,_⟩:=h [];exact⟨e,w',h1⟩
theorem codO_ex{w:World}{c:AZ}{m1 v1:Value}(hc:c.at w m1 v1):∃e0,BK c.p c.m c.ml c.n c.rows e0/\∀w',Ex w w'->Calls Tryz.prog 37 #[c.arg m1 v1] w' fun r w''=>r= .returned (.int .i64 e0)/\Ex w' w'':=by
 obtain⟨_,_,⟨e0,_,h0⟩,_⟩:=Ss (Ia w c.p c.m c.ml m1 hc.m c.n c.rows v1 hc.g);refine⟨e0,h0,fun w' hx=>(Ia w' c.p c.m c.ml m1 (hc.ex hx).m c.n c.rows v1 (hc.ex hx).g).mono ?_⟩;rintro r w''⟨⟨e,rfl,h⟩,h2⟩;obtain rfl:=Ch h h0;exact⟨rfl,h2⟩
theorem zcu{P:Prop}(h:P:=by
 go_wp2_with fail
 go_ret;exact⟨Aq HR.o,HX.o.trans (aB.o.trans aC.o)⟩):P:=h
theorem Oe(w:World)(c:AZ)(m1 v1:Value)(hc:c.at w m1 v1)(k:Nat)(hk:k<=64):
  Calls Tryz.prog 21 #[c.arg m1 v1,(k:Int)] w fun r w'=>r= .returned (.bool (smB c k))/\Ex w w':=by
 obtain⟨c0,c1,c2,c3,c4⟩:=Du w c m1 v1;obtain⟨HX,aI,aR,aG,aH,HS⟩:=To (AI w (c.obj m1 v1)) (fun (w':World) (h:Ex w w')=>Rw w' c.p c.m m1 c.n c.rows v1 (hc.ex h).g 80 ac ac) (fun (w':World) (h:Ex w w')=>Ia w' c.p c.m c.ml m1 (hc.ex h).m c.n c.rows v1 (hc.ex h).g) (fun (w':World) (h:Ex w w')=>Ru w' c m1 v1 (hc.ex h)) (fun w'=>DR c.p c.m m1 w') (show ∀b:Bool,(b=true↔Qw 0 c.rows 80=true/\(BK c.p c.m c.ml c.n c.rows 0->Ep c<=64->Ep c<=k/\Vt c.n (c.p.toNat^c.m.toNat)))->b=smB c k from fun b h=>Bool.eq_iff_iff.2 (h.trans SV.symm));obtain⟨SB,hS⟩:∃S,smB c k=S:=⟨_,rfl⟩;rw[hS]at HS ⊢;have aD:=Aa (show Ep c=c.n.toNat*(c.p.toNat^c.m.toNat-1) from rfl);obtain⟨DG,aP⟩:∃D,Ep c=D:=⟨_,rfl⟩;rw[aP]at HS aD;obtain⟨x1,y1,rfl,-,z1,-⟩:=hc.g.open;obtain⟨x3,y3,rfl,-,z3,-⟩:=hc.m.open;obtain⟨p,m,ml,n,rows⟩:=c;obtain⟨B,hB⟩:=nA w.heap.size;rw[hB]at c0 c1 c2 c3 c4;dsimp only[AZ.arg,AZ.obj]at *;have hk2:(k:Int)<=64:=bu;clear hc hS z1 z3 aP;obtain⟨FW,aO⟩:∃b,Qw 0 rows 80=b:=⟨_,rfl⟩;rw[aO]at aI HS;clear aO;go_enter Tryz.func21,Tryz.ntmps21
 go_upto_region 1 with fail
 try simp only[hB]
 clear hB;generalize w.alloc (.cells #[p,m,.slice x3 ml.length y3,n,.slice x1 rows.length y1] 39)=w1 at *;have aE:=Aa (fun w' (h:Ex w1 w')=>(⟨h.cell c0,h.cell c1,h.cell c2,h.cell c3,h.cell c4⟩:w'.cell? (B,0)=some (.int .i64 p)/\w'.cell? (B,1)=some (.int .i64 m)/\w'.cell? (B,2)=some (.slice x3 ml.length y3)/\w'.cell? (B,3)=some (.int .i64 n)/\w'.cell? (B,4)=some (.slice x1 rows.length y1)));go_wp2_with fail
 refine(aI.o w1 HX.o).mono ?_;rintro e w2⟨rfl,aM⟩;have aF:=Aa aM;clear c0 c1 c2 c3 c4 aM
 cases FW with
 | false=>
  have HR:=Aa (HS.o false ⟨fun h=>bj,fun h=>(by cases h.1)⟩);go_wp2_with fail
  go_ret;exact⟨Aq HR.o,HX.o.trans aF.o⟩
 | true=>
  replace HS:=Aa (fun (b:Bool) (h:b=true↔(BK p m ml n rows 0->DG<=64->DG<=k/\Vt n (p.toNat^m.toNat)))=>HS.o b (h.trans ⟨fun h=>⟨rfl,h⟩,fun h=>h.2⟩));obtain⟨c0,c1,c2,c3,c4⟩:=aE.o w2 aF.o;go_wp2_with fail
  refine(aR.o w2 (HX.o.trans aF.o)).mono ?_;rintro e w3⟨⟨E,rfl,ho⟩,aL⟩;have aB:=Aa (aF.o.trans aL);have HO:=Aa ho;clear c0 c1 c2 c3 c4 aL ho;by_cases h0:E=0
  rotate_left
  .have hb:(E !=0)=true:=by simpa using h0
   have HR:=Aa (HS.o true ⟨fun _ h=>absurd (Ch HO.o h) h0,fun _=>rfl⟩);clear h0;go_wp2_with fail
   go_ret;exact⟨Aq HR.o,HX.o.trans aB.o⟩
  subst h0;obtain⟨pn,mn,N,rfl,rfl,rfl,hf,hI,aW,aN,hr,aT⟩:=IU HO.o;have aQ:=Aa HO.o;have DX:=P4 hf;rw[DX]at aH aG;rw[Int.toNat_natCast]at aG;simp only[Int.toNat_natCast]at aD HS;have aV:2<=pn^mn:=Nat.le_trans hf.p2 (Nat.le_self_pow (by have:=hf.m1;omega) pn);have aU:=hf.q;obtain⟨q,hq⟩:=nA (pn^mn);rw[hq]at aH aG aD HS aV aU;have hDb:DG<=20000:=by rw[aD.o];exact Nat.le_trans (Nat.mul_le_mul aN (show q-1<=255 by omega)) ac
  have k1:(N:Int)*((q:Int)-1)=(DG:Int):=by rw[aD.o,Int.natCast_mul,Int.natCast_sub ac];rfl
  have k2:(N:Int)<=64:=ac;have k3:(q:Int)<=256:=ac;have k4:(1:Int)<=(q:Int):=ac;have W1:=Aa (show IntKind.i64.wrap ((q:Int)-1)=(q:Int)-1 from IntWalk.i64_in _ ac);have W2:=Aa (show IntKind.i64.wrap ((N:Int)*((q:Int)-1))=(DG:Int) from by rw[k1];exact IntWalk.i64_in _ ac);have aA:=Aa (fun (w':World) (h:Ex w3 w')=>aE.o w' (aB.o.trans h));have G0:Ex w3 w3.drew:=(Ex.refl w3).drew;clear hf hI DX hq HO aT hr aR aI aW aN;go_wp2_with fail
  go_upto_region 5 with fail
  go_region_held3 (fun w'=>w'.cell? (B,0)=some (.int .i64 pn)/\w'.cell? (B,1)=some (.int .i64 mn)/\w'.cell? (B,2)=some (.slice x3 ml.length y3)/\w'.cell? (B,3)=some (.int .i64 N)/\w'.cell? (B,4)=some (.slice x1 rows.length y1))
   (first|with_reducible exact aA.o _ X5|with_reducible exact aA.o _ G0)
   (first|(go_at_call 14;(with_reducible refine(aH.o _).mono ?_);rintro e w5⟨rfl,aK⟩;have X5:=G0.trans aK;have aC:=Aa X5;clear aK))
  all_goals
   simp only[W1.o,W2.o];by_cases h1:64<DG
   .have j1:(64:Int)<(DG:Int):=by omega
    have j2:decide ((64:Int)<(DG:Int))=true:=decide_eq_true j1;have HR:=Aa (HS.o true ⟨fun _ _ h=>absurd h ac,fun _=>rfl⟩);clear h1;exact zcu
   .have j1:¬(64:Int)<(DG:Int):=by omega
    have j2:decide ((64:Int)<(DG:Int))=false:=decide_eq_false j1;have aS:=Aa (show DG<=64 from ac);clear h1;by_cases h2:DG<=k
    .have j3:(DG:Int)<=(k:Int):=by omega
     have j4:decide ((DG:Int)<=(k:Int))=true:=decide_eq_true j3;have H2:=Aa h2;have aY:=Aa (aG.o _ (HX.o.trans (aB.o.trans aC.o)));obtain⟨c0,c1,c2,c3,c4⟩:=aA.o _ aC.o;clear h2;go_wp2_with fail
     refine aY.o.mono ?_;rintro e w9⟨⟨b,rfl,hb⟩,aJ⟩;have HR:=Aa (HS.o b ⟨fun h _ _=>⟨H2.o,hb.1 h⟩,fun h=>hb.2 (h aQ.o aS.o).2⟩);have aX:=Aa aJ;clear hb aJ c0 c1 c2 c3 c4;go_wp2_with fail
     go_ret;exact⟨Aq HR.o,HX.o.trans (aB.o.trans (aC.o.trans aX.o))⟩
    .have j3:¬(DG:Int)<=(k:Int):=by omega
     have j4:decide ((DG:Int)<=(k:Int))=false:=decide_eq_false j3;have HR:=Aa (HS.o false ⟨fun h=>bj,fun h=>absurd (h aQ.o aS.o).1 h2⟩);clear h2;exact zcu
section
variable {p m N k:Nat} {ml pl sl:List Int} {l l1 l2:List (List Int)}
theorem VO(ho:BK p m ml N l 0)(hs:Smp ⟨p,m,ml,N,l⟩ k)(hk:k<=12)(hd:N*(p^m-1)<=64):Ek p m ml N l:=by
 have aA:Ep ⟨p,m,ml,N,l⟩=N*(p^m-1):=by unfold Ep;simp only[Int.toNat_natCast]
 obtain⟨h1,h2⟩:=hs ho (by rw[aA];exact hd);rw[aA]at h1;simp only[Int.toNat_natCast]at h2;obtain⟨_,_,N1,_,_,g3,_,_,n1,_⟩:=IU ho;obtain rfl:N=N1:=by omega
 refine⟨ho,hd,h2,?_⟩;have:=Nat.mul_le_mul_right (p^m-1) n1;omega
theorem Vn(h:BK p m ml N l 0):∃(piv:List Nat) (a':Nat->Nat->Int),Hk p m ml N l.length (An l) a' piv/\Au N piv.length a'=l:=by
 rcases h with⟨_,h⟩|⟨_,h1,h2⟩|⟨h1,h2,h3⟩
 .cases h
 .exact absurd h2.symm h1
 .rcases h3 with⟨h3,h4⟩|⟨_,pn,mn,N',piv,a',e1,e2,e3,_,hm,hel,he⟩
  .exact absurd h4.symm h3
  .obtain rfl:p=pn:=by omega
   obtain rfl:m=mn:=ac;obtain rfl:N=N':=ac;refine⟨piv,a',hel,?_⟩;split at he
   .assumption
   .cases he
theorem Rg(hW:Hp p m ml N)(ho:BK p m ml N l2 0)(hT:A8 p m ml N l1 l2 pl sl){piv:List Nat}{a':Nat->Nat->Int}(aA:Hk p m ml N (E3 p m ml pl sl 0 N l1 l1.length).length (An (E3 p m ml pl sl 0 N l1 l1.length)) a' piv):Au N piv.length a'=l2:=by
 obtain⟨piv2,a2,h2,e2⟩:=Vn ho;rw[<-e2];refine(Ma hW.hp hW.hm (fun x=>?_) aA h2).1;exact(SU hW.hp hW.hm x).trans (hT.sol x).symm
theorem UA(h:Ek p m ml N l)(hM:Bo p m ml pl sl 0 N)(hn:∀i,i<N->0<=pl.getD i 0){piv:List Nat}{a':Nat->Nat->Int}(aA:Hk p m ml N (E3 p m ml pl sl 0 N l l.length).length (An (E3 p m ml pl sl 0 N l l.length)) a' piv):Zb ⟨p,m,ml,N,l⟩ ⟨p,m,ml,N,Au N piv.length a'⟩=true↔A8 p m ml N l l pl sl:=by
 rw[V2];constructor
 .intro e;simp only[AZ.mk.injEq,true_and]at e;exact Pv hM hn aA e.symm
 .intro hT;rw[Rg h.two.1 h.co hT aA]
theorem Ek.grO(h:Ek p m ml N l){r:Ending}{w':World}(hg:GrO ⟨p,m,ml,N,l⟩ r w'):∃lv,r= .returned (.tuple #[.agg #[((N*(p^m-1):Nat):Int),lv],(0:Int)])/\EH w' lv (DL p m ml N l):=by
 obtain⟨e0,ho,hr⟩:=hg;obtain rfl:=Ch ho h.co;rcases hr with⟨h1,_⟩|⟨_,v,h3,h4⟩
 .exact absurd h.grE h1
 .have hb:Dd (Ep ⟨p,m,ml,N,l⟩:Int) (Go.Proofs.YtehieobniamagaaGreat.Ey (⟨p,m,ml,N,l⟩:AZ).p.toNat (⟨p,m,ml,N,l⟩:AZ).m.toNat (⟨p,m,ml,N,l⟩:AZ).ml (Da ⟨p,m,ml,N,l⟩ (AC ⟨p,m,ml,N,l⟩)))=(⟨((N*(p^m-1):Nat):Int),DL p m ml N l⟩,0):=h.bld;rw[hb]at h3 h4;exact⟨v,h3,h4⟩
theorem Ek.bnd(h:Ek p m ml N l):(Da ⟨p,m,ml,N,l⟩ (AC ⟨p,m,ml,N,l⟩)).length<=1000/\∀M∈Da ⟨p,m,ml,N,l⟩ (AC ⟨p,m,ml,N,l⟩),MU (⟨p,m,ml,N,l⟩:AZ).n.toNat M:=⟨by have:=h.len;omega,h.mv⟩
theorem L5(n:Nat)(hn:n<=30)(S:List (Nat->Nat)):(AE (B3 n S n)).length<=1000:=by
 have:=Xo n S;have:=Nat.mul_le_mul hn hn;omega
theorem zby{P:Prop}(h:P:=by
 have aA:Ep ⟨p,m,ml,N,l⟩=N*(p^m-1):=by unfold Ep;simp only[Int.toNat_natCast]
 have:=(hs ho (by rw[aA];exact hd)).1;rw[aA]at this;omega):P:=h
theorem ZF(ho:BK p m ml N l 0)(hm:CL p m ml N pl sl 0=0)(hs:Smp ⟨p,m,ml,N,l⟩ k)(hk:k<=12)(hd:N*(p^m-1)<=64):
  (Da ⟨p,m,ml,N,l⟩ (AC ⟨p,m,ml,N,l⟩)).length<=1000/\(∀M∈Da ⟨p,m,ml,N,l⟩ (AC ⟨p,m,ml,N,l⟩),MU N M)/\
  (∀r w',GrO ⟨p,m,ml,N,l⟩ r w'->∃lv,r= .returned (.tuple #[.agg #[((N*(p^m-1):Nat):Int),lv],(0:Int)])/\EH w' lv (DL p m ml N l))/\
  (Wm p m ml pl sl 0=0/\ptL p m ml pl sl 0=Hm p m ml pl sl/\CL p m ml N pl sl 0=0)/\
  ((AE (DL p m ml N l)).length<=1000/\Em ((N*(p^m-1):Nat):Int) (DL p m ml N l) (Hm p m ml pl sl)=0/\(J5 ((N*(p^m-1):Nat):Int) (DL p m ml N l) (Hm p m ml pl sl)=true↔A8 p m ml N l l pl sl))/\
  ∀(piv:List Nat) (a':Nat->Nat->Int) (HB:Bool),Hk p m ml N (E3 p m ml pl sl 0 N l l.length).length (An (E3 p m ml pl sl 0 N l l.length)) a' piv->(HB=true↔A8 p m ml N l l pl sl)->Zb ⟨p,m,ml,N,l⟩ ⟨p,m,ml,N,Au N piv.length a'⟩=HB:=by
 have h:=VO ho hs hk hd;obtain⟨pn,mn,N',fn,e1,e2,e3,e4,hf,hc,hM⟩:=IG hm;obtain rfl:p=pn:=ac;obtain rfl:m=mn:=ac;obtain rfl:N=N':=ac;obtain rfl:fn=0:=ac;obtain⟨_,_,_,_,_,q6,_⟩:=Lr hm;have hn:∀i,i<N->0<=pl.getD i 0:=fun i hi=>(Dy q6 (i:=i) (by have:=hM.pll;omega)).1;have hdk:N*(p^m-1)<=12:=by
  exact zby
 obtain⟨g1,g2⟩:=h.has hM hn;have hE:Wm p m ml pl sl 0=0:=by
  unfold Wm;rw[hM.pll,if_neg (by rw[hm];simp),if_neg ag,if_neg (by simp only[Int.toNat_natCast];omega)]
 refine⟨h.bnd.1,fun M hM=>h.bnd.2 M hM,fun r w' hg=>h.grO hg,⟨hE,?_,hm⟩,⟨L5 _ ac _,g1,g2⟩,fun piv a' HB aB aC=>?_⟩
 .unfold ptL;rw[if_pos hE];simp only[Int.toNat_natCast]
 .exact Bool.eq_iff_iff.2 ((UA h hM hn aB).trans aC.symm)
end
theorem us_one{w:World}{us:List Value}{R:List (List Int)}(h:Sl w (.slice none 0 0) 0 1 []->True)(hl:us.length=R.length)(hu:∀(i:Nat) (r:List Int) (u:Value),R[i]?=some r->us[i]?=some u->Aj w u r):∀u∈us,u.oneCell'=true:=fun u hm=>by
 obtain⟨i,hi,e⟩:=List.getElem_of_mem hm;obtain⟨_,_,rfl,_⟩:=(hu i _ u (List.getElem?_eq_getElem ac) au).open;rfl
theorem UH(w:World)(d:Int)(L:List Lv)(lv:Value)(hL:EH w lv L)(hg:(AE L).length<=1000):
  Calls Tryz.prog 49 #[.agg #[d,lv]] w fun r w'=>∃a c,r= .returned (.slice a (AE L).length c)/\B9 w' (.slice a (AE L).length c) (AE L)/\Ex w w':=by
 obtain⟨d0,d1,e0⟩:=BW w d lv;obtain⟨za,zc,rfl,z1,z2,z3⟩:=(hL.ex e0).open3;unfold maxLen at z2;have Z3:=Aa z3;clear z3 hL;go_enter Tryz.func49,Tryz.ntmps49
 go_wp2_with fail
 obtain⟨q,hq⟩:=nA w.heap.size;rw[hq]at d0 d1
 try simp only[hq]
 clear hq;generalize w.alloc (.cells #[d,.slice za L.length zc] 43)=w1 at *;have aO:=Aa e0;have D1:=Aa d1;clear e0 d0 d1
 go_loopw [3,4] (fun gv' k' wr=>∃(k:Nat) (vals:List Value),k<=L.length/\k'= .int .i64 k/\Hia (Gv w1 wr gv' (AE (L.take k)) vals)) (fun _ k' _=>L.length-(intOf k').toNat)
 case atStart=>exact⟨0, [],ac,rfl,Aa (Gv.nil w1)⟩
 case round=>
  obtain⟨k,vals,hk,rfl,aA⟩:=hrel;have hml:=IN L k;obtain⟨ga,gc,rfl⟩:=Ad aA.o.own;have d1:=aA.o.ex.cell D1.o;by_cases hkl:k<L.length
  .obtain⟨l,hl⟩:∃l,L[k]?=some l:=⟨_,List.getElem?_eq_getElem hkl⟩;obtain⟨zb,zo,rfl,aE⟩:=Z3.o ac;obtain⟨u,r,c0,c1,c2,hu,hr⟩:=aE k l hl;have c2:=aA.o.ex.cell c2;obtain⟨ra,rc,rfl,_,_,_⟩:=hr.open;obtain⟨us,aF,aI,aC⟩:=hr.vals;have i1:(0:Int)<=(k:Int):=by omega
   have i2:(k:Int)<(L.length:Int):=ac;have aL:=Aa aC;have aM:=Aa (us_one (fun _=>trivial) aI aC);have aD:=IN L (k+1);have aH:=Aa (L6 hl);rw[aH.o,List.length_append]at aD;have HB:=Aa aA.o.ex.size;have aG:=Aa aA.o.own;have aK:=Aa (aF.ex aA.o.ex);clear aE hl hu hr aF aC c0 c1;go_wp2_with (at_builtin;refine A9 _ rfl _ _ 37 rfl w1.heap.size 22 (.slice none 0 0) 1 24 Tryz.underlying37 BG rfl ae (.slice ga (AE (L.take k)).length gc) (AE (L.take k)).length vals rfl aG.o (.slice ra l.reps.length rc) l.reps.length us rfl aK.o aM.o ai ac HB.o ?_;intro v' w' aB hg hb;have aN:=Aa (aA.o.app (R:=l.reps) (us:=us) (fun i r u a b=>aL.o i r u a b) aB (Ex.grown aA.o.ex aG.o (Nat.le_refl _) hg));obtain⟨oa',oc',rfl⟩:=Ad aB;clear aB hg hb)
   go_roundw
   case rel=>exact⟨k+1,_,ac,by go_num,by rw[aH.o];exact aN⟩
   case measure=>simp[intOf];omega
  .obtain rfl:k=L.length:=by omega
   have aJ:AE (L.take L.length)=AE L:=by rw[List.take_length]
   rw[aJ]at aA ⊢;go_wp2_with fail
   go_ret;exact⟨ga,gc,rfl,aA.o.msl,aO.o.trans aA.o.ex⟩
end Go.Proofs.YtehieobniamagaaGreat
