/- Walk of automorphism.member. -/
import Derived.Test.YtehieobniamagaaGreatZm28
namespace Go.Proofs.YtehieobniamagaaGreat
open Go.RowKit
set_option linter.all false
set_option maxRecDepth 100000
set_option maxHeartbeats 8000000
def Hj(p m:Nat)(N:Nat)(P:List Int):List Int:=il N (FD (p^m-1) P)
def Hi(p m:Nat)(N:Nat)(P:List Int):List Int:=il N (Gc (p^m-1) P)
open Classical in
noncomputable def Ga (p m:Nat) (ml:List Int) (N:Nat) (rows:List (List Int)) (P:List Int):Bool:=
 decide (Up p m ml N P=true/\CW p m ml N (Hj p m N P) (Hi p m N P) 0=0/\∃(piv:List Nat) (a':Nat->Nat->Int),
  Hs p m ml N (Fd p m ml (Hj p m N P) (Hi p m N P) 0 N rows rows.length).length (Ao (Fd p m ml (Hj p m N P) (Hi p m N P) 0 N rows rows.length)) a' piv/\rows=Aw N piv.length a')
theorem Pr{p m:Nat}{ml:List Int}{N:Nat}{rows:List (List Int)}{P:List Int}:Ga p m ml N rows P=true↔(Up p m ml N P=true/\CW p m ml N (Hj p m N P) (Hi p m N P) 0=0/\∃(piv:List Nat) (a':Nat->Nat->Int),
  Hs p m ml N (Fd p m ml (Hj p m N P) (Hi p m N P) 0 N rows rows.length).length (Ao (Fd p m ml (Hj p m N P) (Hi p m N P) 0 N rows rows.length)) a' piv/\rows=Aw N piv.length a'):=by
 unfold Ga;simp only[decide_eq_true_eq]
theorem du{P:Prop}(h:P:=by simp[results,Tryz.results73,go_sem]):P:=h
theorem Rj(w:World){b p m x0 N:Nat}{ml:List Int}{rows:List (List Int)}(hg:Bf w b p m ml x0)(bK:1<=N)(hN:N<=64)(hd:N*(p^m-1)<=64)(ho:BL p m ml N rows 0)(m1 v1:Value)(hc:(⟨p,m,ml,N,rows⟩:AR).at w m1 v1)(P:List Int)(pv:Value)(hp:Aj w pv P)(aF:P.length=N*(p^m-1))(aW:∀x∈P,0<=x/\x<(P.length:Int)):
  Calls Tryz.prog 73 #[.pointer (some ⟨b,0,none⟩),(⟨p,m,ml,N,rows⟩:AR).arg m1 v1,pv] w fun r w'=>r= .returned (.bool (Ga p m ml N rows P))/\Ex w w':=by
 obtain⟨c0,c1,c2,c3,c4⟩:=CH w ⟨p,m,ml,N,rows⟩ m1 v1;have aE:=AH w ((⟨p,m,ml,N,rows⟩:AR).obj m1 v1);have HG:=Aa (hg.ex aE);have aI:=Aa (hc.ex aE);have HP:=Aa (hp.ex aE);have aN:=Aa (PS (w.alloc ((⟨p,m,ml,N,rows⟩:AR).obj m1 v1)) HG.o N bK hN P pv HP.o hd aF aW);obtain⟨x1,y1,bJ,-,z1,-⟩:=hc.g.open;obtain⟨x3,y3,bI,-,z3,-⟩:=hc.m.open;obtain⟨x5,y5,bH,-,z5,-⟩:=hp.open;unfold maxLen at z1 z3 z5;have aU:=Aa (fun (w5:World) (h5:Ex (w.alloc ((⟨p,m,ml,N,rows⟩:AR).obj m1 v1)) w5) (u r:Value) (hu:Aj w5 u (Hj p m N P)) (hr:Aj w5 r (Hi p m N P))=>Nb w5 p m ml m1 (aI.o.ex h5).m N rows v1 (aI.o.ex h5).g _ _ u r hu hr 0);have aM:=Aa (show ∀q:Bool,(q=true↔(Up p m ml N P=true/\CW p m ml N (Hj p m N P) (Hi p m N P) 0=0/\∃(piv:List Nat) (a':Nat->Nat->Int),Hs p m ml N (Fd p m ml (Hj p m N P) (Hi p m N P) 0 N rows rows.length).length (Ao (Fd p m ml (Hj p m N P) (Hi p m N P) 0 N rows rows.length)) a' piv/\rows=Aw N piv.length a'))->q=Ga p m ml N rows P from fun q h=>
  Bool.eq_iff_iff.2 (h.trans Pr.symm))
 obtain⟨MB,bA⟩:∃x,Ga p m ml N rows P=x:=⟨_,rfl⟩;rw[bA]at aM ⊢;obtain⟨B,hB⟩:=nA w.heap.size;rw[hB]at c0 c1 c2 c3 c4;have aH:=Aa aE;unfold AR.arg;unfold AR.obj at aH aN aU aI HG HP c0 c1 c2 c3 c4;dsimp only at aH aN aU aI HG HP c0 c1 c2 c3 c4 ⊢;subst bJ bI bH;have HO:=Aa ho;have HRW:=Aa hc.g;clear hc aE hg hp ho bA aF aW hd;go_enter Tryz.func73,Tryz.ntmps73
 go_upto_region 1 with fail
 try simp only[hB]
 clear hB;generalize w.alloc _=w1 at *;have bE:=Aa aN.o;go_wp2_with fail
 refine bE.o.mono ?_;rintro e w2⟨u,v,rfl,hu,hv,-,aA⟩;have HU:=Aa (show Aj w2 u (Hj p m N P) from hu);have HV:=Aa (show Aj w2 v (Hi p m N P) from hv);obtain⟨ua,uc,rfl,-,-,-⟩:=hu.open;obtain⟨va,vc,rfl,-,-,-⟩:=hv.open;simp only[Am]at HU HV ⊢;obtain⟨FB,aQ⟩:∃x,Up p m ml N P=x:=⟨_,rfl⟩;have bD:=Aa aQ;rw[aQ];replace c0:=aA.cell c0;replace c1:=aA.cell c1;replace c2:=aA.cell c2;replace c3:=aA.cell c3;replace c4:=aA.cell c4;obtain⟨t0,t1,t2,et⟩:=Bc w2 (.slice ua N uc) (.slice va N vc) 0;obtain⟨TB,aP⟩:∃x,w2.heap.size=x:=⟨_,rfl⟩;rw[aP]at t0 t1 t2;have aL:=Aa (aA.trans et);replace c0:=et.cell c0;replace c1:=et.cell c1;replace c2:=et.cell c2;replace c3:=et.cell c3;replace c4:=et.cell c4;have bN:=Aa (HU.o.ex et);have bM:=Aa (HV.o.ex et);clear hu hv aA et aN bE aQ HU HV;go_upto_region 2 with fail
 try simp only[aP]
 clear aP;generalize w2.alloc (.cells #[.slice ua N uc,.slice va N vc,.int .i64 0] 26)=w3 at *;have bG:=Aa (aU.o w3 aL.o _ _ bN.o bM.o);by_cases hf:FB=true
 rotate_left
 .obtain rfl:FB=false:=by cases FB with
   | true=>exact absurd rfl hf
   | false=>rfl
  have HM:=Aa (aM.o false ⟨fun h=>bi,fun h=>(by have:=h.1.symm.trans bD.o;cases this)⟩);clear hf;go_wp2_with fail
  exact bodyPost_ret (v:= .bool false) du rfl ⟨by rw[HM.o],aH.o.trans aL.o⟩
 .subst hf;by_cases hm0:CW p m ml N (Hj p m N P) (Hi p m N P) 0=0
  .have aB:=Aa hm0;clear hm0;go_wp2_with fail
   refine bG.o.mono ?_;rintro e w4⟨aG,aD⟩;obtain⟨piv,a',rv,v',rfl,aY,aV,aJ⟩:=Xa (fr:=0) (show ZK p m ml N rows _ _ ((0:Nat):Int) _ _ _ from aG) HO.o aB.o;have bF:=Aa aY;obtain⟨M,hM⟩:∃x,Aw N piv.length a'=x:=⟨_,rfl⟩;rw[hM]at aJ;have bC:=Aa hM;obtain⟨d0,d1,d2,d3,d4⟩:=CH w4 ⟨p,m,ml,N,M⟩ v' rv;have aC:=AH w4 ((⟨p,m,ml,N,M⟩:AR).obj v' rv);have aT:=Aa (aJ.ex aC);obtain⟨a6,b6,rfl,-,-,-⟩:=aV.open;obtain⟨a7,b7,rfl,-,-,-⟩:=aJ.open;unfold AR.obj at d0 d1 d2 d3 d4 aC aT;dsimp only at d0 d1 d2 d3 d4 aC aT;obtain⟨DB,aS⟩:∃x,w4.heap.size=x:=⟨_,rfl⟩;rw[aS]at d0 d1 d2 d3 d4;have aK:=Aa (aL.o.trans (aD.trans aC));replace c4:=aC.cell (aD.cell c4);clear aG aY hM aV aJ aC aD c0 c1 c2 c3 t0 t1 t2;go_upto_region 5 with fail
   try simp only[aS]
   clear aS;generalize w4.alloc (.cells #[.int .i64 p,.int .i64 m,.slice a6 ml.length b6,.int .i64 N,.slice a7 M.length b7] 39)=w5 at *;have HQ:=Aa (DX w5 rows M _ _ (aI.o.ex aK.o).g aT.o);have HM:=Aa (aM.o (decide (rows=M)) ⟨fun h=>⟨bD.o,aB.o,piv,a',bF.o,by rw[bC.o];exact of_decide_eq_true h⟩,fun h=>by
    obtain⟨-,-,piv2,a2,h1,h2⟩:=h;obtain⟨_,_,_,_,g1,g2,g3,g4,-,-,aZ⟩:=KE aB.o;obtain rfl:p=_:=Int.ofNat.inj g1;obtain rfl:m=_:=Int.ofNat.inj g2;have:=(K9 aZ.hp aZ.hm (fun x=>Iff.rfl) h1 bF.o).1;exact decide_eq_true (by rw[h2,this,bC.o])⟩)
   clear d0 d1 d2 d3;obtain⟨DD,bB⟩:∃x,decide (rows=M)=x:=⟨_,rfl⟩;rw[bB]at HQ HM;clear bB;go_wp2_with fail
   refine HQ.o.mono ?_;rintro e w6⟨rfl,n6,rfl⟩;have bL:=Aa (aK.o.drewN n6);clear c4 d4;go_wp2_with fail
   exact bodyPost_ret (v:= .bool DD) du rfl ⟨by rw[HM.o],aH.o.trans bL.o⟩
  .have aB:=Aa hm0;have HM:=Aa (aM.o false ⟨fun h=>bi,fun h=>absurd h.2.1 aB.o⟩);obtain⟨EE,aR⟩:∃x,CW p m ml N (Hj p m N P) (Hi p m N P) 0=x:=⟨_,rfl⟩;have bO:=Aa aR;have hb:(EE==0)=false:=by
    have h1:=aB.o;rw[aR]at h1;simpa using h1
   clear hm0 aR;go_wp2_with fail
   refine bG.o.mono ?_;rintro e w4⟨⟨e1,aX,aG⟩,aD⟩;obtain rfl:=Cc aX HO.o;have aO:e= .returned (.tuple #[.agg #[.int .i64 0,.int .i64 0,.slice none 0 0,.int .i64 0,.slice none 0 0],.int .i64 EE]):=by
    rcases aG with⟨h,_⟩|⟨_,_,h⟩|⟨_,h,_⟩
    .exact absurd rfl h
    .rw[bO.o]at h;exact h
    .exact absurd h aB.o
   subst aO;have aK:=Aa (aL.o.trans (aD.trans (AH w4 (.cells #[.int .i64 0,.int .i64 0,.slice none 0 0,.int .i64 0,.slice none 0 0] 39))));clear aG aX aD c0 c1 c2 c3 c4 t0 t1 t2;go_wp2_with fail
   exact bodyPost_ret (v:= .bool false) du rfl ⟨by rw[HM.o],aH.o.trans aK.o⟩
theorem Zm(w:World)(pt:Int)(u v:Value)(YB QB i q:Nat)(hi:i<=64)(hq:1<=q)(hq2:q<=1048576)(h0:w.cell? ⟨YB,0,none⟩=some (.int .i64 i))(h1:w.cell? ⟨QB,0,none⟩=some (.int .i64 q)):
  Calls Tryz.prog 131 #[.agg #[.int .i64 pt,u,v],.pointer (some ⟨YB,0,none⟩),.pointer (some ⟨QB,0,none⟩)] w fun r w'=>r= .returned (.bool (pt==(i:Int)*((q:Int)-1)))/\Ex w w':=by
 have b0:(w.alloc (.cells #[.int .i64 pt,u,v] 90)).cell? ⟨w.heap.size,0,none⟩=some (.int .i64 pt):=ag;have HX:=Aa (AH w (.cells #[.int .i64 pt,u,v] 90));replace h0:=HX.o.cell h0;replace h1:=HX.o.cell h1;have a1:(0:Int)<=(i:Int):=ac;have a2:(i:Int)<=64:=ac;have a3:(1:Int)<=(q:Int):=ac;have a4:(q:Int)<=1048576:=ac;have h2:wrap64 ((i:Int)*((q:Int)-1))=(i:Int)*((q:Int)-1):=by
  have m1:(0:Int)<=(i:Int)*((q:Int)-1):=Int.mul_nonneg a1 ac;have m2:(i:Int)*((q:Int)-1)<=64*1048576:=Int.mul_le_mul a2 ac ac ac;unfold wrap64;omega
 go_enter Tryz.func131,Tryz.ntmps131
 obtain⟨B,hB⟩:=nA w.heap.size;rw[hB]at b0;go_upto_region 1 with fail
 try simp only[hB]
 clear hB;generalize w.alloc (.cells #[.int .i64 pt,u,v] 90)=w1 at *;exact zdd
theorem Me(w:World)(YB QB i0 q:Nat)(hi:i0<=64)(hq:1<=q)(aC:q<=1048576)(h0:w.cell? ⟨YB,0,none⟩=some (.int .i64 i0))(h1:w.cell? ⟨QB,0,none⟩=some (.int .i64 q))(L:List Lv)(v:Value)(hL:Er w v L)(pr:Nat->Bool)
  (hp:∀(j:Nat) (l:Lv),L[j]?=some l->pr j=(l.pt==(i0:Int)*((q:Int)-1))):
  Calls Tryz.prog 130 #[v,.func (.func 131) #[] #[.pointer (some ⟨YB,0,none⟩),.pointer (some ⟨QB,0,none⟩)]] w fun r w'=>r= .returned (.int .i64 (Cu pr L.length))/\Ex w w':=by
 obtain⟨a,cap,rfl,s1,s2,s3⟩:=hL.open3;have S3:=Aa s3;have HP:=Aa hp;have aE:=Aa (fun (w1:World) (h:Ex w w1) (pt:Int) (u v:Value)=>Zm w1 pt u v YB QB i0 q hi hq aC (h.cell h0) (h.cell h1));obtain⟨n,hn⟩:=nA L.length;have HL:=Aa hn;rw[hn]at S3 s1 ⊢;unfold maxLen at s2;clear s3 hp hn hL h0 h1;go_enter Tryz.func130,Tryz.ntmps130
 go_wp2_with fail
 go_loopg [5,8] n (fun gg _ i' wr=>∃i:Nat,i<=n/\n-i<=gg/\i'= .int .i64 i/\Hia (Ex w wr)/\Hia (∀j,j<i->pr j=false))
 case atStart=>exact⟨0,ac,ac,rfl,Aa (Ex.refl _),Aa (fun j hj=>ac)⟩
 case round=>
  obtain⟨i,hi,hg,rfl,aA,aB⟩:=hrel;by_cases hlt:i<n
  .obtain⟨l,hl⟩:∃l,L[i]?=some l:=⟨_,List.getElem?_eq_getElem a8⟩;obtain⟨bb,o,rfl,hc⟩:=S3.o ac;obtain⟨u,r,c0,c1,c2,-,-⟩:=hc i l hl;replace c0:=aA.o.cell c0;replace c1:=aA.o.cell c1;replace c2:=aA.o.cell c2;have aD:=Aa (HP.o i l hl);have HC:=Aa (aE.o wr aA.o l.pt u r);have i1:(0:Int)<=(i:Int):=by omega
   have hlt':(i:Int)<(n:Int):=ac;rw[<-aD.o]at HC;clear hc hl
   cases hb:pr i with
   | true=>
    rw[hb]at HC;have HF:=Aa (Cx hlt hb aB.o);clear hb;go_wp2_with (go_at_call 131;refine HC.o.mono ?_;rintro e w'⟨rfl,hx⟩;have HX:=Aa (aA.o.trans hx);clear hx)
    exact zdj
   | false=>
    rw[hb]at HC;have HA:=Aa (show ∀j,j<i+1->pr j=false from fun j hj=>by
     by_cases e:j=i
     .subst e;exact hb
     .exact aB.o j ac)
    clear hb;go_wp2_with (go_at_call 131;refine HC.o.mono ?_;rintro e w'⟨rfl,hx⟩;have HX:=Aa (aA.o.trans hx);clear hx)
    exact zbZ
  .obtain rfl:i=n:=by omega
   have HF:=Aa (BT aB.o);go_wp2_with fail
   go_ret;exact⟨Af HF.o.symm,aA.o⟩
def Ph(Ms:List CN):List (List Int):=Ms.map (·.perm)
def PosO(c:AR)(r:Ending)(w':World):Prop:=∃e0:Int,BL c.p c.m c.ml c.n c.rows e0/\
 ((JF c e0≠0/\r= .returned (.tuple #[.slice none 0 0,.int .i64 (JF c e0)]))∨(JF c e0=0/\OrbR c.n (Ph (CZ c (AD c))) r w'))
theorem L8(bK:RQ)(w:World)(c:AR)(m1 v1:Value)(hc:c.at w m1 v1)(aB:(CZ c (AD c)).length<=1000):
  Calls Tryz.prog 24 #[c.arg m1 v1] w fun r w'=>PosO c r w'/\Ex w w':=by
 obtain⟨c0,c1,c2,c3,c4⟩:=CH w c m1 v1;have aL:=AH w (c.obj m1 v1);obtain⟨x1,y1,aO,-,z1,-⟩:=hc.g.open;obtain⟨x3,y3,aN,-,z3,-⟩:=hc.m.open;unfold maxLen at z1 z3;obtain⟨B,hB⟩:=nA w.heap.size;have aC:=Aa (IM (w.alloc (c.obj m1 v1)) c m1 v1 (hc.ex aL));rw[hB]at c0 c1 c2 c3 c4;have aG:=Aa aL;obtain⟨C,hC⟩:∃C:AR,C=c:=⟨_,rfl⟩;have cD:=Aa hC;have bF:=Aa (show ∀r w',PosO C r w'->PosO c r w' from fun r w' h=>by rw[<-hC];exact h);rw[<-hC]at aB;obtain⟨cp,cm,bO,cn,bN⟩:=c;unfold AR.arg at aC ⊢;unfold AR.obj at aG aC c0 c1 c2 c3 c4;dsimp only at aG aC c0 c1 c2 c3 c4 aO aN ⊢;rw[aO,aN]at aG aC c0 c1 c2 c3 c4 ⊢;rw[<-hC]at aC;have aU:=Aa aB;clear hc aL hC aO aN aB;go_enter Tryz.func24,Tryz.ntmps24
 go_upto_region 1 with fail
 try simp only[hB]
 clear hB;generalize w.alloc (.cells #[.int .i64 cp,.int .i64 cm,.slice x3 bO.length y3,.int .i64 cn,.slice x1 bN.length y1] 39)=w1 at *;go_wp2_with fail
 refine aC.o.mono ?_;rintro e w2⟨aE,aD⟩;have bE:=Aa aD;obtain⟨e0,bB,ho⟩:=QP aE;have bJ:=Aa bB;replace c3:=aD.cell c3;obtain⟨GE,aS⟩:∃x,JF C e0=x:=⟨_,rfl⟩;rw[aS]at ho;have aX:=Aa aS;clear aE aD bB aC aS c0 c1 c2 c4;rcases ho with⟨h0,rfl⟩|⟨h0,hbn,pn,mn,N,b,x0,mv,nv,hp,hm,hn,hN1,hN64,hD,rfl,hg,hx1,aD,hms,hns⟩
 .have hb:(GE !=0)=true:=by simpa using h0
  have H0:=Aa h0;clear h0;go_wp2_with fail
  exact bodyPost_ret (v:= .tuple #[.slice none 0 0,.int .i64 GE]) (by simp[results,Tryz.results24,go_sem]) rfl ⟨bF.o _ _ ⟨e0,bJ.o,.inl ⟨by rw[aX.o];exact H0.o,by rw[aX.o]⟩⟩,aG.o.trans bE.o⟩
 .subst h0;have bM:cn=(N:Int):=by have:=cD.o;rw[this]at hn;exact hn
  subst bM;have bV:=Aa (show C.n=(N:Int) from hn);have bX:=Aa hms;obtain⟨ma,mc,rfl,-,zm,m3⟩:=hms.open;obtain⟨na,nc,rfl,-,-,-⟩:=hns.open;unfold maxLen at zm;obtain⟨Ms,aR⟩:∃x,CZ C (AD C)=x:=⟨_,rfl⟩;have bW:=Aa aR;rw[aR]at bX m3 aU ⊢;obtain⟨LM,aF⟩:∃x,Ms.length=x:=⟨_,rfl⟩;have bZ:=Aa aF;have aV:=Aa (show LM<=1000 from by rw[<-aF];exact aU.o);rw[aF]at m3 ⊢;have M3:=Aa m3;obtain⟨GL,aJ⟩:∃g,Ph Ms=g:=⟨_,rfl⟩;have cC:=Aa (show ∀k (M:CN),Ms[k]?=some M->GL.take (k+1)=GL.take k ++ [M.perm] from fun k M h=>by
   rw[<-aJ];exact Es (by unfold Ph;rw[List.getElem?_map,h];rfl))
  have bI:=Aa (show GL.length=LM from by rw[<-aJ,<-aF];unfold Ph;rw[List.length_map]);have cB:=Aa aJ;have bG:=Aa (GX.nil w2);clear hbn hp hm hn hN1 hN64 hD hg hx1 aD hms hns aR aF m3 aJ aU;go_wp2_with fail
  go_loopw [8,23] (fun gv k' wr=>∃(k:Nat) (vals:List Value),k<=LM/\k'= .int .i64 k/\Hia (GX w2 wr gv (GL.take k) vals)) (fun _ k' _=>LM-(intOf k').toNat)
  case atStart=>exact⟨0, [],ac,rfl,bG⟩
  case round=>
   clear bG;obtain⟨k,vals,hk,rfl,hr⟩:=hrel;obtain⟨ga,gc,rfl⟩:=Ae hr.o.own;by_cases hkl:k<LM
   .obtain⟨mb,mo,rfl,bA⟩:=M3.o ac;obtain⟨M,hM⟩:∃M,Ms[k]?=some M:=⟨_,List.getElem?_eq_getElem (by rw[bZ.o];exact hkl)⟩;obtain⟨u,r,d0,d1,d2,hu,aZ⟩:=bA k M hM;obtain⟨ua,uc,rfl,-,-,-⟩:=hu.open;obtain⟨ra,rc,rfl,-,-,-⟩:=aZ.open;replace d0:=hr.o.ex.cell d0;replace d1:=hr.o.ex.cell d1;replace d2:=hr.o.ex.cell d2;rw[show mo+3*k=mo+k*3 from ac]at d0;rw[show mo+(3*k+1)=mo+k*3+1 from ac]at d1;rw[show mo+(3*k+2)=mo+k*3+2 from ac]at d2;have HU:=Aa hu;obtain⟨LP,bD⟩:∃x,M.perm.length=x:=⟨_,rfl⟩;obtain⟨LS,bC⟩:∃x,M.scale.length=x:=⟨_,rfl⟩;rw[bD]at d0 HU;rw[bC]at d1;have HR:=Aa hr.o;have bY:=Aa hM;have i1:(0:Int)<=(k:Int):=by omega
    have i2:(k:Int)<(LM:Int):=ac;have aW:=Aa hkl;obtain⟨TB,aP⟩:∃x,wr.heap.size=x:=⟨_,rfl⟩;obtain⟨t0,t1,t2,et⟩:=Bc wr (.slice ua LP uc) (.slice ra LS rc) M.frob;rw[aP]at t0 t1 t2;have aK:=Aa et;clear hr hM hu aZ bA hkl bD bC et;go_upto_region 8 with fail
    try simp only[aP]
    clear aP d0 d1 d2 i1 i2;generalize wr.alloc (.cells #[.slice ua LP uc,.slice ra LS rc,.int .i64 M.frob] 26)=w5 at *;obtain⟨LG,aA⟩:∃x,(GL.take k).length=x:=⟨_,rfl⟩;have cA:=Aa aA;have aH:=Aa (show LG<=1000 from by rw[<-aA,List.length_take];have:=aV.o;omega);rw[aA]at HR ⊢;have bU:=Aa (show w5.ownsRow w2.heap.size 22 1 (.slice ga LG gc) LG vals from by have:=(HR.o.later aK.o).own;rwa[aA]at this);have bS:=Aa (HR.o.later aK.o).ex.size;have hkb:k<=1000:=by have:=aV.o;omega
    clear aA;go_wp2_with (at_builtin;refine Al _ rfl _ _ 37 rfl w2.heap.size 22 (.slice none 0 0) 1 24 Tryz.underlying37 BR rfl ae _ LG vals rfl bU.o [.slice ua LP uc] 22 _ rfl ag rfl aj (by have:=aH.o;unfold maxLen;omega) (by have:=aH.o;omega) bS.o ?_)
    intro v8 w8 aI;have HN:=Aa ((HR.o.later aK.o).app (R:= [M.perm]) (us:= [.slice ua LP uc]) (gv':=v8) (w':=w8) (fun i r u h1 h2=>by
     rcases i with _|i
     .simp at h1 h2;subst h1 h2;exact HU.o
     .simp at h1) (by rw[cA.o];exact aI.own) (aI.ex (HR.o.later aK.o).ex (Nat.le_refl _)))
    rw[<-cC.o k M bY.o]at HN;obtain⟨ga8,gc8,rfl⟩:=Ae aI.own;clear aI;go_wp2_with fail
    go_roundw
    case rel=>first|exact⟨k+1,_,by have:=aW.o;omega,by go_num,HN⟩|((repeat apply Exists.intro);exact⟨⟨k+1,_,by have:=aW.o;omega,by go_num,HN⟩,rfl⟩)
    case measure=>have:=aW.o;simp[intOf];omega
   .obtain rfl:LM=k:=by omega
    have bR:=Aa (show GL.take LM=GL from List.take_of_length_le (by rw[bI.o];exact Nat.le_refl _));rw[bR.o]at hr ⊢;have HX:=Aa hr.o.ex;have bH:=Aa (RS bK wr (N:Int) GL _ hr.o.msl (by rw[bI.o];exact aV.o));have c3':=hr.o.ex.cell c3;obtain⟨OS,aQ⟩:∃x,Ig (N:Int) GL=x:=⟨_,rfl⟩;have bT:=Aa aQ;obtain⟨ol,oe⟩:=OS;obtain⟨LG,aA⟩:∃x,GL.length=x:=⟨_,rfl⟩;have aT:=Aa (show Calls Tryz.prog 65 #[.int .i64 (N:Int),.slice ga LG gc] wr fun r w'=>(∃v,r= .returned (.tuple #[v,.int .i64 oe])/\BY w' v ol)/\Ex wr w' from by
     rw[<-aA];exact bH.o.mono (by
      rintro r w'⟨⟨v,h1,h2⟩,h3⟩;rw[aQ]at h1 h2;exact⟨⟨v,h1,h2⟩,h3⟩))
    rw[aA];clear hr bH aQ aA c3;go_wp2_with (go_at_call 65;refine aT.o.mono ?_;rintro e w6⟨⟨v6,rfl,aM⟩,aY⟩;obtain⟨la,lc,bL,_,_,_⟩:=aM.open;subst bL;have bQ:=Aa aM;have bP:=Aa aY;clear aM aY)
    exact bodyPost_ret (v:= .tuple #[.slice la ol.length lc,.int .i64 oe]) (by simp[results,Tryz.results24,go_sem]) rfl ⟨bF.o _ _ ⟨e0,bJ.o,.inr ⟨aX.o,by rw[bV.o,bW.o,cB.o];exact NA bT.o bQ.o⟩⟩,aG.o.trans (bE.o.trans (HX.o.trans bP.o))⟩
structure EW(p m:Nat)(ml:List Int)(N:Nat)(l:List (List Int)):Prop where
 co:BL p m ml N l 0
 hd:N*(p^m-1)<=64
 sm:UC N (p^m)
 hq:p^m<=16
section
variable {p m N:Nat} {ml:List Int} {l:List (List Int)}
theorem EW.two(h:EW p m ml N l):Hq p m ml N/\UI p m ml N l l/\GP p m ml/\l.length<=256:=by
 obtain⟨p1,m1,N1,g1,g2,g3,aA,hI,n1,aC,aB,q2⟩:=Iu h.co;obtain rfl:p=p1:=ac;obtain rfl:m=m1:=ac;obtain rfl:N=N1:=ac;exact⟨⟨aA.p2,aA.m1,hI,n1,aC⟩,⟨aA.p2,aA.m1,hI,q2,q2⟩,aA,aB⟩
theorem EW.n7(h:EW p m ml N l):N<=7:=by
 have:=h.two.1.n2;apply Classical.byContradiction;intro h7;rcases h.sm.1 (.inr ac) with h|h <;> omega
theorem Y8{q:Nat}{g:Ca}(h:EJ N q g):Xx q N g.tl g.sl where
 len:=by rw[AK,BG]
 rng:=fun i hi=>by
  rw[AK]at hi;rw[CL g ac];have:=h.ij;have:=h.j;split <;> omega
 inj:=fun i j hi hj e=>by
  rw[AK]at hi;rw[CL g ac,CL g ac]at e;have:=h.ij;split at e <;> split at e <;> omega
 sc:=fun i hi=>by
  rw[AK]at hi;have:=h.a1;have:=h.a;exact⟨if i<g.i then 1 else g.a,Fu g ac,by split <;> omega,by split <;> omega⟩
def Oz(g:Ca)(pl sl:List Int):Prop:=pl.take (g.i+1)=g.tl/\sl.take (g.i+1)=g.sl
theorem PI{g:Ca}{pl sl:List Int}(h1:g.i<pl.length)(h2:g.i<sl.length):Oz g pl sl↔(∀k,k<g.i->pl.getD k 0=(k:Int)/\sl.getD k 0=1)/\pl.getD g.i 0=(g.j:Int)/\sl.getD g.i 0=(g.a:Int):=by
 constructor
 .rintro⟨e1,e2⟩;have k1:∀k,k<=g.i->pl.getD k 0=g.tl.getD k 0:=fun k hk=>by rw[<-e1];exact(Ck ac).symm
  have k2:∀k,k<=g.i->sl.getD k 0=g.sl.getD k 0:=fun k hk=>by rw[<-e2];exact(Ck ac).symm
  refine⟨fun k hk=>⟨?_,?_⟩,?_,?_⟩
  .rw[k1 k ac,CL g ac,if_pos hk]
  .rw[k2 k ac,Fu g ac,if_pos hk];rfl
  .rw[k1 _ (Nat.le_refl _),CL g (Nat.le_refl _),if_neg ac]
  .rw[k2 _ (Nat.le_refl _),Fu g (Nat.le_refl _),if_neg ac]
 .rintro⟨h,e1,e2⟩;constructor
  .have:=Hz (pl:=pl) (tl:=g.tl) (by rw[AK];omega) fun i hi=>by
    rw[AK]at hi;rw[CL g ac];by_cases e:i<g.i
    .rw[if_pos e];exact(h i e).1
    .obtain rfl:i=g.i:=by omega
     rw[if_neg e];exact e1
   rwa[AK]at this
  .have:=Hz (pl:=sl) (tl:=g.sl) (by rw[BG];omega) fun i hi=>by
    rw[BG]at hi;rw[Fu g ac];by_cases e:i<g.i
    .rw[if_pos e];exact(h i e).2
    .obtain rfl:i=g.i:=by omega
     rw[if_neg e];exact e2
   rwa[BG]at this
theorem EW.srch(h:EW p m ml N l){g:Ca}(hg:EJ N (p^m) g):
  ((gF ⟨p,m,ml,N,l⟩ g).2=18/\AZ p m ml N l l (gM ⟨p,m,ml,N,l⟩ g).perm (gM ⟨p,m,ml,N,l⟩ g).scale/\Oz g (gM ⟨p,m,ml,N,l⟩ g).perm (gM ⟨p,m,ml,N,l⟩ g).scale/\
   ∀pl sl,AZ p m ml N l l pl sl->Oz g pl sl->M6 N (Cp (gF ⟨p,m,ml,N,l⟩ g).1.2) pl sl/\(gM ⟨p,m,ml,N,l⟩ g).perm=(Cp (gF ⟨p,m,ml,N,l⟩ g).1.2).tl/\(gM ⟨p,m,ml,N,l⟩ g).scale=(Cp (gF ⟨p,m,ml,N,l⟩ g).1.2).sc)∨
  ((gF ⟨p,m,ml,N,l⟩ g).2=0/\∀pl sl,AZ p m ml N l l pl sl->¬Oz g pl sl):=by
 obtain⟨hP,hW,hsh,k256⟩:=h.two;have hn7:=h.n7;have hv:=Y8 hg;have hB:OF (N*(p^m-1)) N<=65536:=by
  refine TG N ac (p^m) (by have:=h.hq;omega) ?_;have:=h.sm.2 (by have:=hP.n1;omega) ac N ag;simpa using this
 have hlt:g.tl.length<=N:=by rw[AK];have:=hg.ij;have:=hg.j;omega
 have aB:=Sa hW (N-g.tl.length) g.tl g.sl (0, []) hv ac (by have:=VH (N*(p^m-1)) (show N-g.tl.length<=N by omega);show 0+_<=_;omega);have hS:gF ⟨p,m,ml,N,l⟩ g=LF p m ml l l N (N-g.tl.length) (0, []) g.tl g.sl:=by
  unfold gF Gs;simp only[Int.toNat_natCast]
 rw[<-hS]at aB;have hM:(gF ⟨p,m,ml,N,l⟩ g).2=18->gM ⟨p,m,ml,N,l⟩ g=⟨(Cp (gF ⟨p,m,ml,N,l⟩ g).1.2).tl,(Cp (gF ⟨p,m,ml,N,l⟩ g).1.2).sc,0⟩:=fun e=>by
  unfold gM I7;rw[if_neg ag,if_pos e]
 have aA:∀pl sl,AZ p m ml N l l pl sl->Oz g pl sl->(gF ⟨p,m,ml,N,l⟩ g).2=18/\M6 N (Cp (gF ⟨p,m,ml,N,l⟩ g).1.2) pl sl:=fun pl sl hT hG=>
  aB.fnd pl sl hT (by rw[AK];exact hG.1) (by rw[AK];exact hG.2)
 rcases aB.res with h0|⟨h18,hfd⟩
 .right;refine⟨h0,fun pl sl hT hG=>?_⟩;have:=(aA pl sl hT hG).1;rw[h0]at this;cases this
 .left;refine⟨h18,?_,?_,fun pl sl hT hG=>⟨(aA pl sl hT hG).2,by rw[hM h18],by rw[hM h18]⟩⟩
  .rw[hM h18];exact hfd.takes hP.hp
  .rw[hM h18];have h1:=hfd.t;have h2:=hfd.s;rw[AK]at h1 h2;exact⟨h1,h2⟩
theorem SX{c:AR}{g:Ca}:((gF c g).2=18->gE c g=0)/\((gF c g).2=0->gE c g=11):=by
 unfold gE JG;constructor
 .intro e;rw[if_neg ag,if_pos e]
 .intro e;rw[if_neg ag,if_neg (by rw[e];decide),if_pos e]
theorem EW.gE01(h:EW p m ml N l){g:Ca}(hg:EJ N (p^m) g):gE ⟨p,m,ml,N,l⟩ g=0∨gE ⟨p,m,ml,N,l⟩ g=11:=by
 rcases h.srch hg with⟨e,_⟩|⟨e,_⟩
 .exact .inl (SX.1 e)
 .exact .inr (SX.2 e)
theorem EW.hit(h:EW p m ml N l){g:Ca}(hg:EJ N (p^m) g)(he:gE ⟨p,m,ml,N,l⟩ g=0):AZ p m ml N l l (gM ⟨p,m,ml,N,l⟩ g).perm (gM ⟨p,m,ml,N,l⟩ g).scale/\Oz g (gM ⟨p,m,ml,N,l⟩ g).perm (gM ⟨p,m,ml,N,l⟩ g).scale:=by
 rcases h.srch hg with⟨e,h1,h2,_⟩|⟨e,_⟩
 .exact⟨h1,h2⟩
 .rw[SX.2 e]at he;cases he
theorem EW.some(h:EW p m ml N l){g:Ca}(hg:EJ N (p^m) g){pl sl:List Int}(hT:AZ p m ml N l l pl sl)(hG:Oz g pl sl):gE ⟨p,m,ml,N,l⟩ g=0:=by
 rcases h.srch hg with⟨e,_⟩|⟨e,h1⟩
 .exact SX.1 e
 .exact absurd hG (h1 pl sl hT)
theorem gA_mem{i j c:Nat}{g:Ca}:g∈gA i j c↔g.i=i/\g.j=j/\1<=g.a/\g.a<=c:=by
 unfold gA;rw[List.mem_map];constructor
 .rintro⟨a,ha,rfl⟩;rw[List.mem_range]at ha;exact⟨rfl,rfl,by show 1<=a+1;omega,by show a+1<=c;omega⟩
 .rintro⟨h1,h2,h3,h4⟩;refine⟨g.a-1,by rw[List.mem_range];omega,?_⟩;obtain⟨gi,gj,ga⟩:=g;dsimp only at h1 h2 h3 h4 ⊢;subst h1 h2;rw[show ga-1+1=ga from ac]
theorem K3{n q:Nat}{g:Ca}:g∈Ds n q↔EJ n q g:=by
 refine⟨Io,fun h=>?_⟩;unfold Ds gI;refine List.mem_flatMap.2 ⟨g.i,by rw[List.mem_range];have:=h.ij;have:=h.j;omega,?_⟩;unfold gJ;refine List.mem_flatMap.2 ⟨g.j-g.i,by rw[List.mem_range];have:=h.ij;have:=h.j;omega,?_⟩;exact gA_mem.2 ⟨rfl,by have:=h.ij;omega,h.a1,by have:=h.a;omega⟩
theorem SV(q i:Nat):∀k,(gJ q i k).length=k*(q-1)
 | 0=>by unfold gJ;simp
 | k+1=>by rw[NZ,List.length_append,Rw,SV q i k,Nat.succ_mul]
theorem SW(n q:Nat):∀k,(gI n q k).length<=k*(n*(q-1))
 | 0=>by unfold gI;simp
 | k+1=>by
  rw[N0,List.length_append,SV,Nat.succ_mul];have:=SW n q k;have:=Nat.mul_le_mul_right (q-1) (show n-k<=n by omega);omega
theorem EW.gol_len(h:EW p m ml N l):(Ds N (p^m)).length<=448:=by
 have h1:=SW N (p^m) N;have h2:=Nat.mul_le_mul h.n7 h.hd;unfold Ds;omega
theorem Ip:AD ⟨p,m,ml,N,l⟩=Ds N (p^m):=by
 unfold AD;simp only[Int.toNat_natCast]
theorem EW.len(h:EW p m ml N l):(CZ ⟨p,m,ml,N,l⟩ (AD ⟨p,m,ml,N,l⟩)).length<=448:=by
 unfold CZ;rw[List.length_map,Ip];exact Nat.le_trans (List.length_filter_le _ _) h.gol_len
theorem Sn{c:AR}{gs:List Ca}{M:CN}:M∈CZ c gs↔∃g∈gs,gE c g=0/\gM c g=M:=by
 unfold CZ;simp only[List.mem_map,List.mem_filter,beq_iff_eq];exact⟨fun ⟨g,⟨h1,h2⟩,h3⟩=>⟨g,h1,h2,h3⟩,fun ⟨g,h1,h2,h3⟩=>⟨g,⟨h1,h2⟩,h3⟩⟩
theorem EW.tak(h:EW p m ml N l){M:CN}(hM:M∈CZ ⟨p,m,ml,N,l⟩ (AD ⟨p,m,ml,N,l⟩)):AZ p m ml N l l M.perm M.scale:=by
 obtain⟨g,hg,he,rfl⟩:=Sn.1 hM;rw[Ip]at hg;exact(h.hit (K3.1 hg) he).1
theorem AZ.mv{l1 l2:List (List Int)}{M:CN}(h:AZ p m ml N l1 l2 M.perm M.scale):L9 N M:=by
 refine⟨h.pll,h.sll,?_⟩;have:=h.rng N
 rwa[List.take_of_length_le (by rw[h.pll];exact Nat.le_refl _)]at this
theorem EW.mv(h:EW p m ml N l):∀M∈CZ ⟨p,m,ml,N,l⟩ (AD ⟨p,m,ml,N,l⟩),L9 (⟨p,m,ml,N,l⟩:AR).n.toNat M:=fun M hM=>(h.tak hM).mv
theorem EW.rnB(h:EW p m ml N l):Np ⟨p,m,ml,N,l⟩ (AD ⟨p,m,ml,N,l⟩)=none:=by
 unfold Go.Proofs.YtehieobniamagaaGreat.Np;rw[List.find?_eq_none];intro g hg;rw[Ip]at hg;rcases h.gE01 (K3.1 hg) with e|e <;> rw[e] <;> decide
theorem EW.opE(h:EW p m ml N l):IE ⟨p,m,ml,N,l⟩ 0=0:=by
 unfold Go.Proofs.YtehieobniamagaaGreat.IE;simp only[Int.toNat_natCast];rw[if_neg ag,if_neg (by have:=h.hd;omega)]
theorem EW.grE(h:EW p m ml N l):JF ⟨p,m,ml,N,l⟩ 0=0:=by
 unfold Go.Proofs.YtehieobniamagaaGreat.JF;rw[if_neg (by rw[h.opE];simp),O7 h.rnB]
def WA(p m:Nat)(ml:List Int)(N:Nat)(l:List (List Int)):List (Nat->Nat):=(CZ ⟨p,m,ml,N,l⟩ (AD ⟨p,m,ml,N,l⟩)).map fun M=>Jv p m ml M.perm M.scale
theorem EW.fnd_isP(h:EW p m ml N l):∀s∈WA p m ml N l,Bd (N*(p^m-1)) s:=fun s hs=>by
 obtain⟨M,hM,rfl⟩:=List.mem_map.1 hs;exact Dc ((h.tak hM).mon h.two.1)
theorem EW.genL(h:EW p m ml N l):Ek p m ml (CZ ⟨p,m,ml,N,l⟩ (AD ⟨p,m,ml,N,l⟩))=(WA p m ml N l).map (li (N*(p^m-1))):=by
 unfold Go.Proofs.YtehieobniamagaaGreat.Ek WA;rw[List.map_map];refine List.map_congr_left fun M hM=>?_;exact(Nx ((h.tak hM).mon h.two.1)).symm
theorem XD(hW:Hq p m ml N){l1 l2:List (List Int)}{pl sl:List Int}(hT:AZ p m ml N l1 l2 pl sl){i:Nat}(hi:i<N)(hx:AX (i*(p^m-1)) (Jv p m ml pl sl)):∃g,EJ N (p^m) g/\g.i=i/\Oz g pl sl/\Jv p m ml pl sl (i*(p^m-1))=g.j*(p^m-1)+(g.a-1):=by
 have hM:=hT.mon hW;have aA:=(Ia hM hT.nn (Nat.le_of_lt hi)).1 hx;obtain⟨z,hz,z1,z2⟩:=hT.sc i hi;have hQ:0<p^m-1:=ac;obtain⟨z',aB,_,_,h3,h4,h5⟩:=DL hM hi hQ;have aD:z'=z:=by rw[hz]at aB;exact_mod_cast aB.symm
 subst aD;rw[Nat.add_zero,Nat.zero_add,Bz hM.hp hM.hm z2]at h5;have hnn:=hT.nn i hi;have aC:=hT.inj.lt i hi;have aE:i<=BD pl i:=by
  apply Classical.byContradiction;intro hlt2;have e:=(aA (BD pl i) ac).1;have e2:BD pl (BD pl i)=BD pl i:=by
   show(pl.getD (BD pl i) 0).toNat=_
   rw[e];simp
  have:=hT.inj.inj _ _ aC hi e2;omega
 refine⟨⟨i,BD pl i,z'⟩,⟨aE,aC,z1,z2⟩,rfl,(PI (by rw[hT.pll];exact hi) (by rw[hT.sll];exact hi)).2 ⟨aA,?_,hz⟩,h5⟩;show pl.getD i 0=((BD pl i:Nat):Int)
 unfold BD;omega
theorem gol_pt(hW:Hq p m ml N){l1 l2:List (List Int)}{pl sl:List Int}(hT:AZ p m ml N l1 l2 pl sl){g:Ca}(hg:EJ N (p^m) g)(hG:Oz g pl sl):AX (g.i*(p^m-1)) (Jv p m ml pl sl)/\Jv p m ml pl sl (g.i*(p^m-1))=g.j*(p^m-1)+(g.a-1):=by
 have hi:g.i<N:=by have:=hg.ij;have:=hg.j;omega
 have hM:=hT.mon hW;obtain⟨h1,h2,h3⟩:=(PI (by rw[hT.pll];exact hi) (by rw[hT.sll];exact hi)).1 hG;refine⟨(Ia hM hT.nn (Nat.le_of_lt hi)).2 h1,?_⟩;have hQ:0<p^m-1:=by have:=hg.a1;have:=hg.a;omega
 obtain⟨z,hz,z1,z2,k3,k4,k5⟩:=DL hM hi hQ;have aA:z=g.a:=by rw[h3]at hz;exact_mod_cast hz.symm
 subst aA;rw[Nat.add_zero,Nat.zero_add,Bz hM.hp hM.hm z2]at k5;rw[k5];unfold BD;rw[h2];simp
theorem EW.gen(h:EW p m ml N l)(f:Nat->Nat):Gn (WA p m ml N l) f↔Hp p m ml N l l f:=by
 obtain⟨hP,hW,hsh,k256⟩:=h.two;refine QG (n:=N*(p^m-1)) (N:=N) (Q:=p^m-1) rfl (Hp.grp hP l) (fun i f hi hf hx he=>hf.fx hP hi hx he) (fun s hs=>?_) (fun i f hi hf hx=>?_) f
 .obtain⟨M,hM,rfl⟩:=List.mem_map.1 hs;exact⟨_,_,h.tak hM,rfl⟩
 .obtain⟨pl,sl,hT,rfl⟩:=hf;obtain⟨g,hg,rfl,hG,aA⟩:=XD hP hT hi hx;have he:=h.some hg hT hG;obtain⟨aB,aC⟩:=h.hit hg he;obtain⟨k1,k2⟩:=gol_pt hP aB hg aC;exact⟨_,.of (List.mem_map.2 ⟨_,Sn.2 ⟨g,by rw[Ip];exact K3.2 hg,he,rfl⟩,rfl⟩),k1,by rw[k2,aA]⟩
theorem EW.d1(h:EW p m ml N l):1<=N*(p^m-1):=by
 have hP:=h.two.1;have:=Bw hP.hp hP.hm;exact Nat.mul_pos (by have:=hP.n1;omega) ac
theorem Zv{n:Nat}{S:List (Nat->Nat)}(h1:1<=n)(h2:n<=64)(hS:∀s∈S,Bd n s):Da n (S.map (li n))=(⟨n,Ce n S n⟩,0):=by
 unfold Da;rw[ST h1 h2 hS,if_neg ae,Ei hS];rfl
noncomputable def LZ(p m:Nat)(ml:List Int)(N:Nat)(l:List (List Int)):List Lv:=Ce (N*(p^m-1)) (WA p m ml N l) (N*(p^m-1))
theorem EW.bld(h:EW p m ml N l):Ll ⟨p,m,ml,N,l⟩=(⟨((N*(p^m-1):Nat):Int),LZ p m ml N l⟩,0):=by
 unfold Ll ED;simp only[Int.toNat_natCast];rw[h.genL,Zv h.d1 h.hd h.fnd_isP];rfl
end
theorem Wu(n:Nat)(S:List (Nat->Nat)):(AT (Ce n S n)).length<=n*n:=by
 rw[Fx,GM,List.length_map];unfold BU;have aA:∀bs:List Nat,(bs.flatMap fun b=>(Bn S b n).map (Fa n S b)).length<=bs.length*n:=by
  intro bs
  induction bs with
  | nil=>simp
  | cons b bs ih=>
   rw[List.flatMap_cons,List.length_append,List.length_map,List.length_cons,Nat.add_mul,Nat.one_mul];have:=Fm S b n;omega
 refine Nat.le_trans (aA _) (Nat.mul_le_mul_right n ?_);exact zbK
theorem W0{n:Nat}{S:List (Nat->Nat)}(h1:1<=n)(h2:n<=64)(hS:∀s∈S,Bd n s):Be n (Ce n S n)=0:=by
 rw[Fx];exact Tj h1 h2 hS (HJ n S)
theorem Sh{n:Nat}{S:List (Nat->Nat)}{f:Nat->Nat}(h1:1<=n)(h2:n<=64)(hS:∀s∈S,Bd n s)(hP:Bd n f):Et n (Ce n S n) (li n f)=0:=by
 unfold Et;rw[W0 h1 h2 hS,if_neg ae,Su h1 h2 hP,if_neg ae,Co,if_neg ag]
theorem Y6{n:Nat}{S:List (Nat->Nat)}{f:Nat->Nat}(h1:1<=n)(h2:n<=64)(hS:∀s∈S,Bd n s)(hP:Bd n f):KY n (Ce n S n) (li n f)=true↔Gn S f:=
 Wr hS hP rfl (Sh h1 h2 hS hP)
section
variable {p m N:Nat} {ml:List Int} {l l1 l2:List (List Int)}
theorem EW.has(h:EW p m ml N l){pl sl:List Int}(hM:Bq p m ml pl sl 0 N)(hn:∀i,i<N->0<=pl.getD i 0):Et ((N*(p^m-1):Nat):Int) (LZ p m ml N l) (Hr p m ml pl sl)=0/\(KY ((N*(p^m-1):Nat):Int) (LZ p m ml N l) (Hr p m ml pl sl)=true↔AZ p m ml N l l pl sl):=by
 have hP:=h.two.1;rw[<-Nx hM];refine⟨Sh h.d1 h.hd h.fnd_isP (Dc hM),(Y6 h.d1 h.hd h.fnd_isP (Dc hM)).trans ((h.gen _).trans ⟨?_,fun hT=>⟨_,_,hT,rfl⟩⟩)⟩;rintro⟨ql,tl,hT,e⟩;obtain⟨rfl,rfl⟩:=Yo hM (hT.mon hP) hn hT.nn e;exact hT
end
def Smp(c:AR)(k:Nat):Prop:=BL c.p c.m c.ml c.n c.rows 0->ED c<=64->ED c<=k/\UC c.n (c.p.toNat^c.m.toNat)
open Classical in
noncomputable def smB (c:AR) (k:Nat):Bool:=decide (PU 0 c.rows 80=true/\Smp c k)
theorem Sc{c:AR}{k:Nat}:smB c k=true↔PU 0 c.rows 80=true/\Smp c k:=by
 unfold smB;simp only[decide_eq_true_eq]
theorem RH{P:Program}{f:FuncId}{aA:Array Value}{w:World}{R:Ending->World->Prop}(h:Calls P f aA w R):∃e w',R e w':=by
 obtain⟨e,w',_,h1,_⟩:=h [];exact⟨e,w',h1⟩
theorem Zp{w:World}{c:AR}{m1 v1:Value}(hc:c.at w m1 v1):∃e0,BL c.p c.m c.ml c.n c.rows e0/\∀w',Ex w w'->Calls Tryz.prog 37 #[c.arg m1 v1] w' fun r w''=>r= .returned (.int .i64 e0)/\Ex w' w'':=by
 obtain⟨_,_,⟨e0,_,h0⟩,_⟩:=RH (Hf w c.p c.m c.ml m1 hc.m c.n c.rows v1 hc.g);refine⟨e0,h0,fun w' hx=>(Hf w' c.p c.m c.ml m1 (hc.ex hx).m c.n c.rows v1 (hc.ex hx).g).mono ?_⟩;rintro r w''⟨⟨e,rfl,h⟩,h2⟩;obtain rfl:=Cc h h0;exact⟨rfl,h2⟩
theorem zcy{P:Prop}(h:P:=by
 go_wp2_with fail
 go_ret;exact⟨Ap HR.o,HX.o.trans (aB.o.trans aC.o)⟩):P:=h
theorem Nu(w:World)(c:AR)(m1 v1:Value)(hc:c.at w m1 v1)(k:Nat)(hk:k<=64):
  Calls Tryz.prog 21 #[c.arg m1 v1,.int .i64 (k:Int)] w fun r w'=>r= .returned (.bool (smB c k))/\Ex w w':=by
 obtain⟨c0,c1,c2,c3,c4⟩:=CH w c m1 v1;obtain⟨HX,aI,aR,aG,aH,HS⟩:=To (AH w (c.obj m1 v1)) (fun (w':World) (h:Ex w w')=>QX w' c.p c.m m1 c.n c.rows v1 (hc.ex h).g 80 ac ac) (fun (w':World) (h:Ex w w')=>Hf w' c.p c.m c.ml m1 (hc.ex h).m c.n c.rows v1 (hc.ex h).g) (fun (w':World) (h:Ex w w')=>QV w' c m1 v1 (hc.ex h)) (fun w'=>DK c.p c.m m1 w') (show ∀b:Bool,(b=true↔PU 0 c.rows 80=true/\(BL c.p c.m c.ml c.n c.rows 0->ED c<=64->ED c<=k/\UC c.n (c.p.toNat^c.m.toNat)))->b=smB c k from fun b h=>Bool.eq_iff_iff.2 (h.trans Sc.symm));obtain⟨SB,hS⟩:∃S,smB c k=S:=⟨_,rfl⟩;rw[hS]at HS ⊢;have aD:=Aa (show ED c=c.n.toNat*(c.p.toNat^c.m.toNat-1) from rfl);obtain⟨DG,aP⟩:∃D,ED c=D:=⟨_,rfl⟩;rw[aP]at HS aD;obtain⟨x1,y1,rfl,-,z1,-⟩:=hc.g.open;obtain⟨x3,y3,rfl,-,z3,-⟩:=hc.m.open;obtain⟨p,m,ml,n,rows⟩:=c;obtain⟨B,hB⟩:=nA w.heap.size;rw[hB]at c0 c1 c2 c3 c4;dsimp only[AR.arg,AR.obj]at *;have hk2:(k:Int)<=64:=br;clear hc hS z1 z3 aP;obtain⟨FW,aO⟩:∃b,PU 0 rows 80=b:=⟨_,rfl⟩;rw[aO]at aI HS;clear aO;go_enter Tryz.func21,Tryz.ntmps21
 go_upto_region 1 with fail
 try simp only[hB]
 clear hB;generalize w.alloc (.cells #[.int .i64 p,.int .i64 m,.slice x3 ml.length y3,.int .i64 n,.slice x1 rows.length y1] 39)=w1 at *;have aE:=Aa (fun w' (h:Ex w1 w')=>(⟨h.cell c0,h.cell c1,h.cell c2,h.cell c3,h.cell c4⟩:w'.cell? ⟨B,0,none⟩=some (.int .i64 p)/\w'.cell? ⟨B,1,none⟩=some (.int .i64 m)/\w'.cell? ⟨B,2,none⟩=some (.slice x3 ml.length y3)/\w'.cell? ⟨B,3,none⟩=some (.int .i64 n)/\w'.cell? ⟨B,4,none⟩=some (.slice x1 rows.length y1)));go_wp2_with fail
 refine(aI.o w1 HX.o).mono ?_;rintro e w2⟨rfl,aM⟩;have aF:=Aa aM;clear c0 c1 c2 c3 c4 aM
 cases FW with
 | false=>
  have HR:=Aa (HS.o false ⟨fun h=>bi,fun h=>(by cases h.1)⟩);go_wp2_with fail
  go_ret;exact⟨Ap HR.o,HX.o.trans aF.o⟩
 | true=>
  replace HS:=Aa (fun (b:Bool) (h:b=true↔(BL p m ml n rows 0->DG<=64->DG<=k/\UC n (p.toNat^m.toNat)))=>HS.o b (h.trans ⟨fun h=>⟨rfl,h⟩,fun h=>h.2⟩));obtain⟨c0,c1,c2,c3,c4⟩:=aE.o w2 aF.o;go_wp2_with fail
  refine(aR.o w2 (HX.o.trans aF.o)).mono ?_;rintro e w3⟨⟨E,rfl,ho⟩,aL⟩;have aB:=Aa (aF.o.trans aL);have HO:=Aa ho;clear c0 c1 c2 c3 c4 aL ho;by_cases h0:E=0
  rotate_left
  .have hb:(E !=0)=true:=by simpa using h0
   have HR:=Aa (HS.o true ⟨fun _ h=>absurd (Cc HO.o h) h0,fun _=>rfl⟩);clear h0;go_wp2_with fail
   go_ret;exact⟨Ap HR.o,HX.o.trans aB.o⟩
  subst h0;obtain⟨pn,mn,N,rfl,rfl,rfl,hf,hI,aW,aN,hr,aT⟩:=Iu HO.o;have aQ:=Aa HO.o;have DR:=Pk hf;rw[DR]at aH aG;rw[Int.toNat_natCast]at aG;simp only[Int.toNat_natCast]at aD HS;have aV:2<=pn^mn:=Nat.le_trans hf.p2 (Nat.le_self_pow (by have:=hf.m1;omega) pn);have aU:=hf.q;obtain⟨q,hq⟩:=nA (pn^mn);rw[hq]at aH aG aD HS aV aU;have hDb:DG<=20000:=by rw[aD.o];exact Nat.le_trans (Nat.mul_le_mul aN (show q-1<=255 by omega)) ac
  have k1:(N:Int)*((q:Int)-1)=(DG:Int):=by rw[aD.o,Int.natCast_mul,Int.natCast_sub ac];rfl
  have k2:(N:Int)<=64:=ac;have k3:(q:Int)<=256:=ac;have k4:(1:Int)<=(q:Int):=ac;have W1:=Aa (show IntKind.i64.wrap ((q:Int)-1)=(q:Int)-1 from IntWalk.i64_in _ ac);have W2:=Aa (show IntKind.i64.wrap ((N:Int)*((q:Int)-1))=(DG:Int) from by rw[k1];exact IntWalk.i64_in _ ac);have aA:=Aa (fun (w':World) (h:Ex w3 w')=>aE.o w' (aB.o.trans h));have G0:Ex w3 w3.drew:=(Ex.refl w3).drew;clear hf hI DR hq HO aT hr aR aI aW aN;go_wp2_with fail
  go_upto_region 5 with fail
  go_region_held3 (fun w'=>w'.cell? ⟨B,0,none⟩=some (.int .i64 pn)/\w'.cell? ⟨B,1,none⟩=some (.int .i64 mn)/\w'.cell? ⟨B,2,none⟩=some (.slice x3 ml.length y3)/\w'.cell? ⟨B,3,none⟩=some (.int .i64 N)/\w'.cell? ⟨B,4,none⟩=some (.slice x1 rows.length y1))
   (first|with_reducible exact aA.o _ X5|with_reducible exact aA.o _ G0)
   (first|(go_at_call 14;(with_reducible refine(aH.o _).mono ?_);rintro e w5⟨rfl,aK⟩;have X5:=G0.trans aK;have aC:=Aa X5;clear aK))
  all_goals
   simp only[W1.o,W2.o];by_cases h1:64<DG
   .have j1:(64:Int)<(DG:Int):=by omega
    have j2:decide ((64:Int)<(DG:Int))=true:=decide_eq_true j1;have HR:=Aa (HS.o true ⟨fun _ _ h=>absurd h ac,fun _=>rfl⟩);clear h1;exact zcy
   .have j1:¬(64:Int)<(DG:Int):=by omega
    have j2:decide ((64:Int)<(DG:Int))=false:=decide_eq_false j1;have aS:=Aa (show DG<=64 from ac);clear h1;by_cases h2:DG<=k
    .have j3:(DG:Int)<=(k:Int):=by omega
     have j4:decide ((DG:Int)<=(k:Int))=true:=decide_eq_true j3;have H2:=Aa h2;have aY:=Aa (aG.o _ (HX.o.trans (aB.o.trans aC.o)));obtain⟨c0,c1,c2,c3,c4⟩:=aA.o _ aC.o;clear h2;go_wp2_with fail
     refine aY.o.mono ?_;rintro e w9⟨⟨b,rfl,hb⟩,aJ⟩;have HR:=Aa (HS.o b ⟨fun h _ _=>⟨H2.o,hb.1 h⟩,fun h=>hb.2 (h aQ.o aS.o).2⟩);have aX:=Aa aJ;clear hb aJ c0 c1 c2 c3 c4;go_wp2_with fail
     go_ret;exact⟨Ap HR.o,HX.o.trans (aB.o.trans (aC.o.trans aX.o))⟩
    .have j3:¬(DG:Int)<=(k:Int):=by omega
     have j4:decide ((DG:Int)<=(k:Int))=false:=decide_eq_false j3;have HR:=Aa (HS.o false ⟨fun h=>bi,fun h=>absurd (h aQ.o aS.o).1 h2⟩);clear h2;exact zcy
section
variable {p m N k:Nat} {ml pl sl:List Int} {l l1 l2:List (List Int)}
theorem smC_of(ho:BL p m ml N l 0)(hs:Smp ⟨p,m,ml,N,l⟩ k)(hk:k<=12)(hd:N*(p^m-1)<=64):EW p m ml N l:=by
 have aA:ED ⟨p,m,ml,N,l⟩=N*(p^m-1):=by unfold ED;simp only[Int.toNat_natCast]
 obtain⟨h1,h2⟩:=hs ho (by rw[aA];exact hd);rw[aA]at h1;simp only[Int.toNat_natCast]at h2;obtain⟨_,_,N1,_,_,g3,_,_,n1,_⟩:=Iu ho;obtain rfl:N=N1:=by omega
 refine⟨ho,hd,h2,?_⟩;have:=Nat.mul_le_mul_right (p^m-1) n1;omega
theorem Uw(h:BL p m ml N l 0):∃(piv:List Nat) (a':Nat->Nat->Int),Hs p m ml N l.length (Ao l) a' piv/\Aw N piv.length a'=l:=by
 rcases h with⟨_,h⟩|⟨_,h1,h2⟩|⟨h1,h2,h3⟩
 .cases h
 .exact absurd h2.symm h1
 .rcases h3 with⟨h3,h4⟩|⟨_,pn,mn,N',piv,a',e1,e2,e3,_,hm,hel,he⟩
  .exact absurd h4.symm h3
  .obtain rfl:p=pn:=by omega
   obtain rfl:m=mn:=ac;obtain rfl:N=N':=ac;refine⟨piv,a',hel,?_⟩;split at he
   .assumption
   .cases he
theorem QE(hW:Hq p m ml N)(ho:BL p m ml N l2 0)(hT:AZ p m ml N l1 l2 pl sl){piv:List Nat}{a':Nat->Nat->Int}(aA:Hs p m ml N (Fd p m ml pl sl 0 N l1 l1.length).length (Ao (Fd p m ml pl sl 0 N l1 l1.length)) a' piv):Aw N piv.length a'=l2:=by
 obtain⟨piv2,a2,h2,e2⟩:=Uw ho;rw[<-e2];refine(K9 hW.hp hW.hm (fun x=>?_) aA h2).1;exact(Sb hW.hp hW.hm x).trans (hT.sol x).symm
theorem TK(h:EW p m ml N l)(hM:Bq p m ml pl sl 0 N)(hn:∀i,i<N->0<=pl.getD i 0){piv:List Nat}{a':Nat->Nat->Int}(aA:Hs p m ml N (Fd p m ml pl sl 0 N l l.length).length (Ao (Fd p m ml pl sl 0 N l l.length)) a' piv):QO ⟨p,m,ml,N,l⟩ ⟨p,m,ml,N,Aw N piv.length a'⟩=true↔AZ p m ml N l l pl sl:=by
 rw[Va];constructor
 .intro e;simp only[AR.mk.injEq,true_and]at e;exact US hM hn aA e.symm
 .intro hT;rw[QE h.two.1 h.co hT aA]
theorem EW.grO(h:EW p m ml N l){r:Ending}{w':World}(hg:GrO ⟨p,m,ml,N,l⟩ r w'):∃lv,r= .returned (.tuple #[.agg #[.int .i64 ((N*(p^m-1):Nat):Int),lv],.int .i64 0])/\Er w' lv (LZ p m ml N l):=by
 obtain⟨e0,ho,hr⟩:=hg;obtain rfl:=Cc ho h.co;rcases hr with⟨h1,_⟩|⟨_,v,h3,h4⟩
 .exact absurd h.grE h1
 .have hb:Da (ED ⟨p,m,ml,N,l⟩:Int) (Go.Proofs.YtehieobniamagaaGreat.Ek (⟨p,m,ml,N,l⟩:AR).p.toNat (⟨p,m,ml,N,l⟩:AR).m.toNat (⟨p,m,ml,N,l⟩:AR).ml (CZ ⟨p,m,ml,N,l⟩ (AD ⟨p,m,ml,N,l⟩)))=(⟨((N*(p^m-1):Nat):Int),LZ p m ml N l⟩,0):=h.bld;rw[hb]at h3 h4;exact⟨v,h3,h4⟩
theorem EW.bnd(h:EW p m ml N l):(CZ ⟨p,m,ml,N,l⟩ (AD ⟨p,m,ml,N,l⟩)).length<=1000/\∀M∈CZ ⟨p,m,ml,N,l⟩ (AD ⟨p,m,ml,N,l⟩),L9 (⟨p,m,ml,N,l⟩:AR).n.toNat M:=⟨by have:=h.len;omega,h.mv⟩
theorem Wv(n:Nat)(hn:n<=30)(S:List (Nat->Nat)):(AT (Ce n S n)).length<=1000:=by
 have:=Wu n S;have:=Nat.mul_le_mul hn hn;omega
theorem YG(ho:BL p m ml N l 0)(hm:CW p m ml N pl sl 0=0)(hs:Smp ⟨p,m,ml,N,l⟩ k)(hk:k<=12)(hd:N*(p^m-1)<=64):
  (CZ ⟨p,m,ml,N,l⟩ (AD ⟨p,m,ml,N,l⟩)).length<=1000/\(∀M∈CZ ⟨p,m,ml,N,l⟩ (AD ⟨p,m,ml,N,l⟩),L9 N M)/\
  (∀r w',GrO ⟨p,m,ml,N,l⟩ r w'->∃lv,r= .returned (.tuple #[.agg #[.int .i64 ((N*(p^m-1):Nat):Int),lv],.int .i64 0])/\Er w' lv (LZ p m ml N l))/\
  (Xs p m ml pl sl 0=0/\ptL p m ml pl sl 0=Hr p m ml pl sl/\CW p m ml N pl sl 0=0)/\
  ((AT (LZ p m ml N l)).length<=1000/\Et ((N*(p^m-1):Nat):Int) (LZ p m ml N l) (Hr p m ml pl sl)=0/\(KY ((N*(p^m-1):Nat):Int) (LZ p m ml N l) (Hr p m ml pl sl)=true↔AZ p m ml N l l pl sl))/\
  ∀(piv:List Nat) (a':Nat->Nat->Int) (HB:Bool),Hs p m ml N (Fd p m ml pl sl 0 N l l.length).length (Ao (Fd p m ml pl sl 0 N l l.length)) a' piv->(HB=true↔AZ p m ml N l l pl sl)->QO ⟨p,m,ml,N,l⟩ ⟨p,m,ml,N,Aw N piv.length a'⟩=HB:=by
 have h:=smC_of ho hs hk hd;obtain⟨pn,mn,N',fn,e1,e2,e3,e4,hf,hc,hM⟩:=KE hm;obtain rfl:p=pn:=ac;obtain rfl:m=mn:=ac;obtain rfl:N=N':=ac;obtain rfl:fn=0:=ac;obtain⟨_,_,_,_,_,q6,_⟩:=NE hm;have hn:∀i,i<N->0<=pl.getD i 0:=fun i hi=>(DU q6 (i:=i) (by have:=hM.pll;omega)).1;have hdk:N*(p^m-1)<=12:=by
  have aA:ED ⟨p,m,ml,N,l⟩=N*(p^m-1):=by unfold ED;simp only[Int.toNat_natCast]
  have:=(hs ho (by rw[aA];exact hd)).1;rw[aA]at this;omega
 obtain⟨g1,g2⟩:=h.has hM hn;have hE:Xs p m ml pl sl 0=0:=by
  unfold Xs;rw[hM.pll,if_neg (by rw[hm];simp),if_neg ag,if_neg (by simp only[Int.toNat_natCast];omega)]
 refine⟨h.bnd.1,fun M hM=>h.bnd.2 M hM,fun r w' hg=>h.grO hg,⟨hE,?_,hm⟩,⟨Wv _ ac _,g1,g2⟩,fun piv a' HB aB aC=>?_⟩
 .unfold ptL;rw[if_pos hE];simp only[Int.toNat_natCast]
 .exact Bool.eq_iff_iff.2 ((TK h hM hn aB).trans aC.symm)
end
end Go.Proofs.YtehieobniamagaaGreat
