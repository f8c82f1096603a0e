/- Walk of automorphism.Map. -/
import Derived.Test.YtehieobniamagaaGreatZa28
namespace Go.Proofs.YtehieobniamagaaGreat
open Go.RowKit
set_option linter.all false
set_option maxRecDepth 100000
set_option maxHeartbeats 8000000
def WJ(p m:Int)(ml:List Int)(n:Int)(P:List Int):Int:=
 if BY p m ml≠0 then 1 else if n<1∨64<n then 4 else if 64<n.toNat*(p.toNat^m.toNat-1) then 8 else if Bv P≠0 then Bv P else if P.length≠n.toNat*(p.toNat^m.toNat-1) then 10 else if RO p.toNat m.toNat ml n.toNat P=false then 5 else 0
def YF(p m:Int)(ml:List Int)(n:Int)(P:List Int):Cw:=if WJ p m ml n P=0 then⟨il n.toNat (EZ (p.toNat^m.toNat-1) P),il n.toNat (Fr (p.toNat^m.toNat-1) P),0⟩ else⟨[], [],0⟩
theorem SZ{P:List Int}(h:Bv P=0):∀x∈P,0<=x/\x<(P.length:Int):=by
 intro x hx;unfold Bv at h;split at h
 .cases h
 .split at h
  .cases h
  .rename_i h1;have h3:¬(x<0∨(P.length:Int)<=x):=fun h2=>h1 ⟨x,hx,h2⟩;omega
theorem Jt{M:Cw}{e e':Int}{w':World}(h1:M=⟨[], [],0⟩)(h2:e=e'):ZX M e (.returned (.tuple #[.agg #[.slice none 0 0,.slice none 0 0,.int .i64 0],.int .i64 e'])) w':=by subst h1 h2;exact⟨_,_,rfl,AF _,AF _⟩
theorem zba{P:Prop}(h:P:=by
 clear HG;go_wp2_with fail
 exact bodyPost_ret (v:= .tuple #[.agg #[.slice none 0 0,.slice none 0 0,.int .i64 0],.int .i64 4]) (by simp[results,Tryz.results17,go_sem,q0,q1,q2]) rfl ⟨Jt (aC.o 4 (by decide) HR.o) HR.o,Bf (HE.o.trans aB.o) aA.o _ _ _⟩):P:=h
theorem aw{P:Prop}(h:P:=by simp[results,Tryz.results17,go_sem,q0,q1,q2]):P:=h
theorem Wy(w:World)(p m:Int)(ml:List Int)(mv:Value)(aR:Aj w mv ml)(n:Int)(hn:-9223372036854775808<=n/\n<=9223372036854775807)(P:List Int)(pv:Value)(hp:Aj w pv P):
  Calls Tryz.prog 17 #[.agg #[.int .i64 p,.int .i64 m,mv],.int .i64 n,pv] w fun r w'=>ZX (YF p m ml n P) (WJ p m ml n P) r w'/\Ex w w':=by
 obtain⟨a0,a1,a2,ea⟩:=Da w p m mv;obtain⟨BX,aG⟩:∃B,w.heap.size=B:=⟨_,rfl⟩;have bI:(w.alloc (.cells #[.int .i64 p,.int .i64 m,mv] 24)).heap.size=BX+1:=by simp[aG]
 have bq:=WA.new (w.alloc (.cells #[.int .i64 p,.int .i64 m,mv] 24));rw[bI]at bq;have eb:=(Ex.refl (w.alloc (.cells #[.int .i64 p,.int .i64 m,mv] 24))).alloc (.cells #[.slice none 0 0,.slice none 0 0,.int .i64 0] 26);replace a0:=eb.cell a0;replace a1:=eb.cell a1;replace a2:=eb.cell a2;have HE:=Aa (ea.trans eb);have bY:=Aa (aR.ex HE.o);have HP:=Aa (hp.ex HE.o);obtain⟨ma,mc,rfl,_,_,_⟩:=aR.open;obtain⟨pa,pc,rfl,_,z2,_⟩:=hp.open;unfold maxLen at z2;rw[aG]at a0 a1 a2;have aA:=Aa (show w.heap.size<=BX+1 from ac);have bU:=Aa (show((w.alloc (.cells #[.int .i64 p,.int .i64 m,.slice ma ml.length mc] 24)).alloc (.cells #[.slice none 0 0,.slice none 0 0,.int .i64 0] 26)).heap.size=BX+1+1 from by simp[aG]);have BQ:=Aa bq;obtain⟨ME,aM⟩:∃x,WJ p m ml n P=x:=⟨_,rfl⟩;obtain⟨MM,aS⟩:∃x,YF p m ml n P=x:=⟨_,rfl⟩;have aK:=Aa aM;have aY:=Aa (show MM=if ME=0 then⟨il n.toNat (EZ (p.toNat^m.toNat-1) P),il n.toNat (Fr (p.toNat^m.toNat-1) P),0⟩ else⟨[], [],0⟩ from by rw[<-aS,<-aM];rfl);have aC:=Aa (show ∀e,e≠0->ME=e->MM=⟨[], [],0⟩ from fun e h1 h2=>by rw[aY.o,if_neg (by rw[h2];exact h1)]);rw[aM,aS];clear aM aS aR hp ea eb bq bI;go_enter Tryz.func17,Tryz.ntmps17
 go_upto_region 1 with fail
 try simp only[aG]
 clear aG;generalize (w.alloc (.cells #[.int .i64 p,.int .i64 m,.slice ma ml.length mc] 24)).alloc (.cells #[.slice none 0 0,.slice none 0 0,.int .i64 0] 26)=w1 at *;have bM:=Aa (ES p m ml _ w1 bY.o);go_wp2_with fail
 refine bM.o.mono ?_;rintro e w2⟨bR,aL⟩;obtain⟨q0,q1,q2,aQ,aP,aO⟩:=BQ.o.ex aL;have aB:=Aa aL;rcases bR with⟨pn,mn,x0,gb,rfl,rfl,rfl,hg,x1,x2⟩|⟨hbad,rfl⟩
 rotate_left
 .have HR:=Aa (show ME=1 from by rw[<-aK.o];unfold WJ;rw[if_pos (fun h=>hbad ((Cm p m ml).1 h))]);clear aL hbad;go_wp2_with fail
  exact bodyPost_ret (v:= .tuple #[.agg #[.slice none 0 0,.slice none 0 0,.int .i64 0],.int .i64 1]) aw rfl ⟨Jt (aC.o 1 ae HR.o) HR.o,Bf (HE.o.trans aB.o) aA.o _ _ _⟩
 .have aZ:=Aa (show BY (pn:Int) mn ml=0 from(Cm _ _ _).2 ⟨pn,mn,rfl,rfl,hg.sh,hg.pr,hg.isF x1 x2⟩);have HG:=Aa hg;have bC:2<=pn^mn:=Nat.le_trans hg.sh.p2 (Nat.le_self_pow (by have:=hg.sh.m1;omega) pn);have bB:=hg.sh.q;have aV:=Aa (show 2<=pn^mn/\pn^mn<=256 from⟨bC,bB⟩);clear hg x1 x2 aL bM bC bB;by_cases hn1:n<1
  .have HR:=Aa (show ME=4 from by rw[<-aK.o];unfold WJ;rw[if_neg (by rw[aZ.o];decide),if_pos (.inl hn1)]);exact zba
  by_cases hn64:64<n
  .have HR:=Aa (show ME=4 from by rw[<-aK.o];unfold WJ;rw[if_neg (by rw[aZ.o];decide),if_pos (.inr hn64)]);exact zba
  obtain⟨N,rfl⟩:∃N:Nat,n=N:=⟨n.toNat,ac⟩;have HN:=Aa (show 1<=N/\N<=64 from ac);have aJ:=Aa (show ME=if 64<N*(pn^mn-1) then 8 else if Bv P≠0 then Bv P else if P.length≠N*(pn^mn-1) then 10 else if RO pn mn ml N P=false then 5 else 0 from by
   rw[<-aK.o];unfold WJ;rw[if_neg (by rw[aZ.o];decide),if_neg ac];rfl)
  have bN:=Aa (show MM=if ME=0 then⟨il N (EZ (pn^mn-1) P),il N (Fr (pn^mn-1) P),0⟩ else⟨[], [],0⟩ from aY.o);clear aY aK;obtain⟨q,hq⟩:=nA (pn^mn);have aW:=Aa (BN w2 HG.o);have aD:=Aa (Gh w2 N (pn^mn) HN.o.2 (by have:=aV.o;omega) aV.o.2);have aN:=Aa (fun (w5:World) (h5:Ex w2 w5) (h1:N*(pn^mn-1)<=64) (h2:P.length=N*(pn^mn-1)) (h3:Bv P=0)=>NP w5 (HG.o.ex h5) N HN.o.1 HN.o.2 P _ (HP.o.ex (aB.o.trans h5)) h1 h2 (SZ h3));rw[hq]at aJ bN aW aD aN aV;obtain⟨D,hD⟩:=nA (N*(q-1));rw[hD]at aJ aD aN;clear hq hD;by_cases h8:64<D
  .rw[if_pos h8,if_pos h8]at aD;have HR:=Aa (show ME=8 from by rw[aJ.o,if_pos h8]);clear h8;go_wp2_with (first|(go_at_call 54;refine aW.o.mono ?_;rintro e w5⟨rfl,rfl⟩)|(go_at_call 53;refine aD.o.mono ?_;rintro e w5⟨rfl,rfl⟩))
   exact bodyPost_ret (v:= .tuple #[.agg #[.slice none 0 0,.slice none 0 0,.int .i64 0],.int .i64 8]) aw rfl ⟨Jt (aC.o 8 ae HR.o) HR.o,Bf (HE.o.trans aB.o) aA.o _ _ _⟩
  rw[if_neg h8,if_neg h8]at aD;have bX:=Aa h8;have aI:=Aa (show ME=if Bv P≠0 then Bv P else if P.length≠D then 10 else if RO pn mn ml N P=false then 5 else 0 from by rw[aJ.o,if_neg h8]);have bP:=Aa (H5 w2 P _ (HP.o.ex aB.o));obtain⟨K,hK⟩:=nA (Bv P);have HK:=Aa hK;rw[hK]at bP aI;clear h8 aJ hK;go_wp2_with (first|(go_at_call 54;refine aW.o.mono ?_;rintro e w5⟨rfl,rfl⟩)|(go_at_call 53;refine aD.o.mono ?_;rintro e w5⟨rfl,rfl⟩))
  refine bP.o.mono ?_;rintro e w3⟨rfl,aE⟩;have aH:=Aa (aB.o.trans aE);obtain⟨q0,q1,q2,aQ,aP,aO⟩:=BQ.o.ex aH.o;by_cases h0:K=0
  rotate_left
  .have hb:(K==0)=false:=by simpa using h0
   have hb2:(K !=0)=true:=by simpa using h0
   have HR:=Aa (show ME=K from by rw[aI.o,if_pos h0]);have bV:=Aa (aC.o K h0 HR.o);clear h0 aE;go_wp2_with fail
   exact bodyPost_ret (v:= .tuple #[.agg #[.slice none 0 0,.slice none 0 0,.int .i64 0],.int .i64 K]) aw rfl ⟨Jt bV.o HR.o,Bf (HE.o.trans aH.o) aA.o _ _ _⟩
  subst h0;by_cases hl:P.length=D
  rotate_left
  .have hb:((P.length:Int) !=(D:Int))=true:=by simp;omega
   have HR:=Aa (show ME=10 from by rw[aI.o,if_neg ag,if_pos hl]);clear hl aE;go_wp2_with fail
   exact bodyPost_ret (v:= .tuple #[.agg #[.slice none 0 0,.slice none 0 0,.int .i64 0],.int .i64 10]) aw rfl ⟨Jt (aC.o 10 ae HR.o) HR.o,Bf (HE.o.trans aH.o) aA.o _ _ _⟩
  have hb:((P.length:Int) !=(D:Int))=false:=aq;have bO:=Aa (aN.o w3 aE (by have:=bX.o;omega) hl HK.o);have aU:=Aa (show ME=if RO pn mn ml N P=false then 5 else 0 from by rw[aI.o,if_neg ag,if_neg (by rw[hl];simp)]);obtain⟨BE,bH⟩:∃b,RO pn mn ml N P=b:=⟨_,rfl⟩;rw[bH]at bO aU;clear hl aE aI bH aN;go_wp2_with fail
  refine bO.o.mono ?_;rintro e w4⟨u,v,rfl,hu,hv,⟨bE,bD⟩,bA⟩;obtain⟨bQ,bJ,bL,bK⟩:=Eq (show BX+1<w3.heap.size from by have:=aH.o.size;have:=bU.o;omega) (aH.o.trans bA) bE bD;clear bE bD;obtain⟨q0,q1,q2,aQ,aP,aO⟩:=BQ.o.ex bJ.o;have HU:=Aa hu;have HV:=Aa hv;obtain⟨ua,uc,rfl,_,_,_⟩:=hu.open;obtain⟨va,vc,rfl,_,_,_⟩:=hv.open;obtain⟨TB,aF⟩:∃x,w4.heap.size=x:=⟨_,rfl⟩;obtain⟨LU,bG⟩:∃x,(il N (EZ (q-1) P)).length=x:=⟨_,rfl⟩;obtain⟨LV,bF⟩:∃x,(il N (Fr (q-1) P)).length=x:=⟨_,rfl⟩;rw[bG]at HU bL ⊢;rw[bF]at HV bK ⊢;obtain⟨t0,t1,t2,et⟩:=Ay w4 (.slice ua LU uc) (.slice va LV vc) 0;rw[aF]at t0 t1 t2;have aT:=Aa (bJ.o.trans et);obtain⟨q0,q1,q2,aQ,aP,aO⟩:=BQ.o.ex aT.o;have bT:=Aa (HU.o.ex et);have bS:=Aa (HV.o.ex et);have HTB:=Aa aF;clear hu hv bA bG bF et
  cases BE with
  | false=>
   have HR:=Aa (show ME=5 from by rw[aU.o];rfl);go_wp2_with fail
   try simp only[aF]
   exact bodyPost_ret (v:= .tuple #[.agg #[.slice none 0 0,.slice none 0 0,.int .i64 0],.int .i64 5]) aw rfl ⟨Jt (aC.o 5 ae HR.o) HR.o,Bf (HE.o.trans aT.o) aA.o _ _ _⟩
  | true=>
   have HR:=Aa (show ME=0 from by rw[aU.o];rfl);have HM:=Aa (show MM=⟨il N (EZ (q-1) P),il N (Fr (q-1) P),0⟩ from by rw[bN.o,if_pos HR.o]);go_upto_region 14 with fail
   try simp only[aF]
   clear aF;generalize w4.alloc (.cells #[.slice ua LU uc,.slice va LV vc,.int .i64 0] 26)=w5 at *;go_wp2_with fail
   have bW:=HR.o;have aX:=HM.o;subst bW;subst aX;exact bodyPost_ret (v:= .tuple #[.agg #[.slice ua LU uc,.slice va LV vc,.int .i64 0],.int .i64 0]) aw rfl ⟨⟨_,_,rfl,Di bT.o (fun X e=>by have:=bL.o X e;have:=bQ.o;omega) _ _ _,Di bS.o (fun X e=>by have:=bK.o X e;have:=bQ.o;omega) _ _ _⟩,Bf (HE.o.trans aT.o) aA.o _ _ _⟩
def Ii(c:AU)(e0:Int):Int:=if e0≠0 then e0 else if 64<c.n.toNat*(c.p.toNat^c.m.toNat-1) then 8 else 0
def OpO(c:AU)(r:Ending)(w':World):Prop:=∃e0:Int,Ce c.p c.m c.ml c.n c.rows e0/\
 ((Ii c e0≠0/\∃(aA:Option Addr) (d:Int),r= .returned (.tuple #[.pointer aA,.int .i64 d,.int .i64 (Ii c e0)]))∨
 (Ii c e0=0/\∃(pn mn N b x0:Nat),c.p=pn/\c.m=mn/\c.n=N/\1<=N/\N<=64/\N*(pn^mn-1)<=64/\r= .returned (.tuple #[.pointer (some ⟨b,0,none⟩),.int .i64 ((N*(pn^mn-1):Nat):Int),.int .i64 0])/\AP w' b pn mn c.ml x0/\1<=x0/\x0<pn^mn))
theorem zas{P:Prop}(h:P:=by
 refine AT.on rfl fun L a w aB aA hd hx K hK=>?_;have bC:=aB 5 23 _ (hd ⟨5,.data⟩ (by simp) rfl) rfl rfl;exact zcR):P:=h
theorem Jp(w:World)(c:AU)(m1 v1:Value)(hc:c.at w m1 v1):
  Calls Tryz.prog 69 #[c.arg m1 v1] w fun r w'=>OpO c r w'/\Ex w w':=by
 obtain⟨c0,c1,c2,c3,c4⟩:=Dp w c m1 v1;have aL:=AE w (c.obj m1 v1);have aH:=Aa (hc.ex aL);obtain⟨x1,y1,rfl,-,z1,-⟩:=hc.g.open;obtain⟨x3,y3,rfl,-,z3,-⟩:=hc.m.open;unfold maxLen at z1 z3;obtain⟨B,hB⟩:=nA w.heap.size;rw[hB]at c0 c1 c2 c3 c4;have aI:=Aa aL;obtain⟨cp,cm,aD,cn,aF⟩:=c;obtain⟨C,hC⟩:∃C:AU,C=⟨cp,cm,aD,cn,aF⟩:=⟨_,rfl⟩;have aE:=Aa hC;have aK:=Aa (fun w1 (h:Ex (w.alloc (AU.obj ⟨cp,cm,aD,cn,aF⟩ (.slice x3 aD.length y3) (.slice x1 aF.length y1))) w1)=>Df w1 cp cm aD (.slice x3 aD.length y3) (aH.o.m.ex h) cn aF (.slice x1 aF.length y1) (aH.o.g.ex h));unfold AU.arg;unfold AU.obj at aI aK aH c0 c1 c2 c3 c4;dsimp only at aI aK aH c0 c1 c2 c3 c4 ⊢;rw[<-hC];clear hc aL hC;go_enter Tryz.func69,Tryz.ntmps69
 go_upto_region 1 with fail
 try simp only[hB]
 clear hB;generalize w.alloc (.cells #[.int .i64 cp,.int .i64 cm,.slice x3 aD.length y3,.int .i64 cn,.slice x1 aF.length y1] 39)=w1 at *;go_wp2_with fail
 refine(aK.o w1 (Ex.refl _)).mono ?_;rintro e w2⟨⟨E,rfl,aU⟩,aC⟩;have aQ:=Aa aU;have aP:=Aa aC;replace c0:=aC.cell c0;replace c1:=aC.cell c1;replace c2:=aC.cell c2;replace c3:=aC.cell c3;replace c4:=aC.cell c4;clear aC aU aK;by_cases h0:E=0
 rotate_left
 .have hb:(E !=0)=true:=by simpa using h0
  have HR:=Aa (show Ii C E=E/\Ii C E≠0 from by unfold Ii;rw[if_pos h0];exact⟨rfl,h0⟩);clear h0;go_wp2_with fail
  exact bodyPost_ret (v:= .tuple #[.pointer none,.int .i64 0,.int .i64 E]) (by simp[results,Tryz.results69,go_sem]) rfl ⟨⟨E,by rw[aE.o];exact aQ.o,.inl ⟨HR.o.2,_,_,by rw[HR.o.1]⟩⟩,aI.o.trans aP.o⟩
 .subst h0;obtain⟨aT,k1,k2⟩:=Eu aQ.o;have aY:=Aa (ES cp cm aD _ w2 (aH.o.m.ex aP.o));have bI:=Aa aT;obtain⟨N,rfl⟩:∃N:Nat,cn=N:=⟨cn.toNat,ac⟩;have HN:=Aa (show 1<=N/\N<=64 from ac);clear aT k1 k2;go_wp2_with fail
  refine aY.o.mono ?_;rintro e w3⟨bB,aM⟩;rcases bB with⟨pn,mn,x0,gb,rfl,rfl,rfl,hg,h1,h2⟩|⟨hbad,-⟩
  rotate_left
  .exact absurd bI.o hbad
  obtain⟨bE,bD,HG,bH,bG⟩:=Of (aP.o.trans aM) (aM.cell c3) hg h1 h2;have bA:2<=pn^mn:=Nat.le_trans hg.sh.p2 (Nat.le_self_pow (by have:=hg.sh.m1;omega) pn);have aS:=hg.sh.q;have aX:=Aa (fun (w5:World) (h5:Ex w3 w5)=>BN w5 (HG.o.ex h5));have aJ:=Aa (fun (w5:World)=>Gh w5 N (pn^mn) HN.o.2 ac aS);have aG:=Aa (show Ii C 0=if 64<N*(pn^mn-1) then 8 else 0 from by rw[aE.o];unfold Ii;rw[if_neg ag];rfl);obtain⟨q,hq⟩:=nA (pn^mn);have HQ:=Aa hq;rw[hq]at aX aJ aG;obtain⟨D,hD⟩:=nA (N*(q-1));rw[hD]at aJ aG;have aZ:=Aa hD;obtain⟨T0,aO⟩:∃z,((if 64<D then 0 else D:Nat):Int)=z:=⟨_,rfl⟩;obtain⟨T1,aN⟩:∃z,(if 64<D then(8:Int) else 0)=z:=⟨_,rfl⟩;rw[aO,aN]at aJ;have bF:=Aa aO;have aW:=Aa aN;clear aO aN hD hq aM hg h1 h2 bA aS aY c0 c1 c2 c3 c4;go_wp2_with fail
  go_upto_region 7 with fail
  refine Bp (fun k=>([.pointer (some ⟨B,3,none⟩),.int .i64 (N:Int),.pointer (some ⟨gb,0,none⟩),.int .i64 (q:Int),.tuple #[.int .i64 T0,.int .i64 T1],.tuple #[.int .i64 T0,.int .i64 T1],.int .i64 T0,.int .i64 T1,.int .i64 T0,.int .i64 T1]:List Value).getD k undef) ah ah ah ?_ ?_
  .simp only[AG];refine⟨?_,?_,?_,?_,?_,?_,?_,?_,?_,?_,trivial⟩
   .refine AT.on rfl fun L a w aB aA hd hx K hK=>?_;have e1:a.tmps[1]?=some (.pointer (some ⟨B,0,none⟩)):=aA 1 ah;exact zcR
   .refine AT.on rfl fun L a w aB aA hd hx K hK=>?_;have e24:=aB 0 24 _ (hd ⟨0,.data⟩ ag rfl) rfl rfl;have c1:=hx.cell bD.o;exact zcR
   .refine AT.on rfl fun L a w aB aA hd hx K hK=>?_;have e6:a.tmps[6]?=some (.pointer (some ⟨gb,0,none⟩)):=aA 6 ah;exact zcR
   .refine AT.on rfl fun L a w aB aA hd hx K hK=>?_;have e26:=aB 2 26 _ (hd ⟨2,.data⟩ ag rfl) rfl rfl;clear aB aA hd;go_simp;refine(aX.o _ hx).mono ?_;exact zcO
   .refine AT.on rfl fun L a w aB aA hd hx K hK=>?_;have e25:=aB 1 25 _ (hd ⟨1,.data⟩ ag rfl) rfl rfl;have e27:=aB 3 27 _ (hd ⟨3,.data⟩ ag rfl) rfl rfl;clear aB aA hd;go_simp;refine(aJ.o _).mono ?_;exact zcO
   .refine AT.on rfl fun L a w aB aA hd hx K hK=>?_;have e28:=aB 4 28 _ (hd ⟨4,.data⟩ ag rfl) rfl rfl;exact zcR
   .exact zas
   .exact zas
   .refine AT.on rfl fun L a w aB aA hd hx K hK=>?_;have e29:=aB 6 29 _ (hd ⟨6,.data⟩ ag rfl) rfl rfl;exact zcR
   .refine AT.on rfl fun L a w aB aA hd hx K hK=>?_;have e30:=aB 7 30 _ (hd ⟨7,.data⟩ ag rfl) rfl rfl;exact zcR
  .intro w5 aR;simp only[BU,Act.put,List.setIfInBounds_toArray,List.set_cons_zero,List.set_cons_succ];have aV:=Aa aR;clear aR;go_wp2_with fail
   refine bodyPost_ret (v:= .tuple #[.pointer (some ⟨gb,0,none⟩),.int .i64 T0,.int .i64 T1]) (by simp[results,Tryz.results69,go_sem]) rfl ⟨⟨0,by rw[aE.o];exact aQ.o,?_⟩,aI.o.trans (bE.o.trans aV.o)⟩;by_cases hd:64<D
   .refine .inl ⟨by rw[aG.o,if_pos hd];decide,_,_,by rw[aG.o,aW.o]⟩
   .refine .inr ⟨by rw[aG.o,if_neg hd],pn,mn,N,gb,x0,by rw[aE.o],by rw[aE.o],by rw[aE.o],HN.o.1,HN.o.2,by rw[HQ.o,aZ.o];omega,?_,by rw[aE.o];exact HG.o.ex aV.o,bH.o,bG.o⟩;rw[HQ.o,aZ.o,<-bF.o,<-aW.o,if_neg hd,if_neg hd]
theorem RK:(Tryz.prog.info? 90).map (fun i=>(i.zero,i.size,i.bytes))=some (some (.agg #[.int .i64 0,.slice none 0 0,.slice none 0 0]),3,56):=ah
def Pk:List Lv->List (Value × Value)->List Value
 | l :: L,o :: os=> .int .i64 l.pt :: o.1 :: o.2 :: Pk L os
 | _,_=> []
theorem L9:∀(L:List Lv) (os:List (Value × Value)),os.length=L.length->(Pk L os).length=L.length*3
 | [], [],_=>rfl
 | l :: L,o :: os,h=>by
  have:=L9 L os ay;simp only[Pk,List.length_cons];omega
 | [],o :: os,h=>by simp at h
 | l :: L, [],h=>by simp at h
theorem Ma:∀(L:List Lv) (os:List (Value × Value)) (i:Nat) (l:Lv) (o:Value × Value),L[i]?=some l->os[i]?=some o->(Pk L os)[3*i]?=some (.int .i64 l.pt)/\(Pk L os)[3*i+1]?=some o.1/\(Pk L os)[3*i+2]?=some o.2
 | l' :: L,o' :: os,0,l,o,h,k=>by
  simp at h k;subst h k;exact⟨rfl,rfl,rfl⟩
 | l' :: L,o' :: os,i+1,l,o,h,k=>by
  have:=Ma L os i l o ay (by simpa using k);rw[show 3*(i+1)=3*i+3 by omega,show 3*i+3+1=3*i+1+3 by omega,show 3*i+3+2=3*i+2+3 by omega];simpa[Pk]using this
 | [],os,i,l,o,h,k=>by simp at h
 | l' :: L, [],i,l,o,h,k=>by simp at k
theorem Ql:∀(L:List Lv) (os:List (Value × Value)) (l:Lv) (o:Value × Value),os.length=L.length->Pk (L ++ [l]) (os ++ [o])=Pk L os ++ [.int .i64 l.pt,o.1,o.2]
 | [], [],l,o,_=>rfl
 | l' :: L,o' :: os,l,o,h=>by
  have:=Ql L os l o ay;simp only[List.cons_append,Pk,this]
 | [],o' :: os,l,o,h=>by simp at h
 | l' :: L, [],l,o,h=>by simp at h
def D6(w:World)(v:Value)(L:List Lv):Prop:=∃os:List (Value × Value),os.length=L.length/\Sl w v L.length 3 (Pk L os)/\∀(i:Nat) (l:Lv) (o:Value × Value),L[i]?=some l->os[i]?=some o->Aj w o.1 l.orb/\BT w o.2 l.reps
theorem zbD{P:Prop}(h:P:=by
 obtain⟨os,h1,h2,h3⟩:=h;exact⟨os,h1,h2.ex hx,fun i l o a b=>⟨(h3 i l o a b).1.ex hx,(h3 i l o a b).2.ex hx⟩⟩):P:=h
theorem D6.ex{w w':World}{v:Value}{L:List Lv}(h:D6 w v L)(hx:Ex w w'):D6 w' v L:=by
 exact zbD
theorem D6.nil(w:World):D6 w (.slice none 0 0) []:=⟨[],rfl,Sl.nil w 3,fun i l o h=>by simp at h⟩
theorem zb4{P:Prop}(h:P:=by
 obtain⟨k1,k2⟩:=h7 i l _ hl ho;exact⟨_,_,h9 _ _ g1,h9 _ _ g2,h9 _ _ g3,k1,k2⟩):P:=h
theorem D6.open{w:World}{v:Value}{L:List Lv}(h:D6 w v L):∃a cap,v= .slice a L.length cap/\L.length<=cap/\cap<=maxLen/\
  (0<L.length->∃b o,a=some ⟨b,o,none⟩/\∀(i:Nat) (l:Lv),L[i]?=some l->∃u r,w.cell? ⟨b,o+3*i,none⟩=some (.int .i64 l.pt)/\w.cell? ⟨b,o+(3*i+1),none⟩=some u/\w.cell? ⟨b,o+(3*i+2),none⟩=some r/\Aj w u l.orb/\BT w r l.reps):=by
 obtain⟨os,h1,⟨h2,a,cap,h3,h4,h5,h6⟩,h7⟩:=h;refine⟨a,cap,h3,h4,h5,fun hn=>?_⟩;obtain⟨b,o,h8,h9⟩:=h6 hn;refine⟨b,o,h8,fun i l hl=>?_⟩;have hi:=(List.getElem?_eq_some_iff.1 hl).1;have ho:os[i]?=some (os[i]'ac):=List.getElem?_eq_getElem _;obtain⟨g1,g2,g3⟩:=Ma L os i l _ hl ho;exact zb4
theorem Mx.cons{mb aA:List Nat}{w w':World}(h:Mx mb aA w w')(q:Nat):Mx (q :: mb) (q :: aA) w w':=
 ⟨h.os,h.tape,h.output,h.size,fun i hi hn=>h.block i hi (fun hm=>hn (List.mem_cons_of_mem _ hm)),fun B hB=>by
  rcases List.mem_cons.1 hB with e|e
  .exact .inl (by rw[e];exact List.mem_cons_self ..)
  .rcases h.mb B e with k|k
   .exact .inl (List.mem_cons_of_mem _ k)
   .exact .inr k⟩
structure SI(w:World)(mb:List Nat)(v:Value)(l:List Int):Prop where
 sl:Aj w v l
 off:0<l.length->∀B,v.ownBlock=some B->B ∉ mb/\B<w.heap.size
theorem Sl.mx{mb aA:List Nat}{w w':World}(hx:Mx mb aA w w'){v:Value}{n size:Nat}{xs:List Value}(h:Sl w v n size xs)(ho:0<n->∀B,v.ownBlock=some B->B ∉ mb):Sl w' v n size xs:=by
 obtain⟨h1,a,cap,rfl,h3,h4,h5⟩:=h;refine⟨h1,a,cap,rfl,h3,h4,fun hn=>?_⟩;obtain⟨b,o,rfl,h6⟩:=h5 hn;exact⟨b,o,rfl,fun j u hu=>hx.cell (h6 j u hu) (ho hn b rfl)⟩
theorem SI.mx{mb aA:List Nat}{w w':World}{v:Value}{l:List Int}(h:SI w mb v l)(hx:Mx mb aA w w'):SI w' aA v l:=
 ⟨Sl.mx hx h.sl fun hn B e=>(h.off hn B e).1,fun hn B e=>by
  obtain⟨h1,h2⟩:=h.off hn B e;exact⟨fun hb=>by
   rcases hx.mb B hb with h3|h3
   .exact h1 h3
   .omega,Nat.lt_of_lt_of_le h2 hx.size⟩⟩
structure SM(w:World)(mb:List Nat)(v:Value)(rows:List (List Int))(vals:List Value):Prop where
 sl:Sl w v rows.length 1 vals
 off:0<rows.length->∀B,v.ownBlock=some B->B ∉ mb/\B<w.heap.size
 row:∀(i:Nat) (r:List Int) (u:Value),rows[i]?=some r->vals[i]?=some u->SI w mb u r
theorem SM.mx{mb aA:List Nat}{w w':World}{v:Value}{rows:List (List Int)}{vals:List Value}(h:SM w mb v rows vals)(hx:Mx mb aA w w'):SM w' aA v rows vals:=
 ⟨Sl.mx hx h.sl fun hn B e=>(h.off hn B e).1,fun hn B e=>by
  obtain⟨h1,h2⟩:=h.off hn B e;exact⟨fun hb=>by
   rcases hx.mb B hb with h3|h3
   .exact h1 h3
   .omega,Nat.lt_of_lt_of_le h2 hx.size⟩,fun i r u a b=>(h.row i r u a b).mx hx⟩
theorem SM.msl{w:World}{mb:List Nat}{v:Value}{rows:List (List Int)}{vals:List Value}(h:SM w mb v rows vals):BT w v rows:=⟨vals,h.sl,fun i r u a b=>(h.row i r u a b).sl⟩
structure UE(w:World)(base q:Nat)(mb:List Nat)(lv:Value)(L:List Lv)(os:List (Value × Value)):Prop where
 own:w.ownsRow base 90 3 lv L.length (Pk L os)
 len:os.length=L.length
 lev:∀(i:Nat) (l:Lv) (o:Value × Value),L[i]?=some l->os[i]?=some o->SI w (q :: mb) o.1 l.orb/\∃vals,SM w (q :: mb) o.2 l.reps vals
 blk:∀B,lv.ownBlock=some B->B∈mb
theorem UE.ex{w w':World}{base q:Nat}{mb:List Nat}{lv:Value}{L:List Lv}{os:List (Value × Value)}(h:UE w base q mb lv L os)(hx:Ex w w'):UE w' base q mb lv L os:=
 ⟨Ai h.own hx,h.len,fun i l o a b=>⟨(h.lev i l o a b).1.mx (Mx.ofEx hx (q :: mb)),by obtain⟨vals,h2⟩:=(h.lev i l o a b).2;exact⟨vals,h2.mx (Mx.ofEx hx (q :: mb))⟩⟩,h.blk⟩
theorem UE.nil(w:World)(base q:Nat)(mb:List Nat):UE w base q mb (.slice none 0 0) [] []:=
 ⟨World.ownsRow_nil _ _ _ _,rfl,fun i l o h=>by simp at h,fun B h=>by cases h⟩
theorem UE.mx{w w':World}{base q:Nat}{mb aA:List Nat}{lv:Value}{L:List Lv}{os:List (Value × Value)}(h:UE w base q mb lv L os)(hx:Mx mb aA w w')(ho:w'.ownsRow base 90 3 lv L.length (Pk L os))(hb:∀B,lv.ownBlock=some B->B∈aA):UE w' base q aA lv L os:=
 ⟨ho,h.len,fun i l o a b=>⟨(h.lev i l o a b).1.mx (hx.cons q),by obtain⟨vals,h2⟩:=(h.lev i l o a b).2;exact⟨vals,h2.mx (hx.cons q)⟩⟩,hb⟩
theorem Pe{mb:List Nat}{w w1:World}{base:Nat}{e:TypeId}{size:Nat}{v v':Value}{n:Nat}{xs news:List Value}(ha:AZ w w1 base e size v v' n xs news)(hv:∀B,v.ownBlock=some B->B∈mb){cb j:Nat}{u:Value}(hc:cb∈mb):
  Mx mb (v'.ownBlock.toList++mb) w (w1.setCell ⟨cb,j,none⟩ u):=by
 obtain⟨o,hg⟩:=ha.gr;have hgs:=ha.grow;have aA:(w1.setCell ⟨cb,j,none⟩ u).heap.size=w1.heap.size:=bz;refine⟨hg.os.trans rfl,hg.tape.trans rfl,hg.output.trans rfl,by rw[aA];omega,fun i hi hn=>?_,fun B hB=>?_⟩
 .rw[Below.heap_setCell _ _ _ _ (fun e=>hn (by have e:i=cb:=e;rw[e];exact hc))];rw[hg.block i aq (fun e=>hn (hv i e.symm))];exact((Ex.refl w).alloc o).block i hi
 .rcases List.mem_append.1 hB with h1|h1
  .have h1:v'.ownBlock=some B:=by simpa using h1
   rcases ha.at_ with h2|h2
   .rw[h2]at h1;exact .inl (hv B h1)
   .rw[h2]at h1;injection h1 with h1;exact .inr ac
  .exact .inl h1
theorem EL(w:World)(a b:Addr)(u:Value):(w.setCell a u).frozen? b=w.frozen? b:=ag
structure Kj(w0 wr:World)(q n b ob lb:Nat)(lv:Value)(L:List Lv)(os:List (Value × Value))(ov:Value)(orb:List Int)(rv:Value)(reps:List (List Int))(vals:List Value)(mb:List Nat):Prop where
 oc0:wr.cell? ⟨ob,0,none⟩=some (.int .i64 n)
 oc1:wr.cell? ⟨ob,1,none⟩=some lv
 of1:wr.frozen? ⟨ob,1,none⟩=false
 lc0:wr.cell? ⟨lb,0,none⟩=some (.int .i64 b)
 lc1:wr.cell? ⟨lb,1,none⟩=some ov
 lc2:wr.cell? ⟨lb,2,none⟩=some rv
 lf1:wr.frozen? ⟨lb,1,none⟩=false
 lf2:wr.frozen? ⟨lb,2,none⟩=false
 ne:ob≠lb
 ch:UE wr w0.heap.size q mb lv L os
 ovo:wr.ownsRow w0.heap.size 3 1 ov orb.length (Al orb)
 rvo:wr.ownsRow w0.heap.size 22 1 rv reps.length vals
 rows:∀(i:Nat) (r:List Int) (u:Value),reps[i]?=some r->vals[i]?=some u->SI wr (q :: mb) u r
 a1:AJ ov lv
 a2:AJ rv lv
 a3:AJ ov rv
 nov:∀B,ov.ownBlock=some B->B≠ob/\B≠lb/\B∈mb
 nrv:∀B,rv.ownBlock=some B->B≠ob/\B≠lb/\B∈mb
 nlv:∀B,lv.ownBlock=some B->B≠ob/\B≠lb/\B∈mb
 om:ob∈mb
 ql:q<w0.heap.size
 lm:lb∈mb
 lo:∀B∈mb,w0.heap.size<=B/\B<wr.heap.size
 ex:Ex w0 wr
section
variable {w0 wr:World} {q n b ob lb:Nat} {lv:Value} {L:List Lv} {os:List (Value × Value)} {ov:Value} {orb:List Int} {rv:Value} {reps:List (List Int)} {vals:List Value} {mb:List Nat}
theorem Kj.later(h:Kj w0 wr q n b ob lb lv L os ov orb rv reps vals mb){w':World}(hx:Ex wr w'):Kj w0 w' q n b ob lb lv L os ov orb rv reps vals mb:=
 ⟨hx.cell h.oc0,hx.cell h.oc1,hx.frz h.oc1 h.of1,hx.cell h.lc0,hx.cell h.lc1,hx.cell h.lc2,hx.frz h.lc1 h.lf1,hx.frz h.lc2 h.lf2,h.ne,h.ch.ex hx,Ai h.ovo hx,Ai h.rvo hx,fun i r u a c=>(h.rows i r u a c).mx (Mx.ofEx hx (q :: mb)),h.a1,h.a2,h.a3,h.nov,h.nrv,h.nlv,h.om,h.ql,h.lm,fun B hB=>⟨(h.lo B hB).1,Nat.lt_of_lt_of_le (h.lo B hB).2 hx.size⟩,h.ex.trans hx⟩
theorem zbR{P:Prop}(h:P:=by
 rw[World.cell?_setCell_other _ _ _ _ (by intro e;injection e with e;exact h.ne e.symm)];exact k):P:=h
theorem zbT{P:Prop}(h:P:=by
 rcases List.mem_append.1 hB with h1|h1
 .exact ha.own.lt B (by simpa using h1)
 .exact zaV):P:=h
theorem Kj.appOrb(h:Kj w0 wr q n b ob lb lv L os ov orb rv reps vals mb){w1:World}{ov':Value}{x:Int}(ha:AZ wr w1 w0.heap.size 3 1 ov ov' orb.length (Al orb) [.int .i64 x]):
  ∃aH,Kj w0 (w1.setCell ⟨lb,1,none⟩ ov') q n b ob lb lv L os ov' (orb ++ [x]) rv reps vals aH/\Mx mb aH wr (w1.setCell ⟨lb,1,none⟩ ov'):=by
 have aF:=Pe (j:=1) (u:=ov') ha (fun B e=>(h.nov B e).2.2) h.lm;have aK:(w1.setCell ⟨lb,1,none⟩ ov').heap.size=w1.heap.size:=bz;have hgs:=ha.grow;have aB:some ob≠ov.ownBlock:=fun e=>(h.nov ob e.symm).1 rfl;have aA:some lb≠ov.ownBlock:=fun e=>(h.nov lb e.symm).2.1 rfl;have obl:=(h.lo ob h.om).2;have lbl:=(h.lo lb h.lm).2;have aG:∀B,ov'.ownBlock=some B->B≠ob/\B≠lb:=fun B e=>by
  rcases ha.at_ with h1|h1
  .rw[h1]at e;exact⟨(h.nov B e).1,(h.nov B e).2.1⟩
  .rw[h1]at e;injection e with e;omega
 have aC:∀ {j:Nat} {v:Value},w1.cell? ⟨ob,j,none⟩=some v->(w1.setCell ⟨lb,1,none⟩ ov').cell? ⟨ob,j,none⟩=some v:=fun k=>by
  exact zbR
 have aD:∀ {j:Nat} {v:Value},1≠j->w1.cell? ⟨lb,j,none⟩=some v->(w1.setCell ⟨lb,1,none⟩ ov').cell? ⟨lb,j,none⟩=some v:=fun hj k=>by
  rw[Af hj];exact k
 have aE:∀ {e:TypeId} {size:Nat} {v:Value} {m:Nat} {xs:List Value},wr.ownsRow w0.heap.size e size v m xs->AJ v ov->(∀B,v.ownBlock=some B->B≠lb)->(w1.setCell ⟨lb,1,none⟩ ov').ownsRow w0.heap.size e size v m xs/\AJ v ov':=fun k hk hb=>
  ⟨Ac (ha.row k hk).1 (fun e=>hb _ e rfl) _,(ha.row k hk).2⟩
 have aJ:=aE h.ch.own h.a1.symm (fun B e=>(h.nlv B e).2.1);have aI:=aE h.rvo h.a3.symm (fun B e=>(h.nrv B e).2.1);refine⟨ov'.ownBlock.toList++mb,⟨aC (ha.cell h.oc0 aB),aC (ha.cell h.oc1 aB),by rw[EL];exact ha.frz h.oc1 h.of1 aB,aD ae (ha.cell h.lc0 aA),?_,aD ae (ha.cell h.lc2 aA),by rw[EL];exact ha.frz h.lc1 h.lf1 aA,by rw[EL];exact ha.frz h.lc2 h.lf2 aA,h.ne,h.ch.mx aF aJ.1 (fun B e=>List.mem_append_right _ (h.nlv B e).2.2),?_,aI.1,fun i r u a c=>(h.rows i r u a c).mx (aF.cons q),aJ.2.symm,h.a2,aI.2.symm,fun B e=>⟨(aG B e).1,(aG B e).2,List.mem_append_left _ (by rw[e];simp)⟩,fun B e=>⟨(h.nrv B e).1,(h.nrv B e).2.1,List.mem_append_right _ (h.nrv B e).2.2⟩,fun B e=>⟨(h.nlv B e).1,(h.nlv B e).2.1,List.mem_append_right _ (h.nlv B e).2.2⟩,List.mem_append_right _ h.om,h.ql,List.mem_append_right _ h.lm,fun B hB=>?_,aF.ex h.ex (fun B hB=>(h.lo B hB).1)⟩,aF⟩
 .exact World.cell?_setCell_same _ _ _ (ha.cell h.lc1 aA)
 .have:=ha.own;rw[List.length_append];exact Ac (by simpa[Al]using this) (fun e=>(aG _ e).2 rfl) _
 .rw[aK];exact zbT
theorem Kj.appRep(h:Kj w0 wr q n b ob lb lv L os ov orb rv reps vals mb){w1:World}{rv' z:Value}{r:List Int}(hz:SI wr (q :: mb) z r)(ha:AZ wr w1 w0.heap.size 22 1 rv rv' reps.length vals [z]):
  ∃aH,Kj w0 (w1.setCell ⟨lb,2,none⟩ rv') q n b ob lb lv L os ov orb rv' (reps ++ [r]) (vals ++ [z]) aH/\Mx mb aH wr (w1.setCell ⟨lb,2,none⟩ rv'):=by
 have aF:=Pe (j:=2) (u:=rv') ha (fun B e=>(h.nrv B e).2.2) h.lm;have aM:(w1.setCell ⟨lb,2,none⟩ rv').heap.size=w1.heap.size:=bz;have hgs:=ha.grow;have aB:some ob≠rv.ownBlock:=fun e=>(h.nrv ob e.symm).1 rfl;have aA:some lb≠rv.ownBlock:=fun e=>(h.nrv lb e.symm).2.1 rfl;have obl:=(h.lo ob h.om).2;have lbl:=(h.lo lb h.lm).2;have aG:∀B,rv'.ownBlock=some B->B≠ob/\B≠lb:=fun B e=>by
  rcases ha.at_ with h1|h1
  .rw[h1]at e;exact⟨(h.nrv B e).1,(h.nrv B e).2.1⟩
  .rw[h1]at e;injection e with e;omega
 have aC:∀ {j:Nat} {v:Value},w1.cell? ⟨ob,j,none⟩=some v->(w1.setCell ⟨lb,2,none⟩ rv').cell? ⟨ob,j,none⟩=some v:=fun k=>by
  exact zbR
 have aD:∀ {j:Nat} {v:Value},2≠j->w1.cell? ⟨lb,j,none⟩=some v->(w1.setCell ⟨lb,2,none⟩ rv').cell? ⟨lb,j,none⟩=some v:=fun hj k=>by
  rw[Af hj];exact k
 have aE:∀ {e:TypeId} {size:Nat} {v:Value} {m:Nat} {xs:List Value},wr.ownsRow w0.heap.size e size v m xs->AJ v rv->(∀B,v.ownBlock=some B->B≠lb)->(w1.setCell ⟨lb,2,none⟩ rv').ownsRow w0.heap.size e size v m xs/\AJ v rv':=fun k hk hb=>
  ⟨Ac (ha.row k hk).1 (fun e=>hb _ e rfl) _,(ha.row k hk).2⟩
 have aK:=aE h.ch.own h.a2.symm (fun B e=>(h.nlv B e).2.1);have aI:=aE h.ovo h.a3 (fun B e=>(h.nov B e).2.1);have aL:vals.length=reps.length:=by have:=h.rvo.1;omega
 refine⟨rv'.ownBlock.toList++mb,⟨aC (ha.cell h.oc0 aB),aC (ha.cell h.oc1 aB),by rw[EL];exact ha.frz h.oc1 h.of1 aB,aD ae (ha.cell h.lc0 aA),aD ae (ha.cell h.lc1 aA),?_,by rw[EL];exact ha.frz h.lc1 h.lf1 aA,by rw[EL];exact ha.frz h.lc2 h.lf2 aA,h.ne,h.ch.mx aF aK.1 (fun B e=>List.mem_append_right _ (h.nlv B e).2.2),aI.1,?_,fun i r' u a c=>?_,h.a1,aK.2.symm,aI.2,fun B e=>⟨(h.nov B e).1,(h.nov B e).2.1,List.mem_append_right _ (h.nov B e).2.2⟩,fun B e=>⟨(aG B e).1,(aG B e).2,List.mem_append_left _ (by rw[e];simp)⟩,fun B e=>⟨(h.nlv B e).1,(h.nlv B e).2.1,List.mem_append_right _ (h.nlv B e).2.2⟩,List.mem_append_right _ h.om,h.ql,List.mem_append_right _ h.lm,fun B hB=>?_,aF.ex h.ex (fun B hB=>(h.lo B hB).1)⟩,aF⟩
 .exact World.cell?_setCell_same _ _ _ (ha.cell h.lc2 aA)
 .have:=ha.own;rw[List.length_append];exact Ac this (fun e=>(aG _ e).2 rfl) _
 .by_cases hi:i<reps.length
  .rw[List.getElem?_append_left hi]at a;rw[List.getElem?_append_left ac]at c;exact(h.rows i r' u a c).mx (aF.cons q)
  .rw[List.getElem?_append_right ac]at a;rw[List.getElem?_append_right ac]at c;have aJ:i-reps.length=0:=by
    exact zcG
   rw[aJ]at a;rw[aL,aJ]at c;simp at a c;subst a c;exact hz.mx (aF.cons q)
 .rw[aM];exact zbT
end
structure WW(w0 wr:World)(q n ob:Nat)(lv:Value)(L:List Lv)(os:List (Value × Value))(mb:List Nat):Prop where
 oc0:wr.cell? ⟨ob,0,none⟩=some (.int .i64 n)
 oc1:wr.cell? ⟨ob,1,none⟩=some lv
 of1:wr.frozen? ⟨ob,1,none⟩=false
 ch:UE wr w0.heap.size q mb lv L os
 nlv:∀B,lv.ownBlock=some B->B≠ob
 om:ob∈mb
 ql:q<w0.heap.size
 lo:∀B∈mb,w0.heap.size<=B/\B<wr.heap.size
 ex:Ex w0 wr
theorem WW.begin_{w0 wr:World}{q n b ob:Nat}{lv:Value}{L:List Lv}{os:List (Value × Value)}{mb:List Nat}(h:WW w0 wr q n ob lv L os mb):
  Kj w0 (wr.alloc (.cells #[.int .i64 b,.slice none 0 0,.slice none 0 0] 90)) q n b ob wr.heap.size lv L os (.slice none 0 0) [] (.slice none 0 0) [] [] (wr.heap.size :: mb)/\Mx mb (wr.heap.size :: mb) wr (wr.alloc (.cells #[.int .i64 b,.slice none 0 0,.slice none 0 0] 90)):=by
 have hx:Ex wr (wr.alloc (.cells #[.int .i64 b,.slice none 0 0,.slice none 0 0] 90)):=(Ex.refl _).alloc _;have aB:(wr.alloc (.cells #[.int .i64 b,.slice none 0 0,.slice none 0 0] 90)).heap.size=wr.heap.size+1:=ag;have aA:Mx mb (wr.heap.size :: mb) wr (wr.alloc (.cells #[.int .i64 b,.slice none 0 0,.slice none 0 0] 90)):=by
  refine⟨hx.os,hx.tape,hx.output,hx.size,fun i hi _=>hx.block i hi,fun B hB=>?_⟩;rcases List.mem_cons.1 hB with e|e
  .exact .inr ac
  .exact .inl e
 have hob:=(h.lo ob h.om).2;refine⟨⟨hx.cell h.oc0,hx.cell h.oc1,hx.frz h.oc1 h.of1,ag,ag,ag,ag,ag,ac,h.ch.mx aA (Ai h.ch.own hx) (fun B e=>List.mem_cons_of_mem _ (h.ch.blk B e)),World.ownsRow_nil _ _ _ _,World.ownsRow_nil _ _ _ _,fun i r u a=>by simp at a,AJ.nil _,AJ.nil _,AJ.nil _,fun B e=>(by cases e),fun B e=>(by cases e),fun B e=>⟨h.nlv B e,by have:=(h.lo B (h.ch.blk B e)).2;omega,List.mem_cons_of_mem _ (h.ch.blk B e)⟩,List.mem_cons_of_mem _ h.om,h.ql,List.mem_cons_self ..,fun B hB=>?_,h.ex.trans hx⟩,aA⟩;rw[aB];rcases List.mem_cons.1 hB with e|e
 .subst e;have:=h.ex.size;omega
 .have:=h.lo B e;omega
theorem Kj.drop{w0 wr:World}{q n b ob lb:Nat}{lv:Value}{L:List Lv}{os:List (Value × Value)}{ov:Value}{orb:List Int}{rv:Value}{reps:List (List Int)}{vals:List Value}{mb:List Nat}(h:Kj w0 wr q n b ob lb lv L os ov orb rv reps vals mb):WW w0 wr q n ob lv L os mb:=
 ⟨h.oc0,h.oc1,h.of1,h.ch,fun B e=>(h.nlv B e).1,h.om,h.ql,h.lo,h.ex⟩
theorem Kj.keep{w0 wr:World}{q n b ob lb:Nat}{lv:Value}{L:List Lv}{os:List (Value × Value)}{ov:Value}{orb:List Int}{rv:Value}{reps:List (List Int)}{vals:List Value}{mb:List Nat}(h:Kj w0 wr q n b ob lb lv L os ov orb rv reps vals mb){w1:World}{aA:Value}
  (ha:AZ wr w1 w0.heap.size 90 3 lv aA L.length (Pk L os) [.int .i64 b,ov,rv]):
  ∃mb',WW w0 (w1.setCell ⟨ob,1,none⟩ aA) q n ob aA (L ++ [⟨b,orb,reps⟩]) (os ++ [(ov,rv)]) mb':=by
 have aB:Mx mb (ob :: lv.ownBlock.toList) wr wr:=⟨rfl,rfl,rfl,Nat.le_refl _,fun _ _ _=>rfl,fun B hB=>by
  rcases List.mem_cons.1 hB with e|e
  .subst e;exact .inl h.om
  .exact .inl (h.nlv B (by simpa using e)).2.2⟩
 have aF:=Pe (mb:=ob :: lv.ownBlock.toList) (j:=1) (u:=aA) (cb:=ob) ha (fun B e=>List.mem_cons_of_mem _ (by rw[e];simp)) (List.mem_cons_self ..);have aI:(w1.setCell ⟨ob,1,none⟩ aA).heap.size=w1.heap.size:=by simp[World.setCell]
 have hgs:=ha.grow;have aC:some ob≠lv.ownBlock:=fun e=>(h.nlv ob e.symm).1 rfl;have obl:=(h.lo ob h.om).2;have aH:∀B,aA.ownBlock=some B->B≠ob:=fun B e=>by
  rcases ha.at_ with h1|h1
  .rw[h1]at e;exact(h.nlv B e).1
  .rw[h1]at e;injection e with e;omega
 have aE:∀B,ov.ownBlock=some B->B ∉ ob :: lv.ownBlock.toList:=fun B e hm=>by
  rcases List.mem_cons.1 hm with e2|e2
  .exact(h.nov B e).1 e2
  .have e2:lv.ownBlock=some B:=by simpa using e2
   rcases h.a1 with k|k
   .rw[k]at e;cases e
   .exact k (by rw[e,e2])
 have aD:∀B,rv.ownBlock=some B->B ∉ ob :: lv.ownBlock.toList:=fun B e hm=>by
  rcases List.mem_cons.1 hm with e2|e2
  .exact(h.nrv B e).1 e2
  .have e2:lv.ownBlock=some B:=by simpa using e2
   rcases h.a2 with k|k
   .rw[k]at e;cases e
   .exact k (by rw[e,e2])
 have aK:SI wr (q :: ob :: lv.ownBlock.toList) ov orb:=⟨Sl.own h.ovo,fun _ B e=>⟨fun hm=>by
  rcases List.mem_cons.1 hm with e2|e2
  .have:=(h.ovo.lt B e).1;have:=h.ql;omega
  .exact aE B e e2,(h.ovo.lt B e).2⟩⟩
 have aJ:SM wr (q :: ob :: lv.ownBlock.toList) rv reps vals:=⟨Sl.own h.rvo,fun _ B e=>⟨fun hm=>by
  rcases List.mem_cons.1 hm with e2|e2
  .have:=(h.rvo.lt B e).1;have:=h.ql;omega
  .exact aD B e e2,(h.rvo.lt B e).2⟩,fun i r u a c=>(h.rows i r u a c).mx (aB.cons q)⟩
 refine⟨aA.ownBlock.toList++(ob :: lv.ownBlock.toList),?_,?_,by rw[EL];exact ha.frz h.oc1 h.of1 aC,⟨?_,by simp[h.ch.len],fun i l o a c=>?_,fun B e=>List.mem_append_left _ (by rw[e];simp)⟩,aH,List.mem_append_right _ (List.mem_cons_self ..),h.ql,fun B hB=>?_,aF.ex h.ex (fun B hB=>?_)⟩
 .rw[Af ae];exact ha.cell h.oc0 aC
 .exact World.cell?_setCell_same _ _ _ (ha.cell h.oc1 aC)
 .rw[Ql L os ⟨b,orb,reps⟩ (ov,rv) h.ch.len,List.length_append];exact Ac ha.own (fun e=>aH _ e rfl) _
 .by_cases hi:i<L.length
  .rw[List.getElem?_append_left hi]at a;rw[List.getElem?_append_left (by have:=h.ch.len;omega)]at c;obtain⟨k1,v2,k2⟩:=h.ch.lev i l o a c;exact⟨(k1.mx (aB.cons q)).mx (aF.cons q),v2,(k2.mx (aB.cons q)).mx (aF.cons q)⟩
  .rw[List.getElem?_append_right ac]at a;rw[List.getElem?_append_right (by have:=h.ch.len;omega)]at c;have aG:i-L.length=0:=by
    exact zcG
   rw[aG]at a;rw[h.ch.len,aG]at c;simp at a c;subst a c;exact⟨aK.mx (aF.cons q),vals,aJ.mx (aF.cons q)⟩
 .rw[aI];rcases List.mem_append.1 hB with h1|h1
  .exact ha.own.lt B bw
  .rcases List.mem_cons.1 h1 with e|e
   .subst e;exact⟨(h.lo B h.om).1,ac⟩
   .have:=h.lo B (h.nlv B (by simpa using e)).2.2;exact⟨this.1,ac⟩
 .rcases List.mem_cons.1 hB with e|e
  .subst e;exact(h.lo B h.om).1
  .exact(h.lo B (h.nlv B (by simpa using e)).2.2).1
theorem WW.o{w0 wr:World}{q n ob:Nat}{lv:Value}{L:List Lv}{os:List (Value × Value)}{mb:List Nat}(h:WW w0 wr q n ob lv L os mb)(u v:Value):D6 ((wr.setCell ⟨q,0,none⟩ u).setCell ⟨q,1,none⟩ v) lv L:=by
 have aA:lv.ownBlock≠some q:=fun e=>by
  have:=(h.lo q (h.ch.blk q e)).1;have:=h.ql;omega
 have hM:Mx (q :: mb) (q :: mb) wr ((wr.setCell ⟨q,0,none⟩ u).setCell ⟨q,1,none⟩ v):=by
  refine⟨rfl,rfl,rfl,by simp[World.setCell],fun i hi hn=>?_,fun B hB=> .inl hB⟩;have aB:i≠q:=fun e=>hn (by rw[e];exact List.mem_cons_self ..);rw[Below.heap_setCell _ _ _ _ aB,Below.heap_setCell _ _ _ _ aB]
 refine⟨os,h.ch.len,Sl.own (Ac (Ac h.ch.own aA u) aA v),fun i l o a c=>?_⟩;obtain⟨k1,vals,k2⟩:=h.ch.lev i l o a c;exact⟨(k1.mx hM).sl,(k2.mx hM).msl⟩
end Go.Proofs.YtehieobniamagaaGreat
