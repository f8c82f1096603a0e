/- Walk of automorphism.member. -/
import Derived.Test.YtehieobniamagaaGreatZa34
namespace Go.Proofs.YtehieobniamagaaGreat
open Go.RowKit
set_option linter.all false
set_option maxRecDepth 100000
set_option maxHeartbeats 8000000
def Gk(p m:Nat)(N:Nat)(P:List Int):List Int:=il N (EZ (p^m-1) P)
def Gj(p m:Nat)(N:Nat)(P:List Int):List Int:=il N (Fr (p^m-1) P)
open Classical in
noncomputable def E7 (p m:Nat) (ml:List Int) (N:Nat) (rows:List (List Int)) (P:List Int):Bool:=
 decide (RO p m ml N P=true/\BF p m ml N (Gk p m N P) (Gj p m N P) 0=0/\∃(piv:List Nat) (a':Nat->Nat->Int),
  OI p m ml N (Hn p m ml (Gk p m N P) (Gj p m N P) 0 N rows rows.length).length (AQ (Hn p m ml (Gk p m N P) (Gj p m N P) 0 N rows rows.length)) a' piv/\rows=AL N piv.length a')
theorem Nz{p m:Nat}{ml:List Int}{N:Nat}{rows:List (List Int)}{P:List Int}:E7 p m ml N rows P=true↔(RO p m ml N P=true/\BF p m ml N (Gk p m N P) (Gj p m N P) 0=0/\∃(piv:List Nat) (a':Nat->Nat->Int),
  OI p m ml N (Hn p m ml (Gk p m N P) (Gj p m N P) 0 N rows rows.length).length (AQ (Hn p m ml (Gk p m N P) (Gj p m N P) 0 N rows rows.length)) a' piv/\rows=AL N piv.length a'):=by
 unfold E7;simp only[decide_eq_true_eq]
theorem dr{P:Prop}(h:P:=by simp[results,Tryz.results73,go_sem]):P:=h
theorem Pi(w:World){b p m x0 N:Nat}{ml:List Int}{rows:List (List Int)}(hg:AP w b p m ml x0)(bK:1<=N)(hN:N<=64)(hd:N*(p^m-1)<=64)(ho:Ce p m ml N rows 0)(m1 v1:Value)(hc:(⟨p,m,ml,N,rows⟩:AU).at w m1 v1)(P:List Int)(pv:Value)(hp:Aj w pv P)(aF:P.length=N*(p^m-1))(aW:∀x∈P,0<=x/\x<(P.length:Int)):
  Calls Tryz.prog 73 #[.pointer (some ⟨b,0,none⟩),(⟨p,m,ml,N,rows⟩:AU).arg m1 v1,pv] w fun r w'=>r= .returned (.bool (E7 p m ml N rows P))/\Ex w w':=by
 obtain⟨c0,c1,c2,c3,c4⟩:=Dp w ⟨p,m,ml,N,rows⟩ m1 v1;have aE:=AE w ((⟨p,m,ml,N,rows⟩:AU).obj m1 v1);have HG:=Aa (hg.ex aE);have aI:=Aa (hc.ex aE);have HP:=Aa (hp.ex aE);have aN:=Aa (NP (w.alloc ((⟨p,m,ml,N,rows⟩:AU).obj m1 v1)) HG.o N bK hN P pv HP.o hd aF aW);obtain⟨x1,y1,bJ,-,z1,-⟩:=hc.g.open;obtain⟨x3,y3,bI,-,z3,-⟩:=hc.m.open;obtain⟨x5,y5,bH,-,z5,-⟩:=hp.open;unfold maxLen at z1 z3 z5;have aU:=Aa (fun (w5:World) (h5:Ex (w.alloc ((⟨p,m,ml,N,rows⟩:AU).obj m1 v1)) w5) (u r:Value) (hu:Aj w5 u (Gk p m N P)) (hr:Aj w5 r (Gj p m N P))=>Sa w5 p m ml m1 (aI.o.ex h5).m N rows v1 (aI.o.ex h5).g _ _ u r hu hr 0);have aM:=Aa (show ∀q:Bool,(q=true↔(RO p m ml N P=true/\BF p m ml N (Gk p m N P) (Gj p m N P) 0=0/\∃(piv:List Nat) (a':Nat->Nat->Int),OI p m ml N (Hn p m ml (Gk p m N P) (Gj p m N P) 0 N rows rows.length).length (AQ (Hn p m ml (Gk p m N P) (Gj p m N P) 0 N rows rows.length)) a' piv/\rows=AL N piv.length a'))->q=E7 p m ml N rows P from fun q h=>
  Bool.eq_iff_iff.2 (h.trans Nz.symm))
 obtain⟨MB,bA⟩:∃x,E7 p m ml N rows P=x:=⟨_,rfl⟩;rw[bA]at aM ⊢;obtain⟨B,hB⟩:=nA w.heap.size;rw[hB]at c0 c1 c2 c3 c4;have aH:=Aa aE;unfold AU.arg;unfold AU.obj at aH aN aU aI HG HP c0 c1 c2 c3 c4;dsimp only at aH aN aU aI HG HP c0 c1 c2 c3 c4 ⊢;subst bJ bI bH;have HO:=Aa ho;have HRW:=Aa hc.g;clear hc aE hg hp ho bA aF aW hd;go_enter Tryz.func73,Tryz.ntmps73
 go_upto_region 1 with fail
 try simp only[hB]
 clear hB;generalize w.alloc _=w1 at *;have bE:=Aa aN.o;go_wp2_with fail
 refine bE.o.mono ?_;rintro e w2⟨u,v,rfl,hu,hv,-,aA⟩;have HU:=Aa (show Aj w2 u (Gk p m N P) from hu);have HV:=Aa (show Aj w2 v (Gj p m N P) from hv);obtain⟨ua,uc,rfl,-,-,-⟩:=hu.open;obtain⟨va,vc,rfl,-,-,-⟩:=hv.open;simp only[Am]at HU HV ⊢;obtain⟨FB,aQ⟩:∃x,RO p m ml N P=x:=⟨_,rfl⟩;have bD:=Aa aQ;rw[aQ];replace c0:=aA.cell c0;replace c1:=aA.cell c1;replace c2:=aA.cell c2;replace c3:=aA.cell c3;replace c4:=aA.cell c4;obtain⟨t0,t1,t2,et⟩:=Ay w2 (.slice ua N uc) (.slice va N vc) 0;obtain⟨TB,aP⟩:∃x,w2.heap.size=x:=⟨_,rfl⟩;rw[aP]at t0 t1 t2;have aL:=Aa (aA.trans et);replace c0:=et.cell c0;replace c1:=et.cell c1;replace c2:=et.cell c2;replace c3:=et.cell c3;replace c4:=et.cell c4;have bN:=Aa (HU.o.ex et);have bM:=Aa (HV.o.ex et);clear hu hv aA et aN bE aQ HU HV;go_upto_region 2 with fail
 try simp only[aP]
 clear aP;generalize w2.alloc (.cells #[.slice ua N uc,.slice va N vc,.int .i64 0] 26)=w3 at *;have bG:=Aa (aU.o w3 aL.o _ _ bN.o bM.o);by_cases hf:FB=true
 rotate_left
 .obtain rfl:FB=false:=by cases FB with
   | true=>exact absurd rfl hf
   | false=>rfl
  have HM:=Aa (aM.o false ⟨fun h=>di,fun h=>(by have:=h.1.symm.trans bD.o;cases this)⟩);clear hf;go_wp2_with fail
  exact bodyPost_ret (v:= .bool false) dr rfl ⟨by rw[HM.o],aH.o.trans aL.o⟩
 .subst hf;by_cases hm0:BF p m ml N (Gk p m N P) (Gj p m N P) 0=0
  .have aB:=Aa hm0;clear hm0;go_wp2_with fail
   refine bG.o.mono ?_;rintro e w4⟨aG,aD⟩;obtain⟨piv,a',rv,v',rfl,aY,aV,aJ⟩:=Yf (fr:=0) (show Ym p m ml N rows _ _ ((0:Nat):Int) _ _ _ from aG) HO.o aB.o;have bF:=Aa aY;obtain⟨M,hM⟩:∃x,AL N piv.length a'=x:=⟨_,rfl⟩;rw[hM]at aJ;have bC:=Aa hM;obtain⟨d0,d1,d2,d3,d4⟩:=Dp w4 ⟨p,m,ml,N,M⟩ v' rv;have aC:=AE w4 ((⟨p,m,ml,N,M⟩:AU).obj v' rv);have aT:=Aa (aJ.ex aC);obtain⟨a6,b6,rfl,-,-,-⟩:=aV.open;obtain⟨a7,b7,rfl,-,-,-⟩:=aJ.open;unfold AU.obj at d0 d1 d2 d3 d4 aC aT;dsimp only at d0 d1 d2 d3 d4 aC aT;obtain⟨DB,aS⟩:∃x,w4.heap.size=x:=⟨_,rfl⟩;rw[aS]at d0 d1 d2 d3 d4;have aK:=Aa (aL.o.trans (aD.trans aC));replace c4:=aC.cell (aD.cell c4);clear aG aY hM aV aJ aC aD c0 c1 c2 c3 t0 t1 t2;go_upto_region 5 with fail
   try simp only[aS]
   clear aS;generalize w4.alloc (.cells #[.int .i64 p,.int .i64 m,.slice a6 ml.length b6,.int .i64 N,.slice a7 M.length b7] 39)=w5 at *;have HQ:=Aa (Dg w5 rows M _ _ (aI.o.ex aK.o).g aT.o);have HM:=Aa (aM.o (decide (rows=M)) ⟨fun h=>⟨bD.o,aB.o,piv,a',bF.o,by rw[bC.o];exact of_decide_eq_true h⟩,fun h=>by
    obtain⟨-,-,piv2,a2,h1,h2⟩:=h;obtain⟨_,_,_,_,g1,g2,g3,g4,-,-,aZ⟩:=Fm aB.o;obtain rfl:p=_:=Int.ofNat.inj g1;obtain rfl:m=_:=Int.ofNat.inj g2;have:=(NY aZ.hp aZ.hm (fun x=>Iff.rfl) h1 bF.o).1;exact decide_eq_true (by rw[h2,this,bC.o])⟩)
   clear d0 d1 d2 d3;obtain⟨DD,bB⟩:∃x,decide (rows=M)=x:=⟨_,rfl⟩;rw[bB]at HQ HM;clear bB;go_wp2_with fail
   refine HQ.o.mono ?_;rintro e w6⟨rfl,n6,rfl⟩;have bL:=Aa (aK.o.drewN n6);clear c4 d4;go_wp2_with fail
   exact bodyPost_ret (v:= .bool DD) dr rfl ⟨by rw[HM.o],aH.o.trans bL.o⟩
  .have aB:=Aa hm0;have HM:=Aa (aM.o false ⟨fun h=>di,fun h=>absurd h.2.1 aB.o⟩);obtain⟨EE,aR⟩:∃x,BF p m ml N (Gk p m N P) (Gj p m N P) 0=x:=⟨_,rfl⟩;have bO:=Aa aR;have hb:(EE==0)=false:=by
    have h1:=aB.o;rw[aR]at h1;simpa using h1
   clear hm0 aR;go_wp2_with fail
   refine bG.o.mono ?_;rintro e w4⟨⟨e1,aX,aG⟩,aD⟩;obtain rfl:=Cl aX HO.o;have aO:e= .returned (.tuple #[.agg #[.int .i64 0,.int .i64 0,.slice none 0 0,.int .i64 0,.slice none 0 0],.int .i64 EE]):=by
    rcases aG with⟨h,_⟩|⟨_,_,h⟩|⟨_,h,_⟩
    .exact absurd rfl h
    .rw[bO.o]at h;exact h
    .exact absurd h aB.o
   subst aO;have aK:=Aa (aL.o.trans (aD.trans (AE w4 (.cells #[.int .i64 0,.int .i64 0,.slice none 0 0,.int .i64 0,.slice none 0 0] 39))));clear aG aX aD c0 c1 c2 c3 c4 t0 t1 t2;go_wp2_with fail
   exact bodyPost_ret (v:= .bool false) dr rfl ⟨by rw[HM.o],aH.o.trans aK.o⟩
def G7(L:List Lv):Nat:=Ih (L.map fun l=>l.orb.length)
theorem Kw{L:List Lv}{k:Nat}{l:Lv}(h:L[k]?=some l):G7 (L.take (k+1))=G7 (L.take k)*l.orb.length:=by
 unfold G7;rw[List.map_take,List.map_take];exact Jl (by rw[List.getElem?_map,h];rfl)
theorem Pm{n:Nat}{S:List (Nat->Nat)}{bs:List Nat}{l:Lv}(h:l∈bs.map (E9 n S)):l.orb.length<=n:=by
 obtain⟨b,_,rfl⟩:=List.mem_map.1 h;show(CZ (Be S b n)).length<=n
 rw[Cc];exact Fk S b n
theorem ON{L:List Lv}(h:∀l∈L,l.orb.length<=64):∀k,k<=64->CG (G7 (L.take k)):=by
 have aA:∀k,G7 (L.take k)<=64^k:=by
  intro k
  induction k with
  | zero=>exact Nat.le_refl _
  | succ k ih=>
   by_cases hk:k<L.length
   .have hl:L[k]?=some (L[k]'hk):=List.getElem?_eq_getElem hk;rw[Kw hl,Nat.pow_succ];exact Nat.mul_le_mul ih (h _ (List.getElem_mem hk))
   .rw[List.take_of_length_le ac]at ih ⊢;exact Nat.le_trans ih (Nat.pow_le_pow_right ac ac)
 intro k hk;have h1:(64:Nat)^k<=64^64:=Nat.pow_le_pow_right ac hk;have h2:(64:Nat)^64=Bl^12:=ae;have h3:Bl^12<Bl^200:=(Nat.pow_lt_pow_iff_right (by decide:1<Bl)).2 ac;have:=aA k;unfold CG;omega
def ZW(d:Int)(L:List Lv)(r:Ending)(w':World):Prop:=(A9 d L≠0/\r= .returned (.tuple #[.slice none 0 0,.int .i64 (A9 d L)]))∨(A9 d L=0/\∃v,r= .returned (.tuple #[v,.int .i64 0])/\GU w' v (G7 L))
theorem ZL{w:World}{u v:Value}{x y:Nat}(hu:GU w u x)(hv:GU w v y)(t:TypeId):Zl (w.alloc (.cells #[u,v] t)) (.slice (some ⟨w.heap.size,0,none⟩) 2 2) [x,y]:=by
 have ea:Ex w (w.alloc (.cells #[u,v] t)):=(Ex.refl _).alloc _;refine⟨[u,v],⟨rfl,_,2,rfl,Nat.le_refl _,by unfold maxLen;omega,fun _=>⟨_,0,rfl,fun j z hz=>?_⟩⟩,fun i z s h1 h2=>?_⟩
 .match j,hz with
  | 0,hz=>simp at hz;subst hz;simp
  | 1,hz=>simp at hz;subst hz;simp
  | j+2,hz=>simp at hz
 .match i,h1,h2 with
  | 0,h1,h2=>simp at h1 h2;subst h1 h2;exact hu.ex ea
  | 1,h1,h2=>simp at h1 h2;subst h1 h2;exact hv.ex ea
  | i+2,h1,h2=>simp at h1
theorem YE{w:World}{u v:Value}{x y:Nat}(hu:GU w u x)(hv:GU w v y)(hx:CG x)(hy:CG y)(aA:CG (x*y))(t:TypeId):
  Calls Tryz.prog 41 #[.slice (some ⟨w.heap.size,0,none⟩) 2 2] (w.alloc (.cells #[u,v] t)) fun r w'=>(∃u,r= .returned u/\GU w' u (x*y))/\Ex w w':=by
 have h:=Ta _ _ _ (ZL hu hv t) (fun z hz=>by
  simp at hz;rcases hz with e|e
  .rw[e];exact hx
  .rw[e];exact hy) (fun j hj=>by
  match j,hj with
  | 0,_=>exact FA (by show(1:Nat)<_;omega)
  | 1,_=>show CG (1*x);rw[Nat.one_mul];exact hx
  | 2,_=>show CG (1*x*y);rw[Nat.one_mul];exact aA)
 have e:Ih [x,y]=x*y:=by show 1*x*y=_;rw[Nat.one_mul]
 rw[e]at h;exact h.mono fun r w' ⟨h1,h2⟩=>⟨h1,((Ex.refl w).alloc _).trans h2⟩
theorem Om(w:World)(d:Int)(L:List Lv)(lv:Value)(hL:D6 w lv L)(hg:(A6 L).length<=1000):
  Calls Tryz.prog 35 #[.agg #[.int .i64 d,lv]] w fun r w'=>ZW d L r w'/\Ex w w':=by
 obtain⟨d0,d1,e0⟩:=Ch w d lv;obtain⟨za,zc,rfl,z1,z2,z3⟩:=(hL.ex e0).open3;unfold maxLen at z2;have bF:=Aa (Fx _ d L _ (hL.ex e0) hg);have Z3:=Aa z3;clear z3 hL;go_enter Tryz.func35,Tryz.ntmps35
 go_wp2_with fail
 obtain⟨q,hq⟩:=nA w.heap.size;rw[hq]at d0 d1
 try simp only[hq]
 clear hq;generalize w.alloc (.cells #[.int .i64 d,.slice za L.length zc] 43)=w1 at *;have aR:=Aa e0;clear e0;refine bF.o.mono ?_;rintro e w2⟨rfl,aA⟩;have d1:=aA.cell d1;have aH:=Aa aA;obtain⟨E,hE⟩:=nA (A9 d L);rw[hE];by_cases h0:E=0
 .subst h0;obtain⟨n,rfl,hn1,hn2,S,hS,aS,aG⟩:=QV hE;have aB:∀l∈L,l.orb.length<=n:=fun l hl=>Pm (aG ▸ hl);have hll:L.length<=n:=by
   rw[aG,List.length_map];unfold Nq;have:=List.length_filter_le (fun b=>decide (1<(Be S b n).length)) (List.range n);rw[List.length_range]at this;exact this
  obtain⟨bA,aQ,D1,HE,bB⟩:=Of aB (ON (L:=L) fun l hl=>by have:=aB l hl;omega) d1 hE (UA w2 1 ac);clear aA hE aB aG aS hS d0;go_wp2_with (go_at_call 42;refine bB.o.mono ?_;rintro e w3⟨⟨u,rfl,hu⟩,aD⟩;have HU:=Aa hu;have aO:=Aa aD;have d1:=aD.cell D1.o;clear hu aD)
  clear d1
  go_loopw [5,17] (fun p' k' wr=>∃(k:Nat),k<=L.length/\k'= .int .i64 k/\Hia (GU wr p' (G7 (L.take k)))/\Hia (Ex w3 wr)) (fun _ k' _=>L.length-(intOf k').toNat)
  case atStart=>exact⟨0,ac,rfl,HU,Aa (Ex.refl _)⟩
  case round=>
   clear HU;obtain⟨k,hk,rfl,hn,aF⟩:=hrel;obtain⟨pn,pf,_,_,aN⟩:=id hn.o;obtain⟨pa,pc,rfl,_,_,_⟩:=aN.open;clear aN;by_cases hkl:k<L.length
   .obtain⟨l,hl⟩:∃l,L[k]?=some l:=⟨_,List.getElem?_eq_getElem hkl⟩;obtain⟨zb,zo,rfl,aK⟩:=Z3.o ac;have aJ:=Aa (aH.o.trans (aO.o.trans aF.o));obtain⟨u,r,c0,c1,c2,hu,hr⟩:=aK k l hl;have c0:=aJ.o.cell c0;have c1:=aJ.o.cell c1;have c2:=aJ.o.cell c2;obtain⟨oa,oc,rfl,_,_,_⟩:=hu.open;obtain⟨ra,rc,rfl,_,_,_⟩:=hr.open;have i1:(0:Int)<=(k:Int):=by omega
    have i2:(k:Int)<(L.length:Int):=ac;have aB:=bA.o l (List.mem_of_getElem? hl);obtain⟨p,hp⟩:=nA l.pt;rw[hp]at c0;obtain⟨b0,b1,b2,eb⟩:=D4 wr p (.slice oa l.orb.length oc) (.slice ra l.reps.length rc);have e1:IntKind.u64.wrap (l.orb.length:Int)=(l.orb.length:Int):=bp;obtain⟨aI,HN,bE,aP,aY,aZ,aX⟩:=OK (UA (wr.alloc (.cells #[.int .i64 p,.slice oa l.orb.length oc,.slice ra l.reps.length rc] 90)) l.orb.length ac) (hn.o.ex eb) eb (Kw hl) (aQ.o (k+1) ac) (aQ.o k ac) (FA (x:=l.orb.length) ac);clear aK hl hp hu hr eb hn;go_wp2_with (first|(go_at_call 42;refine aI.o.mono ?_;rintro e w5⟨⟨u5,rfl,aE⟩,aC⟩;obtain⟨_,_,_,_,h5⟩:=id aE;obtain⟨ya,yc,rfl,_,_,_⟩:=h5.open;have bC:=Aa (YE (HN.o.ex aC) aE aZ.o aX.o (by rw[<-aP.o];exact aY.o) 56);have aU:=Aa aC;clear h5 aE aC)|(go_at_call 41;refine bC.o.mono ?_;rintro e w6⟨⟨u6,rfl,aM⟩,aL⟩;have aW:=Aa aM;have aT:=Aa aL;clear aM aL))
    have bD:=Aa (aF.o.trans (bE.o.trans (aU.o.trans aT.o)));have aV:=Aa (show GU w6 u6 (G7 (L.take (k+1))) from by
     rw[aP.o];exact aW.o)
    go_roundw
    case rel=>exact⟨k+1,ac,by go_num,aV,bD⟩
    case measure=>simp[intOf];omega
   .obtain rfl:k=L.length:=by omega
    have HN:=Aa (show GU wr (.slice pa pn pc) (G7 L) from by have:=hn.o;rwa[List.take_length]at this);go_wp2_with fail
    go_ret2;exact⟨.inr ⟨HE.o,_,rfl,HN.o⟩,aR.o.trans (aH.o.trans (aO.o.trans aF.o))⟩
 .have hb:(E !=0)=true:=by simpa using h0
  have HR:=Aa (show A9 d L≠0 from by rw[hE];exact h0);have HE:=Aa hE;clear h0 hE aA;go_wp2_with fail
  go_ret2;exact⟨.inl ⟨HR.o,Xg HE.o.symm⟩,aR.o.trans aH.o⟩
theorem We(w:World)(pt:Int)(u v:Value)(YB QB i q:Nat)(hi:i<=64)(hq:1<=q)(hq2:q<=1048576)(h0:w.cell? ⟨YB,0,none⟩=some (.int .i64 i))(h1:w.cell? ⟨QB,0,none⟩=some (.int .i64 q)):
  Calls Tryz.prog 131 #[.agg #[.int .i64 pt,u,v],.pointer (some ⟨YB,0,none⟩),.pointer (some ⟨QB,0,none⟩)] w fun r w'=>r= .returned (.bool (pt==(i:Int)*((q:Int)-1)))/\Ex w w':=by
 have b0:(w.alloc (.cells #[.int .i64 pt,u,v] 90)).cell? ⟨w.heap.size,0,none⟩=some (.int .i64 pt):=ag;have HX:=Aa (AE w (.cells #[.int .i64 pt,u,v] 90));replace h0:=HX.o.cell h0;replace h1:=HX.o.cell h1;have a1:(0:Int)<=(i:Int):=ac;have a2:(i:Int)<=64:=ac;have a3:(1:Int)<=(q:Int):=ac;have a4:(q:Int)<=1048576:=ac;have h2:wrap64 ((i:Int)*((q:Int)-1))=(i:Int)*((q:Int)-1):=by
  have m1:(0:Int)<=(i:Int)*((q:Int)-1):=Int.mul_nonneg a1 ac;have m2:(i:Int)*((q:Int)-1)<=64*1048576:=Int.mul_le_mul a2 ac ac ac;unfold wrap64;omega
 go_enter Tryz.func131,Tryz.ntmps131
 obtain⟨B,hB⟩:=nA w.heap.size;rw[hB]at b0;go_upto_region 1 with fail
 try simp only[hB]
 clear hB;generalize w.alloc (.cells #[.int .i64 pt,u,v] 90)=w1 at *;exact zcP
theorem Kn(w:World)(YB QB i0 q:Nat)(hi:i0<=64)(hq:1<=q)(aC:q<=1048576)(h0:w.cell? ⟨YB,0,none⟩=some (.int .i64 i0))(h1:w.cell? ⟨QB,0,none⟩=some (.int .i64 q))(L:List Lv)(v:Value)(hL:D6 w v L)(pr:Nat->Bool)
  (hp:∀(j:Nat) (l:Lv),L[j]?=some l->pr j=(l.pt==(i0:Int)*((q:Int)-1))):
  Calls Tryz.prog 130 #[v,.func (.func 131) #[] #[.pointer (some ⟨YB,0,none⟩),.pointer (some ⟨QB,0,none⟩)]] w fun r w'=>r= .returned (.int .i64 (CD pr L.length))/\Ex w w':=by
 obtain⟨a,cap,rfl,s1,s2,s3⟩:=hL.open3;have S3:=Aa s3;have HP:=Aa hp;have aE:=Aa (fun (w1:World) (h:Ex w w1) (pt:Int) (u v:Value)=>We w1 pt u v YB QB i0 q hi hq aC (h.cell h0) (h.cell h1));obtain⟨n,hn⟩:=nA L.length;have HL:=Aa hn;rw[hn]at S3 s1 ⊢;unfold maxLen at s2;clear s3 hp hn hL h0 h1;go_enter Tryz.func130,Tryz.ntmps130
 go_wp2_with fail
 go_loopg [5,8] n (fun gg _ i' wr=>∃i:Nat,i<=n/\n-i<=gg/\i'= .int .i64 i/\Hia (Ex w wr)/\Hia (∀j,j<i->pr j=false))
 case atStart=>exact⟨0,ac,ac,rfl,Aa (Ex.refl _),Aa (fun j hj=>ac)⟩
 case round=>
  obtain⟨i,hi,hg,rfl,aA,aB⟩:=hrel;by_cases hlt:i<n
  .obtain⟨l,hl⟩:∃l,L[i]?=some l:=⟨_,List.getElem?_eq_getElem az⟩;obtain⟨bb,o,rfl,hc⟩:=S3.o ac;obtain⟨u,r,c0,c1,c2,-,-⟩:=hc i l hl;replace c0:=aA.o.cell c0;replace c1:=aA.o.cell c1;replace c2:=aA.o.cell c2;have aD:=Aa (HP.o i l hl);have HC:=Aa (aE.o wr aA.o l.pt u r);have i1:(0:Int)<=(i:Int):=by omega
   have hlt':(i:Int)<(n:Int):=ac;rw[<-aD.o]at HC;clear hc hl
   cases hb:pr i with
   | true=>
    rw[hb]at HC;have HF:=Aa (Cg hlt hb aB.o);clear hb;go_wp2_with (go_at_call 131;refine HC.o.mono ?_;rintro e w'⟨rfl,hx⟩;have HX:=Aa (aA.o.trans hx);clear hx)
    exact zcV
   | false=>
    rw[hb]at HC;have HA:=Aa (show ∀j,j<i+1->pr j=false from fun j hj=>by
     by_cases e:j=i
     .subst e;exact hb
     .exact aB.o j ac)
    clear hb;go_wp2_with (go_at_call 131;refine HC.o.mono ?_;rintro e w'⟨rfl,hx⟩;have HX:=Aa (aA.o.trans hx);clear hx)
    exact zbJ
  .obtain rfl:i=n:=by omega
   have HF:=Aa (BL aB.o);go_wp2_with fail
   go_ret;exact⟨Ag HF.o.symm,aA.o⟩
def TN(A:Nat->Nat->Nat)(b x i:Nat):Bool:=XH b (A i)&&(A i b==x)
def Rs(n m:Nat)(A:Nat->Nat->Nat)(b:Nat):List Nat:=(List.range n).filter fun x=>(List.range m).any (TN A b x)
def Wc(m:Nat)(A:Nat->Nat->Nat)(b x:Nat):Nat:=((List.range m).find? (TN A b x)).getD 0
def VI(n m:Nat)(A:Nat->Nat->Nat)(b:Nat):Lv:=⟨b,CZ (Rs n m A b),(Rs n m A b).map fun x=>li n (A (Wc m A b x))⟩
def XV(n m:Nat)(A:Nat->Nat->Nat)(k:Nat):List Lv:=((List.range k).map (VI n m A)).filter fun l=>decide (1<l.orb.length)
theorem GN{A:Nat->Nat->Nat}{b x i:Nat}:TN A b x i=true↔AY b (A i)/\A i b=x:=by
 unfold TN;rw[Bool.and_eq_true,TW,beq_iff_eq]
theorem Uv{n m:Nat}{S:List (Nat->Nat)}{A:Nat->Nat->Nat}(h:MS n m S A){b x:Nat}:(List.range m).any (TN A b x)=true↔∃f,Gn S f/\AY b f/\f b=x:=by
 rw[List.any_eq_true];constructor
 .rintro⟨i,hi,e⟩;have:=GN.1 e;exact⟨A i,(h.all _).2 ⟨i,List.mem_range.1 hi,rfl⟩,this⟩
 .rintro⟨f,h1,h2,h3⟩;obtain⟨i,hi,rfl⟩:=(h.all f).1 h1;exact⟨i,List.mem_range.2 hi,GN.2 ⟨h2,h3⟩⟩
open Classical in
theorem Vw {n m:Nat} {S:List (Nat->Nat)} {A:Nat->Nat->Nat} (h:MS n m S A) (b:Nat):Be S b n=Rs n m A b:=by
 unfold Be Rs;apply List.filter_congr;intro x _;rw[Bool.eq_iff_iff,decide_eq_true_eq,Uv h]
theorem TX{n m:Nat}{S:List (Nat->Nat)}{A:Nat->Nat->Nat}(h:MS n m S A)(hS:∀s∈S,A7 n s){b x i:Nat}(hi:i<m)(h1:AY b (A i))(h2:A i b=x)(h3:∀j,j<i->¬(AY b (A j)/\A j b=x)):FX n S b x=A i:=
 IG hS (h.least hi h1 h2 h3)
theorem Pv{m:Nat}{p:Nat->Bool}(h:∃i,i<m/\p i=true):∃i,i<m/\p i=true/\(∀j,j<i->p j=false)/\(List.range m).find? p=some i:=by
 obtain⟨i0,aD,aB⟩:=h
 cases hf:(List.range m).find? p with
 | none=>exact absurd (List.find?_eq_none.1 hf i0 (List.mem_range.2 aD)) (by simp[aB])
 | some i=>
  have h1:=List.find?_some hf;have h2:=List.mem_range.1 (List.mem_of_find?_eq_some hf);refine⟨i,h2,h1,fun j hj=>?_,rfl⟩;rw[List.find?_eq_some_iff_append]at hf;obtain⟨_,as',bs,e,aA⟩:=hf;have hlen:as'.length=i:=by
   have h3:=congrArg (fun l=>l[as'.length]?) e;simp only[List.getElem?_append_right (Nat.le_refl _),Nat.sub_self,List.getElem?_cons_zero]at h3;have h4:=(List.getElem?_eq_some_iff.1 h3);obtain⟨h5,h6⟩:=h4;simpa using h6
  have aC:j∈as':=by
   have h3:=congrArg (fun l=>l[j]?) e;simp only[List.getElem?_append_left (show j<as'.length by omega)]at h3;rw[List.getElem?_eq_getElem aq]at h3;have h4:(List.range m)[j]'aq=j:=by simp
   rw[h4]at h3;exact List.mem_of_getElem? h3.symm
  have:=aA j aC;simpa using this
theorem Wb{n m:Nat}{S:List (Nat->Nat)}{A:Nat->Nat->Nat}(h:MS n m S A)(hS:∀s∈S,A7 n s){b x:Nat}(hx:x∈Rs n m A b):FX n S b x=A (Wc m A b x):=by
 unfold Rs at hx;have h1:=(List.mem_filter.1 hx).2;obtain⟨i0,aA,e0⟩:=List.any_eq_true.1 h1;obtain⟨i,hi,h2,h3,h4⟩:=Pv ⟨i0,List.mem_range.1 aA,e0⟩;have hf:Wc m A b x=i:=by unfold Wc;rw[h4];rfl
 rw[hf];have h5:=GN.1 h2;exact TX h hS hi h5.1 h5.2 fun j hj k=>by
  have:=h3 j hj;rw[GN.2 k]at this;cases this
theorem VH{n m:Nat}{S:List (Nat->Nat)}{A:Nat->Nat->Nat}(h:MS n m S A)(hS:∀s∈S,A7 n s)(b:Nat):E9 n S b=VI n m A b:=by
 unfold E9 VI Dk;rw[Vw h]
 congr 1
 exact List.map_congr_left fun x hx=>by rw[Wb h hS hx]
theorem Wj{n m:Nat}{S:List (Nat->Nat)}{A:Nat->Nat->Nat}(h:MS n m S A)(hS:∀s∈S,A7 n s)(k:Nat):Cd n S k=XV n m A k:=by
 unfold Cd XV;rw[show E9 n S=VI n m A from funext (VH h hS)]
theorem Mg{l:List Int}(h:Bv l=0):A7 l.length (CE l):=by
 obtain⟨n,f,_,_,h1,h2,rfl⟩:=GC h;rw[JI h2,h1];exact h2
theorem Mb{l:List Int}(h:Bv l=0):li l.length (CE l)=l:=by
 obtain⟨n,f,_,_,h1,h2,rfl⟩:=GC h;rw[JI h2,h1]
theorem QD{n:Nat}{p q:List Int}(hp:Bv p=0)(hq:Bv q=0)(h1:p.length=n)(h2:q.length=n):CE (P6 p q)=An (CE p) (CE q):=by
 have e1:=Mb hp;have e2:=Mb hq;have k1:=Mg hp;have k2:=Mg hq;rw[h1]at e1 k1;rw[h2]at e2 k2;have:P6 p q=li n (An (CE p) (CE q)):=by
  conv=>lhs;rw[<-e1,<-e2]
  exact Lr k1.lt
 rw[this,JI (k1.comp k2)]
def Yv(n:Nat)(gens:List (List Int))(w:List Nat):List Int:=w.foldl (fun p k=>P6 p (gens.getD k [])) (Sq n)
theorem KX{n:Nat}{T gens:List (List Int)}(W:List (List Nat))(h1:∀r∈T,Bv r=0/\r.length=n)(h2:∀r∈gens,Bv r=0/\r.length=n)(hn:n<=64)(hn1:1<=n)(hu:Sq n∈T)(hc:∀r∈T,∀s∈gens,P6 r s∈T)(hw:T=W.map (Yv n gens))(aF:∀w∈W,∀k∈w,k<gens.length)(f:Nat->Nat):
  Gn (gens.map CE) f↔∃r∈T,CE r=f:=by
 have aC:CE (Sq n)=DY:=JI (EI n);constructor
 .intro h
  induction h with
  | one=>exact⟨_,hu,aC⟩
  | step _ hs ih=>
   obtain⟨r,hr,e⟩:=ih;obtain⟨s,aB,e2⟩:=List.mem_map.1 hs;exact⟨P6 r s,hc r hr s aB,by rw[QD (h1 r hr).1 (h2 s aB).1 (h1 r hr).2 (h2 s aB).2,e,e2]⟩
 .rintro⟨r,hr,rfl⟩;rw[hw]at hr;obtain⟨w,aG,rfl⟩:=List.mem_map.1 hr;have aE:∀(w:List Nat) (p:List Int),p∈T->Gn (gens.map CE) (CE p)->(∀k∈w,k<gens.length)->Gn (gens.map CE) (CE (w.foldl (fun p k=>P6 p (gens.getD k [])) p)):=by
   intro w
   induction w with
   | nil=>exact fun p _ h _=>h
   | cons k w ih=>
    intro p hp hg hk;have aD:=hk k ag;have aA:gens.getD k []∈gens:=by
     rw[List.getD_eq_getElem?_getD,List.getElem?_eq_getElem aD];exact List.getElem_mem aD
    rw[List.foldl_cons];refine ih _ (hc p hp _ aA) ?_ fun j hj=>hk j (by simp[hj]);rw[QD (h1 p hp).1 (h2 _ aA).1 (h1 p hp).2 (h2 _ aA).2];exact hg.step (List.mem_map.2 ⟨_,aA,rfl⟩)
  exact aE w (Sq n) hu (by rw[aC];exact .one) (aF w aG)
def Sb(p m:Nat)(ml pl sl:List Int):Nat->Nat:=CE (L3 p m ml pl sl)
theorem Gz{N Q k:Nat}(hk:k<N*Q):∃i c,i<N/\c<Q/\k=i*Q+c:=by
 have hQ:0<Q:=by
  apply Nat.pos_of_ne_zero;intro e;rw[e,Nat.mul_zero]at hk;omega
 refine⟨k/Q,k%Q,Nat.div_lt_of_lt_mul (by rw[Nat.mul_comm];exact hk),Nat.mod_lt _ hQ,?_⟩;rw[Nat.mul_comm];exact(Nat.div_add_mod k Q).symm
theorem WH{N Q i c:Nat}(hi:i<N)(hc:c<Q):i*Q+c<N*Q:=by
 have:=Nat.mul_le_mul_right Q (show i+1<=N from hi);rw[Nat.succ_mul]at this;omega
theorem Xk{Q i j c d:Nat}(hc:c<Q)(hd:d<Q)(h:i*Q+c=j*Q+d):i=j/\c=d:=by
 have h1:=congrArg (·/ Q) h;simp only[Nat.mul_comm _ Q]at h1;rw[Nat.mul_add_div ac,Nat.mul_add_div ac,Nat.div_eq_of_lt hc,Nat.div_eq_of_lt hd,Nat.add_zero,Nat.add_zero]at h1;subst h1;exact⟨rfl,ac⟩
section
variable {p m N:Nat} {ml pl sl ql tl:List Int}
theorem Hf(h:B6 p m ml pl sl 0 N){i c:Nat}(hi:i<N)(hc:c<p^m-1):∃z:Nat,sl.getD i 0=z/\1<=z/\z<p^m/\1<=Ap p m (lw ml) z (c+1)/\Ap p m (lw ml) z (c+1)<p^m/\Sb p m ml pl sl (i*(p^m-1)+c)=FV pl i*(p^m-1)+(Ap p m (lw ml) z (c+1)-1):=by
 obtain⟨z,hz,h1,h2⟩:=h.sc i hi;have k1:=h.hF.ne_zero h.hp h.hm h1 h2 (show 1<=c+1 by omega) (show c+1<p^m by omega);have k2:=Cb (p:=p) (m:=m) (low:=lw ml) (by have:=h.hp;omega) z (c+1);have aA:=WH hi hc;refine⟨z,hz,h1,h2,k1,k2,?_⟩;unfold Sb CE L3;rw[Am,h.pll,if_pos aA,List.getD_eq_getElem?_getD,AM aA];show(OF p m ml pl sl (i*(p^m-1)+c)).toNat=_
 unfold OF;have hQ:0<p^m-1:=ac;rw[Nat.mul_comm i,Nat.mul_add_div hQ,Nat.mul_add_mod,Nat.div_eq_of_lt hc,Nat.mod_eq_of_lt hc,Nat.add_zero,hz,Bj h2];omega
theorem Vo(h:B6 p m ml pl sl 0 N){k:Nat}(hk:N*(p^m-1)<=k):Sb p m ml pl sl k=k:=by
 unfold Sb CE L3;rw[Am,h.pll,if_neg ac]
theorem FD(h:B6 p m ml pl sl 0 N):A7 (N*(p^m-1)) (Sb p m ml pl sl):=by
 refine A7.of_inj (fun k hk=>?_) (fun k hk=>Vo h hk) fun a b ha hb e=>?_
 .obtain⟨i,c,hi,hc,rfl⟩:=Gz hk;obtain⟨z,hz,h1,h2,h3,h4,h5⟩:=Hf h hi hc;rw[h5];exact WH (h.inj.lt i hi) ac
 .obtain⟨i,c,hi,hc,rfl⟩:=Gz ha;obtain⟨j,d,hj,hd,rfl⟩:=Gz hb;obtain⟨z,hz,h1,h2,h3,h4,h5⟩:=Hf h hi hc;obtain⟨y,hy,g1,g2,g3,g4,g5⟩:=Hf h hj hd;rw[h5,g5]at e;obtain⟨e1,e2⟩:=Xk ac ac e;obtain rfl:=h.inj.inj i j hi hj e1;have aA:z=y:=by rw[hz]at hy;exact_mod_cast hy
  subst aA;have e3:Ap p m (lw ml) (c+1) z=Ap p m (lw ml) (d+1) z:=by rw[Bb (c+1),Bb (d+1)];omega
  have:=h.hF.cancel h.hp h.hm h1 h2 (show c+1<p^m by omega) (show d+1<p^m by omega) e3;omega
theorem O5(h:B6 p m ml pl sl 0 N):li (N*(p^m-1)) (Sb p m ml pl sl)=L3 p m ml pl sl:=by
 unfold li;have hl:(L3 p m ml pl sl).length=N*(p^m-1):=by unfold L3;rw[Am,h.pll]
 refine XA hl fun k hk=>?_;have hP:=(FD h);unfold Sb CE;rw[hl,if_pos hk];have:(L3 p m ml pl sl).getD k 0=OF p m ml pl sl k:=by
  unfold L3;rw[h.pll,List.getD_eq_getElem?_getD,AM hk];rfl
 rw[this];obtain⟨z,z1,z2,z3,zi,zp,zf⟩:=Ru h hk;rw[zf];omega
theorem Vp(h:B6 p m ml pl sl 0 N)(k:B6 p m ml ql tl 0 N):Sb p m ml (il N (cP pl ql)) (il N (cS p m ml pl sl tl 0))=An (Sb p m ml pl sl) (Sb p m ml ql tl):=by
 have hc:B6 p m ml (il N (cP pl ql)) (il N (cS p m ml pl sl tl 0)) 0 N:=by
  have:=Un h k
  rwa[show(0+0)%m=0 from ag]at this
 refine IM (n:=N*(p^m-1)) (FD hc) ((FD h).comp (FD k)) fun x hx=>?_;obtain⟨i,c,hi,aA,rfl⟩:=Gz hx;obtain⟨z,hz,h1,h2,h3,h4,h5⟩:=Hf h hi aA;obtain⟨y,hy,g1,g2,g3,g4,g5⟩:=Hf k (h.inj.lt i hi) (show Ap p m (lw ml) z (c+1)-1<p^m-1 by omega);obtain⟨x,hx,f1,f2,f3,f4,f5⟩:=Hf hc hi aA;show _=Sb p m ml ql tl (Sb p m ml pl sl (i*(p^m-1)+c))
 rw[h5,g5,f5,MD h hi];rw[Er hi]at hx;unfold cS at hx;rw[hz,hy,Bj h2,Bj g2]at hx;have aB:x=Ap p m (lw ml) y z:=by exact_mod_cast hx.symm
 rw[aB,show Ap p m (lw ml) z (c+1)-1+1=Ap p m (lw ml) z (c+1) from ac,BG (by have:=h.hp;omega)]
end
section
variable {p m n:Nat} {ml:List Int} {l1 l2 l3:List (List Int)} {pl sl ql tl:List Int}
theorem XU(h:B6 p m ml pl sl 0 n)(kn:∀i,i<n->0<=ql.getD i 0):∀i,i<n->0<=(il n (cP pl ql)).getD i 0:=fun i hi=>by
 rw[Er hi];exact kn _ (h.inj.lt i hi)
theorem ZM(h:B6 p m ml pl sl ((0+0)%m) n):B6 p m ml pl sl 0 n:=by rwa[show(0+0)%m=0 from ag]at h
end
end Go.Proofs.YtehieobniamagaaGreat
