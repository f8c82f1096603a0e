/- Walk of automorphism.member. -/
import Derived.Test.YtehieobniamagaaGreatZi31
namespace Go.Proofs.YtehieobniamagaaGreat
open Nat renaming le_refl→ζ,sub_self→ηf,mul_le_mul_right→γz,add_mul→ηb,pow_succ→γp,mul_comm→γq,zero_mul→ηz,add_zero→δp,zero_le→δz,mod_lt→ζv,div_add_mod→θf,mul_assoc→ιo,le_trans→μ
open List renaming range→ξ,map_map→ηx,map_congr_left→γl,filter_cons→θb,filter_congr→ηr,getElem_of_mem→χ,mem_map→ψ,flatMap_cons→ηq,getElem?_eq_some_iff→θ,getElem?_eq_getElem→γ
open Go.RowKit
set_option linter.all false
set_option maxRecDepth 100000
set_option maxHeartbeats 8000000
def Hw(p m:Nat)(N:Nat)(P:List Int):List Int:=il N (FG (p^m-1) P)
def Hv(p m:Nat)(N:Nat)(P:List Int):List Int:=il N (Ge (p^m-1) P)
open Classical in
noncomputable def Gd (p m:Nat) (ml:List Int) (N:Nat) (rows:List (List Int)) (P:List Int):Bool:=
 decide (Vp p m ml N P=true/\Ef p m ml N (Hw p m N P) (Hv p m N P) 0=0/\∃(piv:List Nat) (a':Nat->Nat->Int),
  Ia p m ml N (Fv p m ml (Hw p m N P) (Hv p m N P) 0 N rows rows.length).length (An (Fv p m ml (Hw p m N P) (Hv p m N P) 0 N rows rows.length)) a' piv/\rows=Au N piv.length a')
theorem P7{p m:Nat}{ml:List Int}{N:Nat}{rows:List (List Int)}{P:List Int}:Gd p m ml N rows P=true↔(Vp p m ml N P=true/\Ef p m ml N (Hw p m N P) (Hv p m N P) 0=0/\∃(piv:List Nat) (a':Nat->Nat->Int),
  Ia p m ml N (Fv p m ml (Hw p m N P) (Hv p m N P) 0 N rows rows.length).length (An (Fv p m ml (Hw p m N P) (Hv p m N P) 0 N rows rows.length)) a' piv/\rows=Au N piv.length a'):=by
 unfold Gd;simp only[decide_eq_true_eq]
theorem el{P:Prop}(h:P:=by simp[results,Tryz.results73,go_sem]):P:=h
theorem RZ(w:World){b p m x0 N:Nat}{ml:List Int}{rows:List (List Int)}(hg:Bh w b p m ml x0)(bK:1<=N)(hN:N<=64)(hd:N*(p^m-1)<=64)(ho:Bw p m ml N rows 0)(m1 v1:Value)(hc:(⟨p,m,ml,N,rows⟩:AX).at w m1 v1)(P:List Int)(pv:Value)(hp:Ak w pv P)(aF:P.length=N*(p^m-1))(aW:∀x∈P,0<=x/\x<(P.length:Int)):
  Calls Tryz.prog 73 #[(b,0),(⟨p,m,ml,N,rows⟩:AX).arg m1 v1,pv] w fun r w'=>r= .returned (.bool (Gd p m ml N rows P))/\Ex w w':=by
 obtain⟨c0,c1,c2,c3,c4⟩:=C8 w ⟨p,m,ml,N,rows⟩ m1 v1;have aE:=AF w ((⟨p,m,ml,N,rows⟩:AX).obj m1 v1);have HG:=Aa (hg.ex aE);have aI:=Aa (hc.ex aE);have HP:=Aa (hp.ex aE);have aN:=Aa (Qu (w.alloc ((⟨p,m,ml,N,rows⟩:AX).obj m1 v1)) HG.o N bK hN P pv HP.o hd aF aW);obtain⟨x1,y1,bJ,-,z1,-⟩:=hc.g.open;obtain⟨x3,y3,bI,-,z3,-⟩:=hc.m.open;obtain⟨x5,y5,bH,-,z5,-⟩:=hp.open;unfold maxLen at z1 z3 z5;have aU:=Aa (fun (w5:World) (h5:Ex (w.alloc ((⟨p,m,ml,N,rows⟩:AX).obj m1 v1)) w5) (u r:Value) (hu:Ak w5 u (Hw p m N P)) (hr:Ak w5 r (Hv p m N P))=>NI w5 p m ml m1 (aI.o.ex h5).m N rows v1 (aI.o.ex h5).g _ _ u r hu hr 0);have aM:Hia (∀q:Bool,(q=true↔(Vp p m ml N P=true/\Ef p m ml N (Hw p m N P) (Hv p m N P) 0=0/\∃(piv:List Nat) (a':Nat->Nat->Int),Ia p m ml N (Fv p m ml (Hw p m N P) (Hv p m N P) 0 N rows rows.length).length (An (Fv p m ml (Hw p m N P) (Hv p m N P) 0 N rows rows.length)) a' piv/\rows=Au N piv.length a'))->q=Gd p m ml N rows P):=Aa (fun q h=>
  Bool.eq_iff_iff.2 (h.trans P7.symm))
 obtain⟨MB,bA⟩:∃x,Gd p m ml N rows P=x:=⟨_,rfl⟩;rw[bA]at aM ⊢;obtain⟨B,hB⟩:=nA w.heap.size;rw[hB]at c0 c1 c2 c3 c4;have aH:=Aa aE;unfold AX.arg;unfold AX.obj at aH aN aU aI HG HP c0 c1 c2 c3 c4;dsimp only at aH aN aU aI HG HP c0 c1 c2 c3 c4 ⊢;subst bJ bI bH;have HO:=Aa ho;have HRW:=Aa hc.g;clear hc aE hg hp ho bA aF aW hd;go_enter Tryz.func73,Tryz.ntmps73
 go_upto_region 1 with fail
 try simp only[hB]
 clear hB;generalize w.alloc _=w1 at *;have bE:=Aa aN.o;go_wp2_with fail
 refine bE.o.mono ?_;rintro e w2⟨u,v,rfl,hu,hv,-,aA⟩;have HU:Hia (Ak w2 u (Hw p m N P)):=Aa (hu);have HV:Hia (Ak w2 v (Hv p m N P)):=Aa (hv);obtain⟨ua,uc,rfl,-,-,-⟩:=hu.open;obtain⟨va,vc,rfl,-,-,-⟩:=hv.open;simp only[Ao]at HU HV ⊢;obtain⟨FB,aQ⟩:∃x,Vp p m ml N P=x:=⟨_,rfl⟩;have bD:=Aa aQ;rw[aQ];replace c0:=aA.cell c0;replace c1:=aA.cell c1;replace c2:=aA.cell c2;replace c3:=aA.cell c3;replace c4:=aA.cell c4;obtain⟨t0,t1,t2,et⟩:=BA w2 (.slice ua N uc) (.slice va N vc) 0;obtain⟨TB,aP⟩:∃x,w2.heap.size=x:=⟨_,rfl⟩;rw[aP]at t0 t1 t2;have aL:=Aa (aA.trans et);replace c0:=et.cell c0;replace c1:=et.cell c1;replace c2:=et.cell c2;replace c3:=et.cell c3;replace c4:=et.cell c4;have bN:=Aa (HU.o.ex et);have bM:=Aa (HV.o.ex et);clear hu hv aA et aN bE aQ HU HV;go_upto_region 2 with fail
 try simp only[aP]
 clear aP;generalize w2.alloc (.cells #[(ua,N,uc),(va,N,vc),Ω] 26)=w3 at *;have bG:=Aa (aU.o w3 aL.o _ _ bN.o bM.o);by_cases hf:FB=true
 rotate_left
 .obtain rfl:FB=false:=by cases FB with
   | true=>exact absurd rfl hf
   | false=>rfl
  have HM:=Aa (aM.o false ⟨fun h=>az,fun h=>(by have:=h.1.symm.trans bD.o;cases this)⟩);clear hf;go_wp2_with fail
  exact bodyPost_ret (v:= .bool false) el rfl ⟨by rw[HM.o],aH.o.trans aL.o⟩
 .subst hf;by_cases hm0:Ef p m ml N (Hw p m N P) (Hv p m N P) 0=0
  .have aB:=Aa hm0;clear hm0;go_wp2_with fail
   refine bG.o.mono ?_;rintro e w4⟨aG,aD⟩;obtain⟨piv,a',rv,v',rfl,aY,aV,aJ⟩:=app_ok (fr:=0) (show YA p m ml N rows _ _ ((0:Nat):Int) _ _ _ from aG) HO.o aB.o;have bF:=Aa aY;obtain⟨M,hM⟩:∃x,Au N piv.length a'=x:=⟨_,rfl⟩;rw[hM]at aJ;have bC:=Aa hM;obtain⟨d0,d1,d2,d3,d4⟩:=C8 w4 ⟨p,m,ml,N,M⟩ v' rv;have aC:=AF w4 ((⟨p,m,ml,N,M⟩:AX).obj v' rv);have aT:=Aa (aJ.ex aC);obtain⟨a6,b6,rfl,-,-,-⟩:=aV.open;obtain⟨a7,b7,rfl,-,-,-⟩:=aJ.open;unfold AX.obj at d0 d1 d2 d3 d4 aC aT;dsimp only at d0 d1 d2 d3 d4 aC aT;obtain⟨DB,aS⟩:∃x,w4.heap.size=x:=⟨_,rfl⟩;rw[aS]at d0 d1 d2 d3 d4;have aK:=Aa (aL.o.trans (aD.trans aC));replace c4:=aC.cell (aD.cell c4);clear aG aY hM aV aJ aC aD c0 c1 c2 c3 t0 t1 t2;go_upto_region 5 with fail
   try simp only[aS]
   clear aS;generalize w4.alloc (.cells #[p,m,(a6,ml.length,b6),N,(a7,M.length,b7)] 39)=w5 at *;have HQ:=Aa (D7 w5 rows M _ _ (aI.o.ex aK.o).g aT.o);have HM:=Aa (aM.o (decide (rows=M)) ⟨fun h=>⟨bD.o,aB.o,piv,a',bF.o,by rw[bC.o];exact of_decide_eq_true h⟩,fun h=>by
    obtain⟨-,-,piv2,a2,h1,h2⟩:=h;obtain⟨_,_,_,_,g1,g2,g3,g4,-,-,aZ⟩:=K8 aB.o;obtain rfl:p=_:=Int.ofNat.inj g1;obtain rfl:m=_:=Int.ofNat.inj g2;have:=(Lz aZ.hp aZ.hm (fun x=>Iff.rfl) h1 bF.o).1;exact decide_eq_true (by rw[h2,this,bC.o])⟩)
   clear d0 d1 d2 d3;obtain⟨DD,bB⟩:∃x,decide (rows=M)=x:=⟨_,rfl⟩;rw[bB]at HQ HM;clear bB;go_wp2_with fail
   refine HQ.o.mono ?_;rintro e w6⟨rfl,n6,rfl⟩;have bL:=Aa (aK.o.drewN n6);clear c4 d4;go_wp2_with fail
   exact bodyPost_ret (v:= .bool DD) el rfl ⟨by rw[HM.o],aH.o.trans bL.o⟩
  .have aB:=Aa hm0;have HM:=Aa (aM.o false ⟨fun h=>az,fun h=>absurd h.2.1 aB.o⟩);obtain⟨EE,aR⟩:∃x,Ef p m ml N (Hw p m N P) (Hv p m N P) 0=x:=⟨_,rfl⟩;have bO:=Aa aR;have hb:(EE==0)=false:=by
    have h1:=aB.o;rw[aR]at h1;simpa using h1
   clear hm0 aR;go_wp2_with fail
   refine bG.o.mono ?_;rintro e w4⟨⟨e1,aX,aG⟩,aD⟩;obtain rfl:=B3 aX HO.o;have aO:e= .returned (.tuple #[.agg #[Ω,Ω,(),Ω,()],EE]):=by
    rcases aG with⟨h,_⟩|⟨_,_,h⟩|⟨_,h,_⟩
    .exact absurd rfl h
    .rw[bO.o]at h;exact h
    .exact absurd h aB.o
   subst aO;have aK:=Aa (aL.o.trans (aD.trans (AF w4 (.cells #[Ω,Ω,(),Ω,()] 39))));clear aG aX aD c0 c1 c2 c3 c4 t0 t1 t2;go_wp2_with fail
   exact bodyPost_ret (v:= .bool false) el rfl ⟨by rw[HM.o],aH.o.trans aK.o⟩
theorem Vg{P:(Nat->Nat)->Prop}(h:∃f,P f)(n:Nat):∃f,P f/\∀g,P g->EW n f g:=by
 have aC:∀i,∃f,P f/\∀g,P g->(∀j,j<i->f j=g j)∨∃k,k<i/\(∀j,j<k->f j=g j)/\f k<g k:=by
  intro i
  induction i with
  | zero=>
   obtain⟨f,hf⟩:=h;exact⟨f,hf,fun g _=> .inl fun j hj=>ac⟩
  | succ i ih=>
   obtain⟨f,hf,hl⟩:=ih;have aA:∀N f',P f'->(∀j,j<i->f j=f' j)->f' i<=N->∃aB,P aB/\(∀j,j<i->f j=aB j)/\∀g,P g->(∀j,j<i->f j=g j)->aB i<=g i:=by
    intro N
    induction N with
    | zero=>exact fun f' h1 h2 h3=>⟨f',h1,h2,fun g _ _=>ac⟩
    | succ N ihN=>
     intro f' h1 h2 h3;by_cases hex:∃g,P g/\(∀j,j<i->f j=g j)/\g i<=N
     .obtain⟨g,g1,g2,g3⟩:=hex;exact ihN g g1 g2 g3
     .refine⟨f',h1,h2,fun g g1 g2=>?_⟩;apply Classical.byContradiction;intro hn;exact hex ⟨g,g1,g2,ac⟩
   obtain⟨f',h1,h2,h3⟩:=aA (f i) f hf (fun _ _=>rfl) (ζ _);refine⟨f',h1,fun g hg=>?_⟩;rcases hl g hg with h4|⟨k,k1,k2,k3⟩
   .have h5:=h3 g hg h4;by_cases e:f' i=g i
    .exact .inl fun j hj=>by
      by_cases e2:j=i
      .subst e2;exact e
      .rw[<-h2 j ac,h4 j ac]
    .exact .inr ⟨i,ac,fun j hj=>by rw[<-h2 j hj,h4 j hj],ac⟩
   .exact .inr ⟨k,ac,fun j hj=>by rw[<-h2 j ac,k2 j hj],by rw[<-h2 k k1];exact k3⟩
 obtain⟨f,hf,hl⟩:=aC n;exact⟨f,hf,hl⟩
open Classical in
theorem CM {S:List (Nat->Nat)} {b m x:Nat}:x∈Bf S b m↔x<m/\∃f,Gn S f/\AU b f/\f b=x:=by
 unfold Bf;rw[List.mem_filter,List.mem_range,decide_eq_true_eq]
theorem FL{n:Nat}{S:List (Nat->Nat)}(hS:∀s∈S,Bo n s){b x:Nat}(h:∃f,Gn S f/\AU b f/\f b=x):DX n S b x (De n S b x):=by
 obtain⟨f,⟨h1,h2,h3⟩,h4⟩:=Vg (P:=fun f=>Gn S f/\AU b f/\f b=x) h n;have hl:DX n S b x f:=⟨h1,h2,h3,fun g k1 k2 k3=>h4 g ⟨k1,k2,k3⟩⟩;rw[Ka hS hl];exact hl
inductive JY(n:Nat)(S:List (Nat->Nat)):Nat->List Nat->Prop
 | nil:JY n S n []
  | skip {b:Nat} {bs:List Nat}:b<n->(Bf S b n).length<=1->JY n S (b+1) bs->JY n S b bs
 | cons {b:Nat} {bs:List Nat}:b<n->1<(Bf S b n).length->JY n S (b+1) bs->JY n S b (b :: bs)
theorem JY.le{n:Nat}{S:List (Nat->Nat)}{b:Nat}{bs:List Nat}(h:JY n S b bs):b<=n:=by
 cases h <;> omega
theorem JY.ge{n:Nat}{S:List (Nat->Nat)}{b:Nat}{bs:List Nat}(h:JY n S b bs):∀c∈bs,b<=c/\c<n:=by
 induction h with
 | nil=>intro c hc;cases hc
 | skip h1 _ _ ih=>intro c hc;have:=ih c hc;omega
 | cons h1 _ _ ih=>
  intro c hc;rcases List.mem_cons.1 hc with e|e
  .subst e;omega
  .have:=ih c e;omega
noncomputable def En(n:Nat)(S:List (Nat->Nat))(k:Nat):List Nat:=((ξ k).map fun i=>n-k+i).filter fun b=>decide (1<(Bf S b n).length)
theorem V7(n:Nat)(S:List (Nat->Nat)):∀k,k<=n->JY n S (n-k) (En n S k)
 | 0,_=>by
  rw[Nat.sub_zero];exact .nil
 | k+1,hk=>by
  have ih:=V7 n S k ac;have he:((ξ (k+1)).map fun i=>n-(k+1)+i)=(n-(k+1)) :: ((ξ k).map fun i=>n-k+i):=by
   rw[List.range_succ_eq_map,List.map_cons,ηx]
   congr 1
   exact γl fun i _=>by show n-(k+1)+(i+1)=n-k+i;omega
  have hb:n-k=n-(k+1)+1:=ac;rw[hb]at ih;by_cases h:1<(Bf S (n-(k+1)) n).length
  .have:En n S (k+1)=(n-(k+1)) :: En n S k:=by
    unfold En;rw[he,θb,if_pos (decide_eq_true h)]
   rw[this];exact .cons ac h ih
  .have:En n S (k+1)=En n S k:=by
    unfold En;rw[he,θb,if_neg ay]
   rw[this];exact .skip ac ac ih
noncomputable def JT(n:Nat)(S:List (Nat->Nat)):List Nat:=(ξ n).filter fun b=>decide (1<(Bf S b n).length)
theorem GP(n:Nat)(S:List (Nat->Nat)):JY n S 0 (JT n S):=by
 have h:=V7 n S n (ζ _);rw[ηf]at h;have:En n S n=JT n S:=by
  unfold En JT
  congr 1
  rw[ηf];simp
 rwa[this]at h
theorem EH(n:Nat)(S:List (Nat->Nat)):Ck n S n=(JT n S).map (FM n S):=by
 unfold Ck JT;rw[List.filter_map]
 congr 1
 apply ηr;intro b _;show decide (1<(DN (Bf S b n)).length)=_
 rw[Cz]
theorem ZF{n:Nat}{S:List (Nat->Nat)}{b:Nat}(hb:b<n)(h:(Bf S b n).length<=1){f:Nat->Nat}(hf:Gn S f)(hP:Bo n f)(hF:AU b f):AU (b+1) f:=fun i hi=>by
 by_cases e:i=b
 .subst e;have h1:i∈Bf S i n:=CM.2 ⟨hb,Ep,.one,Hz _,rfl⟩;have h2:f i∈Bf S i n:=CM.2 ⟨hP.lt i hb,f,hf,hF,rfl⟩;obtain⟨j,hj,e1⟩:=χ h1;obtain⟨k,hk,e2⟩:=χ h2;have:j=k:=by omega
  subst this;rw[<-e2,e1]
 .exact hF i ac
noncomputable def sftA(n:Nat)(S:List (Nat->Nat)):List Nat->(Nat->Nat)->Nat->(Nat->Nat) × Nat
 | [],f,k=>(f,k)
 | b :: bs,f,k=>if f b∈Bf S b n then sftA n S bs (Ap f (A8 n (De n S b (f b)))) (k+1) else(f,k)
noncomputable def Cj(n:Nat)(S:List (Nat->Nat))(bs:List Nat):List (Nat->Nat):=bs.flatMap fun b=>(Bf S b n).map (De n S b)
theorem Ji(n:Nat)(S:List (Nat->Nat))(bs:List Nat):Bn (bs.map (FM n S))=(Cj n S bs).map (li n):=by
 unfold Bn Cj;rw[List.flatMap_map,List.map_flatMap]
 congr 1
 funext b;show Eb n S b n=_
 unfold Eb;rw[ηx];rfl
theorem M4{n:Nat}{S:List (Nat->Nat)}(hS:∀s∈S,Bo n s){bs:List Nat}{r:Nat->Nat}(h:r∈Cj n S bs):∃b∈bs,Gn S r/\AU b r:=by
 unfold Cj at h;obtain⟨b,hb,h1⟩:=List.mem_flatMap.1 h;obtain⟨x,hx,rfl⟩:=ψ.1 h1;have:=FL hS (CM.1 hx).2;exact⟨b,hb,this.gn,this.fix⟩
theorem Hq{n:Nat}{S:List (Nat->Nat)}(hS:∀s∈S,Bo n s)(bs:List Nat):∀r∈Cj n S bs,Bo n r:=fun r hr=>by
 obtain⟨_,_,h,_⟩:=M4 hS hr;exact h.isP hS
theorem UG{n:Nat}{S:List (Nat->Nat)}(hS:∀s∈S,Bo n s){b:Nat}(hb:b<n){f:Nat->Nat}(hf:Gn S f)(hF:AU b f):
  f b∈Bf S b n/\Gn S (Ap f (A8 n (De n S b (f b))))/\AU (b+1) (Ap f (A8 n (De n S b (f b))))/\Ap (Ap f (A8 n (De n S b (f b)))) (De n S b (f b))=f:=by
 have hP:=hf.isP hS;have hm:f b∈Bf S b n:=CM.2 ⟨hP.lt b hb,f,hf,hF,rfl⟩;have hl:=FL hS (CM.1 hm).2;have aA:=hl.gn.isP hS;exact⟨hm,hf.mul (hl.gn.inv hS),hF.div aA hl.fix hl.at_,aA.cancel⟩
theorem Wb{n:Nat}{S:List (Nat->Nat)}(hS:∀s∈S,Bo n s){b:Nat}{bs:List Nat}(h:JY n S b bs):∀(f:Nat->Nat) (k:Nat),Gn S f->AU b f->sftA n S bs f k=(Ep,k+bs.length)/\Gn (Cj n S bs) f:=by
 induction h with
 | nil=>
  intro f k hf hF;have:=AU.all (hf.isP hS) hF;subst this;exact⟨rfl,.one⟩
 | skip h1 h2 _ ih=>exact fun f k hf hF=>ih f k hf (ZF h1 h2 hf (hf.isP hS) hF)
 | @cons b bs h1 h2 _ ih=>
  intro f k hf hF;obtain⟨k1,k2,k3,k4⟩:=UG hS h1 hf hF;obtain⟨m1,m2⟩:=ih _ (k+1) k2 k3;constructor
  .unfold sftA;rw[if_pos k1,m1,List.length_cons,show k+1+bs.length=k+(bs.length+1) by omega]
  .rw[<-k4];refine Gn.mul (m2.mono fun s hs=>Gn.of ?_) (Gn.of ?_)
   .unfold Cj at hs ⊢;rw[ηq];exact List.mem_append_right _ hs
   .unfold Cj;rw[ηq];exact List.mem_append_left _ (ψ.2 ⟨_,k1,rfl⟩)
theorem Ey{n:Nat}{S:List (Nat->Nat)}(hS:∀s∈S,Bo n s){b:Nat}{bs:List Nat}(h:JY n S b bs)(f:Nat->Nat):Gn (Cj n S bs) f↔Gn S f/\AU b f:=by
 constructor
 .intro hf
  induction hf with
  | one=>exact⟨.one,Hz _⟩
  | step _ hs ih=>
   obtain⟨c,hc,h1,h2⟩:=M4 hS hs;have:=h.ge c hc;exact⟨ih.1.mul h1,ih.2.comp fun i hi=>h2 i ac⟩
 .rintro⟨h1,h2⟩;exact(Wb hS h f 0 h1 h2).2
open Classical in
theorem I9 {n:Nat} {S:List (Nat->Nat)} (hS:∀s∈S,Bo n s) {b:Nat} {bs:List Nat} (h:JY n S b bs) {c:Nat} (hc:b<=c) (m:Nat):Bf (Cj n S bs) c m=Bf S c m:=by
 unfold Bf;apply ηr;intro x _;rw[decide_eq_decide];constructor
 .rintro⟨f,h1,h2,h3⟩;exact⟨f,((Ey hS h f).1 h1).1,h2,h3⟩
 .rintro⟨f,h1,h2,h3⟩;exact⟨f,(Ey hS h f).2 ⟨h1,fun i hi=>h2 i ac⟩,h2,h3⟩
theorem WJ{n:Nat}{S:List (Nat->Nat)}(hS:∀s∈S,Bo n s){b:Nat}{bs:List Nat}(h:JY n S b bs){c:Nat}(hc:c<b):(Bf (Cj n S bs) c n).length<=1:=by
 have aA:∀x∈Bf (Cj n S bs) c n,x=c:=fun x hx=>by
  obtain⟨_,f,h1,_,h3⟩:=CM.1 hx;rw[<-h3];exact((Ey hS h f).1 h1).2 c hc
 have aB:(Bf (Cj n S bs) c n).Nodup:=List.Nodup.sublist List.filter_sublist List.nodup_range
 match hq:Bf (Cj n S bs) c n with
 | []=>simp
 | [x]=>simp
 | x :: y :: q=>
  exfalso;rw[hq]at aB aA;have h1:=aA x ag;have h2:=aA y ag;rw[h1,h2]at aB;simp at aB
theorem Vh{n:Nat}{S:List (Nat->Nat)}(hS:∀s∈S,Bo n s){b:Nat}{bs:List Nat}(h:JY n S b bs){c:Nat}(hc:b<=c):FM n (Cj n S bs) c=FM n S c:=by
 have hL:∀x,x∈Bf S c n->De n (Cj n S bs) c x=De n S c x:=fun x hx=>by
  have hl:=FL hS (CM.1 hx).2;refine Ka (Hq hS bs) ⟨(Ey hS h _).2 ⟨hl.gn,fun i hi=>hl.fix i ac⟩,hl.fix,hl.at_,fun g h1 h2 h3=>hl.le g ((Ey hS h g).1 h1).1 h2 h3⟩
 unfold FM Eb;rw[I9 hS h hc]
 congr 1
 exact γl fun x hx=>by rw[hL x hx]
theorem Yh{n:Nat}{S:List (Nat->Nat)}(hS:∀s∈S,Bo n s){b:Nat}{bs:List Nat}(h:JY n S b bs):Ck n (Cj n S bs) n=bs.map (FM n S):=by
 rw[EH];have aA:∀ {b':Nat} {bs':List Nat},JY n S b' bs'->b<=b'->∀bs'',JY n (Cj n S bs) b' bs''->bs''=bs':=by
  intro b' bs' h'
  induction h' with
  | nil=>
   intro hb bs'' h2
   cases h2 with
   | nil=>rfl
   | skip h _ _=>omega
   | cons h _ _=>omega
  | skip h1 h2 _ ih=>
   intro hb bs'' h3
   cases h3 with
   | nil=>omega
   | skip k1 k2 k3=>exact ih ac _ k3
   | cons k1 k2 k3=>rw[I9 hS h hb]at k2;omega
  | cons h1 h2 _ ih=>
   intro hb bs'' h3
   cases h3 with
   | nil=>omega
   | skip k1 k2 k3=>rw[I9 hS h hb]at k2;omega
   | cons k1 k2 k3=>rw[ih ac _ k3]
 have low:∀d c,c+d=b->∀bs'',JY n (Cj n S bs) c bs''->JY n (Cj n S bs) b bs'':=by
  intro d
  induction d with
  | zero=>intro c hc bs'' h2;rw[<-hc];exact h2
  | succ d ih=>
   intro c hc bs'' h2;have hle:=h.le
   cases h2 with
   | nil=>omega
   | skip k1 k2 k3=>exact ih (c+1) ac bs'' k3
   | cons k1 k2 k3=>have:=WJ hS h (c:=c) ac;omega
 rw[aA h (ζ _) _ (low b 0 ac _ (GP n _))];exact γl fun c hc=>Vh hS h (h.ge c hc).1
theorem Ui{n:Nat}{S:List (Nat->Nat)}(h1:1<=n)(h2:n<=64)(hS:∀s∈S,Bo n s){b:Nat}{bs:List Nat}(h:JY n S b bs):Bq n (bs.map (FM n S))=0:=by
 unfold Bq;rw[if_neg ac];refine if_pos ⟨?_,?_⟩
 .rw[Ji];exact TL h1 h2 (Hq hS bs)
 .rw[Ji,Ir (Hq hS bs)];exact(Yh hS h).symm
theorem Uk{d:Int}{L:List Lv}(h:Bq d L=0):∃n:Nat,d=n/\1<=n/\n<=64/\∃S:List (Nat->Nat),(∀s∈S,Bo n s)/\Bn L=S.map (li n)/\L=(JT n S).map (FM n S):=by
 unfold Bq at h;split at h
 .cases h
 .split at h
  .rename_i h1 h2;obtain⟨N,rfl,h3,h4,S,h5,h6⟩:=Kh h2.1;refine⟨N,rfl,h3,h4,S,h6,h5,?_⟩;rw[<-EH];have:=h2.2
   rwa[h5,Ir h6]at this
  .cases h
def BM:Nat:=4294967296
theorem IG:0<BM:=ae
def vS(f:Nat->Nat):Nat->Nat
 | 0=>0
 | n+1=>vS f n+f n*BM^n
theorem Gi{f g:Nat->Nat}:∀ {n},(∀k,k<n->f k=g k)->vS f n=vS g n
 | 0,_=>rfl
 | n+1,h=>by unfold vS;rw[Gi fun k hk=>h k (by omega),h n (by omega)]
theorem Pt{f:Nat->Nat}:∀n,(∀k,k<n->f k<BM)->vS f n<BM^n
 | 0,_=>by unfold vS;decide
 | n+1,h=>by
  have h1:=Pt n fun k hk=>h k ac;have h2:f n+1<=BM:=h n ac;have h3:=γz (BM^n) h2;rw[ηb,Nat.one_mul]at h3;unfold vS;rw[γp,γq (BM^n) BM];omega
theorem Rl{f:Nat->Nat}{j x:Nat}:∀ {n},j<n->vS (Ay f j x) n+f j*BM^j=vS f n+x*BM^j
 | 0,h=>by omega
 | n+1,h=>by
  by_cases e:j=n
  .subst e;unfold vS;have h1:vS (Ay f j x) j=vS f j:=Gi fun k hk=>by unfold Ay;rw[if_neg ac]
   have h2:Ay f j x j=x:=by unfold Ay;rw[if_pos rfl]
   rw[h1,h2];omega
  .have h1:=Rl (f:=f) (x:=x) (n:=n) (j:=j) ac;have h2:Ay f j x n=f n:=by unfold Ay;rw[if_neg ac]
   unfold vS;rw[h2];omega
theorem NP{f:Nat->Nat}:∀ {n m},m<=n->(∀k,m<=k->k<n->f k=0)->vS f n=vS f m
 | 0,m,h,_=>by rw[show m=0 by omega]
 | n+1,m,h,h0=>by
  by_cases e:m=n+1
  .rw[e]
  .show vS f n+f n*BM^n=vS f m
   rw[h0 n (by omega) (by omega),ηz,δp];exact NP (by omega) fun k h1 h2=>h0 k h1 (by omega)
structure JA(n:Nat)(f:Nat->Nat):Prop where
 lt:∀k,k<n->f k<BM
 top:∀m,n=m+1->f m≠0
theorem JA.ge{m:Nat}{f:Nat->Nat}(h:JA (m+1) f):BM^m<=vS f (m+1):=by
 have h1:1<=f m:=Nat.one_le_iff_ne_zero.2 (h.top m rfl);have:=γz (BM^m) h1;unfold vS;omega
theorem JA.len{n m:Nat}{f:Nat->Nat}(h:JA n f)(hv:vS f n<BM^m):n<=m:=by
 cases n with
 | zero=>omega
 | succ k=>
  have h1:=h.ge;have h2:BM^k<BM^m:=ac;have:=(Nat.pow_lt_pow_iff_right (by decide:1<BM)).1 h2;omega
theorem zcz{P:Prop}(h:P:=by
 have:=Nat.mul_le_mul_right (BM^n) h3;rw[Nat.add_mul,Nat.one_mul]at this;omega):P:=h
theorem VX{f g:Nat->Nat}:∀n,(∀k,k<n->f k<BM)->(∀k,k<n->g k<BM)->vS f n=vS g n->∀k,k<n->f k=g k
 | 0,_,_,_,k,hk=>by omega
 | n+1,hf,hg,h,k,hk=>by
  have h1:=Pt n fun k hk=>hf k ac;have h2:=Pt n fun k hk=>hg k ac;unfold vS at h;have e:f n=g n:=by
   apply Classical.byContradiction;intro aA;rcases Nat.lt_or_gt_of_ne aA with h3|h3
   .have h3:f n+1<=g n:=h3;exact zcz
   .have h3:g n+1<=f n:=h3;exact zcz
  by_cases e2:k=n
  .subst e2;exact e
  .rw[e]at h;exact VX n (fun k hk=>hf k ac) (fun k hk=>hg k ac) ac k ac
theorem JA.uniq{n m:Nat}{f g:Nat->Nat}(hf:JA n f)(hg:JA m g)(h:vS f n=vS g m):n=m/\∀k,k<n->f k=g k:=by
 have h1:n<=m:=hf.len (by rw[h];exact Pt m hg.lt);have h2:m<=n:=hg.len (by rw[<-h];exact Pt n hf.lt);have e:n=m:=by omega
 subst e;exact⟨rfl,VX n hf.lt hg.lt h⟩
structure SP(N i m:Nat)(a b:Nat->Nat)(f:Nat->Nat)(c j:Nat):Prop where
 lt:∀k,k<N->f k<BM
 zero:∀k,i+m<=k->f k=0
 cl:c<BM
 val:vS f N+c*BM^(i+j)=vS a i*vS b m+a i*vS b j*BM^i
structure SQ(N i m:Nat)(a b:Nat->Nat)(f:Nat->Nat):Prop where
 lt:∀k,k<N->f k<BM
 zero:∀k,i+m<=k->f k=0
 val:vS f N=vS a i*vS b m
theorem SQ.start(N m:Nat)(a b:Nat->Nat):SQ N 0 m a b (fun _=>0):=
 ⟨fun _ _=>IG,fun _ _=>rfl,by rw[NP (m:=0) (δz _) fun _ _ _=>rfl];unfold vS;rw[ηz]⟩
theorem SQ.inner{N i m:Nat}{a b f:Nat->Nat}(h:SQ N i m a b f):SP N i m a b f 0 0:=
 ⟨h.lt,h.zero,IG,by rw[h.val,ηz];show _=_+a i*0*_;rw[Nat.mul_zero,ηz]⟩
theorem M9{x y u c:Nat}(hx:x<BM)(hy:y<BM)(hu:u<BM)(hc:c<BM):x*y+u+c<BM*BM:=by
 have h1:x<=BM-1:=ac;have h2:y<=BM-1:=ac;have h3:=Nat.mul_le_mul h1 h2;have h4:(BM-1)*(BM-1)+(BM-1)+(BM-1)<BM*BM:=ae;omega
theorem SP.step{N i m:Nat}{a b f:Nat->Nat}{c j:Nat}(h:SP N i m a b f c j)(hj:j<m)(hN:i+m<=N)(ha:a i<BM)(hb:b j<BM):
  SP N i m a b (Ay f (i+j) ((a i*b j+f (i+j)+c)%BM)) ((a i*b j+f (i+j)+c)/BM) (j+1):=by
 refine⟨fun k hk=>?_,fun k hk=>?_,?_,?_⟩
 .unfold Ay;split
  .exact ζv _ IG
  .exact h.lt k hk
 .unfold Ay;rw[if_neg ac];exact h.zero k hk
 .exact Nat.div_lt_of_lt_mul (M9 ha hb (h.lt (i+j) ac) h.cl)
 .have h1:=Rl (f:=f) (j:=i+j) (x:=(a i*b j+f (i+j)+c)%BM) (n:=N) ac;have h2:=h.val;have h3:=θf (a i*b j+f (i+j)+c) BM;generalize (a i*b j+f (i+j)+c)/BM=q at *;generalize (a i*b j+f (i+j)+c)%BM=r at *;generalize vS (Ay f (i+j) r) N=V at *;have h4:(BM*q+r)*BM^(i+j)=(a i*b j+f (i+j)+c)*BM^(i+j):=by rw[h3]
  have h5:BM^(i+(j+1))=BM^(i+j)*BM:=by rw[<-Nat.add_assoc,γp]
  have h6:BM^(i+j)=BM^j*BM^i:=by rw[Nat.add_comm,Nat.pow_add]
  have h7:vS b (j+1)=vS b j+b j*BM^j:=rfl;rw[h5,h7];rw[ηb]at h4;rw[ηb,ηb]at h4;have h8:BM*q*BM^(i+j)=q*(BM^(i+j)*BM):=by rw[γq BM q,ιo,γq BM]
  have h9:a i*(vS b j+b j*BM^j)*BM^i=a i*vS b j*BM^i+a i*b j*BM^(i+j):=by
   rw[Nat.mul_add,ηb,h6];simp only[ιo]
  rw[h9];rw[h8]at h4;omega
theorem SP.fin{N i m:Nat}{a b f:Nat->Nat}{c:Nat}(h:SP N i m a b f c m)(hN:i+m<N):SQ N (i+1) m a b (Ay f (i+m) c):=by
 refine⟨fun k hk=>?_,fun k hk=>?_,?_⟩
 .unfold Ay;split
  .exact h.cl
  .exact h.lt k hk
 .unfold Ay;rw[if_neg ac];exact h.zero k ac
 .have h1:=Rl (f:=f) (j:=i+m) (x:=c) (n:=N) hN;rw[h.zero (i+m) (ζ _),ηz,δp]at h1;rw[h1,h.val];show _=(vS a i+a i*BM^i)*vS b m
  rw[ηb,Nat.mul_right_comm]
structure Ny(f:Nat->Nat)(N n:Nat):Prop where
 le:n<=N
 val:vS f n=vS f N
theorem Ny.step{f:Nat->Nat}{N n:Nat}(h:Ny f N (n+1))(h0:f n=0):Ny f N n:=
 ⟨by have:=h.le;omega,by rw[<-h.val,show vS f (n+1)=vS f n+f n*BM^n from rfl,h0];omega⟩
theorem Ny.fin{f:Nat->Nat}{N n:Nat}(h:Ny f N n)(hl:∀k,k<N->f k<BM)(h0:∀m,n=m+1->f m≠0):JA n f:=⟨fun k hk=>hl k (by have:=h.le;omega),h0⟩
theorem TI:(Tryz.prog.info? 91).map (fun i=>(i.zero,i.size,i.bytes))=some (some (.int .u32 0),1,4):=ah
def uv(f:Nat->Nat):Nat->Value:=fun j=> .int .u32 (f j:Int)
theorem VY(f:Nat->Nat)(k:Nat)(y:Nat):Ay (uv f) k (.int .u32 (y:Int))=uv (Ay f k y):=by
 funext j;unfold Ay uv;by_cases h:j=k <;> simp[h]
def NL(w:World)(v:Value)(n:Nat)(f:Nat->Nat):Prop:=Sl w v n 1 (vs n (uv f))
def Hk(w:World)(v:Value)(x:Nat):Prop:=∃n f,JA n f/\vS f n=x/\NL w v n f
theorem NL.ex{w w':World}{v:Value}{n:Nat}{f:Nat->Nat}(h:NL w v n f)(hx:Ex w w'):NL w' v n f:=Sl.ex h hx
theorem Hk.ex{w w':World}{v:Value}{x:Nat}(h:Hk w v x)(hx:Ex w w'):Hk w' v x:=by
 obtain⟨n,f,h1,h2,h3⟩:=h;exact⟨n,f,h1,h2,h3.ex hx⟩
theorem NL.open{w:World}{v:Value}{n:Nat}{f:Nat->Nat}(h:NL w v n f):∃a cap,v= .slice a n cap/\n<=cap/\cap<=maxLen/\
  (0<n->∃b o,a=some ⟨b,o,none⟩/\∀j,j<n->w.cell? ⟨b,o+j,none⟩=some (.int .u32 (f j:Int))):=by
 obtain⟨h1,a,cap,rfl,h3,h4,h5⟩:=h;refine⟨a,cap,rfl,h3,h4,fun hn=>?_⟩;obtain⟨b,o,rfl,h6⟩:=h5 hn;exact⟨b,o,rfl,fun j hj=>h6 j _ (Dn hj (uv f))⟩
theorem NL.mk{w:World}{a:Option Addr}{n cap:Nat}{f:Nat->Nat}(h1:n<=cap)(h2:cap<=maxLen)(h3:0<n->∃b o,a=some ⟨b,o,none⟩/\∀j,j<n->w.cell? ⟨b,o+j,none⟩=some (.int .u32 (f j:Int))):NL w (.slice a n cap) n f:=by
 refine⟨by rw[Bl,Nat.mul_one],a,cap,rfl,h1,h2,fun hn=>?_⟩;obtain⟨b,o,rfl,h4⟩:=h3 hn;refine⟨b,o,rfl,fun j u hu=>?_⟩;have hj:j<n:=by have:=(θ.1 hu).1;rwa[Bl]at this
 rw[Dn hj]at hu;injection hu with hu;rw[h4 j hj,<-hu];rfl
theorem NL.take{w:World}{a:Option Addr}{n cap m:Nat}{f:Nat->Nat}(h:NL w (.slice a n cap) n f)(hm:m<=n){c:Nat}(hc:m<=c)(aA:c<=cap):NL w (.slice a m c) m f:=by
 obtain⟨a',cap',e,h1,h2,h3⟩:=h.open;injection e with e1 e2 e3;subst e1 e3;exact NL.mk hc (μ aA h2) fun hn=>by
  obtain⟨b,o,rfl,h4⟩:=h3 ac;exact⟨b,o,rfl,fun j hj=>h4 j ac⟩
theorem Ed(w:World)(n:Nat)(f:Nat->Nat)(v:Value)(hv:NL w v n f)(aA:∀k,k<n->f k<BM):
  Calls Tryz.prog 87 #[v] w fun r w'=>(∃u m,r= .returned u/\m<=n/\JA m f/\vS f m=vS f n/\NL w u m f)/\w'=w:=by
 obtain⟨a,cap,rfl,s1,s2,s3⟩:=hv.open;obtain⟨HV,S3,aC,HCM⟩:=Of hv s3 aA s2;unfold maxLen at s2;clear hv s3 aA;go_enter Tryz.func87,Tryz.ntmps87
 go_wp2_with fail
 go_loopw [3] (fun m' wr=>∃m:Nat,m'= .int .i64 m/\wr=w/\Hia (Ny f n m)) (fun m' _=>(intOf m').toNat)
 case atStart=>exact⟨n,rfl,rfl,⟨ζ _,rfl⟩⟩
 case round=>
  obtain⟨m,rfl,rfl,hs⟩:=hrel;have aB:=hs.o.le
  cases m with
  | zero=>
   have HC:=Aa (hs.o.fin aC.o (fun m h=>by cases h));go_wp2_with fail
   go_ret;exact⟨⟨_,0,rfl,δz _,HC.o,hs.o.val,HV.o.take (δz _) (ζ _) (δz _)⟩,rfl⟩
  | succ k=>
   have i1:(0:Int)<=(k:Int):=ac;have i2:(k:Int)<(n:Int):=ac;obtain⟨b,o,rfl,hc⟩:=S3.o ac;have c1:=hc k ac;have hw1:((k+1:Nat):Int)-1=(k:Int):=bz;by_cases h0:f k=0
   .have HS:=Aa (hs.o.step h0);rw[h0]at c1;clear hc h0;go_wp2_with fail
    go_roundw
    case rel=>exact⟨k,by go_num,trivial,HS⟩
    case measure=>simp[intOf]
   .have HC:=Aa (hs.o.fin aC.o (fun m h=>by injection h with h;subst h;exact h0));have hb:((f k:Int)==0)=false:=by simpa using h0
    clear hc h0;go_wp2_with fail
    go_ret;exact⟨⟨_,k+1,rfl,aB,HC.o,hs.o.val,HV.o.take aB (ζ _) ac⟩,rfl⟩
theorem NL.cells{w:World}{v:Value}{n:Nat}{f:Nat->Nat}(h:NL w v n f):∀u∈vs n (uv f),u.oneCell'=true:=fun u hu=>by
 unfold vs uv at hu;obtain⟨j,_,rfl⟩:=ψ.1 hu;rfl
theorem Q6(w:World)(n:Nat)(f:Nat->Nat)(v:Value)(hv:NL w v n f)(aC:∀k,k<n->f k<BM)(hn:n<=100000):
  Calls Tryz.prog 96 #[v] w fun r w'=>(∃u,r= .returned u/\Hk w' u (vS f n))/\Ex w w':=by
 obtain⟨a,cap,rfl,s1,s2,s3⟩:=hv.open;have HS:=Aa (Ed w n f _ hv aC);have HN:=Aa hn;clear hv s3 aC hn;go_enter Tryz.func96,Tryz.ntmps96
 go_wp2_with (first|(go_at_call 87;refine HS.o.mono ?_;rintro e w2⟨⟨u,m,rfl,hm,hc,aB,hu⟩,rfl⟩;obtain⟨ua,uc,rfl,_,_,_⟩:=hu.open;have HU:=Aa hu;have HM:=Aa hm;have HC:=Aa hc;have aE:=Aa aB;clear hu hm hc aB;have hm2:m<=100000:=μ HM.o HN.o)
                        | (at_builtin;refine A6 _ rfl _ _ 56 rfl w2.heap.size 91 (.int .u32 0) 1 4 Tryz.underlying56 TI rfl ae (.slice none 0 0) 0 [] rfl (World.ownsRow_nil _ _ _ _) (.slice ua m uc) m _ rfl HU.o HU.o.cells ai ac ag ?_;intro v' w' aA hg hb;obtain⟨oa,oc,rfl⟩:=Ad aA;have HO:=Aa aA;have aD:=Aa (Below.grown (Below.refl _ _) hg (ζ _) (fun k hk=>by cases hk));clear aA hg hb))
 go_ret;exact⟨⟨_,rfl,m,f,HC.o,aE.o,by have:=Sl.own HO.o;rw[Nat.zero_add,List.nil_append]at this;exact this⟩,aD.o⟩
theorem Yl:BM=4294967296:=rfl
theorem b32_mod(S:Nat):(S:Int)%4294967296=((S%BM:Nat):Int):=by rw[Yl];omega
theorem b32_div(S:Nat):(S:Int)/4294967296=((S/BM:Nat):Int):=by rw[Yl];omega
def fl2(x:Nat):Nat->Nat:=fun k=>if k=0 then x%BM else x/BM
theorem fl2_val(x:Nat):vS (fl2 x) 2=x:=by
 show 0+x%BM*1+x/BM*BM^1=x
 have:=θf x BM;rw[Nat.pow_one,γq (x/BM)];omega
theorem fl2_lt{x:Nat}(hx:x<18446744073709551616):∀k,k<2->fl2 x k<BM:=fun k hk=>by
 unfold fl2;split
 .exact ζv _ IG
 .unfold BM;omega
theorem fl2_nl(w:World)(x:Nat)(t:TypeId):NL (w.alloc (.cells #[.int .u32 ((x:Int)%4294967296),.int .u32 ((x:Int)/4294967296)] t)) (.slice (some (w.heap.size,0)) 2 2) 2 (fl2 x):=
 NL.mk (ζ _) ai fun _=>⟨_,0,rfl,fun j hj=>by
  match j,hj with
  | 0,_=>simp[fl2,BM]
  | 1,_=>simp[fl2,BM]⟩
theorem O8(w:World)(x:Nat)(hx:x<18446744073709551616):
  Calls Tryz.prog 42 #[.int .u64 x] w fun r w'=>(∃u,r= .returned u/\Hk w' u x)/\Ex w w':=by
 have HT:=Aa (Q6 (w.alloc (.cells #[.int .u32 ((x:Int)%4294967296),.int .u32 ((x:Int)/4294967296)] 91)) 2 (fl2 x) _ (fl2_nl w x _) (fl2_lt hx) ac);have EA:=Aa ((Ex.refl w).alloc (.cells #[.int .u32 ((x:Int)%4294967296),.int .u32 ((x:Int)/4294967296)] 91));rw[fl2_val]at HT;go_enter Tryz.func42,Tryz.ntmps42
 go_wp2_with (go_at_call 96;refine HT.o.mono ?_;rintro e w2⟨⟨u,rfl,hu⟩,hx⟩;obtain⟨n,f,_,_,aA⟩:=id hu;obtain⟨ua,uc,rfl,_,_,_⟩:=aA.open;have HU:=Aa hu;have HX:=Aa hx;clear hu aA hx)
 go_ret;exact⟨⟨_,rfl,HU.o⟩,EA.o.trans HX.o⟩
theorem br{P:Prop}(h:P:=by rw[IntKind.wrap_u64];omega):P:=h
theorem Uz(w:World)(n m:Nat)(a b:Nat->Nat)(u v:Value)(hu:NL w u n a)(hv:NL w v m b)(ha:∀k,k<n->a k<BM)(hb:∀k,k<m->b k<BM)(hn:n<=10000)(hm:m<=10000):
  Calls Tryz.prog 95 #[u,v] w fun r w'=>(∃u,r= .returned u/\Hk w' u (vS a n*vS b m))/\Ex w w':=by
 obtain⟨ua,uc,rfl,s1,s2,s3⟩:=hu.open;obtain⟨va,vc,rfl,t1,t2,t3⟩:=hv.open;unfold maxLen at s2 t2;obtain⟨S3,T3,HA,HB⟩:=Of s3 t3 ha hb;have hw0:wrap64 ((n:Int)+(m:Int))=((n+m:Nat):Int):=by rw[<-Int.natCast_add];exact w64 ac ac
 clear hu hv s3 t3 ha hb;go_enter Tryz.func95,Tryz.ntmps95
 go_wp2_with (at_make;refine Ar _ rfl _ _ 56 rfl 91 (.int .u32 0) 4 Tryz.underlying56 TI rfl _ (n+m) rfl rfl (by first|rfl|omega) ac ai ?_)
 intro w3 aF aP;obtain⟨g,hg⟩:=nA w.heap.size;have aZ:Hia (AJ w3 w.heap.size 91 g (n+m) (uv fun _=>0)):=Aa (by rw[<-hg];exact aF);have aY:=Aa aP;have HGG:=Aa hg
 try simp only[hg]
 clear aF aP hg;go_wp2_with fail
 go_loopw [20] (fun i' wr=>∃(i:Nat) (f:Nat->Nat),i<=n/\i'= .int .i64 i/\Hia (AJ wr w.heap.size 91 g (n+m) (uv f))/\Hia (SQ (n+m) i m a b f)/\Hia (Ex w wr)) (fun i' _=>n-(intOf i').toNat)
 case atStart=>exact⟨0,_,ac,rfl,aZ,Aa (SQ.start _ _ _ _),aY⟩
 case round=>
  clear aZ aY;obtain⟨i,f,hi,rfl,ho,aH,aB⟩:=hrel;by_cases hin:i<n
  .obtain⟨sb,so,rfl,aR⟩:=S3.o ac;have c1:=aB.o.cell (aR i hin);have i1:(0:Int)<=(i:Int):=by omega
   have i2:(i:Int)<(n:Int):=ac;have aO:=Aa (HA.o i hin);obtain⟨A,hA⟩:=nA (a i);rw[hA]at c1;have bI:=Aa hA;clear hA aR;go_wp2_with fail
   go_loopw [8,27] (fun c' j' wr=>∃(c j:Nat) (f:Nat->Nat),j<=m/\c'= .int .u64 c/\j'= .int .i64 j/\Hia (AJ wr w.heap.size 91 g (n+m) (uv f))/\Hia (SP (n+m) i m a b f c j)/\Hia (Ex w wr)) (fun _ j' _=>m-(intOf j').toNat)
   case atStart=>exact⟨0,0,f,ac,rfl,rfl,ho,Aa aH.o.inner,aB⟩
   case round=>
    clear c1 ho aH aB;obtain⟨c,j,f,hj,rfl,rfl,ho,aC,aB⟩:=hrel;by_cases hjm:j<m
    .obtain⟨tb,tp,rfl,aQ⟩:=T3.o ac;have c2:=aB.o.cell (aQ j hjm);have aK:i+j<n+m:=by omega
     have c3:=ho.o.cell aK;have bC:=ho.o.frz (i+j);have i3:(0:Int)<=(j:Int):=ac;have i4:(j:Int)<(m:Int):=ac;have i5:(0:Int)<=(i:Int)+(j:Int):=Int.add_nonneg i1 i3;have i6:(i:Int)+(j:Int)<(n:Int)+(m:Int):=Int.add_lt_add i2 i4;have aA:=Aa (aC.o.step hjm ac aO.o (HB.o j hjm));have aG:=M9 aO.o (HB.o j hjm) (aC.o.lt (i+j) aK) aC.o.cl;have aE:=fun y:Nat=>ho.o.set (i+j) (.int .u32 (y:Int));have aX:=fun y:Nat=>ho.o.exSet (ζ _) aB.o (i+j) (.int .u32 (y:Int));simp only[VY]at aE;have aU:a i<4294967296:=aO.o;have aT:b j<4294967296:=HB.o j hjm;have aS:f (i+j)<4294967296:=aC.o.lt (i+j) aK;have aI:c<4294967296:=aC.o.cl;have aD:a i*b j+f (i+j)+c<18446744073709551616:=aG;clear aG;unfold uv at c3;rw[bI.o]at aA aD aU;obtain⟨B,hB⟩:=nA (b j);obtain⟨F,hF⟩:=nA (f (i+j));rw[hB]at aA aD c2 aT;simp only[hF]at c3;rw[hF]at aA aD aS;obtain⟨P,hP⟩:=nA (A*B);rw[hP]at aA aD;obtain⟨T,hT⟩:=nA (P+F);rw[hT]at aA aD;obtain⟨S,hS⟩:=nA (T+c);rw[hS]at aA aD;have e1:IntKind.u64.wrap ((A:Int)*(B:Int))=(P:Int):=by rw[<-Int.natCast_mul,hP,IntKind.wrap_u64];omega
     have e2:IntKind.u64.wrap ((P:Int)+(F:Int))=(T:Int):=br;have e3:IntKind.u64.wrap ((T:Int)+(c:Int))=(S:Int):=br;have e7:IntKind.u64.wrap (A:Int)=(A:Int):=br;have e8:IntKind.u64.wrap (B:Int)=(B:Int):=br;have e9:IntKind.u64.wrap (F:Int)=(F:Int):=br;have e5:(S:Int)%4294967296=((S%BM:Nat):Int):=b32_mod S;have e6:(S:Int)/4294967296=((S/BM:Nat):Int):=b32_div S;obtain⟨r,hr⟩:=nA (S%BM);obtain⟨k,hk⟩:=nA (S/BM);rw[hr]at e5 aA;rw[hk]at e6 aA;have aM:=Aa (aE r);have aN:=Aa (aX r);clear aE aX aQ hP hT hS hB hF hr hk aD aU aT aS aI;go_wp2_with fail
     clear e1 e2 e3 e5 e6 e7 e8 e9;go_roundw
     case rel=>exact⟨k,j+1,_,ac,rfl,by go_num,aM,aA,aN⟩
     case measure=>exact Ωm
    .obtain rfl:j=m:=by omega
     have bH:=Aa (aC.o.fin ac);have bB:i+j<n+j:=bz;have c3:=ho.o.cell bB;have bC:=ho.o.frz (i+j);have aE:=ho.o.set (i+j) (.int .u32 (c:Int));have aN:=Aa (ho.o.exSet (ζ _) aB.o (i+j) (.int .u32 (c:Int)));rw[VY]at aE;have aM:=Aa aE;have k5:(0:Int)<=(i:Int)+(j:Int):=Int.add_nonneg i1 (Int.natCast_nonneg j);have k6:(i:Int)+(j:Int)<(n:Int)+(j:Int):=Int.add_lt_add_right i2 _;have hc:c<4294967296:=aC.o.cl;have bA:=Aa (show(c:Int)%4294967296=(c:Int) from ac);have e2:=bA.o;unfold uv at c3;clear hc aE;go_wp2_with fail
     clear e2;go_roundw
     case rel=>exact⟨i+1,_,ac,by go_num,aM,bH,aN⟩
     case measure=>exact Ωm
  .obtain rfl:i=n:=by omega
   have aL:=Ed wr (i+m) f _ (show NL wr (.slice (some (g,0)) (i+m) (i+m)) (i+m) f from ho.o.sl) aH.o.lt;rw[aH.o.val]at aL;have bD:=Aa aL;clear aL;go_wp2_with (go_at_call 87;refine bD.o.mono ?_;rintro e w5⟨⟨u,k,rfl,hk1,aW,aV,aJ⟩,rfl⟩;obtain⟨oa,oc,rfl,_,_,_⟩:=aJ.open;have bG:=Aa aW;have bF:=Aa aV;have bE:=Aa aJ;clear aW aV aJ)
   go_ret;exact⟨⟨_,rfl,k,f,bG.o,bF.o,bE.o⟩,aB.o⟩
def CH(x:Nat):Prop:=x<BM^200
theorem CH.len{x n:Nat}{f:Nat->Nat}(h:CH x)(hc:JA n f)(hv:vS f n=x):n<=1000:=μ (hc.len (by rw[hv];exact h)) ac
theorem Dt{x:Nat}(h:x<18446744073709551616):CH x:=by
 have h1:(18446744073709551616:Nat)=BM^2:=ae;have h2:BM^2<=BM^200:=Nat.pow_le_pow_right IG ac;unfold CH;omega
theorem Yj:JA 1 fun _=>1:=⟨fun _ _=>ae,fun _ _=>ac⟩
theorem vS_one:vS (fun _=>1) 1=1:=ae
def NMl(w:World)(v:Value)(xs:List Nat):Prop:=∃vals:List Value,Sl w v xs.length 1 vals/\∀(i x:Nat) (u:Value),xs[i]?=some x->vals[i]?=some u->Hk w u x
theorem NMl.open{w:World}{v:Value}{xs:List Nat}(h:NMl w v xs):∃a cap,v= .slice a xs.length cap/\xs.length<=cap/\cap<=maxLen/\
  (0<xs.length->∃b o,a=some ⟨b,o,none⟩/\∀(i x:Nat),xs[i]?=some x->∃u,w.cell? ⟨b,o+i,none⟩=some u/\Hk w u x):=by
 obtain⟨vals,⟨h1,a,cap,h2,h3,h4,h5⟩,h6⟩:=h;refine⟨a,cap,h2,h3,h4,fun hn=>?_⟩;obtain⟨b,o,h7,h8⟩:=h5 hn;refine⟨b,o,h7,fun i x hx=>?_⟩;have hi:=(θ.1 hx).1;have hu:vals[i]?=some vals[i]:=γ ac;exact⟨_,h8 i _ hu,h6 i x _ hx hu⟩
def F6:List Nat->Nat:=fun xs=>xs.foldl (·* ·) 1
theorem KV{xs:List Nat}{k x:Nat}(h:xs[k]?=some x):F6 (xs.take (k+1))=F6 (xs.take k)*x:=by
 unfold F6;rw[List.take_add_one,h,List.foldl_append];rfl
theorem WO(w:World)(xs:List Nat)(v:Value)(hv:NMl w v xs)(aM:∀x∈xs,CH x)(hp:∀k,k<=xs.length->CH (F6 (xs.take k))):
  Calls Tryz.prog 41 #[v] w fun r w'=>(∃u,r= .returned u/\Hk w' u (F6 xs))/\Ex w w':=by
 obtain⟨a,cap,rfl,s1,s2,s3⟩:=hv.open;unfold maxLen at s2;have S3:=Aa s3;have aT:=Aa aM;have HP:=Aa hp;clear hv s3 aM hp;have ea:=(Ex.refl w).alloc (.cells #[.int .u32 1] 91);have q0:(w.alloc (.cells #[.int .u32 1] 91)).cell? (w.heap.size,0)=some (.int .u32 1):=ag;have H1:=Aa (show Hk (w.alloc (.cells #[.int .u32 1] 91)) (.slice (some (w.heap.size,0)) 1 1) 1 from⟨1,_,Yj,vS_one,NL.mk (ζ _) ai fun _=>⟨_,0,rfl,fun j hj=>by
  obtain rfl:j=0:=ac;exact q0⟩⟩)
 have EA:=Aa ea;clear ea q0;go_enter Tryz.func41,Tryz.ntmps41
 go_wp2_with fail
 go_loopw [3,9] (fun p' k' wr=>∃(k:Nat),k<=xs.length/\k'= .int .i64 k/\Hia (Hk wr p' (F6 (xs.take k)))/\Hia (Ex w wr)) (fun _ k' _=>xs.length-(intOf k').toNat)
 case atStart=>exact⟨0,ac,rfl,H1,EA⟩
 case round=>
  clear H1 EA;obtain⟨k,hk,rfl,hn,aF⟩:=hrel;have aV:=Aa (HP.o k hk);obtain⟨n,f,aE,aD,aC⟩:=hn.o;have hn1:=aV.o.len aE aD;obtain⟨pa,pc,rfl,_,_,_⟩:=aC.open;by_cases hkn:k<xs.length
  .obtain⟨x,hx⟩:∃x,xs[k]?=some x:=⟨_,γ hkn⟩;obtain⟨b,o,rfl,hc⟩:=S3.o ac;obtain⟨u,hu,aR⟩:=hc k x hx;have c1:=aF.o.cell hu;obtain⟨m,g,aJ,aI,aH⟩:=aR;have hm1:=(aT.o x (List.mem_of_getElem? hx)).len aJ aI;have i1:(0:Int)<=(k:Int):=by omega
   have i2:(k:Int)<(xs.length:Int):=ac;obtain⟨aW,aU,aX,aZ,aY⟩:=On (Ed _ m g u (aH.ex aF.o) aJ.lt) (fun u' m' (aN:m'<=m) (aS:JA m' g) (h:NL _ u' m' g)=>Uz _ n m' f g _ _ aC h aE.lt aS.lt ac ac) (KV hx) aD aI;obtain⟨ya,yc,rfl,_,_,_⟩:=aH.open;clear hc hu hx aE aD aC aJ aI aH;go_wp2_with (first|(go_at_call 87;refine aW.o.mono ?_;rintro e w5⟨⟨u,m',rfl,aN,aP,aO,aG⟩,rfl⟩;obtain⟨oa,oc,rfl,_,_,_⟩:=aG.open;have aQ:=Aa (aU.o _ m' aN aP aG);rw[aZ.o,aO,aY.o]at aQ;clear aP aO aG)|(go_at_call 95;refine aQ.o.mono ?_;rintro e w6⟨⟨u6,rfl,aA⟩,aB⟩;obtain⟨_,_,_,_,h6⟩:=id aA;obtain⟨oa,oc,rfl,_,_,_⟩:=h6.open;have aL:=Aa aA;have aK:=Aa (aF.o.trans aB);clear aA h6 aB))
   go_roundw
   case rel=>exact⟨k+1,ac,by go_num,by rw[aX.o];exact aL,aK⟩
   case measure=>exact Ωm
  .obtain rfl:k=xs.length:=by omega
   have hT:=Q6 wr n f _ aC aE.lt ac;rw[aD,List.take_length]at hT;have HT:=Aa hT;clear hT aE aD aC;go_wp2_with (go_at_call 96;refine HT.o.mono ?_;rintro e w6⟨⟨u6,rfl,aA⟩,aB⟩;obtain⟨_,_,_,_,h6⟩:=id aA;obtain⟨oa,oc,rfl,_,_,_⟩:=h6.open;have aL:=Aa aA;have aK:=Aa (aF.o.trans aB);clear aA h6 aB)
   go_ret;exact⟨⟨_,rfl,aL.o⟩,aK.o⟩
theorem zcI{P:Prop}(h:P:=by
 go_enter Tryz.func110,Tryz.ntmps110
 exact zdj):P:=h
theorem Qb(w:World)(n i:Nat)(f:Nat->Nat)(v:Value)(hv:NL w v n f)(aA:∀k,k<n->f k<BM)(hi:i<=10000):
  Calls Tryz.prog 110 #[v,i] w fun r w'=>r= .returned (.int .u64 ((if i<n then f i else 0:Nat):Int))/\w'=w:=by
 obtain⟨a,cap,rfl,s1,s2,s3⟩:=hv.open;have S3:=Aa s3;unfold maxLen at s2;clear hv s3;by_cases hin:i<n
 .obtain⟨b,o,rfl,hc⟩:=S3.o ac;have c1:=hc i hin;rw[if_pos hin];have hb:f i<4294967296:=aA i hin;have e1:IntKind.u64.wrap (f i:Int)=(f i:Int):=by rw[IntKind.wrap_u64];omega
  have i1:(0:Int)<=(i:Int):=ac;have i2:(i:Int)<(n:Int):=ac;clear hc aA hb;exact zcI
 .rw[if_neg hin];have i2:¬(i:Int)<(n:Int):=by omega
  clear aA;exact zcI
def Qd(n:Nat)(f:Nat->Nat)(i:Nat):Nat:=if i<n then f i else 0
theorem W7{n m:Nat}(f:Nat->Nat)(h:n<=m):vS (Qd n f) m=vS f n:=by
 rw[NP h fun k h1 _=>by unfold Qd;rw[if_neg ac]];exact Gi fun k hk=>by unfold Qd;rw[if_pos hk]
theorem Wx(w:World)(x y:Nat)(u v:Value)(hu:Hk w u x)(hv:Hk w v y)(hx:CH x)(hy:CH y):
  Calls Tryz.prog 50 #[u,v] w fun r w'=>(∃z:Int,r= .returned (.int .i64 z)/\(z=0↔x=y))/\w'=w:=by
 obtain⟨n,f,aE,aD,aI⟩:=hu;obtain⟨m,g,aC,aB,aH⟩:=hv;have hn:=hx.len aE aD;have hm:=hy.len aC aB;have aP:=Aa (fun i (hi:i<=10000)=>Qb w n i f u aI aE.lt hi);have aO:=Aa (fun i (hi:i<=10000)=>Qb w m i g v aH aC.lt hi);have aQ:=Aa (show(∀i,Qd n f i=Qd m g i)->x=y from fun h=>by
  rw[<-aD,<-aB,<-W7 f (Nat.le_max_left n m),<-W7 g (Nat.le_max_right n m)];exact Gi fun k _=>h k)
 have aN:Hia (∀i,Qd n f i≠Qd m g i->¬x=y):=Aa (fun i h e=>by
  obtain⟨h1,h2⟩:=aE.uniq aC (by rw[aD,aB,e]);subst h1;refine h ?_;unfold Qd;split
  .exact h2 i ac
  .rfl)
 obtain⟨ua,uc,rfl,_,_,_⟩:=aI.open;obtain⟨va,vc,rfl,_,_,_⟩:=aH.open;clear aE aD aI aC aB aH hx hy;have aR:=Aa (show(∀i,i<n∨i<m->Qd n f i=Qd m g i)->x=y from fun h=>aQ.o fun i=>by
  by_cases hi:i<n∨i<m
  .exact h i hi
  .unfold Qd;rw[if_neg ac,if_neg ac])
 go_enter Tryz.func50,Tryz.ntmps50
 go_wp2_with fail
 all_goals
  go_loopw [5] (fun i' wr=>∃i:Nat,i<=1000/\i'= .int .i64 ((i:Int)-1)/\wr=w/\Hia (∀k,i<=k->k<n∨k<m->Qd n f k=Qd m g k)) (fun i' _=>((intOf i')+1).toNat)
  case atStart=>first|exact⟨n,ac,rfl,rfl,Aa (fun k h1 h2=>ac)⟩|exact⟨m,ac,rfl,rfl,Aa (fun k h1 h2=>ac)⟩|exact⟨max n m,ac,congrArg (Value.int .i64) ac,rfl,Aa (fun k h1 h2=>ac)⟩
  case round=>
   obtain⟨i,hi,rfl,rfl,aA⟩:=hrel
   cases i with
   | zero=>
    have HE:=Aa (aR.o fun k hk=>aA.o k (δz _) hk);go_wp2_with fail
    go_ret;exact⟨⟨0,rfl,fun _=>HE.o,fun _=>rfl⟩,rfl⟩
   | succ k=>
    have aK:((k+1:Nat):Int)-1=(k:Int):=ac;rw[aK];have i1:(0:Int)<=(k:Int):=ac;have L1:=Aa (aP.o k ac);have L2:=Aa (aO.o k ac);have aJ:=Aa (aN.o k);obtain⟨p,hp⟩:=nA ((if k<n then f k else 0));obtain⟨q,hq⟩:=nA ((if k<m then g k else 0));rw[hp]at L1;rw[hq]at L2;have aG:Qd n f k=p:=hp;have aF:Qd m g k=q:=hq;rw[aG,aF]at aJ;have aL:Hia (p=q->∀j,k<=j->j<n∨j<m->Qd n f j=Qd m g j):=Aa (fun e j h1 h2=>by
     by_cases e2:j=k
     .subst e2;rw[aG,aF,e]
     .exact aA.o j ac h2)
    clear hp hq aG aF aA;rcases Nat.lt_trichotomy p q with h|h|h
    .have HN:=Aa (aJ.o ac);have h1:(p:Int)<(q:Int):=by omega
     go_wp2_with (go_at_call 110;first|(with_reducible refine L1.o.mono ?_;rintro e w2⟨rfl,rfl⟩)|(with_reducible refine L2.o.mono ?_;rintro e w2⟨rfl,rfl⟩))
     go_ret;exact⟨⟨-1,rfl,fun h=>ac,fun h=>absurd h HN.o⟩,rfl⟩
    .subst h;have aM:=Aa (aL.o rfl);have h1:¬(p:Int)<(p:Int):=by omega
     go_wp2_with (go_at_call 110;first|(with_reducible refine L1.o.mono ?_;rintro e w2⟨rfl,rfl⟩)|(with_reducible refine L2.o.mono ?_;rintro e w2⟨rfl,rfl⟩))
     go_roundw
     case rel=>exact⟨k,ac,by go_num,trivial,aM⟩
     case measure=>simp[intOf]
    .have HN:=Aa (aJ.o ac);have h1:¬(p:Int)<(q:Int):=by omega
     have h2:(q:Int)<(p:Int):=ac;go_wp2_with (go_at_call 110;first|(with_reducible refine L1.o.mono ?_;rintro e w2⟨rfl,rfl⟩)|(with_reducible refine L2.o.mono ?_;rintro e w2⟨rfl,rfl⟩))
     go_ret;exact⟨⟨1,rfl,fun h=>ac,fun h=>absurd h HN.o⟩,rfl⟩
end Go.Proofs.YtehieobniamagaaGreat
