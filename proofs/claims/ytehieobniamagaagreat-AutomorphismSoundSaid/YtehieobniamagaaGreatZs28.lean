/- Walk of Check. -/
import Derived.Test.YtehieobniamagaaGreatZs27
namespace Go.Proofs.YtehieobniamagaaGreat
open Go.RowKit
set_option linter.all false
set_option maxRecDepth 100000
set_option maxHeartbeats 8000000
theorem MJ(w:World)(p0 p1:Value)(v:Value)(n:Nat)(us:List Value)(hv:Sl w v n 1 us)(pr:Nat->Bool)
  (hp:∀(w1:World) (i:Nat) (u:Value),Ex w w1->us[i]?=some u->Calls Tryz.prog 72 #[u,p0,p1] w1 fun e w'=>e= .returned (.bool (pr i))/\Ex w1 w'):
  Calls Tryz.prog 129 #[v,.func (.func 72) #[] #[p0,p1]] w fun r w'=>r= .returned (.int .i64 (Cv pr n))/\Ex w w':=by
 obtain⟨hl,a,cap,rfl,s1,s2,s3⟩:=hv;rw[Nat.mul_one]at hl;have S3:=Aa s3;have HP:=Aa hp;have HL:=Aa hl;unfold maxLen at s2;clear s3 hp hl;go_enter Tryz.func129,Tryz.ntmps129
 go_wp2_with fail
 go_loopg [5,8] n (fun gg _ i' wr=>∃i:Nat,i<=n/\n-i<=gg/\i'= .int .i64 i/\Hia (Ex w wr)/\Hia (∀j,j<i->pr j=false))
 case atStart=>exact⟨0,ac,ac,rfl,Aa (Ex.refl _),Aa (fun j hj=>ac)⟩
 case round=>
  obtain⟨i,hi,hg,rfl,aB,aA⟩:=hrel;by_cases hlt:i<n
  .obtain⟨u,hu⟩:∃u,us[i]?=some u:=⟨_,List.getElem?_eq_getElem a8⟩;obtain⟨bb,o,rfl,hc⟩:=S3.o ac;have c1:=aB.o.cell (hc i u hu);have HC:=Aa (HP.o wr i u aB.o hu);have hlt':(i:Int)<(n:Int):=by omega
   clear hc hu
   cases hb:pr i with
   | true=>
    rw[hb]at HC;have HF:=Aa (Cy hlt hb aA.o);clear hb;go_wp2_with (go_at_call 72;refine HC.o.mono ?_;rintro e w'⟨rfl,hx⟩;have HX:=Aa (aB.o.trans hx);clear hx)
    exact zdo
   | false=>
    rw[hb]at HC;have HA:=Aa (show ∀j,j<i+1->pr j=false from fun j hj=>by
     by_cases e:j=i
     .subst e;exact hb
     .exact aA.o j ac)
    clear hb;go_wp2_with (go_at_call 72;refine HC.o.mono ?_;rintro e w'⟨rfl,hx⟩;have HX:=Aa (aB.o.trans hx);clear hx)
    exact zb2
  .exact zaH
theorem JG(w:World)(p0 p1:Value)(v:Value)(n:Nat)(us:List Value)(hv:Sl w v n 1 us)(pr:Nat->Bool)
  (hp:∀(w1:World) (i:Nat) (u:Value),Ex w w1->us[i]?=some u->Calls Tryz.prog 72 #[u,p0,p1] w1 fun e w'=>e= .returned (.bool (pr i))/\Ex w1 w'):
  Calls Tryz.prog 71 #[v,.func (.func 72) #[] #[p0,p1]] w fun r w'=>r= .returned (.bool ((List.range n).any pr))/\Ex w w':=by
 have HC:=Aa (MJ w p0 p1 v n us hv pr hp);have HB:=Aa (Ee pr n);obtain⟨z,hz⟩:=nA (Cv pr n);rw[hz]at HC HB;clear hz hp hv;go_enter Tryz.func71,Tryz.ntmps71
 go_wp2_with (go_at_call 129;refine HC.o.mono ?_;rintro e w'⟨rfl,hx⟩;have HX:=Aa hx;clear hx)
 go_ret;exact⟨Ap HB.o.symm,HX.o⟩
section
variable {b p m x0 N:Nat} {ml:List Int} {rows:List (List Int)}
theorem Z0(w:World)(hg:Bh w b p m ml x0)(aD:1<=N)(hN:N<=64)(hd:N*(p^m-1)<=64)(ho:BI p m ml N rows 0)(m1 v1:Value)(hc:(⟨p,m,ml,N,rows⟩:AT).at w m1 v1)(P:List Int)(pv:Value)(hp:Al w pv P)(aA:P.length=N*(p^m-1))(aB:∀x∈P,0<=x/\x<(P.length:Int))
  (GB CB:Nat) (g0:w.cell? (GB,0)=some (.pointer (some (b,0)))) (c0:w.cell? (CB,0)=some (.int .i64 p)) (c1:w.cell? (CB,1)=some (.int .i64 m)) (c2:w.cell? (CB,2)=some m1) (c3:w.cell? (CB,3)=some (.int .i64 N)) (c4:w.cell? (CB,4)=some v1):
  Calls Tryz.prog 72 #[pv,.pointer (some (GB,0)),.pointer (some (CB,0))] w fun r w'=>r= .returned (.bool (!FU p m ml N rows P))/\Ex w w':=by
 have HM:=Aa (RO w hg aD hN hd ho m1 v1 hc P pv hp aA aB);unfold AT.arg at HM;dsimp only at HM;obtain⟨x1,y1,rfl,-,-,-⟩:=hc.g.open;obtain⟨x3,y3,rfl,-,-,-⟩:=hc.m.open;obtain⟨x5,y5,rfl,-,-,-⟩:=hp.open;obtain⟨MB,aC⟩:∃x,FU p m ml N rows P=x:=⟨_,rfl⟩;rw[aC]at HM ⊢;clear aC hg hc hp ho aA aB hd;go_enter Tryz.func72,Tryz.ntmps72
 go_wp2_with (go_at_call 73;refine HM.o.mono ?_;rintro e w'⟨rfl,hx⟩;have HX:=Aa hx;clear hx)
 go_ret;exact⟨rfl,HX.o⟩
end
open Classical in
noncomputable def Wq (c:AT) (L:List Lv):Bool:=decide (∀l∈L,∀r∈l.reps,FU c.p.toNat c.m.toNat c.ml c.n.toNat c.rows r=true)
theorem Lc{c:AT}{L:List Lv}:Wq c L=true↔∀l∈L,∀r∈l.reps,FU c.p.toNat c.m.toNat c.ml c.n.toNat c.rows r=true:=by
 unfold Wq;simp only[decide_eq_true_eq]
def Q8(c:AT)(dg:Int)(L:List Lv)(xs:List EW):Prop:=Bf dg L=0/\dg=El c/\Wq c L=true/\Js c (c.p.toNat^c.m.toNat) L (AD c) xs=true
def XZ(c:AT)(dg:Int)(L:List Lv)(xs:List EW)(r:Ending)(w':World):Prop:=∃e0:Int,BI c.p c.m c.ml c.n c.rows e0/\
 ((Iw c e0≠0/\r= .returned (.tuple #[.slice none 0 0,.int .i64 (Iw c e0)]))∨
 (Iw c e0=0/\¬Q8 c dg L xs/\r= .returned (.tuple #[.slice none 0 0,(13:Int)]))∨
 (Iw c e0=0/\Q8 c dg L xs/\∃v,r= .returned (.tuple #[v,(0:Int)])/\IW w' v (I4 L)))
theorem zbB{P:Prop}(h:P:=by
 go_wp2_with fail
 exact bodyPost_ret (v:= .tuple #[.slice none 0 0,(13:Int)]) (by simp[results,Tryz.results29,go_sem]) rfl ⟨aQ.o _ _ (HR.o _),aH.o⟩):P:=h
theorem zbG{P:Prop}(h:P:=by
 exact bodyPost_ret (v:= .tuple #[.slice none 0 0,(13:Int)]) (by simp[results,Tryz.results29,go_sem]) rfl ⟨aQ.o _ _ (HR.o _),aP.o⟩):P:=h
theorem JZ(w:World)(c:AT)(m1 v1:Value)(hc:c.at w m1 v1)(dg:Int)(L:List Lv)(lv:Value)(hL:DX w lv L)(cQ:(AF L).length<=1000)(xs:List EW)(rv:Value)(hx:IY w rv xs):
  Calls Tryz.prog 29 #[c.arg m1 v1,.agg #[dg,lv,rv]] w fun r w'=>XZ c dg L xs r w'/\Ex w w':=by
 obtain⟨c0,c1,c2,c3,c4⟩:=CY w c m1 v1;have cI:=AI w (c.obj m1 v1);have cL:(w.alloc (c.obj m1 v1)).heap.size=w.heap.size+1:=ag;have aA:=AI (w.alloc (c.obj m1 v1)) (.cells #[dg,lv,rv] 53);have s0:((w.alloc (c.obj m1 v1)).alloc (.cells #[dg,lv,rv] 53)).cell? ((w.alloc (c.obj m1 v1)).heap.size,0)=some (.int .i64 dg):=ag;have s1:((w.alloc (c.obj m1 v1)).alloc (.cells #[dg,lv,rv] 53)).cell? ((w.alloc (c.obj m1 v1)).heap.size,1)=some lv:=ag;have s2:((w.alloc (c.obj m1 v1)).alloc (.cells #[dg,lv,rv] 53)).cell? ((w.alloc (c.obj m1 v1)).heap.size,2)=some rv:=ag;rw[cL]at s0 s1 s2;have aN:=Aa (cI.trans aA);have bG:=Aa (hc.ex aN.o);have HL:=Aa (hL.ex aN.o);have HX:=Aa (hx.ex aN.o);have aR:=Aa (K6 _ c m1 v1 bG.o);obtain⟨x1,y1,cK,-,z1,-⟩:=hc.g.open;obtain⟨x3,y3,cJ,-,z3,-⟩:=hc.m.open;obtain⟨la,lc,dJ,-,zl,-⟩:=hL.open3;obtain⟨ra,rc,dG,-,zr,-⟩:=hx.open;unfold maxLen at z1 z3 zl zr;obtain⟨B,hB⟩:=nA w.heap.size;rw[hB]at c0 c1 c2 c3 c4 s0 s1 s2;replace c0:=aA.cell c0;replace c1:=aA.cell c1;replace c2:=aA.cell c2;replace c3:=aA.cell c3;replace c4:=aA.cell c4;obtain⟨C,hC⟩:∃C:AT,C=c:=⟨_,rfl⟩;have aO:=Aa hC;have aQ:=Aa (show ∀r w',XZ C dg L xs r w'->XZ c dg L xs r w' from fun r w' h=>by rw[<-hC];exact h);obtain⟨cp,cm,aB,cn,aC⟩:=c;unfold AT.arg at aR ⊢;unfold AT.obj at aN bG HL HX aR c0 c1 c2 c3 c4 s0 s1 s2;dsimp only at aN bG HL HX aR c0 c1 c2 c3 c4 s0 s1 s2 cK cJ ⊢;rw[<-hC]at aR;subst cK cJ dJ dG;clear hc cI aA hL hx cL hC;have dA:=Aa cQ;clear cQ;go_enter Tryz.func29,Tryz.ntmps29
 go_upto_region 1 with fail
 have aW:(w.alloc (.cells #[cp,cm,.slice x3 aB.length y3,cn,.slice x1 aC.length y1] 39)).heap.size=B+1:=by simp[hB]
 try simp only[aW]
 try simp only[hB]
 clear hB aW;generalize (w.alloc (.cells #[cp,cm,.slice x3 aB.length y3,cn,.slice x1 aC.length y1] 39)).alloc (.cells #[dg,.slice la L.length lc,.slice ra xs.length rc] 53)=w1 at *;go_wp2_with fail
 refine aR.o.mono ?_;rintro e w2⟨⟨e0,cR,ho⟩,aA⟩;have bB:=Aa aA;have bM:=Aa cR;replace c0:=aA.cell c0;replace c1:=aA.cell c1;replace c2:=aA.cell c2;replace c3:=aA.cell c3;replace c4:=aA.cell c4;replace s0:=aA.cell s0;replace s1:=aA.cell s1;replace s2:=aA.cell s2;clear aA cR aR;obtain⟨OE,aM⟩:∃x,Iw C e0=x:=⟨_,rfl⟩;rw[aM]at ho;have bL:=Aa aM;rcases ho with⟨h0,ptr,d,rfl⟩|⟨h0,pn,mn,N,b,x0,hp,hm,hn,hN1,hN64,hD,rfl,hg,hx1,aA⟩
 .have hb:(OE !=0)=true:=by simpa using h0
  have H0:=Aa h0;have aP:=Aa (fun o=>aN.o.trans (bB.o.trans (AI w2 o)));clear h0 aM;go_wp2_with fail
  exact bodyPost_ret (v:= .tuple #[.slice none 0 0,OE]) (by simp[results,Tryz.results29,go_sem]) rfl ⟨aQ.o _ _ ⟨e0,bM.o,.inl ⟨by rw[bL.o];exact H0.o,by rw[bL.o]⟩⟩,aP.o _⟩
 .subst h0;have dX:=Aa (show e0=0 from by
   unfold Iw at aM;split at aM
   .exact aM
   .omega)
  have dM:cn=(N:Int):=by have:=aO.o;rw[this]at hn;exact hn
  have dL:cp=(pn:Int):=by have:=aO.o;rw[this]at hp;exact hp
  have dN:cm=(mn:Int):=by have:=aO.o;rw[this]at hm;exact hm
  subst dM dL dN;obtain⟨cV,dC,dV,cX⟩:=Eq (show BI pn mn aB N aC 0 from by have h1:=bM.o;rw[aO.o,dX.o]at h1;exact h1) (show(El C:Int)=((N*(pn^mn-1):Nat):Int) from by unfold El;rw[hp,hm,hn];rfl) (show AD C=Du N (pn^mn) from by unfold AD;rw[hp,hm,hn];rfl) (show(∀l∈L,∀r∈l.reps,FU pn mn aB N aC r=true)↔Wq C L=true from by rw[Lc,aO.o];exact Iff.rfl);obtain⟨dB,aK,cF,HG,HN,bF,bY,dW,aD⟩:=Ty (show Js C (C.p.toNat^C.m.toNat) L (AD C) xs=Js ⟨pn,mn,aB,N,aC⟩ (pn^mn) L (Du N (pn^mn)) xs from by rw[dV.o,aO.o];first|done|rfl) (show ¬Q8 C dg L xs->∀(w':World),XZ C dg L xs (.returned (.tuple #[.slice none 0 0,(13:Int)])) w' from fun h w'=>⟨e0,bM.o,.inr (.inl ⟨bL.o,h,rfl⟩)⟩) (show Q8 C dg L xs->∀(w':World) (v:Value),IW w' v (I4 L)->XZ C dg L xs (.returned (.tuple #[v,(0:Int)])) w' from fun h w' v hv=>⟨e0,bM.o,.inr (.inr ⟨bL.o,h,v,rfl,hv⟩)⟩) (show Bh w2 b pn mn aB x0 from by have h:=hg;rw[aO.o]at h;exact h) (show 1<=N/\N<=64/\N*(pn^mn-1)<=64 from⟨hN1,hN64,hD⟩) (bG.o.ex bB.o) (HL.o.ex bB.o) (HX.o.ex bB.o) (AI w2 (.cells #[.pointer (some ⟨b,0,none⟩)] 97));have g0:(w2.alloc (.cells #[.pointer (some ⟨b,0,none⟩)] 97)).cell? (w2.heap.size,0)=some (.pointer (some (b,0))):=by simp
  obtain⟨GB,bU⟩:∃x,w2.heap.size=x:=⟨_,rfl⟩;rw[bU]at g0;obtain⟨D,bV⟩:=nA (N*(pn^mn-1));have cA:=Aa bV;rw[bV];clear hp hm hn hN1 hN64 hD hg hx1 aA aM bV bG HL HX;go_upto_region 2 with fail
  try simp only[bU]
  clear bU;generalize w2.alloc (.cells #[.pointer (some ⟨b,0,none⟩)] 97)=w3 at *;replace c0:=aD.o.cell c0;replace c1:=aD.o.cell c1;replace c2:=aD.o.cell c2;replace c3:=aD.o.cell c3;replace c4:=aD.o.cell c4;replace s0:=aD.o.cell s0;replace s1:=aD.o.cell s1;replace s2:=aD.o.cell s2;have aJ:=Aa (aN.o.trans (bB.o.trans aD.o));have cZ:=Aa (bY.o.ex aD.o);have cB:=Aa (fun (w5:World) (h5:Ex w3 w5)=>(⟨h5.cell c0,h5.cell c1,h5.cell c2,h5.cell c3,h5.cell c4,h5.cell s0,h5.cell s1,h5.cell s2,h5.cell g0⟩:w5.cell? (B,0)=some (.int .i64 pn)/\w5.cell? (B,1)=some (.int .i64 mn)/\w5.cell? (B,2)=some (.slice x3 aB.length y3)/\w5.cell? (B,3)=some (.int .i64 N)/\w5.cell? (B,4)=some (.slice x1 aC.length y1)/\w5.cell? (B+1,0)=some (.int .i64 dg)/\w5.cell? (B+1,1)=some (.slice la L.length lc)/\w5.cell? (B+1,2)=some (.slice ra xs.length rc)/\w5.cell? (GB,0)=some (.pointer (some (b,0)))));have bN:=Aa (ER w3 dg L _ cZ.o dA.o);obtain⟨KK,bT⟩:∃x,Bf dg L=x:=⟨_,rfl⟩;rw[bT]at bN;have bD:=Aa bT;clear bT;by_cases hk:KK=0
  rotate_left
  .have hb:(KK !=0)=true:=by simpa using hk
   have HR:=Aa (aK.o fun h=>hk (bD.o.symm.trans h.1));clear hk;go_wp2_with fail
   refine bN.o.mono ?_;rintro e w5⟨rfl,aG⟩;have aH:=Aa (aJ.o.trans aG);clear aG c0 c1 c2 c3 c4 s0 s1 s2 g0;exact zbB
  .subst hk;by_cases hdg:dg=(D:Int)
   rotate_left
   .have hb:(dg !=(D:Int))=true:=by simpa using hdg
    have HR:=Aa (aK.o fun h=>hdg (h.2.1.trans (by rw[dC.o,cA.o])));clear hdg;go_wp2_with fail
    refine bN.o.mono ?_;rintro e w5⟨rfl,aG⟩;have aH:=Aa (aJ.o.trans aG);replace s0:=aG.cell s0;clear aG c0 c1 c2 c3 c4 s1 s2 g0;exact zbB
   .subst hdg;have dS:=Aa (show ∀l∈L,∀r∈l.reps,r.length=N*(pn^mn-1)/\∀x∈r,0<=x/\x<(r.length:Int) from fun l hl r hr=>by
     have h1:Bf (D:Int) L=0:=bD.o;unfold Bf at h1;split at h1
     .cases h1
     .split at h1
      .rename_i h2 h3;obtain⟨N',h4,-,-,S,h5,h6⟩:=Kl h3.1;have h7:r∈AF L:=by unfold AF;exact List.mem_flatMap.2 ⟨l,hl,hr⟩
       rw[h5]at h7;obtain⟨f,hf,rfl⟩:=List.mem_map.1 h7;have h8:(li N' f).length=N':=Ch _ _;refine⟨by rw[h8,cA.o];omega,fun x hx=>?_⟩;rw[h8];obtain⟨i,hi⟩:=List.mem_iff_getElem?.1 hx;have h9:i<N':=by have:=(List.getElem?_eq_some_iff.1 hi).1;rw[h8]at this;exact this
       rw[Dl h9]at hi;injection hi with hi;have:=(h6 f hf).lt i h9;omega
      .cases h1)
    go_upto_region 6 with (go_at_call 70;refine bN.o.mono ?_;rintro e w5⟨rfl,aG⟩;have aH:=Aa aG;replace s0:=aG.cell s0;clear aG)
    clear c0 c1 c2 c3 c4 s0 s1 s2 g0;obtain⟨LL,bH⟩:∃n,L.length=n:=⟨_,rfl⟩;have bC:=Aa bH;obtain⟨la2,lc2,cM,dE,dD,cG⟩:=(cZ.o.ex aH.o).open3;have dK:la=la2:=by injection cM
    subst dK;have Z3:=Aa (show 0<LL->_ from fun h=>cG (by rw[bH];exact h));have dT:=Aa (show LL<=1048576 from by
     have h1:Bf (D:Int) L=0:=bD.o;obtain⟨n,e1,h2,h3,S,h4,h5,h6⟩:=IL h1;rw[<-bH,h6,List.length_map];unfold DF;exact Nat.le_trans (List.length_filter_le _ _) (by rw[List.length_range];omega))
    obtain⟨c0,c1,c2,c3,c4,s0,s1,s2,g0⟩:=cB.o w5 aH.o;have H0:=Aa (show ∀l∈L.take 0,∀r∈l.reps,FU pn mn aB N aC r=true from fun l hl=>by simp at hl);clear cM dE dD cG bH;go_upto_region 7 with fail
    simp only[bC.o];clear c0 c1 c2 c3 c4 s0 s1 s2 g0
    go_loopw [35] (fun k' wr=>∃k:Nat,k<=LL/\k'= .int .i64 k/\Hia (Ex w5 wr)/\Hia (∀l∈L.take k,∀r∈l.reps,FU pn mn aB N aC r=true)) (fun k' _=>LL-(intOf k').toNat)
    case atStart=>exact⟨0,ac,rfl,Aa (Ex.refl _),H0⟩
    case round=>
     clear H0;obtain⟨k,hk,rfl,aF,aI⟩:=hrel;by_cases hkl:k<LL
     .obtain⟨eb,eo,rfl,cS⟩:=Z3.o ac;obtain⟨l,hl⟩:∃l,L[k]?=some l:=⟨_,List.getElem?_eq_getElem (by rw[bC.o];exact hkl)⟩;obtain⟨ou,orr,d0,d1,d2,k4,k5⟩:=cS k l hl;obtain⟨oa,oc,rfl,-,-,-⟩:=k4.open;clear k4;replace d0:=aF.o.cell d0;replace d1:=aF.o.cell d1;replace d2:=aF.o.cell d2;obtain⟨cY,dU,bZ,dR⟩:=Eq (List.mem_of_getElem? hl) hl hkl (k5.ex aF.o);obtain⟨qa,qc,rfl,-,-,-⟩:=k5.open;have i1:(0:Int)<=(k:Int):=by omega
      have i2:(k:Int)<(LL:Int):=ac;have hk64:k<=1048576:=by have:=dT.o;omega
      have bI:=Aa aF.o;have cE:=Aa aI.o;clear cS hl hkl k5 aF aI;go_upto_region 9 with fail
      have bx:∀x:Nat,wr.heap.size=x->(wr.alloc (.cells #[l.pt,.slice oa l.orb.length oc,.slice qa l.reps.length qc] 90)).cell? ⟨x,2,none⟩=some (.slice qa l.reps.length qc):=fun x h=>by subst h;simp
      obtain⟨XB,bS⟩:∃x,wr.heap.size=x:=⟨_,rfl⟩;have x2':=bx XB bS;have bK:=Aa (AI wr (.cells #[l.pt,.slice oa l.orb.length oc,.slice qa l.reps.length qc] 90))
      try simp only[bS]
      clear bS d0 d1 d2 i1 i2 bx;generalize wr.alloc (.cells #[l.pt,.slice oa l.orb.length oc,.slice qa l.reps.length qc] 90)=w6 at *;have bA:=Aa (aH.o.trans (bI.o.trans bK.o));obtain⟨pr,cN⟩:∃pr:Nat->Bool,∀(j:Nat) (r:List Int),l.reps[j]?=some r->pr j=!FU pn mn aB N aC r:=⟨fun j=>match l.reps[j]? with|some r=> !FU pn mn aB N aC r|none=>false,fun j r h=>by simp[h]⟩;have bX:=Aa cN;obtain⟨vals,bP,cH⟩:=dR.o.ex bK.o;have cC:=Aa (JG w6 (.pointer (some ⟨GB,0,none⟩)) (.pointer (some ⟨B,0,none⟩)) (.slice qa l.reps.length qc) l.reps.length vals bP pr (fun w7 i u h7 hu=>by
       have hil:i<l.reps.length:=by
        have h1:=(List.getElem?_eq_some_iff.1 hu).1;have h2:=bP.1;omega
       have bQ:l.reps[i]?=some (l.reps[i]'hil):=List.getElem?_eq_getElem _;rw[bX.o i _ bQ];obtain⟨c0,c1,c2,c3,c4,-,-,-,g0⟩:=cB.o w7 (bA.o.trans h7);obtain⟨dI,dH⟩:=dS.o l cY.o _ (List.mem_of_getElem? bQ);have aU:=aD.o.trans (bA.o.trans h7);exact Z0 w7 (HG.o.ex aU) HN.o.1 HN.o.2.1 HN.o.2.2 cV.o _ _ (bF.o.ex aU) _ u ((cH i _ u bQ hu).ex h7) dI dH GB B g0 c0 c1 c2 c3 c4))
      obtain⟨AN,bW⟩:∃x,(List.range l.reps.length).any pr=x:=⟨_,rfl⟩;rw[bW]at cC;have bO:=Aa bW;clear cN bW bP cH;have aX:AN=true->¬(∀r∈l.reps,FU pn mn aB N aC r=true):=fun h dO=>by
       rw[h]at bO;obtain⟨j,hj,hp⟩:=List.any_eq_true.1 bO.o;have cP:=List.mem_range.1 hj;rw[bX.o j _ (List.getElem?_eq_getElem cP),dO _ (List.getElem_mem cP)]at hp;cases hp
      have aL:AN=false->∀r∈l.reps,FU pn mn aB N aC r=true:=fun h r hr=>by
       rw[h]at bO;obtain⟨j,hj,rfl⟩:=List.getElem_of_mem hr;have h1:=List.any_eq_false.1 bO.o j (List.mem_range.2 hj);rw[bX.o j _ (List.getElem?_eq_getElem hj)]at h1;simpa using h1
      have cD:=Aa aX;have bE:=Aa aL;clear aX aL
      cases AN with
      | true=>
       have HR:=Aa (aK.o fun h=>cD.o rfl (cX.o.2 h.2.2.1 l cY.o));go_wp2_with (go_at_call 71;refine cC.o.mono ?_;rintro e w8⟨rfl,aT⟩;have bJ:=Aa (bI.o.trans (bK.o.trans aT));clear aT)
       have aP:=Aa (aJ.o.trans (aH.o.trans bJ.o));exact zbG
      | false=>
       have cW:=Aa (show ∀l∈L.take (k+1),∀r∈l.reps,FU pn mn aB N aC r=true from fun l' cO r hr=>by
        rw[List.take_add_one,dU.o]at cO;rcases List.mem_append.1 cO with h|h
        .exact cE.o l' h r hr
        .simp at h;subst h;exact bE.o rfl r hr)
       go_wp2_with (go_at_call 71;refine cC.o.mono ?_;rintro e w8⟨rfl,aT⟩;have bJ:=Aa (bI.o.trans (bK.o.trans aT));clear aT)
       go_roundw
       case rel=>first|exact⟨k+1,by have:=bZ.o;omega,by go_num,bJ,cW⟩|((repeat apply Exists.intro);exact⟨⟨k+1,by have:=bZ.o;omega,by go_num,bJ,cW⟩,rfl⟩)
       case measure=>have:=bZ.o;simp[intOf];omega
     .obtain rfl:LL=k:=by omega
      obtain⟨HM,bI,aZ,aE⟩:=Eq (cX.o.1 (by have h:=aI.o;rwa[List.take_of_length_le (by rw[bC.o];exact Nat.le_refl _)]at h)) aF.o (aH.o.trans aF.o) (aD.o.trans (aH.o.trans aF.o));clear aF aI hkl;obtain⟨c0,c1,c2,c3,c4,s0,s1,s2,g0⟩:=cB.o wr aZ.o;have aY:=Aa (OD wr (HG.o.ex aE.o) HN.o.1 HN.o.2.1 HN.o.2.2 cV.o _ _ (bF.o.ex aE.o) (D:Int) L _ (bY.o.ex aE.o) xs _ (dW.o.ex aE.o));unfold AT.arg at aY;dsimp only at aY;obtain⟨XK,bR⟩:∃x,Js ⟨pn,mn,aB,N,aC⟩ (pn^mn) L (Du N (pn^mn)) xs=x:=⟨_,rfl⟩;rw[bR]at aY;rw[bC.o]at aY s1;have cT:=Aa bR;clear bR;go_wp2_with fail
      refine aY.o.mono ?_;rintro e w9⟨rfl,aS⟩;have dQ:=Aa aS;replace s0:=aS.cell s0;replace s1:=aS.cell s1;have aP:=Aa (aJ.o.trans (aZ.o.trans aS));clear aS c0 c1 c2 c3 c4 s2 g0
      cases XK with
      | false=>
       have HR:=Aa (aK.o fun h=>by have h1:=h.2.2.2;rw[dB.o,cT.o]at h1;cases h1);go_wp2_with fail
       exact zbG
      | true=>
       have HA:=Aa (cF.o ⟨bD.o,by rw[dC.o,cA.o],HM.o,by rw[dB.o,cT.o]⟩);have cU:=Aa (QX w9 (D:Int) L _ (bY.o.ex (aE.o.trans dQ.o)) dA.o);rw[bC.o]at cU;go_wp2_with fail
       refine cU.o.mono ?_;rintro e w10⟨dF,aV⟩;rcases dF with⟨h1,-⟩|⟨-,v,rfl,hv⟩
       .exact absurd bD.o h1
       .have HV:=Aa hv;have dP:=Aa (aP.o.trans aV);clear hv aV s0 s1;go_wp2_with fail
        exact bodyPost_ret (v:= .tuple #[v,(0:Int)]) (by simp[results,Tryz.results29,go_sem]) rfl ⟨aQ.o _ _ (HA.o _ _ HV.o),dP.o⟩
def PR(Ms:List CW):List (List Int):=Ms.map (·.perm)
def PosO(c:AT)(r:Ending)(w':World):Prop:=∃e0:Int,BI c.p c.m c.ml c.n c.rows e0/\
 ((J4 c e0≠0/\r= .returned (.tuple #[.slice none 0 0,.int .i64 (J4 c e0)]))∨(J4 c e0=0/\OrbR c.n (PR (C9 c (AD c))) r w'))
theorem Mw(bK:Sp)(w:World)(c:AT)(m1 v1:Value)(hc:c.at w m1 v1)(aB:(C9 c (AD c)).length<=1000):
  Calls Tryz.prog 24 #[c.arg m1 v1] w fun r w'=>PosO c r w'/\Ex w w':=by
 obtain⟨c0,c1,c2,c3,c4⟩:=CY w c m1 v1;have aL:=AI w (c.obj m1 v1);obtain⟨x1,y1,aO,-,z1,-⟩:=hc.g.open;obtain⟨x3,y3,aN,-,z3,-⟩:=hc.m.open;unfold maxLen at z1 z3;obtain⟨B,hB⟩:=nA w.heap.size;have aC:=Aa (I6 (w.alloc (c.obj m1 v1)) c m1 v1 (hc.ex aL));rw[hB]at c0 c1 c2 c3 c4;have aG:=Aa aL;obtain⟨C,hC⟩:∃C:AT,C=c:=⟨_,rfl⟩;have cD:=Aa hC;have bF:=Aa (show ∀r w',PosO C r w'->PosO c r w' from fun r w' h=>by rw[<-hC];exact h);rw[<-hC]at aB;obtain⟨cp,cm,bO,cn,bN⟩:=c;unfold AT.arg at aC ⊢;unfold AT.obj at aG aC c0 c1 c2 c3 c4;dsimp only at aG aC c0 c1 c2 c3 c4 aO aN ⊢;rw[aO,aN]at aG aC c0 c1 c2 c3 c4 ⊢;rw[<-hC]at aC;have aU:=Aa aB;clear hc aL hC aO aN aB;go_enter Tryz.func24,Tryz.ntmps24
 go_upto_region 1 with fail
 try simp only[hB]
 clear hB;generalize w.alloc (.cells #[cp,cm,.slice x3 bO.length y3,cn,.slice x1 bN.length y1] 39)=w1 at *;go_wp2_with fail
 refine aC.o.mono ?_;rintro e w2⟨aE,aD⟩;have bE:=Aa aD;obtain⟨e0,bB,ho⟩:=Rl aE;have bJ:=Aa bB;replace c3:=aD.cell c3;obtain⟨GE,aS⟩:∃x,J4 C e0=x:=⟨_,rfl⟩;rw[aS]at ho;have aX:=Aa aS;clear aE aD bB aC aS c0 c1 c2 c4;rcases ho with⟨h0,rfl⟩|⟨h0,hbn,pn,mn,N,b,x0,mv,nv,hp,hm,hn,hN1,hN64,hD,rfl,hg,hx1,aD,hms,hns⟩
 .have hb:(GE !=0)=true:=by simpa using h0
  have H0:=Aa h0;clear h0;go_wp2_with fail
  exact bodyPost_ret (v:= .tuple #[.slice none 0 0,GE]) (by simp[results,Tryz.results24,go_sem]) rfl ⟨bF.o _ _ ⟨e0,bJ.o,.inl ⟨by rw[aX.o];exact H0.o,by rw[aX.o]⟩⟩,aG.o.trans bE.o⟩
 .subst h0;have bM:cn=(N:Int):=by have:=cD.o;rw[this]at hn;exact hn
  subst bM;have bV:=Aa (show C.n=(N:Int) from hn);have bX:=Aa hms;obtain⟨ma,mc,rfl,-,zm,m3⟩:=hms.open;obtain⟨na,nc,rfl,-,-,-⟩:=hns.open;unfold maxLen at zm;obtain⟨Ms,aR⟩:∃x,C9 C (AD C)=x:=⟨_,rfl⟩;have bW:=Aa aR;rw[aR]at bX m3 aU ⊢;obtain⟨LM,aF⟩:∃x,Ms.length=x:=⟨_,rfl⟩;have bZ:=Aa aF;have aV:=Aa (show LM<=1000 from by rw[<-aF];exact aU.o);rw[aF]at m3 ⊢;have M3:=Aa m3;obtain⟨GL,aJ⟩:∃g,PR Ms=g:=⟨_,rfl⟩;have cC:=Aa (show ∀k (M:CW),Ms[k]?=some M->GL.take (k+1)=GL.take k ++ [M.perm] from fun k M h=>by
   rw[<-aJ];exact Ez (by unfold PR;rw[List.getElem?_map,h];rfl))
  have bI:=Aa (show GL.length=LM from by rw[<-aJ,<-aF];unfold PR;rw[List.length_map]);have cB:=Aa aJ;have bG:=Aa (Hg.nil w2);clear hbn hp hm hn hN1 hN64 hD hg hx1 aD hms hns aR aF m3 aJ aU;go_wp2_with fail
  go_loopw [8,23] (fun gv k' wr=>∃(k:Nat) (vals:List Value),k<=LM/\k'= .int .i64 k/\Hia (Hg w2 wr gv (GL.take k) vals)) (fun _ k' _=>LM-(intOf k').toNat)
  case atStart=>exact⟨0, [],ac,rfl,bG⟩
  case round=>
   clear bG;obtain⟨k,vals,hk,rfl,hr⟩:=hrel;obtain⟨ga,gc,rfl⟩:=Ae hr.o.own;by_cases hkl:k<LM
   .obtain⟨mb,mo,rfl,bA⟩:=M3.o ac;obtain⟨M,hM⟩:∃M,Ms[k]?=some M:=⟨_,List.getElem?_eq_getElem (by rw[bZ.o];exact hkl)⟩;obtain⟨u,r,d0,d1,d2,hu,aZ⟩:=bA k M hM;obtain⟨ua,uc,rfl,-,-,-⟩:=hu.open;obtain⟨ra,rc,rfl,-,-,-⟩:=aZ.open;replace d0:=hr.o.ex.cell d0;replace d1:=hr.o.ex.cell d1;replace d2:=hr.o.ex.cell d2;rw[show mo+3*k=mo+k*3 from ac]at d0;rw[show mo+(3*k+1)=mo+k*3+1 from ac]at d1;rw[show mo+(3*k+2)=mo+k*3+2 from ac]at d2;have HU:=Aa hu;obtain⟨LP,bD⟩:∃x,M.perm.length=x:=⟨_,rfl⟩;obtain⟨LS,bC⟩:∃x,M.scale.length=x:=⟨_,rfl⟩;rw[bD]at d0 HU;rw[bC]at d1;have HR:=Aa hr.o;have bY:=Aa hM;have i1:(0:Int)<=(k:Int):=by omega
    have i2:(k:Int)<(LM:Int):=ac;have aW:=Aa hkl;obtain⟨TB,aP⟩:∃x,wr.heap.size=x:=⟨_,rfl⟩;obtain⟨t0,t1,t2,et⟩:=Bd wr (.slice ua LP uc) (.slice ra LS rc) M.frob;rw[aP]at t0 t1 t2;have aK:=Aa et;clear hr hM hu aZ bA hkl bD bC et;go_upto_region 8 with fail
    try simp only[aP]
    clear aP d0 d1 d2 i1 i2;generalize wr.alloc (.cells #[.slice ua LP uc,.slice ra LS rc,M.frob] 26)=w5 at *;obtain⟨LG,aA⟩:∃x,(GL.take k).length=x:=⟨_,rfl⟩;have cA:=Aa aA;have aH:=Aa (show LG<=1000 from by rw[<-aA,List.length_take];have:=aV.o;omega);rw[aA]at HR ⊢;have bU:=Aa (show w5.ownsRow w2.heap.size 22 1 (.slice ga LG gc) LG vals from by have:=(HR.o.later aK.o).own;rwa[aA]at this);have bS:=Aa (HR.o.later aK.o).ex.size;have hkb:k<=1000:=by have:=aV.o;omega
    clear aA;go_wp2_with (at_builtin;refine Am _ rfl _ _ 37 rfl w2.heap.size 22 (.slice none 0 0) 1 24 Tryz.underlying37 BU rfl ae _ LG vals rfl bU.o [.slice ua LP uc] 22 _ rfl ag rfl aj (by have:=aH.o;unfold maxLen;omega) (by have:=aH.o;omega) bS.o ?_)
    intro v8 w8 aI;have HN:=Aa ((HR.o.later aK.o).app (R:= [M.perm]) (us:= [.slice ua LP uc]) (gv':=v8) (w':=w8) (fun i r u h1 h2=>by
     rcases i with _|i
     .simp at h1 h2;subst h1 h2;exact HU.o
     .simp at h1) (by rw[cA.o];exact aI.own) (aI.ex (HR.o.later aK.o).ex (Nat.le_refl _)))
    rw[<-cC.o k M bY.o]at HN;obtain⟨ga8,gc8,rfl⟩:=Ae aI.own;clear aI;go_wp2_with fail
    go_roundw
    case rel=>first|exact⟨k+1,_,by have:=aW.o;omega,by go_num,HN⟩|((repeat apply Exists.intro);exact⟨⟨k+1,_,by have:=aW.o;omega,by go_num,HN⟩,rfl⟩)
    case measure=>have:=aW.o;simp[intOf];omega
   .obtain rfl:LM=k:=by omega
    have bR:=Aa (show GL.take LM=GL from List.take_of_length_le (by rw[bI.o];exact Nat.le_refl _));rw[bR.o]at hr ⊢;have HX:=Aa hr.o.ex;have bH:=Aa (Sq bK wr (N:Int) GL _ hr.o.msl (by rw[bI.o];exact aV.o));have c3':=hr.o.ex.cell c3;obtain⟨OS,aQ⟩:∃x,Iv (N:Int) GL=x:=⟨_,rfl⟩;have bT:=Aa aQ;obtain⟨ol,oe⟩:=OS;obtain⟨LG,aA⟩:∃x,GL.length=x:=⟨_,rfl⟩;have aT:=Aa (show Calls Tryz.prog 65 #[(N:Int),.slice ga LG gc] wr fun r w'=>(∃v,r= .returned (.tuple #[v,oe])/\BZ w' v ol)/\Ex wr w' from by
     rw[<-aA];exact bH.o.mono (by
      rintro r w'⟨⟨v,h1,h2⟩,h3⟩;rw[aQ]at h1 h2;exact⟨⟨v,h1,h2⟩,h3⟩))
    rw[aA];clear hr bH aQ aA c3;go_wp2_with (go_at_call 65;refine aT.o.mono ?_;rintro e w6⟨⟨v6,rfl,aM⟩,aY⟩;obtain⟨la,lc,bL,_,_,_⟩:=aM.open;subst bL;have bQ:=Aa aM;have bP:=Aa aY;clear aM aY)
    exact bodyPost_ret (v:= .tuple #[.slice la ol.length lc,oe]) (by simp[results,Tryz.results24,go_sem]) rfl ⟨bF.o _ _ ⟨e0,bJ.o,.inr ⟨aX.o,by rw[bV.o,bW.o,cB.o];exact N7 bT.o bQ.o⟩⟩,aG.o.trans (bE.o.trans (HX.o.trans bP.o))⟩
def ExP(c:AT)(q:Nat)(L:List Lv)(g:Ca):Prop:=(g.j=g.i/\g.a=1)∨Oq q L g=true∨∃pf,Z4 c g pf=0
theorem G8(c:AT)(q:Nat)(L:List Lv):∀(gs:List Ca) (xs ys:List EW),Et c q L gs xs=some ys->∀g∈gs,ExP c q L g
 | [],xs,ys,_,g,hg=>by cases hg
 | g0 :: gs,xs,ys,h,g,hg=>by
  rw[G9]at h;split at h
  .rename_i h1;rcases List.mem_cons.1 hg with rfl|hg
   .exact .inl h1
   .exact G8 c q L gs xs ys h g hg
  .split at h
   .rename_i h1;rcases List.mem_cons.1 hg with rfl|hg
    .exact .inr (.inl h1)
    .exact G8 c q L gs xs ys h g hg
   .cases xs with
    | nil=>cases h
    | cons x xs=>
     have h2:(if x.i=g0.i/\x.j=g0.j/\x.a=g0.a/\Z4 c g0 x.pf=0 then Et c q L gs xs else none)=some ys:=h;split at h2
     .rename_i h3;rcases List.mem_cons.1 hg with rfl|hg
      .exact .inr (.inr ⟨x.pf,h3.2.2.2⟩)
      .exact G8 c q L gs xs ys h2 g hg
     .cases h2
theorem UU{c:AT}{q:Nat}{L:List Lv}{gs:List Ca}{xs:List EW}(h:Js c q L gs xs=true):∀g∈gs,ExP c q L g:=by
 unfold Js at h;split at h
 .rename_i h1;exact G8 c q L gs xs [] h1
 .cases h
section
variable {p m N:Nat} {ml pl sl:List Int} {l:List (List Int)}
theorem UI{P:List Int}(h:FU p m ml N l P=true):AW p m ml N l l (Gy p m N P) (Gx p m N P)/\Gi p m ml (Gy p m N P) (Gx p m N P)=P:=by
 obtain⟨h1,h2,piv,a',h3,h4⟩:=Lb.1 h;obtain⟨pn,mn,N',fn,e1,e2,e3,e4,hf,hc,hM⟩:=Gv h2;obtain rfl:p=pn:=ac;obtain rfl:m=mn:=ac;obtain rfl:N=N':=ac;obtain rfl:fn=0:=ac;obtain⟨_,_,_,_,_,q6,_⟩:=Ji h2;exact⟨Pm hM (fun i hi=>(Df q6 (i:=i) (by have:=hM.pll;omega)).1) h3 h4.symm,of_decide_eq_true h1⟩
theorem chk_no(hT:QU p m ml N l l){g:Ca}{pf:List Rf}(h:Z4 ⟨p,m,ml,N,l⟩ g pf=0)(hk:AW p m ml N l l pl sl)(hi:g.i<N):¬(pl.take (g.i+1)=g.tl/\sl.take (g.i+1)=g.sl):=by
 rintro⟨e1,e2⟩;have h0:=(ckE_ok (show ckE 0 (flS ⟨p,m,ml,N,l⟩ ⟨p,m,ml,N,l⟩ pf g.tl g.sl) pf=0 from h)).2;unfold flS at h0;simp only[Int.toNat_natCast]at h0;rw[<-e1,<-e2]at h0;exact Qp hT hk _ _ (g.i+1) ac h0
theorem Uc(ho:BI p m ml N l 0)(hd:N*(p^m-1)<=64){dg:Int}{L:List Lv}{xs:List EW}(ha:Q8 ⟨p,m,ml,N,l⟩ dg L xs)(hM:Bo p m ml pl sl 0 N)(hn:∀i,i<N->0<=pl.getD i 0):
  DN dg L (Gi p m ml pl sl)=0/\(AW p m ml N l l pl sl->Jo dg L (Gi p m ml pl sl)=true):=by
 obtain⟨h1,h2,h3,h4⟩:=ha;obtain⟨p1,m1,N1,g1,g2,g3,aA,hI,n1,aJ,k256,q2⟩:=GQ ho;obtain rfl:p=p1:=ac;obtain rfl:m=m1:=ac;obtain rfl:N=N1:=ac;have hW:He p m ml N:=⟨aA.p2,aA.m1,hI,n1,aJ⟩;have aO:QU p m ml N l l:=⟨aA.p2,aA.m1,hI,q2,q2⟩;obtain⟨n,rfl,k1,k2,S,hS,hg,hL⟩:=IL h1;have aL:n=N*(p^m-1):=by
  have:((n:Nat):Int)=((El ⟨p,m,ml,N,l⟩:Nat):Int):=h2;unfold El at this;simp only[Int.toNat_natCast]at this;omega
 subst aL;have aP:∀s∈S,Gl p m ml N l l s:=fun s hs=>by
  have h5:li (N*(p^m-1)) s∈AF L:=by rw[hg];exact List.mem_map.2 ⟨s,hs,rfl⟩
  unfold AF at h5;obtain⟨lv,aM,hr⟩:=List.mem_flatMap.1 h5;have h6:=Lc.1 h3 lv aM _ hr;simp only[Int.toNat_natCast]at h6;obtain⟨h7,h8⟩:=UI h6;refine⟨_,_,h7,?_⟩;unfold Jd;rw[h8,GO (hS s hs)]
 have aG:L=Cd (N*(p^m-1)) S (N*(p^m-1)):=by rw[EJ];exact hL
 have aB:DN ((N*(p^m-1):Nat):Int) L (Gi p m ml pl sl)=0:=by
  rw[<-Jc hM];unfold DN;rw[h1,if_neg ae,N4 k1 k2 (CE hM),if_neg ae,Ch,if_neg ag]
 have aF:∀f,Gn S f↔Gl p m ml N l l f:=by
  refine Kw (N:=N) (Q:=p^m-1) rfl (Gl.grp hW l) (fun i f hi hf hx he=>hf.fx hW hi hx he) aP fun i f hi hf hx=>?_;obtain⟨ql,tl,hT,rfl⟩:=hf;obtain⟨g,aE,rfl,hG,aH⟩:=SH hW hT hi hx;have hq:=aE.a1;have hq2:=aE.a;simp only[Int.toNat_natCast]at h4;have aD:g∈AD ⟨p,m,ml,N,l⟩:=by rw[GK];exact IG.2 aE
  rcases UU h4 g aD with⟨e1,e2⟩|h5|⟨pf,h5⟩
  .refine⟨Ek,.one,Jr _,?_⟩;rw[aH,e1,e2];simp[Ek]
  .unfold Oq at h5;split at h5
   .rename_i lv hfd;have aI:=List.mem_of_find?_eq_some hfd;have aC:=List.find?_some hfd;rw[hL]at aI;obtain⟨b,hb,rfl⟩:=List.mem_map.1 aI;have aN:b=g.i*(p^m-1):=by
     have h6:((b:Nat):Int)=(g.i:Int)*(((p^m:Nat):Int)-1):=by simpa[Fj]using aC
     have h7:(g.i:Int)*(((p^m:Nat):Int)-1)=((g.i*(p^m-1):Nat):Int):=by rw[Int.natCast_mul,Int.natCast_sub ac];rfl
     omega
    subst aN;have h8:((g.j:Int)*(((p^m:Nat):Int)-1)+(g.a:Int)-1)∈CN (Bp S (g.i*(p^m-1)) (N*(p^m-1))):=List.contains_iff_mem.1 h5;unfold CN at h8;obtain⟨x,aK,hx2⟩:=List.mem_map.1 h8;obtain⟨_,s,s1,s2,s3⟩:=CJ.1 aK;refine⟨s,s1,s2,?_⟩;rw[s3,aH];have h7:(g.j:Int)*(((p^m:Nat):Int)-1)=((g.j*(p^m-1):Nat):Int):=by rw[Int.natCast_mul,Int.natCast_sub ac];rfl
    omega
   .cases h5
  .exact absurd hG (chk_no aO h5 hT hi)
 refine⟨aB,fun hT=>?_⟩;rw[<-Jc hM]at aB ⊢;exact(Qj hS (CE hM) aG aB).2 ((aF _).2 ⟨_,_,hT,rfl⟩)
end
def Ij:List (List Int)->Nat
 | []=>0
 | r :: rs=>r.length+Ij rs
theorem MQ:∀ {rows:List (List Int)} {i:Nat} {r:List Int},rows[i]?=some r->Ij (rows.take (i+1))=Ij (rows.take i)+r.length
 | [],i,r,h=>by simp at h
 | a :: rows,0,r,h=>by simp at h;subst h;simp[Ij]
 | a :: rows,i+1,r,h=>by
  have:=MQ (rows:=rows) (i:=i) (r:=r) ay;simp only[List.take_succ_cons,Ij];omega
theorem SJ:∀(rows:List (List Int)) (i:Nat),Ij (rows.take i)<=Ij rows
 | [],i=>by simp
 | a :: rows,0=>by simp[Ij]
 | a :: rows,i+1=>by
  have:=SJ rows i;simp only[List.take_succ_cons,Ij];omega
def P9(aA:Int)(rows:List (List Int))(aB:Int):Prop:=aA<=260/\(rows.length:Int)+(Ij rows:Int)<=aB
theorem zdh{P:Prop}(h:P:=by
 go_wp2_with fail
 go_ret;exact⟨CF HN.o,e0⟩):P:=h
theorem zcr{P:Prop}(h:P:=by
 go_enter Tryz.func120,Tryz.ntmps120
 exact zdh):P:=h
theorem Ru(w:World)(aA:Int)(rows:List (List Int))(v:Value)(hv:BZ w v rows)(lim:Int)(hl0:0<=lim)(hl1:lim<=1000):
  Calls Tryz.prog 120 #[.agg #[aA,v],lim] w fun r w'=>SC (P9 aA rows lim) r/\Ex w w':=by
 obtain⟨d0,d1,e0⟩:=CM w aA v;obtain⟨za,zc,rfl,z1,z2,z3⟩:=(hv.ex e0).open;have Z3:=Aa z3;unfold maxLen at z2;clear hv z3;obtain⟨P,hP⟩:=nA (P9 aA rows lim);have HP:=Aa (show P↔aA<=260/\(rows.length:Int)+(Ij rows:Int)<=lim from by rw[<-hP];exact Iff.rfl);rw[hP];clear hP;by_cases h1:260<aA
 .have HN:=Aa (show ¬P from fun h=>by have:=(HP.o.1 h).1;omega);exact zcr
 .have aB:aA<=260:=by omega
  clear h1;by_cases h2:lim<(rows.length:Int)
  .have HN:=Aa (show ¬P from fun h=>by have:=(HP.o.1 h).2;omega);exact zcr
  .have h2':(rows.length:Int)<=lim:=by omega
   have b1:decide (260<aA)=false:=aq;have b2:decide (lim<(rows.length:Int))=false:=aq;clear h2;go_enter Tryz.func120,Tryz.ntmps120
   go_wp2_with fail
   generalize w.alloc (.cells #[aA,.slice za rows.length zc] 137)=w1 at *
   go_loopw [5,6] (fun l' i' wr=>∃(i:Nat) (l:Int),i<=rows.length/\i'= .int .i64 i/\l'= .int .i64 l/\0<=l/\l<=1000/\wr=w1/\Hia (l=lim-(rows.length:Int)-(Ij (rows.take i):Int))) (fun _ i' _=>rows.length-(intOf i').toNat)
   case atStart=>exact⟨0,_,ac,rfl,rfl,ac,ac,rfl,Aa (by simp[Ij])⟩
   case round=>
    obtain⟨i,l,hi,rfl,rfl,l1,l2,rfl,hl⟩:=hrel;by_cases hlt:i<rows.length
    .obtain⟨r,hr⟩:∃r,rows[i]?=some r:=⟨_,List.getElem?_eq_getElem hlt⟩;obtain⟨bb,o,rfl,hc⟩:=Z3.o ac;obtain⟨u,c1,hu⟩:=hc i r hr;obtain⟨ua,uc,rfl,u1,u2,u3⟩:=hu.open;have HS:=Aa (MQ hr);have aC:=Aa (SJ rows (i+1));unfold maxLen at u2;clear hc hu u3 hr;by_cases h3:l<(r.length:Int)
     .have HN:=Aa (show ¬P from fun h=>by have:=(HP.o.1 h).2;have:=HS.o;have:=aC.o;have:=hl.o;omega);exact zdh
     .have h3':(r.length:Int)<=l:=by omega
      have HL:=Aa (show l-(r.length:Int)=lim-(rows.length:Int)-(Ij (rows.take (i+1)):Int) from by have:=HS.o;have:=hl.o;omega);clear h3 hl;go_wp2_with fail
      go_roundw
      case rel=>exact⟨i+1,_,ac,by go_num,dv,ac,ac,dv,HL⟩
      case measure=>simp[intOf];omega
    .obtain rfl:i=rows.length:=by omega
     have HY:=Aa (show P from HP.o.2 ⟨aB,by have:=hl.o;rw[List.take_length]at this;omega⟩);go_wp2_with fail
     go_ret;exact⟨FI HY.o,e0⟩
def P30(d:Int)(L:List Lv):Prop:=¬(6<d/\d<=64)/\L.length<=70/\(∀l∈L,l.orb.length<=100/\P9 0 l.reps 1000)/\(AF L).length<=200
theorem Ow(L:List Lv)(h:∀l∈L,l.reps.length<=1000):(AF L).length<=1000*L.length:=by
 induction L with
 | nil=>exact Nat.le_refl _
 | cons a K ih=>
  have h1:=ih fun l hl=>h l (List.mem_cons_of_mem _ hl);have h2:=h a (List.mem_cons_self ..);unfold AF at h1 ⊢;rw[List.flatMap_cons,List.length_append,List.length_cons];omega
theorem P9.len{c:Int}{rows:List (List Int)}{lim:Int}(h:P9 c rows lim):(rows.length:Int)<=lim:=by have:=h.2;omega
theorem PH(w:World)(d:Int)(L:List Lv)(lv:Value)(hL:DX w lv L):
  Calls Tryz.prog 67 #[.agg #[d,lv],(6:Int)] w fun r w'=>SC (P30 d L) r/\Ex w w':=by
 obtain⟨d0,d1,e0⟩:=BO w d lv;obtain⟨za,zc,rfl,z1,z2,z3⟩:=(hL.ex e0).open3;unfold maxLen at z2;have Z3:=Aa z3;clear z3 hL;obtain⟨P,hP⟩:=nA (P30 d L);have HP:=Aa (show P↔¬(6<d/\d<=64)/\L.length<=70/\(∀l∈L,l.orb.length<=100/\P9 0 l.reps 1000)/\(AF L).length<=200 from by rw[<-hP];exact Iff.rfl);rw[hP];clear hP;by_cases hd:6<d/\d<=64
 .have HN:=Aa (show ¬P from fun h=>(HP.o.1 h).1 hd);have b1:decide (6<d)=true:=by simp;omega
  have b2:decide (d<=64)=true:=aq;go_enter Tryz.func67,Tryz.ntmps67
  exact zdh
 .have HD:=Aa hd;have aB:decide (6<d)=false∨(decide (6<d)=true/\decide (d<=64)=false):=by
   by_cases h:d<=6
   .exact .inl (decide_eq_false ac)
   .exact .inr ⟨decide_eq_true ac,decide_eq_false ac⟩
  by_cases hl70:L.length<=70
  .have b3:decide (70<(L.length:Int))=false:=by simp;omega
   have b4:decide (70<L.length)=false:=aq;have aT:=Aa (show ∀i,i<=L.length->(∀l∈L.take i,l.reps.length<=1000)->(AF (L.take i)).length<=1000*i from fun i hi h=>by
    have:=Ow _ h
    rwa[List.length_take,Nat.min_eq_left hi]at this)
   clear hd;go_enter Tryz.func67,Tryz.ntmps67
   rcases aB with b1|⟨b1,b2⟩
   all_goals
    go_wp2_with fail
    obtain⟨q,hq⟩:=nA w.heap.size;rw[hq]at d0 d1
    try simp only[hq]
    clear hq;generalize w.alloc (.cells #[d,.slice za L.length zc] 43)=w1 at *;have aH:=Aa e0;have D1:=Aa d1;clear e0 d0 d1
    go_loopw [5,6] (fun n' i' wr=>∃(i:Nat),i<=L.length/\i'= .int .i64 i/\n'= .int .i64 ((AF (L.take i)).length:Int)/\Hia (∀l∈L.take i,l.orb.length<=100/\P9 0 l.reps 1000)/\Hia (Ex w1 wr)) (fun _ i' _=>L.length-(intOf i').toNat)
    case atStart=>exact⟨0,ac,rfl,rfl,Aa (fun l h=>by simp at h),Aa (Ex.refl _)⟩
    case round=>
     obtain⟨i,hi,rfl,rfl,aA,aC⟩:=hrel;have d1:=aC.o.cell D1.o;have aN:=aT.o i hi (fun l hl=>by have:=(aA.o l hl).2.len;omega);obtain⟨G,hG⟩:=nA ((AF (L.take i)).length);rw[hG]at aN ⊢;have aM:=Aa hG;clear hG;by_cases hil:i<L.length
     .obtain⟨l,hl⟩:∃l,L[i]?=some l:=⟨_,List.getElem?_eq_getElem hil⟩;obtain⟨zb,zo,rfl,aI⟩:=Z3.o ac;obtain⟨u,r,c0,c1,c2,hu,hr⟩:=aI i l hl;have c1:=aC.o.cell c1;have c2:=aC.o.cell c2;obtain⟨oa,oc,rfl,_,o2,_⟩:=hu.open;unfold maxLen at o2;have aJ:=hr.ex aC.o;obtain⟨ra,rc,rfl,_,r2,_⟩:=hr.open;unfold maxLen at r2;have aU:=Aa (Ru wr 0 l.reps _ aJ 1000 ac ac);have i1:(0:Int)<=(i:Int):=by omega
      have i2:(i:Int)<(L.length:Int):=ac;have aS:=Aa (Lu hl);have aL:=Aa (List.mem_of_getElem? hl);have aP:=Aa (show l.orb.length<=100->P9 0 l.reps 1000->∀x∈L.take (i+1),x.orb.length<=100/\P9 0 x.reps 1000 from fun h h' x hx=>by
       rw[List.take_add_one,hl]at hx;rcases List.mem_append.1 hx with h1|h1
       .exact aA.o x h1
       .rw[List.mem_singleton.1 h1];exact⟨h,h'⟩)
      clear aI hl hu hr aJ aA c0;by_cases ho:100<(l.orb.length:Int)
      .have e1:decide (100<(l.orb.length:Int))=true:=by simpa using ho
       have HN:=Aa (show ¬P from fun h=>by have:=((HP.o.1 h).2.2.1 l aL.o).1;omega);go_wp2_with fail
       go_ret;exact⟨CF HN.o,aH.o.trans aC.o⟩
      .have e1:decide (100<(l.orb.length:Int))=false:=by simpa using ho
       have HO:=Aa (show l.orb.length<=100 from ac);clear ho;go_wp2_with fail
       refine aU.o.mono ?_;rintro e w5⟨⟨bb,rfl,aE⟩,aD⟩;have c1:=aD.cell c1;have c2:=aD.cell c2;have d1:=aD.cell d1;have aK:=Aa (aC.o.trans aD);clear aD
       cases bb with
       | false=>
        have HN:=Aa (show ¬P from fun h=>by have:=aE.2 ((HP.o.1 h).2.2.1 l aL.o).2;cases this);clear aE;go_wp2_with fail
        go_ret;exact⟨CF HN.o,aH.o.trans aK.o⟩
       | true=>
        have aF:=aE.1 rfl;have hll:=aF.len;have aG:=Aa (aP.o HO.o aF);have aR:=Aa (show(AF (L.take (i+1))).length=G+l.reps.length from by rw[aS.o,List.length_append,aM.o]);clear aE aF;go_wp2_with fail
        go_roundw
        case rel=>exact⟨i+1,ac,by go_num,by rw[aR.o];go_num,aG,aK⟩
        case measure=>simp[intOf];omega
     .obtain rfl:i=L.length:=by omega
      have aO:(AF L).length=G:=by have:=aM.o;rwa[List.take_length]at this
      have aQ:=Aa (show P↔(G:Int)<=200 from by
       have ha:=aA.o;rw[List.take_length]at ha;refine HP.o.trans ⟨fun h=>by have:=h.2.2.2;omega,fun h=>⟨HD.o,hl70,ha,ac⟩⟩)
      clear aO aA;go_wp2_with fail
      go_ret;exact⟨⟨_,rfl,by rw[decide_eq_true_eq];exact aQ.o.symm⟩,aH.o.trans aC.o⟩
  .have b3:decide (70<(L.length:Int))=true:=by simp;omega
   have b4:decide (70<L.length)=true:=aq;have HN:=Aa (show ¬P from fun h=>hl70 (HP.o.1 h).2.1);clear hd;go_enter Tryz.func67,Tryz.ntmps67
   rcases aB with b1|⟨b1,b2⟩
   all_goals
    go_wp2_with fail
    go_ret;exact⟨CF HN.o,e0⟩
def P32(d:Int)(L:List Lv)(xs:List EW):Prop:=P30 d L/\xs.length<=100/\∀x∈xs,Mb x.pf
theorem Rv(w:World)(d:Int)(L:List Lv)(lv:Value)(hL:DX w lv L)(xs:List EW)(rv:Value)(hx:IY w rv xs):
  Calls Tryz.prog 28 #[.agg #[d,lv,rv]] w fun r w'=>SC (P32 d L xs) r/\Ex w w':=by
 have s0:(w.alloc (.cells #[d,lv,rv] 53)).cell? (w.heap.size,0)=some (.int .i64 d):=ag;have s1:(w.alloc (.cells #[d,lv,rv] 53)).cell? (w.heap.size,1)=some lv:=ag;have s2:(w.alloc (.cells #[d,lv,rv] 53)).cell? (w.heap.size,2)=some rv:=ag;have e0:=AI w (.cells #[d,lv,rv] 53);have HL:=Aa (hL.ex e0);have aK:=Aa (hx.ex e0);obtain⟨la,lc,rfl,-,zl,-⟩:=hL.open3;obtain⟨ra,rc,rfl,r1,zr,r3⟩:=aK.o.open;have R3:=Aa r3;unfold maxLen at zl zr;obtain⟨P,hP⟩:=nA (P32 d L xs);have HP:=Aa (show P↔P30 d L/\xs.length<=100/\∀x∈xs,Mb x.pf from by rw[<-hP];exact Iff.rfl);rw[hP];clear hP hL hx r3;go_enter Tryz.func28,Tryz.ntmps28
 go_wp2_with fail
 obtain⟨q,hq⟩:=nA w.heap.size;rw[hq]at s0 s1 s2
 try simp only[hq]
 clear hq;generalize w.alloc (.cells #[d,.slice la L.length lc,.slice ra xs.length rc] 53)=w1 at *;refine(PH w1 d L _ HL.o).mono ?_;rintro e w2⟨⟨bb,rfl,aA⟩,aE⟩;have aG:=Aa aE;have s2':=aE.cell s2;have aD:=Aa e0;clear aE s0 s1 e0
 cases bb with
 | false=>
  have HN:=Aa (show ¬P from fun h=>by have:=aA.2 (HP.o.1 h).1;cases this);clear aA;go_wp2_with fail
  go_ret;exact⟨CF HN.o,aD.o.trans aG.o⟩
 | true=>
  have HB:=Aa (aA.1 rfl);clear aA;by_cases h100:100<(xs.length:Int)
  .have b1:decide (100<(xs.length:Int))=true:=decide_eq_true h100;have HN:=Aa (show ¬P from fun h=>by have:=(HP.o.1 h).2.1;omega);go_wp2_with fail
   go_ret;exact⟨CF HN.o,aD.o.trans aG.o⟩
  .have b1:decide (100<(xs.length:Int))=false:=decide_eq_false h100;have aH:=Aa (show xs.length<=100 from ac);have S2:=Aa s2;clear s2 h100;go_wp2_with fail
   go_loopw [3] (fun i' wr=>∃i:Nat,i<=xs.length/\i'= .int .i64 i/\Hia (∀x∈xs.take i,Mb x.pf)/\Hia (Ex w1 wr)) (fun i' _=>xs.length-(intOf i').toNat)
   case atStart=>exact⟨0,ac,rfl,Aa (fun x h=>by simp at h),aG⟩
   case round=>
    obtain⟨i,hi,rfl,aB,aC⟩:=hrel;have s2:=aC.o.cell S2.o;by_cases hlt:i<xs.length
    .obtain⟨x,hx⟩:∃x,xs[i]?=some x:=⟨_,List.getElem?_eq_getElem hlt⟩;obtain⟨b,o,rfl,hc⟩:=R3.o ac;obtain⟨u,-,-,-,c3,hr⟩:=hc i x hx;have c3:=aC.o.cell c3;rw[show o+(4*i+3)=o+i*4+3 from ac]at c3;have aF:=hr.ex aC.o;obtain⟨za,zc,rfl,z1,-⟩:=Im aF;have aN:=Aa (Rt wr x.pf _ aF);have i1:(0:Int)<=(i:Int):=by omega
     have i2:(i:Int)<(xs.length:Int):=ac;have HM:=Aa (List.mem_of_getElem? hx);have aL:=Aa (show Mb x.pf->∀y∈xs.take (i+1),Mb y.pf from fun h y hy=>by
      rw[List.take_add_one,hx]at hy;rcases List.mem_append.1 hy with h1|h1
      .exact aB.o y h1
      .rw[List.mem_singleton.1 h1];exact h)
     clear hc hr aF aB hx;go_wp2_with fail
     refine aN.o.mono ?_;rintro e w5⟨⟨bb,rfl,aA⟩,aI⟩;have aJ:=Aa (aC.o.trans aI);clear aI
     cases bb with
     | false=>
      have HN:=Aa (show ¬P from fun h=>by have:=aA.2 ((HP.o.1 h).2.2 x HM.o);cases this);clear aA;go_wp2_with fail
      go_ret;exact⟨CF HN.o,aD.o.trans aJ.o⟩
     | true=>
      have aM:=Aa (aL.o (aA.1 rfl));clear aA;go_wp2_with fail
      go_roundw
      case rel=>exact⟨i+1,ac,by go_num,aM,aJ⟩
      case measure=>simp[intOf];omega
    .obtain rfl:i=xs.length:=by omega
     have HY:=Aa (show P from HP.o.2 ⟨HB.o,aH.o,by have:=aB.o;rwa[List.take_length]at this⟩);go_wp2_with fail
     go_ret;exact⟨FI HY.o,aD.o.trans aC.o⟩
end Go.Proofs.YtehieobniamagaaGreat
