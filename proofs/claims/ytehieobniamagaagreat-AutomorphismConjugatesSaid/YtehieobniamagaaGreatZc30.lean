/- Walk of automorphism.Check (slices.IndexFunc and ContainsFunc by the templates of gen_finde.py). -/
import Derived.Test.YtehieobniamagaaGreatZc29
namespace Go.Proofs.YtehieobniamagaaGreat
open Go.RowKit
set_option linter.all false
set_option maxRecDepth 100000
set_option maxHeartbeats 8000000
theorem M7(w:World)(p0 p1:Value)(v:Value)(n:Nat)(us:List Value)(hv:Sl w v n 1 us)(pr:Nat->Bool)
  (hp:∀(w1:World) (i:Nat) (u:Value),Ex w w1->us[i]?=some u->Calls Tryz.prog 72 #[u,p0,p1] w1 fun e w'=>e= .returned (.bool (pr i))/\Ex w1 w'):
  Calls Tryz.prog 129 #[v,.func (.func 72) #[] #[p0,p1]] w fun r w'=>r= .returned (.int .i64 (Cx pr n))/\Ex w w':=by
 obtain⟨hl,a,cap,rfl,s1,s2,s3⟩:=hv;rw[Nat.mul_one]at hl;have S3:=Aa s3;have HP:=Aa hp;have HL:=Aa hl;unfold maxLen at s2;clear s3 hp hl;go_enter Tryz.func129,Tryz.ntmps129
 go_wp2_with fail
 go_loopg [5,8] n (fun gg _ i' wr=>∃i:Nat,i<=n/\n-i<=gg/\i'= .int .i64 i/\Hia (Ex w wr)/\Hia (∀j,j<i->pr j=false))
 case atStart=>exact⟨0,ac,ac,rfl,Aa (Ex.refl _),Aa (fun j hj=>ac)⟩
 case round=>
  obtain⟨i,hi,hg,rfl,aB,aA⟩:=hrel;by_cases hlt:i<n
  .obtain⟨u,hu⟩:∃u,us[i]?=some u:=⟨_,List.getElem?_eq_getElem a8⟩;obtain⟨bb,o,rfl,hc⟩:=S3.o ac;have c1:=aB.o.cell (hc i u hu);have HC:=Aa (HP.o wr i u aB.o hu);have hlt':(i:Int)<(n:Int):=by omega
   clear hc hu
   cases hb:pr i with
   | true=>
    rw[hb]at HC;have HF:=Aa (CA hlt hb aA.o);clear hb;go_wp2_with (go_at_call 72;refine HC.o.mono ?_;rintro e w'⟨rfl,hx⟩;have HX:=Aa (aB.o.trans hx);clear hx)
    exact zdf
   | false=>
    rw[hb]at HC;have HA:=Aa (show ∀j,j<i+1->pr j=false from fun j hj=>by
     by_cases e:j=i
     .subst e;exact hb
     .exact aA.o j ac)
    clear hb;go_wp2_with (go_at_call 72;refine HC.o.mono ?_;rintro e w'⟨rfl,hx⟩;have HX:=Aa (aB.o.trans hx);clear hx)
    exact zbU
  .exact zaD
theorem JJ(w:World)(p0 p1:Value)(v:Value)(n:Nat)(us:List Value)(hv:Sl w v n 1 us)(pr:Nat->Bool)
  (hp:∀(w1:World) (i:Nat) (u:Value),Ex w w1->us[i]?=some u->Calls Tryz.prog 72 #[u,p0,p1] w1 fun e w'=>e= .returned (.bool (pr i))/\Ex w1 w'):
  Calls Tryz.prog 71 #[v,.func (.func 72) #[] #[p0,p1]] w fun r w'=>r= .returned (.bool ((List.range n).any pr))/\Ex w w':=by
 have HC:=Aa (M7 w p0 p1 v n us hv pr hp);have HB:=Aa (Eg pr n);obtain⟨z,hz⟩:=nA (Cx pr n);rw[hz]at HC HB;clear hz hp hv;go_enter Tryz.func71,Tryz.ntmps71
 go_wp2_with (go_at_call 129;refine HC.o.mono ?_;rintro e w'⟨rfl,hx⟩;have HX:=Aa hx;clear hx)
 go_ret;exact⟨Aq HB.o.symm,HX.o⟩
section
variable {b p m x0 N:Nat} {ml:List Int} {rows:List (List Int)}
theorem chk_clo(w:World)(hg:Bj w b p m ml x0)(aD:1<=N)(hN:N<=64)(hd:N*(p^m-1)<=64)(ho:BK p m ml N rows 0)(m1 v1:Value)(hc:(⟨p,m,ml,N,rows⟩:AZ).at w m1 v1)(P:List Int)(pv:Value)(hp:Aj w pv P)(aA:P.length=N*(p^m-1))(aB:∀x∈P,0<=x/\x<(P.length:Int))
  (GB CB:Nat) (g0:w.cell? (GB,0)=some (.pointer (some (b,0)))) (c0:w.cell? (CB,0)=some (.int .i64 p)) (c1:w.cell? (CB,1)=some (.int .i64 m)) (c2:w.cell? (CB,2)=some m1) (c3:w.cell? (CB,3)=some (.int .i64 N)) (c4:w.cell? (CB,4)=some v1):
  Calls Tryz.prog 72 #[pv,.pointer (some (GB,0)),.pointer (some (CB,0))] w fun r w'=>r= .returned (.bool (!Gs p m ml N rows P))/\Ex w w':=by
 have HM:=Aa (RQ w hg aD hN hd ho m1 v1 hc P pv hp aA aB);unfold AZ.arg at HM;dsimp only at HM;obtain⟨x1,y1,rfl,-,-,-⟩:=hc.g.open;obtain⟨x3,y3,rfl,-,-,-⟩:=hc.m.open;obtain⟨x5,y5,rfl,-,-,-⟩:=hp.open;obtain⟨MB,aC⟩:∃x,Gs p m ml N rows P=x:=⟨_,rfl⟩;rw[aC]at HM ⊢;clear aC hg hc hp ho aA aB hd;go_enter Tryz.func72,Tryz.ntmps72
 go_wp2_with (go_at_call 73;refine HM.o.mono ?_;rintro e w'⟨rfl,hx⟩;have HX:=Aa hx;clear hx)
 go_ret;exact⟨rfl,HX.o⟩
end
open Classical in
noncomputable def WK (c:AZ) (L:List Lv):Bool:=decide (∀l∈L,∀r∈l.reps,Gs c.p.toNat c.m.toNat c.ml c.n.toNat c.rows r=true)
theorem Qb{c:AZ}{L:List Lv}:WK c L=true↔∀l∈L,∀r∈l.reps,Gs c.p.toNat c.m.toNat c.ml c.n.toNat c.rows r=true:=by
 unfold WK;simp only[decide_eq_true_eq]
def Yr(c:AZ)(dg:Int)(L:List Lv)(xs:List Hi):Prop:=Bb dg L=0/\dg=Ep c/\WK c L=true/\L8 c (c.p.toNat^c.m.toNat) L (AC c) xs=true
def Yo(c:AZ)(dg:Int)(L:List Lv)(xs:List Hi)(r:Ending)(w':World):Prop:=∃e0:Int,BK c.p c.m c.ml c.n c.rows e0/\
 ((I8 c e0≠0/\r= .returned (.tuple #[.slice none 0 0,.int .i64 (I8 c e0)]))∨
 (I8 c e0=0/\¬Yr c dg L xs/\r= .returned (.tuple #[.slice none 0 0,(13:Int)]))∨
 (I8 c e0=0/\Yr c dg L xs/\∃v,r= .returned (.tuple #[v,(0:Int)])/\Hq w' v (El L)))
theorem zbv{P:Prop}(h:P:=by
 go_wp2_with fail
 exact bodyPost_ret (v:= .tuple #[.slice none 0 0,(13:Int)]) (by simp[results,Tryz.results29,go_sem]) rfl ⟨aQ.o _ _ (HR.o _),aH.o⟩):P:=h
theorem zbz{P:Prop}(h:P:=by
 exact bodyPost_ret (v:= .tuple #[.slice none 0 0,(13:Int)]) (by simp[results,Tryz.results29,go_sem]) rfl ⟨aQ.o _ _ (HR.o _),aP.o⟩):P:=h
theorem Ra(w:World)(c:AZ)(m1 v1:Value)(hc:c.at w m1 v1)(dg:Int)(L:List Lv)(lv:Value)(hL:EH w lv L)(cQ:(AE L).length<=1000)(xs:List Hi)(rv:Value)(hx:Mz w rv xs):
  Calls Tryz.prog 29 #[c.arg m1 v1,.agg #[dg,lv,rv]] w fun r w'=>Yo c dg L xs r w'/\Ex w w':=by
 obtain⟨c0,c1,c2,c3,c4⟩:=Du w c m1 v1;have cI:=AI w (c.obj m1 v1);have cL:(w.alloc (c.obj m1 v1)).heap.size=w.heap.size+1:=ag;have aA:=AI (w.alloc (c.obj m1 v1)) (.cells #[dg,lv,rv] 53);have s0:((w.alloc (c.obj m1 v1)).alloc (.cells #[dg,lv,rv] 53)).cell? ((w.alloc (c.obj m1 v1)).heap.size,0)=some (.int .i64 dg):=ag;have s1:((w.alloc (c.obj m1 v1)).alloc (.cells #[dg,lv,rv] 53)).cell? ((w.alloc (c.obj m1 v1)).heap.size,1)=some lv:=ag;have s2:((w.alloc (c.obj m1 v1)).alloc (.cells #[dg,lv,rv] 53)).cell? ((w.alloc (c.obj m1 v1)).heap.size,2)=some rv:=ag;rw[cL]at s0 s1 s2;have aN:=Aa (cI.trans aA);have bG:=Aa (hc.ex aN.o);have HL:=Aa (hL.ex aN.o);have HX:=Aa (hx.ex aN.o);have aR:=Aa (Ll _ c m1 v1 bG.o);obtain⟨x1,y1,cK,-,z1,-⟩:=hc.g.open;obtain⟨x3,y3,cJ,-,z3,-⟩:=hc.m.open;obtain⟨la,lc,dJ,-,zl,-⟩:=hL.open3;obtain⟨ra,rc,dG,-,zr,-⟩:=hx.open;unfold maxLen at z1 z3 zl zr;obtain⟨B,hB⟩:=nA w.heap.size;rw[hB]at c0 c1 c2 c3 c4 s0 s1 s2;replace c0:=aA.cell c0;replace c1:=aA.cell c1;replace c2:=aA.cell c2;replace c3:=aA.cell c3;replace c4:=aA.cell c4;obtain⟨C,hC⟩:∃C:AZ,C=c:=⟨_,rfl⟩;have aO:=Aa hC;have aQ:=Aa (show ∀r w',Yo C dg L xs r w'->Yo c dg L xs r w' from fun r w' h=>by rw[<-hC];exact h);obtain⟨cp,cm,aB,cn,aC⟩:=c;unfold AZ.arg at aR ⊢;unfold AZ.obj at aN bG HL HX aR c0 c1 c2 c3 c4 s0 s1 s2;dsimp only at aN bG HL HX aR c0 c1 c2 c3 c4 s0 s1 s2 cK cJ ⊢;rw[<-hC]at aR;subst cK cJ dJ dG;clear hc cI aA hL hx cL hC;have dA:=Aa cQ;clear cQ;go_enter Tryz.func29,Tryz.ntmps29
 go_upto_region 1 with fail
 have aW:(w.alloc (.cells #[cp,cm,.slice x3 aB.length y3,cn,.slice x1 aC.length y1] 39)).heap.size=B+1:=by simp[hB]
 try simp only[aW]
 try simp only[hB]
 clear hB aW;generalize (w.alloc (.cells #[cp,cm,.slice x3 aB.length y3,cn,.slice x1 aC.length y1] 39)).alloc (.cells #[dg,.slice la L.length lc,.slice ra xs.length rc] 53)=w1 at *;go_wp2_with fail
 refine aR.o.mono ?_;rintro e w2⟨⟨e0,cR,ho⟩,aA⟩;have bB:=Aa aA;have bM:=Aa cR;replace c0:=aA.cell c0;replace c1:=aA.cell c1;replace c2:=aA.cell c2;replace c3:=aA.cell c3;replace c4:=aA.cell c4;replace s0:=aA.cell s0;replace s1:=aA.cell s1;replace s2:=aA.cell s2;clear aA cR aR;obtain⟨OE,aM⟩:∃x,I8 C e0=x:=⟨_,rfl⟩;rw[aM]at ho;have bL:=Aa aM;rcases ho with⟨h0,ptr,d,rfl⟩|⟨h0,pn,mn,N,b,x0,hp,hm,hn,hN1,hN64,hD,rfl,hg,hx1,aA⟩
 .have hb:(OE !=0)=true:=by simpa using h0
  have H0:=Aa h0;have aP:=Aa (fun o=>aN.o.trans (bB.o.trans (AI w2 o)));clear h0 aM;go_wp2_with fail
  exact bodyPost_ret (v:= .tuple #[.slice none 0 0,OE]) (by simp[results,Tryz.results29,go_sem]) rfl ⟨aQ.o _ _ ⟨e0,bM.o,.inl ⟨by rw[bL.o];exact H0.o,by rw[bL.o]⟩⟩,aP.o _⟩
 .subst h0;have dX:=Aa (show e0=0 from by
   unfold I8 at aM;split at aM
   .exact aM
   .omega)
  have dM:cn=(N:Int):=by have:=aO.o;rw[this]at hn;exact hn
  have dL:cp=(pn:Int):=by have:=aO.o;rw[this]at hp;exact hp
  have dN:cm=(mn:Int):=by have:=aO.o;rw[this]at hm;exact hm
  subst dM dL dN;obtain⟨cV,dC,dV,cX⟩:=Eq (show BK pn mn aB N aC 0 from by have h1:=bM.o;rw[aO.o,dX.o]at h1;exact h1) (show(Ep C:Int)=((N*(pn^mn-1):Nat):Int) from by unfold Ep;rw[hp,hm,hn];rfl) (show AC C=Dw N (pn^mn) from by unfold AC;rw[hp,hm,hn];rfl) (show(∀l∈L,∀r∈l.reps,Gs pn mn aB N aC r=true)↔WK C L=true from by rw[Qb,aO.o];exact Iff.rfl);obtain⟨dB,aK,cF,HG,HN,bF,bY,dW,aD⟩:=Ty (show L8 C (C.p.toNat^C.m.toNat) L (AC C) xs=L8 ⟨pn,mn,aB,N,aC⟩ (pn^mn) L (Dw N (pn^mn)) xs from by rw[dV.o,aO.o];first|done|rfl) (show ¬Yr C dg L xs->∀(w':World),Yo C dg L xs (.returned (.tuple #[.slice none 0 0,(13:Int)])) w' from fun h w'=>⟨e0,bM.o,.inr (.inl ⟨bL.o,h,rfl⟩)⟩) (show Yr C dg L xs->∀(w':World) (v:Value),Hq w' v (El L)->Yo C dg L xs (.returned (.tuple #[v,(0:Int)])) w' from fun h w' v hv=>⟨e0,bM.o,.inr (.inr ⟨bL.o,h,v,rfl,hv⟩)⟩) (show Bj w2 b pn mn aB x0 from by have h:=hg;rw[aO.o]at h;exact h) (show 1<=N/\N<=64/\N*(pn^mn-1)<=64 from⟨hN1,hN64,hD⟩) (bG.o.ex bB.o) (HL.o.ex bB.o) (HX.o.ex bB.o) (AI w2 (.cells #[.pointer (some ⟨b,0,none⟩)] 97));have g0:(w2.alloc (.cells #[.pointer (some ⟨b,0,none⟩)] 97)).cell? (w2.heap.size,0)=some (.pointer (some (b,0))):=by simp
  obtain⟨GB,bU⟩:∃x,w2.heap.size=x:=⟨_,rfl⟩;rw[bU]at g0;obtain⟨D,bV⟩:=nA (N*(pn^mn-1));have cA:=Aa bV;rw[bV];clear hp hm hn hN1 hN64 hD hg hx1 aA aM bV bG HL HX;go_upto_region 2 with fail
  try simp only[bU]
  clear bU;generalize w2.alloc (.cells #[.pointer (some ⟨b,0,none⟩)] 97)=w3 at *;replace c0:=aD.o.cell c0;replace c1:=aD.o.cell c1;replace c2:=aD.o.cell c2;replace c3:=aD.o.cell c3;replace c4:=aD.o.cell c4;replace s0:=aD.o.cell s0;replace s1:=aD.o.cell s1;replace s2:=aD.o.cell s2;have aJ:=Aa (aN.o.trans (bB.o.trans aD.o));have cZ:=Aa (bY.o.ex aD.o);have cB:=Aa (fun (w5:World) (h5:Ex w3 w5)=>(⟨h5.cell c0,h5.cell c1,h5.cell c2,h5.cell c3,h5.cell c4,h5.cell s0,h5.cell s1,h5.cell s2,h5.cell g0⟩:w5.cell? (B,0)=some (.int .i64 pn)/\w5.cell? (B,1)=some (.int .i64 mn)/\w5.cell? (B,2)=some (.slice x3 aB.length y3)/\w5.cell? (B,3)=some (.int .i64 N)/\w5.cell? (B,4)=some (.slice x1 aC.length y1)/\w5.cell? (B+1,0)=some (.int .i64 dg)/\w5.cell? (B+1,1)=some (.slice la L.length lc)/\w5.cell? (B+1,2)=some (.slice ra xs.length rc)/\w5.cell? (GB,0)=some (.pointer (some (b,0)))));have bN:=Aa (EY w3 dg L _ cZ.o dA.o);obtain⟨KK,bT⟩:∃x,Bb dg L=x:=⟨_,rfl⟩;rw[bT]at bN;have bD:=Aa bT;clear bT;by_cases hk:KK=0
  rotate_left
  .have hb:(KK !=0)=true:=by simpa using hk
   have HR:=Aa (aK.o fun h=>hk (bD.o.symm.trans h.1));clear hk;go_wp2_with fail
   refine bN.o.mono ?_;rintro e w5⟨rfl,aG⟩;have aH:=Aa (aJ.o.trans aG);clear aG c0 c1 c2 c3 c4 s0 s1 s2 g0;exact zbv
  .subst hk;by_cases hdg:dg=(D:Int)
   rotate_left
   .have hb:(dg !=(D:Int))=true:=by simpa using hdg
    have HR:=Aa (aK.o fun h=>hdg (h.2.1.trans (by rw[dC.o,cA.o])));clear hdg;go_wp2_with fail
    refine bN.o.mono ?_;rintro e w5⟨rfl,aG⟩;have aH:=Aa (aJ.o.trans aG);replace s0:=aG.cell s0;clear aG c0 c1 c2 c3 c4 s1 s2 g0;exact zbv
   .subst hdg;have dS:=Aa (show ∀l∈L,∀r∈l.reps,r.length=N*(pn^mn-1)/\∀x∈r,0<=x/\x<(r.length:Int) from fun l hl r hr=>by
     have h1:Bb (D:Int) L=0:=bD.o;unfold Bb at h1;split at h1
     .cases h1
     .split at h1
      .rename_i h2 h3;obtain⟨N',h4,-,-,S,h5,h6⟩:=Kq h3.1;have h7:r∈AE L:=by unfold AE;exact List.mem_flatMap.2 ⟨l,hl,hr⟩
       rw[h5]at h7;obtain⟨f,hf,rfl⟩:=List.mem_map.1 h7;have h8:(li N' f).length=N':=BB _ _;refine⟨by rw[h8,cA.o];omega,fun x hx=>?_⟩;rw[h8];obtain⟨i,hi⟩:=List.mem_iff_getElem?.1 hx;have h9:i<N':=by have:=(List.getElem?_eq_some_iff.1 hi).1;rw[h8]at this;exact this
       rw[Dm h9]at hi;injection hi with hi;have:=(h6 f hf).lt i h9;omega
      .cases h1)
    go_upto_region 6 with (go_at_call 70;refine bN.o.mono ?_;rintro e w5⟨rfl,aG⟩;have aH:=Aa aG;replace s0:=aG.cell s0;clear aG)
    clear c0 c1 c2 c3 c4 s0 s1 s2 g0;obtain⟨LL,bH⟩:∃n,L.length=n:=⟨_,rfl⟩;have bC:=Aa bH;obtain⟨la2,lc2,cM,dE,dD,cG⟩:=(cZ.o.ex aH.o).open3;have dK:la=la2:=by injection cM
    subst dK;have Z3:=Aa (show 0<LL->_ from fun h=>cG (by rw[bH];exact h));have dT:=Aa (show LL<=1048576 from by
     have h1:Bb (D:Int) L=0:=bD.o;obtain⟨n,e1,h2,h3,S,h4,h5,h6⟩:=Kw h1;rw[<-bH,h6,List.length_map];unfold Dk;exact Nat.le_trans (List.length_filter_le _ _) (by rw[List.length_range];omega))
    obtain⟨c0,c1,c2,c3,c4,s0,s1,s2,g0⟩:=cB.o w5 aH.o;have H0:=Aa (show ∀l∈L.take 0,∀r∈l.reps,Gs pn mn aB N aC r=true from fun l hl=>by simp at hl);clear cM dE dD cG bH;go_upto_region 7 with fail
    simp only[bC.o];clear c0 c1 c2 c3 c4 s0 s1 s2 g0
    go_loopw [35] (fun k' wr=>∃k:Nat,k<=LL/\k'= .int .i64 k/\Hia (Ex w5 wr)/\Hia (∀l∈L.take k,∀r∈l.reps,Gs pn mn aB N aC r=true)) (fun k' _=>LL-(intOf k').toNat)
    case atStart=>exact⟨0,ac,rfl,Aa (Ex.refl _),H0⟩
    case round=>
     clear H0;obtain⟨k,hk,rfl,aF,aI⟩:=hrel;by_cases hkl:k<LL
     .obtain⟨eb,eo,rfl,cS⟩:=Z3.o ac;obtain⟨l,hl⟩:∃l,L[k]?=some l:=⟨_,List.getElem?_eq_getElem (by rw[bC.o];exact hkl)⟩;obtain⟨ou,orr,d0,d1,d2,k4,k5⟩:=cS k l hl;obtain⟨oa,oc,rfl,-,-,-⟩:=k4.open;clear k4;replace d0:=aF.o.cell d0;replace d1:=aF.o.cell d1;replace d2:=aF.o.cell d2;obtain⟨cY,dU,bZ,dR⟩:=Eq (List.mem_of_getElem? hl) hl hkl (k5.ex aF.o);obtain⟨qa,qc,rfl,-,-,-⟩:=k5.open;have i1:(0:Int)<=(k:Int):=by omega
      have i2:(k:Int)<(LL:Int):=ac;have hk64:k<=1048576:=by have:=dT.o;omega
      have bI:=Aa aF.o;have cE:=Aa aI.o;clear cS hl hkl k5 aF aI;go_upto_region 9 with fail
      have bx:∀x:Nat,wr.heap.size=x->(wr.alloc (.cells #[l.pt,.slice oa l.orb.length oc,.slice qa l.reps.length qc] 90)).cell? ⟨x,2,none⟩=some (.slice qa l.reps.length qc):=fun x h=>by subst h;simp
      obtain⟨XB,bS⟩:∃x,wr.heap.size=x:=⟨_,rfl⟩;have x2':=bx XB bS;have bK:=Aa (AI wr (.cells #[l.pt,.slice oa l.orb.length oc,.slice qa l.reps.length qc] 90))
      try simp only[bS]
      clear bS d0 d1 d2 i1 i2 bx;generalize wr.alloc (.cells #[l.pt,.slice oa l.orb.length oc,.slice qa l.reps.length qc] 90)=w6 at *;have bA:=Aa (aH.o.trans (bI.o.trans bK.o));obtain⟨pr,cN⟩:∃pr:Nat->Bool,∀(j:Nat) (r:List Int),l.reps[j]?=some r->pr j=!Gs pn mn aB N aC r:=⟨fun j=>match l.reps[j]? with|some r=> !Gs pn mn aB N aC r|none=>false,fun j r h=>by simp[h]⟩;have bX:=Aa cN;obtain⟨vals,bP,cH⟩:=dR.o.ex bK.o;have cC:=Aa (JJ w6 (.pointer (some ⟨GB,0,none⟩)) (.pointer (some ⟨B,0,none⟩)) (.slice qa l.reps.length qc) l.reps.length vals bP pr (fun w7 i u h7 hu=>by
       have hil:i<l.reps.length:=by
        have h1:=(List.getElem?_eq_some_iff.1 hu).1;have h2:=bP.1;omega
       have bQ:l.reps[i]?=some (l.reps[i]'hil):=List.getElem?_eq_getElem _;rw[bX.o i _ bQ];obtain⟨c0,c1,c2,c3,c4,-,-,-,g0⟩:=cB.o w7 (bA.o.trans h7);obtain⟨dI,dH⟩:=dS.o l cY.o _ (List.mem_of_getElem? bQ);have aU:=aD.o.trans (bA.o.trans h7);exact chk_clo w7 (HG.o.ex aU) HN.o.1 HN.o.2.1 HN.o.2.2 cV.o _ _ (bF.o.ex aU) _ u ((cH i _ u bQ hu).ex h7) dI dH GB B g0 c0 c1 c2 c3 c4))
      obtain⟨AN,bW⟩:∃x,(List.range l.reps.length).any pr=x:=⟨_,rfl⟩;rw[bW]at cC;have bO:=Aa bW;clear cN bW bP cH;have aX:AN=true->¬(∀r∈l.reps,Gs pn mn aB N aC r=true):=fun h dO=>by
       rw[h]at bO;obtain⟨j,hj,hp⟩:=List.any_eq_true.1 bO.o;have cP:=List.mem_range.1 hj;rw[bX.o j _ (List.getElem?_eq_getElem cP),dO _ (List.getElem_mem cP)]at hp;cases hp
      have aL:AN=false->∀r∈l.reps,Gs pn mn aB N aC r=true:=fun h r hr=>by
       rw[h]at bO;obtain⟨j,hj,rfl⟩:=List.getElem_of_mem hr;have h1:=List.any_eq_false.1 bO.o j (List.mem_range.2 hj);rw[bX.o j _ (List.getElem?_eq_getElem hj)]at h1;simpa using h1
      have cD:=Aa aX;have bE:=Aa aL;clear aX aL
      cases AN with
      | true=>
       have HR:=Aa (aK.o fun h=>cD.o rfl (cX.o.2 h.2.2.1 l cY.o));go_wp2_with (go_at_call 71;refine cC.o.mono ?_;rintro e w8⟨rfl,aT⟩;have bJ:=Aa (bI.o.trans (bK.o.trans aT));clear aT)
       have aP:=Aa (aJ.o.trans (aH.o.trans bJ.o));exact zbz
      | false=>
       have cW:=Aa (show ∀l∈L.take (k+1),∀r∈l.reps,Gs pn mn aB N aC r=true from fun l' cO r hr=>by
        rw[List.take_add_one,dU.o]at cO;rcases List.mem_append.1 cO with h|h
        .exact cE.o l' h r hr
        .simp at h;subst h;exact bE.o rfl r hr)
       go_wp2_with (go_at_call 71;refine cC.o.mono ?_;rintro e w8⟨rfl,aT⟩;have bJ:=Aa (bI.o.trans (bK.o.trans aT));clear aT)
       go_roundw
       case rel=>first|exact⟨k+1,by have:=bZ.o;omega,by go_num,bJ,cW⟩|((repeat apply Exists.intro);exact⟨⟨k+1,by have:=bZ.o;omega,by go_num,bJ,cW⟩,rfl⟩)
       case measure=>have:=bZ.o;simp[intOf];omega
     .obtain rfl:LL=k:=by omega
      obtain⟨HM,bI,aZ,aE⟩:=Eq (cX.o.1 (by have h:=aI.o;rwa[List.take_of_length_le (by rw[bC.o];exact Nat.le_refl _)]at h)) aF.o (aH.o.trans aF.o) (aD.o.trans (aH.o.trans aF.o));clear aF aI hkl;obtain⟨c0,c1,c2,c3,c4,s0,s1,s2,g0⟩:=cB.o wr aZ.o;have aY:=Aa (OQ wr (HG.o.ex aE.o) HN.o.1 HN.o.2.1 HN.o.2.2 cV.o _ _ (bF.o.ex aE.o) (D:Int) L _ (bY.o.ex aE.o) xs _ (dW.o.ex aE.o));unfold AZ.arg at aY;dsimp only at aY;obtain⟨XK,bR⟩:∃x,L8 ⟨pn,mn,aB,N,aC⟩ (pn^mn) L (Dw N (pn^mn)) xs=x:=⟨_,rfl⟩;rw[bR]at aY;rw[bC.o]at aY s1;have cT:=Aa bR;clear bR;go_wp2_with fail
      refine aY.o.mono ?_;rintro e w9⟨rfl,aS⟩;have dQ:=Aa aS;replace s0:=aS.cell s0;replace s1:=aS.cell s1;have aP:=Aa (aJ.o.trans (aZ.o.trans aS));clear aS c0 c1 c2 c3 c4 s2 g0
      cases XK with
      | false=>
       have HR:=Aa (aK.o fun h=>by have h1:=h.2.2.2;rw[dB.o,cT.o]at h1;cases h1);go_wp2_with fail
       exact zbz
      | true=>
       have HA:=Aa (cF.o ⟨bD.o,by rw[dC.o,cA.o],HM.o,by rw[dB.o,cT.o]⟩);have cU:=Aa (I3 w9 (D:Int) L _ (bY.o.ex (aE.o.trans dQ.o)) dA.o);rw[bC.o]at cU;go_wp2_with fail
       refine cU.o.mono ?_;rintro e w10⟨dF,aV⟩;rcases dF with⟨h1,-⟩|⟨-,v,rfl,hv⟩
       .exact absurd bD.o h1
       .have HV:=Aa hv;have dP:=Aa (aP.o.trans aV);clear hv aV s0 s1;go_wp2_with fail
        exact bodyPost_ret (v:= .tuple #[v,(0:Int)]) (by simp[results,Tryz.results29,go_sem]) rfl ⟨aQ.o _ _ (HA.o _ _ HV.o),dP.o⟩
section
variable {n:Nat} {T gens:List (List Int)}
def tabA(T:List (List Int))(i:Nat):Nat->Nat:=CJ (T.getD i [])
theorem Xm(hg:∀f,Gn (gens.map CJ) f↔∃r∈T,CJ r=f)(hl:∀r∈T,BA r=0/\r.length=n)(hs:∀a,a<T.length->∀b,b<T.length->a<b->GG (T.getD a []) (T.getD b [])=true):Pe n T.length (gens.map CJ) (tabA T):=by
 have hm:∀i,i<T.length->T.getD i []∈T:=fun i hi=>by
  rw[List.getD_eq_getElem?_getD,List.getElem?_eq_getElem hi];exact List.getElem_mem hi
 refine⟨fun f=>?_,fun a b aA hb=>?_⟩
 .rw[hg];constructor
  .rintro⟨r,hr,rfl⟩;obtain⟨i,hi,e⟩:=List.getElem_of_mem hr;exact⟨i,hi,by unfold tabA;rw[List.getD_eq_getElem?_getD,List.getElem?_eq_getElem hi];exact congrArg CJ e⟩
  .rintro⟨i,hi,rfl⟩;exact⟨T.getD i [],hm i hi,rfl⟩
 .have ha:a<T.length:=by omega
  have e1:=Ov (hl _ (hm a ha)).1;have e2:=Ov (hl _ (hm b hb)).1;rw[(hl _ (hm a ha)).2]at e1;rw[(hl _ (hm b hb)).2]at e2;refine WQ.1 ?_;show GG (li n (CJ (T.getD a []))) (li n (CJ (T.getD b [])))=true
  rw[e1,e2];exact hs a ha b hb aA
theorem Tz(h:∀r∈gens,BA r=0/\r.length=n):∀s∈gens.map CJ,AY n s:=fun s hs=>by
 obtain⟨r,hr,rfl⟩:=List.mem_map.1 hs;have:=OD (h r hr).1
 rwa[(h r hr).2]at this
theorem Uf{C:List Lv}(hg:∀f,Gn (gens.map CJ) f↔∃r∈T,CJ r=f)(hl:∀r∈T,BA r=0/\r.length=n)(hs:∀a,a<T.length->∀b,b<T.length->a<b->GG (T.getD a []) (T.getD b [])=true)(h2:∀r∈gens,BA r=0/\r.length=n)(hk:Ez n gens=0)(hc:chnA n T.length (tabA T) n=C):Dd n gens=(⟨n,C⟩,0):=by
 unfold Dd;rw[hk,if_neg ag];show(Chn.mk n (B3 n (gens.map CJ) n),(0:Int))=_
 rw[chnA_eq (Xm hg hl hs) (Tz h2),hc]
theorem Ua{C:List Lv}(h2:∀r∈gens,BA r=0/\r.length=n)(h1:1<=n)(aA:n<=64)(hk:Ez n gens=0)(h:Dd n gens=(⟨n,C⟩,0)):Bb n C=0:=by
 have h3:=Ub (n:=n) h1 aA (Tz h2) (Fa n (gens.map CJ));unfold Dd at h;rw[hk,if_neg ag]at h;injection h with h _;injection h with _ h;rw[<-h];show Bb n (B3 n (gens.map CJ) n)=0
 rw[DH];exact h3
open Classical in
theorem Zw {O:List (List Int)} (hg:∀f,Gn (gens.map CJ) f↔∃r∈T,CJ r=f) (hk:Ez n gens=0) (hO:((List.range n).filter fun i=>T.all (fun r=>decide (i<=CJ r i))).map (fun i=>((List.range n).filter fun y=>T.any (fun r=>CJ r i==y)).map fun (y:Nat)=>(y:Int))=O):ID n gens=(O,0):=by
 have hr:∀ {i y:Nat},Ej (gens.map CJ) i y↔T.any (fun r=>CJ r i==y)=true:=fun {i y}=>by
  rw[List.any_eq_true];constructor
  .rintro⟨f,hf,e⟩;obtain⟨r,hr,rfl⟩:=(hg f).1 hf;exact⟨r,hr,by simpa using e⟩
  .rintro⟨r,hr,e⟩;exact⟨CJ r,(hg _).2 ⟨r,hr,rfl⟩,by simpa using e⟩
 have hL:∀ {i:Nat},Pc (gens.map CJ) i↔T.all (fun r=>decide (i<=CJ r i))=true:=fun {i}=>by
  rw[List.all_eq_true];constructor
  .intro h r hr;exact decide_eq_true (h _ ⟨CJ r,(hg _).2 ⟨r,hr,rfl⟩,rfl⟩)
  .rintro h y⟨f,hf,rfl⟩;obtain⟨r,hr,rfl⟩:=(hg f).1 hf;exact of_decide_eq_true (h r hr)
 have h2:∀i,RJ n (gens.map CJ) i=((List.range n).filter fun y=>T.any (fun r=>CJ r i==y)).map fun (y:Nat)=>(y:Int):=fun i=>by
  unfold RJ Wt
  congr 1
  apply List.filter_congr;intro y _;rw[Bool.eq_iff_iff,decide_eq_true_eq];exact hr
 have h3:Dz n (gens.map CJ) n=O:=by
  rw[<-hO];unfold Dz;rw[show RJ n (gens.map CJ)=_ from funext h2]
  congr 1
  apply List.filter_congr;intro i _;rw[Bool.eq_iff_iff,decide_eq_true_eq];exact hL
 unfold ID;rw[hk,if_neg ag];show(Dz n (gens.map CJ) n,(0:Int))=_
 rw[h3]
end
def eT:AZ:=⟨3,1, [],2, [[1,2]]⟩
theorem e31:FP 3 1 []:=⟨3,1,rfl,rfl,⟨ac,ac,ac,ae,rfl,by intro x hx;cases hx⟩,ae,(He (p:=3) (m:=1) (ml:= []) ⟨ac,ac,ac,ae,rfl,by intro x hx;cases hx⟩ ae).2 (.inl rfl)⟩
theorem eT_pv:PV 3 1 1 2 (An [[1,2]]) [0] 1:=Wk ac ae rfl ae
theorem eT_cod{e:Int}(h:BK 3 1 [] 2 [[1,2]] e):e=0:=QL (p:=3) (m:=1) (N:=2) e31 ak ak ak rfl eT_pv ac h
theorem eC_cod0:BK 2 1 [] 3 [[1,1,0]] 0:=
 .inr (.inr ⟨ak,ak,.inr ⟨ak,2,1,3, [0],An [[1,1,0]],rfl,rfl,rfl,e21,ak,IR XL ac rfl,ak⟩⟩)
def cG:List (List Int):= [[0,1,2], [1,0,2], [0,1,2], [0,1,2]]
def cT:List (List Int):= [[0,1,2], [1,0,2]]
def cL:List Lv:= [⟨0, [0,1], [[0,1,2], [1,0,2]]⟩]
def tG:List (List Int):= [[0,1,2,3], [1,0,3,2], [2,3,0,1], [3,2,1,0], [0,1,2,3]]
def tT:List (List Int):= [[0,1,2,3], [1,0,3,2], [2,3,0,1], [3,2,1,0]]
def tL:List Lv:= [⟨0, [0,1,2,3], [[0,1,2,3], [1,0,3,2], [2,3,0,1], [3,2,1,0]]⟩]
theorem e_pts:Wm 3 1 [] [1,0] [2,1] 0=0/\ptL 3 1 [] [1,0] [2,1] 0= [3,2,0,1]:=ak
theorem e_map:mpE 3 1 [] 2 [3,2,0,1]=0/\(mpM 3 1 [] 2 [3,2,0,1]).perm= [1,0]/\(mpM 3 1 [] 2 [3,2,0,1]).scale= [2,1]/\(mpM 3 1 [] 2 [3,2,0,1]).frob=0:=ak
theorem XN:J6 eC 0=0:=ak
theorem eT_gr:J6 eT 0=0:=ak
theorem XO:Ey 2 1 [] (Da eC (AC eC))=cG:=ak
theorem XJ:Ey 3 1 [] (Da eT (AC eT))=tG:=ak
theorem eC_prm:PY (Da eC (AC eC))=cG:=ak
theorem S5{c:AZ}{G:List (List Int)}{p m:Nat}{ml:List Int}(h:Ey p m ml (Da c (AC c))=G):(Da c (AC c)).length=G.length:=by
 rw[<-h];unfold Ey;rw[List.length_map]
theorem Sh:(Da eC (AC eC)).length<=1000:=by rw[S5 XO];decide
theorem eT_len:(Da eT (AC eT)).length<=1000:=by rw[S5 XJ];decide
def mvB(N:Nat)(M:CZ):Bool:=decide (M.perm.length=N)&&(decide (M.scale.length=N)&&BD M.perm N)
theorem WD{N:Nat}{Ms:List CZ}(h:Ms.all (mvB N)=true):∀M∈Ms,MU N M:=fun M hM=>by
 have:=List.all_eq_true.1 h M hM;unfold mvB at this;simp only[Bool.and_eq_true,decide_eq_true_eq]at this;exact this
theorem eC_mv:∀M∈Da eC (AC eC),MU eC.n.toNat M:=WD ak
theorem eT_mv:∀M∈Da eT (AC eT),MU eT.n.toNat M:=WD ak
theorem cG_gn(f:Nat->Nat):Gn (cG.map CJ) f↔∃r∈cT,CJ r=f:=Nw (n:=3) [[], [1]] ae ae ac ac ae ae ae ae f
theorem tG_gn(f:Nat->Nat):Gn (tG.map CJ) f↔∃r∈tT,CJ r=f:=Nw (n:=4) [[], [1], [2], [3]] ae ae ac ac ae ae ae ae f
theorem X9:Dd 3 cG=(⟨3,cL⟩,0):=Uf (n:=3) cG_gn ae ae ae ae ah
theorem VL:Dd 4 tG=(⟨4,tL⟩,0):=Uf (n:=4) tG_gn ae ae ae ae ah
theorem cL_chk:Bb 3 cL=0:=Ua (n:=3) (gens:=cG) ae ac ac ae X9
theorem tL_chk:Bb 4 tL=0:=Ua (n:=4) (gens:=tG) ae ac ac ae VL
theorem tL_siz:El tL=4:=ae
theorem cL_siz:El cL=2:=ae
theorem cG_orb:ID 3 cG=([[0,1], [2]],0):=Zw (n:=3) cG_gn ae ak
def eX:List Hi:=Jw eC (JS eC (AC eC))
def exT(x:Hi):Int × Int:=(x.i,x.j)
theorem eX_ij:eX.map exT= [(0,2),(1,2)]:=ak
theorem eX_rf:∀g∈JS eC (AC eC),Ji 0 (gF eC g)=0:=fun g hg=>by
 have h:(JS eC (AC eC)).all (fun g=>Ji 0 (gF eC g)==0)=true:=ak;simpa using List.all_eq_true.1 h g hg
theorem OT:eX.length=2:=by have:=congrArg List.length eX_ij;rw[List.length_map]at this;exact this
theorem eN_len:(JS eC (AC eC)).length<=1000:=by
 have:=OT;unfold eX Jw at this;rw[List.length_map]at this;omega
theorem eX_exk:L8 eC 2 cL (AC eC) eX=true:=ak
theorem XM{P:List Int}(h1:Ve 2 1 [] 3 P=true)(h2:CL 2 1 [] 3 (Ii 2 1 3 P) (Ih 2 1 3 P) 0=0)(h3:E3 2 1 [] (Ii 2 1 3 P) (Ih 2 1 3 P) 0 3 [[1,1,0]] 1= [[1,1,0]]):Gs 2 1 [] 3 [[1,1,0]] P=true:=by
 refine Qa.2 ⟨h1,h2, [0],An [[1,1,0]],?_,ak⟩;rw[show([[1,1,0]]:List (List Int)).length=1 from rfl,h3];exact IR XL ac rfl
theorem zaP{P:Prop}(h:P:=by
 exact XM (by decide +kernel) (by decide +kernel) (by decide +kernel)):P:=h
theorem cL_meb:WK eC cL=true:=by
 rw[Qb];intro l hl r hr;simp only[cL,List.mem_singleton]at hl;subst hl;simp only[List.mem_cons,List.not_mem_nil,or_false]at hr;rcases hr with rfl|rfl
 .exact zaP
 .exact zaP
theorem cL_acc:Yr eC 3 cL eX:=⟨cL_chk,ak,cL_meb,eX_exk⟩
theorem eC_opE:I8 eC 0=0:=ak
theorem Si:Mm eC=(⟨3,cL⟩,0):=by
 have h:Mm eC=Dd 3 (Ey 2 1 [] (Da eC (AC eC))):=rfl;rw[h,XO,X9]
theorem eC_cz:Yx eC 0=0:=by unfold Yx;rw[XN,if_neg ag,Si]
theorem Kn(w:World)(l:List Int)(cs:Array Value)(t:TypeId)(h:(Ap l).toArray=cs){B n:Nat}(hB:w.heap.size=B)(hn:l.length=n)(hl:l.length<=1000):Aj (w.alloc (.cells cs t)) (.slice (some (B,0)) n n) l:=by
 subst hB hn;subst h;exact W6 w l t hl
theorem Ti(w:World)(rows:List (List Int))(us:List Value)(cs:Array Value)(t:TypeId)(hc:us.toArray=cs)(hl:us.length=rows.length)(h:∀(i:Nat) (r:List Int) (u:Value),rows[i]?=some r->us[i]?=some u->Aj w u r){B n:Nat}(hB:w.heap.size=B)(hn:rows.length=n)(hl2:rows.length<=1000):
  B9 (w.alloc (.cells cs t)) (.slice (some (B,0)) n n) rows:=by
 subst hB hn hc;refine⟨us,⟨by rw[hl,Nat.mul_one],some ⟨w.heap.size,0,none⟩,rows.length,rfl,Nat.le_refl _,by unfold maxLen;omega,fun _=>⟨_,0,rfl,fun j u hu=>?_⟩⟩,fun i r u a b=>(h i r u a b).ex (AI _ _)⟩;rw[Nat.zero_add];simpa using hu
theorem rows1{w:World}{l1:List Int}{u1:Value}(h1:Aj w u1 l1):∀(i:Nat) (r:List Int) (u:Value), [l1][i]?=some r-> [u1][i]?=some u->Aj w u r:=fun i r u a b=>by
 match i,a,b with
 | 0,a,b=>simp at a b;subst a b;exact h1
 | i+1,a,b=>simp at a
theorem rows2{w:World}{l1 l2:List Int}{u1 u2:Value}(h1:Aj w u1 l1)(h2:Aj w u2 l2):∀(i:Nat) (r:List Int) (u:Value), [l1,l2][i]?=some r-> [u1,u2][i]?=some u->Aj w u r:=fun i r u a b=>by
 match i,a,b with
 | 0,a,b=>simp at a b;subst a b;exact h1
 | 1,a,b=>simp at a b;subst a b;exact h2
 | i+2,a,b=>simp at a
def GY(w:World)(b:Nat)(vs:List Value):Prop:=∀i v,vs[i]?=some v->w.cell? ⟨b,i,none⟩=some v
theorem GY.ex{w w':World}{b:Nat}{vs:List Value}(h:GY w b vs)(hx:Ex w w'):GY w' b vs:=fun i v a=>hx.cell (h i v a)
theorem k_pts(w:World)(pv sv:Value)(hp:Aj w pv [1,0])(hs:Aj w sv [2,1]):
  Calls Tryz.prog 15 #[.agg #[(3:Int),(1:Int),.slice none 0 0],.agg #[pv,sv,(0:Int)]] w fun r w'=>∃a c,r= .returned (.tuple #[.slice a 4 c,(0:Int)])/\Aj w' (.slice a 4 c) [3,2,0,1]/\Ex w w':=
 (Mt w 3 1 [] _ (AR w) _ _ pv sv hp hs 0).mono fun r w' ⟨⟨v,h1,h2⟩,hx⟩=>by
  rw[e_pts.1]at h1;rw[e_pts.2]at h2;obtain⟨a,c,rfl,_⟩:=h2.open;exact⟨a,c,h1,h2,hx⟩
theorem ZL(w:World)(pv:Value)(hp:Aj w pv [3,2,0,1]):
  Calls Tryz.prog 17 #[.agg #[(3:Int),(1:Int),.slice none 0 0],(2:Int),pv] w fun r w'=>∃a c b d,r= .returned (.tuple #[.agg #[.slice a 2 c,.slice b 2 d,(0:Int)],(0:Int)])/\Aj w' (.slice a 2 c) [1,0]/\Aj w' (.slice b 2 d) [2,1]/\Ex w w':=
 (Map_any w 3 1 [] _ (AR w) 2 ac _ pv hp).mono fun r w' ⟨⟨u,v,h1,hu,hv⟩,hx⟩=>by
  obtain⟨q1,q2,q3,q4⟩:=e_map;rw[q1,q4]at h1;rw[q2]at hu;rw[q3]at hv;obtain⟨a,c,rfl,_⟩:=hu.open;obtain⟨b,d,rfl,_⟩:=hv.open;exact⟨a,c,b,d,h1,hu,hv,hx⟩
theorem zcP{P:Prop}(h:P:=by
 rw[hb]at h3 h4;obtain⟨a,c,rfl,_⟩:=h4.open;exact⟨a,c,h3,h4,hx⟩):P:=h
theorem k_grp(w:World)(v1:Value)(h1:B9 w v1 [[1,1,0]]):
  Calls Tryz.prog 22 #[.agg #[(2:Int),(1:Int),.slice none 0 0,(3:Int),v1]] w fun r w'=>∃a c,r= .returned (.tuple #[.agg #[(3:Int),.slice a 1 c],(0:Int)])/\EH w' (.slice a 1 c) cL/\Ex w w':=
 (Fh w eC _ v1 ⟨AR w,h1⟩ Sh eC_mv).mono fun r w' ⟨⟨e0,ho,h⟩,hx⟩=>by
  obtain rfl:=OU ho;rcases h with⟨h,_⟩|⟨_,v,h3,h4⟩
  .exact absurd XN h
  .have hb:Dd (Ep eC:Int) (Ey eC.p.toNat eC.m.toNat eC.ml (Da eC (AC eC)))=(⟨3,cL⟩,0):=Si;exact zcP
theorem k_grpT(w:World)(v1:Value)(h1:B9 w v1 [[1,2]]):
  Calls Tryz.prog 22 #[.agg #[(3:Int),(1:Int),.slice none 0 0,(2:Int),v1]] w fun r w'=>∃a c,r= .returned (.tuple #[.agg #[(4:Int),.slice a 1 c],(0:Int)])/\EH w' (.slice a 1 c) tL/\Ex w w':=
 (Fh w eT _ v1 ⟨AR w,h1⟩ eT_len eT_mv).mono fun r w' ⟨⟨e0,ho,h⟩,hx⟩=>by
  obtain rfl:=eT_cod ho;rcases h with⟨h,_⟩|⟨_,v,h3,h4⟩
  .exact absurd eT_gr h
  .have hb:Dd (Ep eT:Int) (Ey eT.p.toNat eT.m.toNat eT.ml (Da eT (AC eT)))=(⟨4,tL⟩,0):=by
    have h:Dd (Ep eT:Int) (Ey eT.p.toNat eT.m.toNat eT.ml (Da eT (AC eT)))=Dd 4 (Ey 3 1 [] (Da eT (AC eT))):=rfl;rw[h,XJ,VL]
   exact zcP
theorem k_pos(w:World)(v1:Value)(h1:B9 w v1 [[1,1,0]]):
  Calls Tryz.prog 24 #[.agg #[(2:Int),(1:Int),.slice none 0 0,(3:Int),v1]] w fun r w'=>∃a c,r= .returned (.tuple #[.slice a 2 c,(0:Int)])/\B9 w' (.slice a 2 c) [[0,1], [2]]/\Ex w w':=
 (MT sortOK w eC _ v1 ⟨AR w,h1⟩ Sh).mono fun r w' ⟨⟨e0,ho,h⟩,hx⟩=>by
  obtain rfl:=OU ho;rcases h with⟨h,_⟩|⟨_,v,h3,h4⟩
  .exact absurd XN h
  .have hb:ID eC.n (PY (Da eC (AC eC)))=([[0,1], [2]],0):=by
    have h:ID eC.n (PY (Da eC (AC eC)))=ID 3 (PY (Da eC (AC eC))):=rfl;rw[h,eC_prm,cG_orb]
   exact zcP
theorem k_cer(w:World)(v1:Value)(h1:B9 w v1 [[1,1,0]]):
  Calls Tryz.prog 32 #[.agg #[(2:Int),(1:Int),.slice none 0 0,(3:Int),v1]] w fun r w'=>∃a c b d,r= .returned (.tuple #[.agg #[(3:Int),.slice a 1 c,.slice b 2 d],(0:Int)])/\EH w' (.slice a 1 c) cL/\Mz w' (.slice b 2 d) eX/\Ex w w':=
 (Na w eC _ v1 ⟨AR w,h1⟩ Sh eN_len eC_mv eX_rf).mono fun r w' ⟨⟨e0,ho,h⟩,hx⟩=>by
  obtain rfl:=OU ho;rcases h with⟨h,_⟩|⟨_,v,v',h3,h4,h5⟩
  .exact absurd eC_cz h
  .rw[Si]at h3 h4;have h6:Mz w' v' eX:=h5;obtain⟨a,c,rfl,_⟩:=h4.open;obtain⟨b,d,rfl,_⟩:=h6.open;rw[OT]at h3 h6;exact⟨a,c,b,d,h3,h4,h6,hx⟩
theorem ZM(w:World)(v1 lv rv:Value)(h1:B9 w v1 [[1,1,0]])(hl:EH w lv cL)(hr:Mz w rv eX):
  Calls Tryz.prog 29 #[.agg #[(2:Int),(1:Int),.slice none 0 0,(3:Int),v1],.agg #[(3:Int),lv,rv]] w fun r w'=>∃a n c,r= .returned (.tuple #[.slice a n c,(0:Int)])/\Hq w' (.slice a n c) 2/\Ex w w':=
 (Ra w eC _ v1 ⟨AR w,h1⟩ 3 cL lv hl ae eX rv hr).mono fun r w' ⟨⟨e0,ho,h⟩,hx⟩=>by
  obtain rfl:=OU ho;rcases h with⟨h,_⟩|⟨_,h,_⟩|⟨_,_,v,h3,h4⟩
  .exact absurd eC_opE h
  .exact absurd cL_acc h
  .rw[cL_siz]at h4;have h5:=h4;obtain⟨n,f,g1,g2,g3⟩:=h4;obtain⟨a,c,rfl,_⟩:=NL.open g3;exact⟨a,_,c,h3,h5,hx⟩
theorem k_sizT(w:World)(v:Value)(hv:EH w v tL):Calls Tryz.prog 35 #[.agg #[(4:Int),v]] w fun r w'=>∃a n c,r= .returned (.tuple #[.slice a n c,(0:Int)])/\Hq w' (.slice a n c) 4/\Ex w w':=
 (I3 w 4 tL v hv ae).mono fun r w' ⟨h1,h3⟩=>by
  rcases h1 with h1|⟨_,u,h1,h2⟩
  .exact absurd tL_chk h1.1
  .rw[tL_siz]at h2;have h5:=h2;obtain⟨n,f,g1,g2,g3⟩:=h2;obtain⟨a,c,rfl,_⟩:=NL.open g3;exact⟨a,_,c,h1,h5,h3⟩
theorem Ql(w:World)(v u:Value)(hv:EH w v cL)(hu:EH w u cL):Calls Tryz.prog 26 #[.agg #[(3:Int),v],.agg #[(3:Int),u]] w fun r w'=>r= .returned (.bool true)/\Ex w w':=
 (Rv w 3 3 cL cL v u hv hu).mono fun r w' ⟨⟨b,h1,h2⟩,h3⟩=>by
  rw[h2.2 ⟨rfl,rfl⟩]at h1;exact⟨h1,h3⟩
theorem W0(w:World)(x:Nat)(hx:x<=64)(v u:Value)(hv:Hq w v x)(hu:Hq w u x):Calls Tryz.prog 50 #[v,u] w fun r w'=>r= .returned (.int .i64 0)/\Ex w w':=
 (Wh w x x v u hv hu (G5 ac) (G5 ac)).mono fun r w' ⟨⟨z,h1,h2⟩,h3⟩=>by
  rw[h2.2 rfl]at h1;exact⟨h1,by rw[h3];exact Ex.refl _⟩
theorem zcr{P:Prop}(h:P:=by
 rw[decide_eq_true rfl]at h1;exact⟨h1,by rw[h3];exact(Ex.refl w).drewN n⟩):P:=h
theorem k_ints(w:World)(v u:Value)(l:List Int)(hv:Aj w v l)(hu:Aj w u l):Calls Tryz.prog 19 #[v,u] w fun r w'=>r= .returned (.bool true)/\Ex w w':=
 (DI w l l v u hv hu).mono fun r w' ⟨h1,n,h3⟩=>by
  exact zcr
theorem k_rows(w:World)(v u:Value)(l:List (List Int))(hv:B9 w v l)(hu:B9 w u l):Calls Tryz.prog 27 #[v,u] w fun r w'=>r= .returned (.bool true)/\Ex w w':=
 (EG w l l v u hv hu).mono fun r w' ⟨h1,n,h3⟩=>by
  exact zcr
theorem k_map(w:World)(pl sl:List Int)(pv sv qv tv:Value)(hp:Aj w pv pl)(hs:Aj w sv sl)(hq:Aj w qv pl)(ht:Aj w tv sl):
  Calls Tryz.prog 20 #[.agg #[pv,sv,(0:Int)],.agg #[qv,tv,(0:Int)]] w fun r w'=>r= .returned (.bool true)/\Ex w w':=
 (Q3 w pl sl pl sl pv sv qv tv hp hs hq ht 0 0).mono fun r w' ⟨h,hx⟩=>by
  rw[decide_eq_true ⟨rfl,rfl,rfl⟩]at h;exact⟨h,hx⟩
theorem Te(w:World)(x:Nat)(hx1:1<=x)(hx2:x<=64):Hq (w.alloc (.cells #[.int .u32 x] 91)) (.slice (some (w.heap.size,0)) 1 1) x:=
 ⟨1,fun _=>x,⟨fun _ _=>by show x<4294967296;omega,fun _ _=>by show x≠0;omega⟩,by show 0+x*1=x;omega,NL.mk (Nat.le_refl _) ai fun _=>⟨_,0,rfl,fun j hj=>by
  obtain rfl:j=0:=ac;simp⟩⟩
theorem eX_at:(∃x,eX[0]?=some x/\x.i=0/\x.j=2)/\∃x,eX[1]?=some x/\x.i=1/\x.j=2:=by
 have h:=eX_ij;have hl:=OT;constructor
 .refine⟨eX[0]'ac,List.getElem?_eq_getElem _,?_⟩;have:=congrArg (fun l=>l[0]?) h;simp only[List.getElem?_map,List.getElem?_eq_getElem (show 0<eX.length by omega)]at this;simpa[exT]using this
 .refine⟨eX[1]'ac,List.getElem?_eq_getElem _,?_⟩;have:=congrArg (fun l=>l[1]?) h;simp only[List.getElem?_map,List.getElem?_eq_getElem (show 1<eX.length by omega)]at this;simpa[exT]using this
theorem esl_eX{w:World}{a:Option Addr}{c:Nat}(h:Mz w (.slice a 2 c) eX):∃X o,a=some ⟨X,o,none⟩/\w.cell? ⟨X,o,none⟩=some (.int .i64 0)/\w.cell? ⟨X,o+1,none⟩=some (.int .i64 2)/\w.cell? ⟨X,o+4,none⟩=some (.int .i64 1)/\w.cell? ⟨X,o+4+1,none⟩=some (.int .i64 2):=by
 obtain⟨a',c',e,_,_,h3⟩:=h.open;injection e with e1 _ _;subst e1;obtain⟨X,o,rfl,h4⟩:=h3 (by rw[OT];omega);obtain⟨⟨x,x1,x2,x3⟩,⟨y,y1,y2,y3⟩⟩:=eX_at
 obtain⟨_,f1,f2,_⟩:=h4 0 x x1;obtain⟨_,g1,g2,_⟩:=h4 1 y y1;rw[x2]at f1;rw[x3]at f2;rw[y2]at g1;rw[y3]at g2;exact⟨X,o,rfl,f1,f2,g1,g2⟩
def Uv(p:Nat->Nat)(l:List Nat):List Nat:=l.mergeSort fun x y=>decide (p x<=p y)
theorem Fr(p:Nat->Nat)(l:List Nat):(Uv p l).Perm l:=List.mergeSort_perm _ _
theorem YY(p:Nat->Nat)(l:List Nat):(Uv p l).Pairwise fun x y=>p x<=p y:=by
 have h:=List.pairwise_mergeSort (le:=fun x y=>decide (p x<=p y)) (fun a b c h1 h2=>by
  simp only[decide_eq_true_eq]at *;omega) (fun a b=>by
  simp only[Bool.or_eq_true,decide_eq_true_eq];omega) l
 exact h.imp fun h=>ay
theorem RI(S:List (Nat->Nat))(b m:Nat):(A7 S b m).Nodup:=by
 unfold A7;exact List.Pairwise.filter _ List.nodup_range
theorem YX{p:Nat->Nat}(hp:∀i j,p i=p j->i=j){l:List Nat}(hn:l.Nodup):(Uv p l).Pairwise fun x y=>p x<p y:=by
 have h2:(Uv p l).Pairwise (·≠·):=(Fr p l).nodup_iff.2 hn;exact((YY p l).and h2).imp fun ⟨h3,h4⟩=>by
  have:p _≠p _:=fun e=>h4 (hp _ _ e);omega
noncomputable def Se(n:Nat)(S:List (Nat->Nat)):List Nat->(Nat->Nat)->List (Nat->Nat)
 | [],p=> [p]
 | b :: bs,p=>(Uv p (A7 S b n)).flatMap fun x=>Se n S bs (Ak (CH n S b x) p)
def ElLt(n:Nat)(f g:Nat->Nat):Prop:=∃i,i<n/\(∀j,j<i->f j=g j)/\f i<g i
section
variable {n:Nat} {S:List (Nat->Nat)}
theorem RU(hS:∀s∈S,AY n s){b x:Nat}(hx:x∈A7 S b n):DZ n S b x (CH n S b x):=Dl hS (Ci.1 hx).2
theorem Sd(hS:∀s∈S,AY n s){b:Nat}{bs:List Nat}(h:Ka n S b bs):∀p f,f∈Se n S bs p->∃g,Gn S g/\AW b g/\f=Ak g p:=by
 induction h with
 | nil=>
  intro p f hf;rw[Se,List.mem_singleton]at hf;exact⟨DA,.one,Il _,by rw[hf];rfl⟩
 | skip h1 h2 h3 ih=>
  intro p f hf;obtain⟨g,a1,a2,a3⟩:=ih p f hf;exact⟨g,a1,fun i hi=>a2 i ac,a3⟩
 | @cons b bs h1 h2 h3 ih=>
  intro p f hf;rw[Se,List.mem_flatMap]at hf;obtain⟨x,hx,hf⟩:=hf;have hl:=RU hS ((Fr p _).mem_iff.1 hx);obtain⟨g,a1,a2,a3⟩:=ih _ f hf;refine⟨Ak g (CH n S b x),a1.mul hl.gn,fun i hi=>?_,by rw[a3];rfl⟩;show CH n S b x (g i)=i
  rw[a2 i ac,hl.fix i hi]
theorem el_asc(hS:∀s∈S,AY n s){b:Nat}{bs:List Nat}(h:Ka n S b bs):∀p,AY n p->(Se n S bs p).Pairwise (ElLt n):=by
 induction h with
 | nil=>intro p _;rw[Se];exact List.pairwise_singleton _ _
 | skip h1 h2 h3 ih=>exact ih
 | @cons b bs h1 h2 h3 ih=>
  intro p hp;rw[Se,List.pairwise_flatMap];have hm:∀x∈Uv p (A7 S b n),DZ n S b x (CH n S b x):=fun x hx=>RU hS ((Fr p _).mem_iff.1 hx);refine⟨fun x hx=>ih _ (((hm x hx).gn.isP hS).comp hp),?_⟩;refine(YX (fun i j e=>hp.inj i j e) (RI S b n)).imp_of_mem fun {x y} hx hy aA u hu v hv=>?_;obtain⟨g,-,a2,rfl⟩:=Sd hS h3 _ _ hu;obtain⟨k,-,c2,rfl⟩:=Sd hS h3 _ _ hv;refine⟨b,h1,fun j hj=>?_,?_⟩
  .show p (CH n S b x (g j))=p (CH n S b y (k j))
   rw[a2 j ac,c2 j ac,(hm x hx).fix j hj,(hm y hy).fix j hj]
  .show p (CH n S b x (g b))<p (CH n S b y (k b))
   rw[a2 b ac,c2 b ac,(hm x hx).at_,(hm y hy).at_];exact aA
theorem Nc{α:Type}(c:Nat):∀(l:List α) (f:α->Nat),(∀x∈l,f x=c)->(l.map f).sum=l.length*c
 | [],f,_=>by simp
 | x :: l,f,h=>by
  rw[List.map_cons,List.sum_cons,Nc c l f fun y hy=>h y (List.mem_cons_of_mem _ hy),h x (List.mem_cons_self ..),List.length_cons,Nat.succ_mul];omega
theorem Ie:∀(xs:List Nat) (a:Nat),xs.foldl (·* ·) a=a*Gk xs
 | [],a=>by show a=a*1;omega
 | x :: xs,a=>by
  show xs.foldl (·* ·) (a*x)=a*xs.foldl (·* ·) (1*x)
  rw[Ie xs (a*x),Ie xs (1*x),Nat.one_mul,Nat.mul_assoc]
theorem RD(x:Nat)(xs:List Nat):Gk (x :: xs)=x*Gk xs:=by
 show xs.foldl (·* ·) (1*x)=_
 rw[Ie,Nat.one_mul]
theorem XD(n:Nat)(S:List (Nat->Nat)):∀(bs:List Nat) (p:Nat->Nat),(Se n S bs p).length=Gk (bs.map fun b=>(A7 S b n).length)
 | [],p=>by rw[Se];rfl
 | b :: bs,p=>by
  rw[Se,List.length_flatMap,Nc _ _ _ fun x _=>XD n S bs _,(Fr p _).length_eq,List.map_cons,RD]
theorem el_siz(n:Nat)(S:List (Nat->Nat))(p:Nat->Nat):(Se n S (Dk n S) p).length=El ((Dk n S).map (Fo n S)):=by
 rw[XD];unfold El;rw[List.map_map]
 congr 1
 refine List.map_congr_left fun b _=>?_;show _=(CU (A7 S b n)).length
 rw[Cj]
end
theorem IE{α:Type}:∀(l k:List α),l.Nodup->(∀x∈l,x∈k)->l.length<=k.length
 | [],k,_,_=>by simp
 | x :: l,k,hn,h=>by
  obtain⟨k1,k2,e⟩:=List.append_of_mem (h x ag);rw[List.nodup_cons]at hn;have:=IE l (k1++k2) hn.2 fun y hy=>by
   have aA:y≠x:=fun e=>hn.1 (e ▸ hy);have:=h y (by simp[hy]);rw[e]at this;simp only[List.mem_append,List.mem_cons]at this ⊢;rcases this with h|h|h
   .exact .inl h
   .exact absurd h aA
   .exact .inr h
  rw[e];simp only[List.length_append,List.length_cons]at this ⊢;omega
section
variable {n:Nat} {S:List (Nat->Nat)}
theorem el_all(hS:∀s∈S,AY n s){b:Nat}{bs:List Nat}(h:Ka n S b bs):∀p g,Gn S g->AW b g->Ak g p∈Se n S bs p:=by
 induction h with
 | nil=>
  intro p g hg hx;rw[Se,AW.all (hg.isP hS) hx];simp[show Ak DA p=p from rfl]
 | @skip b bs h1 h2 h3 ih=>
  intro p g hg hx;refine ih p g hg fun i hi=>?_;by_cases e:i=b
  .subst e;have aB:=hg.isP hS;have m1:i∈A7 S i n:=Ci.2 ⟨h1,DA,.one,Il _,rfl⟩;have m2:g i∈A7 S i n:=Ci.2 ⟨aB.lt i h1,g,hg,hx,rfl⟩;have aA:(A7 S i n).length=1:=by
    have:=List.length_pos_of_mem m1;omega
   obtain⟨y,hy⟩:=List.length_eq_one_iff.1 aA;rw[hy,List.mem_singleton]at m1 m2;rw[m2,<-m1]
  .exact hx i ac
 | @cons b bs h1 h2 h3 ih=>
  intro p g hg hx;have aB:=hg.isP hS;have hm:g b∈A7 S b n:=Ci.2 ⟨aB.lt b h1,g,hg,hx,rfl⟩;have hl:=RU hS hm;have aC:=hl.gn.isP hS;rw[Se,List.mem_flatMap];refine⟨g b,(Fr p _).mem_iff.2 hm,?_⟩;have h4:=ih (Ak (CH n S b (g b)) p) (Ak g (AS n (CH n S b (g b)))) (hg.mul (hl.gn.inv hS)) (AW.div aC hx hl.fix hl.at_);have e:Ak (Ak g (AS n (CH n S b (g b)))) (Ak (CH n S b (g b)) p)=Ak g p:=by
   funext i;show p (CH n S b (g b) (AS n (CH n S b (g b)) (g i)))=p (g i)
   rw[aC.inv_r]
  rw[e]at h4;exact h4
noncomputable def elG(n:Nat)(S:List (Nat->Nat)):List (Nat->Nat):=Se n S (Dk n S) DA
theorem Ks(hS:∀s∈S,AY n s){f:Nat->Nat}:f∈elG n S↔Gn S f:=by
 constructor
 .intro h;obtain⟨g,h1,_,rfl⟩:=Sd hS (Fa n S) DA f h;exact h1
 .intro h;exact el_all hS (Fa n S) DA f h fun i hi=>ac
theorem elLt_ne{f g:Nat->Nat}(h:ElLt n f g):f≠g:=by
 obtain⟨i,_,_,h3⟩:=h;intro e;rw[e]at h3;omega
theorem Vh(hS:∀s∈S,AY n s):(elG n S).Nodup:=(el_asc hS (Fa n S) DA (DW n)).imp elLt_ne
theorem TX:(elG n S).length=El (B3 n S n):=by
 rw[DH];exact el_siz n S DA
theorem VQ{T:List (Nat->Nat)}(hS:∀s∈S,AY n s)(hT:∀s∈T,AY n s){φ:(Nat->Nat)->Nat->Nat}(h:∀f,Gn S f->Gn T (φ f))(hi:∀f g,Gn S f->Gn S g->φ f=φ g->f=g):El (B3 n S n)<=El (B3 n T n):=by
 rw[<-TX,<-TX,<-List.length_map (f:=φ)];refine IE _ _ ?_ fun x hx=>?_
 .unfold List.Nodup;rw[List.pairwise_map];refine List.Pairwise.imp_of_mem ?_ (Vh hS);intro a b ha hb aA e;exact aA (hi a b ((Ks hS).1 ha) ((Ks hS).1 hb) e)
 .obtain⟨f,hf,rfl⟩:=List.mem_map.1 hx;exact(Ks hT).2 (h f ((Ks hS).1 hf))
end
def Sp(n:Nat)(P f:Nat->Nat):Nat->Nat:=Ak (AS n P) (Ak f P)
theorem QJ{n:Nat}{P f g:Nat->Nat}(hP:AY n P)(e:Sp n P f=Sp n P g):f=g:=by
 funext i;have:=congrFun e (P i);unfold Sp Ak at this;rw[hP.inv_l]at this;exact hP.inj _ _ this
section
variable {p m N k:Nat} {ml pl sl:List Int} {l l1 l2 ks:List (List Int)}
theorem Fp.conj(hW:Hp p m ml N){P f:Nat->Nat}(hP:Fp p m ml N l1 l2 P)(hf:Fp p m ml N l1 l1 f):Fp p m ml N l2 l2 (Sp (N*(p^m-1)) P f):=
 (hP.inv hW).comp hW (hf.comp hW hP)
theorem Y9(h1:Ek p m ml N l1)(h2:Ek p m ml N l2){P:Nat->Nat}(hP:Fp p m ml N l1 l2 P):El (DL p m ml N l1)=El (DL p m ml N l2):=by
 have hW:=h1.two.1;refine Nat.le_antisymm ?_ ?_
 .exact VQ h1.fnd_isP h2.fnd_isP (φ:=Sp (N*(p^m-1)) P) (fun f hf=>(h2.gen _).2 (hP.conj hW ((h1.gen f).1 hf))) fun f g _ _ e=>QJ (hP.isP hW) e
 .exact VQ h2.fnd_isP h1.fnd_isP (φ:=Sp (N*(p^m-1)) (AS (N*(p^m-1)) P)) (fun f hf=>(h1.gen _).2 ((hP.inv hW).conj hW ((h2.gen f).1 hf))) fun f g _ _ e=>QJ (hP.isP hW).inv e
theorem Ek.img(h:Ek p m ml N l)(hc:B6 p m ml=0){R:Nat}{a a':Nat->Nat->Int}{piv:List Nat}(hR:R<=256)(aA:Hk p m ml N R a a' piv):Ek p m ml N (Au N piv.length a'):=
 ⟨XT ((BU _ _ _).1 hc) h.two.1.n1 h.two.1.n2 hR aA,h.hd,h.sm,h.hq⟩
end
def CpR(x y:Nat)(r:Ending):Prop:=∃z:Int,r= .returned (.int .i64 z)/\(z=0↔x=y)
theorem O4{x y:Nat}{z:Int}(hz:z≠0)(h:¬x=y):CpR x y (.returned (.int .i64 z)):=⟨z,rfl,fun e=>absurd e hz,fun e=>absurd e h⟩
theorem WC(w:World)(x y:Nat)(u v:Value)(hu:Hq w u x)(hv:Hq w v y)(hx:CE x)(hy:CE y):
  Calls Tryz.prog 36 #[u,v] w fun r w'=>CpR x y r/\Ex w w':=by
 obtain⟨n0,f,aG,aF,aL⟩:=hu;obtain⟨m0,g,aE,aD,aK⟩:=hv;have hn0:=hx.len aG aF;have hm0:=hy.len aE aD;obtain⟨aP,aO,HF,HG⟩:=Eq (Ee w n0 f u aL aG.lt) (Ee w m0 g v aK aE.lt) aF aD;clear aG aF aL aE aD aK hx hy;go_enter Tryz.func36,Tryz.ntmps36
 go_wp2_with fail
 refine aP.o.mono ?_;rintro e w2⟨⟨u1,n,rfl,hn,c1,c2,c3⟩,rfl⟩;go_wp2_with fail
 refine aO.o.mono ?_;rintro e w2⟨⟨u2,m,rfl,hm,d1,d2,d3⟩,rfl⟩;have aI:vS f n=x:=c2.trans HF.o;have aH:vS g m=y:=d2.trans HG.o;obtain⟨ua,uc,rfl,_,s2,s3⟩:=c3.open;obtain⟨va,vc,rfl,_,t2,t3⟩:=d3.open;have S3:=Aa s3;have T3:=Aa t3;have aT:=Aa (show n=m->(∀i,i<n->f i=g i)->x=y from fun e h=>by
  subst e;rw[<-aI,<-aH];exact Gx fun k hk=>h k hk)
 have aJ:=Aa (show x=y->n=m/\∀i,i<n->f i=g i from fun e=>c1.uniq d1 (by rw[aI,aH,e]));unfold maxLen at s2 t2;clear c1 c2 c3 d1 d2 d3 aI aH s3 t3 aP aO HF HG;rcases Nat.lt_trichotomy n m with h|h|h
 .have HN:=Aa (show ¬x=y from fun e=>by have:=(aJ.o e).1;omega);have b1:((n:Int) !=(m:Int))=true:=by simp;omega
  have b2:(n:Int)<(m:Int):=ac;go_wp2_with fail
  go_ret;exact⟨O4 ae HN.o,Ex.refl _⟩
 .subst h;have b1:((n:Int) !=(n:Int))=false:=by simp
  have EX:=Aa (Ex.refl w2);go_wp2_with fail
  go_loopw [5] (fun i' wr=>∃i q:Nat,i<=n/\i'= .int .i64 ((i:Int)-1)/\wr=w2.drewN q/\Hia (∀k,i<=k->k<n->f k=g k)) (fun i' _=>((intOf i')+1).toNat)
  case atStart=>exact⟨n,0,ac,rfl,rfl,Aa (fun k h1 h2=>ac)⟩
  case round=>
   obtain⟨i,q,hi,rfl,rfl,aB⟩:=hrel
   cases i with
   | zero=>
    have HE:=Aa (aT.o (by first|rfl|trivial) fun k hk=>aB.o k (Nat.zero_le _) hk);go_wp2_with fail
    go_ret;exact⟨⟨0,rfl,fun _=>HE.o,fun _=>rfl⟩,(Ex.refl _).drewN q⟩
   | succ k=>
    have aQ:((k+1:Nat):Int)-1=(k:Int):=ac;rw[aQ];have i1:(0:Int)<=(k:Int):=ac;have i2:(k:Int)<(n:Int):=ac;obtain⟨b,o,rfl,hc⟩:=S3.o ac;obtain⟨bb,oo,rfl,hd⟩:=T3.o ac;have c1:=((Ex.refl w2).drewN q).cell (hc k ac);have c2:=((Ex.refl w2).drewN q).cell (hd k ac);obtain⟨W,hW⟩:=nA (w2.drewN q);rw[hW]at c1 c2 ⊢;have aR:=Aa hW;have aM:=Aa (show Ex w2 W from by rw[<-hW];exact(Ex.refl _).drewN q);have HK:=Aa (show f k=g k->∀j,k<=j->j<n->f j=g j from fun e j h1 h2=>by
     by_cases e2:j=k
     .subst e2;exact e
     .exact aB.o j ac h2)
    have HN:=Aa (show f k≠g k->¬x=y from fun h e=>h ((aJ.o e).2 k ac));clear hW hc hd aB;obtain⟨p,hp⟩:=nA (f k);obtain⟨r,hr⟩:∃p,g k=p:=⟨_,rfl⟩;rw[hp,hr]at HK HN;rw[hp]at c1;rw[hr]at c2;clear hp hr;rcases Nat.lt_trichotomy p r with h|h|h
    .have HM:=Aa (HN.o ac);have h1:(p:Int)<(r:Int):=by omega
     have h2:decide ((p:Int)<(r:Int))=true:=decide_eq_true h1;clear h HN HK;go_wp2_with fail
     go_quiet (fail)
     go_wp2_with fail
     go_ret;exact⟨O4 ae HM.o,aM.o.drewN _⟩
    .subst h;have HM:=Aa (HK.o rfl);have h1:¬(p:Int)<(p:Int):=by omega
     have h2:decide ((p:Int)<(p:Int))=false:=decide_eq_false h1;clear HN HK;go_wp2_with fail
     go_quiet (fail)
     go_wp2_with fail
     obtain⟨W2,aA⟩:=nA (W.drewN nq);have aN:=Aa aA;have aC:=Aa (show Ex W W2 from by rw[<-aA];exact(Ex.refl _).drewN _);rw[aA];replace c1:=aC.o.cell c1;replace c2:=aC.o.cell c2;clear aA h1 h2;have h3:¬(p:Int)<(p:Int):=by omega
     have h4:decide ((p:Int)<(p:Int))=false:=decide_eq_false h3
     go_quiet (fail)
     go_wp2_with fail
     go_roundw
     case rel=>exact⟨k,_,ac,by go_num,by rw[<-aN.o,<-aR.o,World.drewN_drewN,World.drewN_drewN],HM⟩
     case measure=>simp[intOf]
    .have HM:=Aa (HN.o ac);have h1:¬(p:Int)<(r:Int):=by omega
     have h2:decide ((p:Int)<(r:Int))=false:=decide_eq_false h1;have aS:=Aa h;clear h HN HK;go_wp2_with fail
     go_quiet (fail)
     go_wp2_with fail
     obtain⟨W2,aA⟩:=nA (W.drewN nq);have aN:=Aa aA;have aC:=Aa (show Ex W W2 from by rw[<-aA];exact(Ex.refl _).drewN _);rw[aA];replace c1:=aC.o.cell c1;replace c2:=aC.o.cell c2;clear aA h1 h2;have h3:(r:Int)<(p:Int):=by have:=aS.o;omega
     have h4:decide ((r:Int)<(p:Int))=true:=decide_eq_true h3
     go_quiet (fail)
     go_wp2_with fail
     go_ret;exact⟨O4 ae HM.o,(aM.o.trans aC.o).drewN _⟩
 .have HN:=Aa (show ¬x=y from fun e=>by have:=(aJ.o e).1;omega);have b1:((n:Int) !=(m:Int))=true:=by simp;omega
  have b2:¬(n:Int)<(m:Int):=ac;go_wp2_with fail
  go_ret;exact⟨O4 ae HN.o,Ex.refl _⟩
theorem ZO{n:Nat}{f:Nat->Nat}(h1:1<=n)(h2:n<=64)(hf:AY n f):MN (li n f)=(li n (AS n f),0):=by
 unfold MN;rw[G6 h1 h2 hf,if_neg ae,F8 hf,BB]
theorem rows3{w:World}{l1 l2 l3:List Int}{u1 u2 u3:Value}(h1:Aj w u1 l1)(h2:Aj w u2 l2)(h3:Aj w u3 l3):∀(i:Nat) (r:List Int) (u:Value), [l1,l2,l3][i]?=some r-> [u1,u2,u3][i]?=some u->Aj w u r:=fun i r u a b=>by
 match i,a,b with
 | 0,a,b=>simp at a b;subst a b;exact h1
 | 1,a,b=>simp at a b;subst a b;exact h2
 | 2,a,b=>simp at a b;subst a b;exact h3
 | i+3,a,b=>simp at a
theorem Sq{n:Nat}{f g h:Nat->Nat}(h1:1<=n)(h2:n<=64)(hf:AY n f)(hg:AY n g)(hh:AY n h):IW [li n f,li n g,li n h]=(li n (Ak (Ak f g) h),0):=by
 have ha:J9 ((([li n f,li n g,li n h]:List (List Int)).getD 0 []).length:Nat) [li n f,li n g,li n h]=0:=by
  have hl:(([li n f,li n g,li n h]:List (List Int)).getD 0 []).length=n:=BB n f;rw[hl];rw[Hg fun j s hs=>by
   match j,hs with
   | 0,hs=>simp at hs;subst hs;exact G6 h1 h2 hf
   | 1,hs=>simp at hs;subst hs;exact G6 h1 h2 hg
   | 2,hs=>simp at hs;subst hs;exact G6 h1 h2 hh
   | j+3,hs=>simp at hs]
  rw[if_neg];rintro⟨r,hr,h⟩;simp at hr;rcases hr with e|e|e <;> rw[e,BB]at h <;> exact h rfl
 unfold IW;rw[if_neg ag,if_neg (by rw[ha];simp)];have hl:(([li n f,li n g,li n h]:List (List Int)).getD 0 []).length=n:=BB n f;rw[hl];show(Re (Re (Re (VI n) (li n f)) (li n g)) (li n h),(0:Int))=_
 have hu:VI n=li n DA:=rfl;rw[hu,KH (DW n).lt,show Ak DA f=f from rfl,KH hf.lt,KH (hf.comp hg).lt]
section
variable {p m N k:Nat} {ml pl sl:List Int} {l:List (List Int)}
structure ConjL(p m N:Nat)(ml pl sl:List Int)(l M:List (List Int))(D:Nat):Prop where
 sm:Ek p m ml N M
 siz:El (DL p m ml N l)=El (DL p m ml N M)
 small:CE (El (DL p m ml N l))
 c1:Bb (D:Int) (DL p m ml N l)=0
 c2:Bb (D:Int) (DL p m ml N M)=0
 g1:(AE (DL p m ml N l)).length<=1000
 g2:(AE (DL p m ml N M)).length<=1000
 inv:MN (Hm p m ml pl sl)=(li D (AS D (Ic p m ml pl sl)),0)
 rnd:∀x∈AE (DL p m ml N l),∃y,IW [li D (AS D (Ic p m ml pl sl)),x,Hm p m ml pl sl]=(y,0)/\Em (D:Int) (DL p m ml N M) y=0/\J5 (D:Int) (DL p m ml N M) y=true
theorem con_law(h:Ek p m ml N l)(hd:N*(p^m-1)<=30)(hM:Bo p m ml pl sl 0 N)(hn:∀i,i<N->0<=pl.getD i 0)(hc:B6 p m ml=0){piv:List Nat}{a':Nat->Nat->Int}(aC:Hk p m ml N (E3 p m ml pl sl 0 N l l.length).length (An (E3 p m ml pl sl 0 N l l.length)) a' piv):
  ConjL p m N ml pl sl l (Au N piv.length a') (N*(p^m-1)):=by
 have hT:=Pv hM hn aC rfl;have hP:Fp p m ml N l (Au N piv.length a') (Ic p m ml pl sl):=⟨pl,sl,hT,rfl⟩;have h2:=h.img hc (by rw[Hd (Nat.le_refl _)];exact h.two.2.2.2) aC;have hW:=h.two.1;have aA:=CO hM;refine⟨h2,Y9 h h2 hP,?_,Mj h.d1 h.hd h.fnd_isP,Mj h2.d1 h2.hd h2.fnd_isP,L5 _ hd _,L5 _ hd _,?_,fun x hx=>?_⟩
 .have hL:(DL p m ml N l).length<=64:=by
   unfold DL B3;refine Nat.le_trans (List.length_filter_le _ _) ?_;rw[List.length_map,List.length_range];exact h.hd
  have:=KR (L:=DL p m ml N l) (fun q hq=>by
   unfold DL at hq;rw[DH]at hq;exact Nat.le_trans (Lx hq) h.hd) _ hL
  rwa[List.take_length]at this
 .rw[<-Jk hM];exact ZO h.d1 h.hd aA
 .unfold DL at hx;rw[DH,FK,List.mem_map]at hx;obtain⟨f,hf,rfl⟩:=hx;obtain⟨_,_,aD,_⟩:=Jj h.fnd_isP hf;have aB:=(h.gen f).1 aD;have hc:=hP.conj hW aB;refine⟨li (N*(p^m-1)) (Sp (N*(p^m-1)) (Ic p m ml pl sl) f),?_,N6 h2.d1 h2.hd h2.fnd_isP (hc.isP hW),(TH h2.d1 h2.hd h2.fnd_isP (hc.isP hW)).2 ((h2.gen _).2 hc)⟩;rw[<-Jk hM,Sq h.d1 h.hd aA.inv (aB.isP hW) aA];rfl
theorem con_pre(ho:BK p m ml N l 0)(hm:CL p m ml N pl sl 0=0)(hs:Smp ⟨p,m,ml,N,l⟩ k)(hk:k<=12)(hd:N*(p^m-1)<=64):
  Ek p m ml N l/\(Wm p m ml pl sl 0=0/\ptL p m ml pl sl 0=Hm p m ml pl sl/\CL p m ml N pl sl 0=0)/\
  ∀(piv:List Nat) (a':Nat->Nat->Int),Hk p m ml N (E3 p m ml pl sl 0 N l l.length).length (An (E3 p m ml pl sl 0 N l l.length)) a' piv->ConjL p m N ml pl sl l (Au N piv.length a') (N*(p^m-1)):=by
 have h:=VO ho hs hk hd;obtain⟨pn,mn,N',fn,e1,e2,e3,e4,hf,hc,hM⟩:=IG hm;obtain rfl:p=pn:=ac;obtain rfl:m=mn:=ac;obtain rfl:N=N':=ac;obtain rfl:fn=0:=ac;obtain⟨_,_,_,_,_,q6,_⟩:=Lr hm;have hn:∀i,i<N->0<=pl.getD i 0:=fun i hi=>(Dy q6 (i:=i) (by have:=hM.pll;omega)).1;have aC:N*(p^m-1)<=30:=by
  exact zby
 obtain⟨_,g2,g3,g4,_⟩:=ZF (pl:=pl) (sl:=sl) ho hm hs hk hd;exact⟨h,g4,fun piv a' aB=>con_law h aC hM hn ((BU _ _ _).2 (Eh ho).1) aB⟩
end
end Go.Proofs.YtehieobniamagaaGreat
