/- Walk of automorphism.Check (slices.IndexFunc and ContainsFunc by the templates of gen_finde.py). -/
import Derived.Test.YtehieobniamagaaGreatZi34
namespace Go.Proofs.YtehieobniamagaaGreat
open List renaming getElem?_eq_getElem→γ,range→ξ,getElem?_eq_some_iff→θ,mem_of_getElem?→ι,mem_range→κ,getD_eq_getElem?_getD→δ,getElem?_map→ϖ,getElem?_range→κz,getElem?_replicate→θj
open Nat renaming le_refl→ζ,mul_comm→γq,mul_add_div→θh,div_eq_of_lt→δn,add_zero→δp,zero_add→ύ,pow_pos→ϕ
open Go.RowKit
set_option linter.all false
set_option maxRecDepth 100000
set_option maxHeartbeats 8000000
theorem MK(w:World)(p0 p1:Value)(v:Value)(n:Nat)(us:List Value)(hv:Sl w v n 1 us)(pr:Nat->Bool)
  (hp:∀(w1:World) (i:Nat) (u:Value),Ex w w1->us[i]?=some u->Calls Tryz.prog 72 #[u,p0,p1] w1 fun e w'=>e= .returned (.bool (pr i))/\Ex w1 w'):
  Calls Tryz.prog 129 #[v,.func (.func 72) #[] #[p0,p1]] w fun r w'=>r= .returned (.int .i64 (CG pr n))/\Ex w w':=by
 obtain⟨hl,a,cap,rfl,s1,s2,s3⟩:=hv;rw[Nat.mul_one]at hl;have S3:=Aa s3;have HP:=Aa hp;have HL:=Aa hl;unfold maxLen at s2;clear s3 hp hl;go_enter Tryz.func129,Tryz.ntmps129
 go_wp2_with fail
 go_loopg [5,8] n (fun gg _ i' wr=>∃i:Nat,i<=n/\n-i<=gg/\i'= .int .i64 i/\Hia (Ex w wr)/\Hia (∀j,j<i->pr j=false))
 case atStart=>exact⟨0,ac,ac,rfl,Aa (Ex.refl _),Aa (fun j hj=>ac)⟩
 case round=>
  obtain⟨i,hi,hg,rfl,aB,aA⟩:=hrel;by_cases hlt:i<n
  .obtain⟨u,hu⟩:∃u,us[i]?=some u:=⟨_,γ bc⟩;obtain⟨bb,o,rfl,hc⟩:=S3.o ac;have c1:=aB.o.cell (hc i u hu);have HC:=Aa (HP.o wr i u aB.o hu);have hlt':(i:Int)<(n:Int):=by omega
   clear hc hu
   cases hb:pr i with
   | true=>
    rw[hb]at HC;have HF:=Aa (CO hlt hb aA.o);clear hb;go_wp2_with (go_at_call 72;refine HC.o.mono ?_;rintro e w'⟨rfl,hx⟩;have HX:=Aa (aB.o.trans hx);clear hx)
    exact zdl
   | false=>
    rw[hb]at HC;have HA:Hia (∀j,j<i+1->pr j=false):=Aa (fun j hj=>by
     by_cases e:j=i
     .subst e;exact hb
     .exact aA.o j ac)
    clear hb;go_wp2_with (go_at_call 72;refine HC.o.mono ?_;rintro e w'⟨rfl,hx⟩;have HX:=Aa (aB.o.trans hx);clear hx)
    exact zb4
  .exact zaK
theorem Jz(w:World)(p0 p1:Value)(v:Value)(n:Nat)(us:List Value)(hv:Sl w v n 1 us)(pr:Nat->Bool)
  (hp:∀(w1:World) (i:Nat) (u:Value),Ex w w1->us[i]?=some u->Calls Tryz.prog 72 #[u,p0,p1] w1 fun e w'=>e= .returned (.bool (pr i))/\Ex w1 w'):
  Calls Tryz.prog 71 #[v,.func (.func 72) #[] #[p0,p1]] w fun r w'=>r= .returned (.bool ((ξ n).any pr))/\Ex w w':=by
 have HC:=Aa (MK w p0 p1 v n us hv pr hp);have HB:=Aa (Eh pr n);obtain⟨z,hz⟩:=nA (CG pr n);rw[hz]at HC HB;clear hz hp hv;go_enter Tryz.func71,Tryz.ntmps71
 go_wp2_with (go_at_call 129;refine HC.o.mono ?_;rintro e w'⟨rfl,hx⟩;have HX:=Aa hx;clear hx)
 go_ret;exact⟨Aq HB.o.symm,HX.o⟩
section
variable {b p m x0 N:Nat} {ml:List Int} {rows:List (List Int)}
theorem chk_clo(w:World)(hg:Bh w b p m ml x0)(aD:1<=N)(hN:N<=64)(hd:N*(p^m-1)<=64)(ho:Bw p m ml N rows 0)(m1 v1:Value)(hc:(⟨p,m,ml,N,rows⟩:AX).at w m1 v1)(P:List Int)(pv:Value)(hp:Ak w pv P)(aA:P.length=N*(p^m-1))(aB:∀x∈P,0<=x/\x<(P.length:Int))
  (GB CB:Nat) (g0:w.cell? (GB,0)=some (.pointer (some (b,0)))) (c0:w.cell? (CB,0)=some (.int .i64 p)) (c1:w.cell? (CB,1)=some (.int .i64 m)) (c2:w.cell? (CB,2)=some m1) (c3:w.cell? (CB,3)=some (.int .i64 N)) (c4:w.cell? (CB,4)=some v1):
  Calls Tryz.prog 72 #[pv,(GB,0),(CB,0)] w fun r w'=>r= .returned (.bool (!Gd p m ml N rows P))/\Ex w w':=by
 have HM:=Aa (RZ w hg aD hN hd ho m1 v1 hc P pv hp aA aB);unfold AX.arg at HM;dsimp only at HM;obtain⟨x1,y1,rfl,-,-,-⟩:=hc.g.open;obtain⟨x3,y3,rfl,-,-,-⟩:=hc.m.open;obtain⟨x5,y5,rfl,-,-,-⟩:=hp.open;obtain⟨MB,aC⟩:∃x,Gd p m ml N rows P=x:=⟨_,rfl⟩;rw[aC]at HM ⊢;clear aC hg hc hp ho aA aB hd;go_enter Tryz.func72,Tryz.ntmps72
 go_wp2_with (go_at_call 73;refine HM.o.mono ?_;rintro e w'⟨rfl,hx⟩;have HX:=Aa hx;clear hx)
 go_ret;exact⟨rfl,HX.o⟩
end
open Classical in
noncomputable def WX (c:AX) (L:List Lv):Bool:=decide (∀l∈L,∀r∈l.reps,Gd c.p.toNat c.m.toNat c.ml c.n.toNat c.rows r=true)
theorem P8{c:AX}{L:List Lv}:WX c L=true↔∀l∈L,∀r∈l.reps,Gd c.p.toNat c.m.toNat c.ml c.n.toNat c.rows r=true:=by
 unfold WX;simp only[decide_eq_true_eq]
def YC(c:AX)(dg:Int)(L:List Lv)(xs:List GZ):Prop:=Bq dg L=0/\dg=Ff c/\WX c L=true/\Lw c (c.p.toNat^c.m.toNat) L (AG c) xs=true
def Yx(c:AX)(dg:Int)(L:List Lv)(xs:List GZ)(r:Ending)(w':World):Prop:=∃e0:Int,Bw c.p c.m c.ml c.n c.rows e0/\
 ((IS c e0≠0/\r= .returned (.tuple #[(),.int .i64 (IS c e0)]))∨
 (IS c e0=0/\¬YC c dg L xs/\r= .returned (.tuple #[(),(13:Int)]))∨
 (IS c e0=0/\YC c dg L xs/\∃v,r= .returned (.tuple #[v,Ω])/\Hk w' v (EN L)))
theorem zbD{P:Prop}(h:P:=by
 go_wp2_with fail
 exact bodyPost_ret (v:= .tuple #[(),(13:Int)]) (by simp[results,Tryz.results29,go_sem]) rfl ⟨aQ.o _ _ (HR.o _),aH.o⟩):P:=h
theorem zbI{P:Prop}(h:P:=by
 exact bodyPost_ret (v:= .tuple #[(),(13:Int)]) (by simp[results,Tryz.results29,go_sem]) rfl ⟨aQ.o _ _ (HR.o _),aP.o⟩):P:=h
theorem Rh(w:World)(c:AX)(m1 v1:Value)(hc:c.at w m1 v1)(dg:Int)(L:List Lv)(lv:Value)(hL:ER w lv L)(cP:(Bn L).length<=1000)(xs:List GZ)(rv:Value)(hx:Mh w rv xs):
  Calls Tryz.prog 29 #[c.arg m1 v1,.agg #[dg,lv,rv]] w fun r w'=>Yx c dg L xs r w'/\Ex w w':=by
 obtain⟨c0,c1,c2,c3,c4⟩:=C8 w c m1 v1;have cH:=AF w (c.obj m1 v1);have cK:(w.alloc (c.obj m1 v1)).heap.size=w.heap.size+1:=ag;have aA:=AF (w.alloc (c.obj m1 v1)) (.cells #[dg,lv,rv] 53);have s0:((w.alloc (c.obj m1 v1)).alloc (.cells #[dg,lv,rv] 53)).cell? ((w.alloc (c.obj m1 v1)).heap.size,0)=some (.int .i64 dg):=ag;have s1:((w.alloc (c.obj m1 v1)).alloc (.cells #[dg,lv,rv] 53)).cell? ((w.alloc (c.obj m1 v1)).heap.size,1)=some lv:=ag;have s2:((w.alloc (c.obj m1 v1)).alloc (.cells #[dg,lv,rv] 53)).cell? ((w.alloc (c.obj m1 v1)).heap.size,2)=some rv:=ag;rw[cK]at s0 s1 s2;have aN:=Aa (cH.trans aA);have bG:=Aa (hc.ex aN.o);have HL:=Aa (hL.ex aN.o);have HX:=Aa (hx.ex aN.o);have aR:=Aa (K4 _ c m1 v1 bG.o);obtain⟨x1,y1,cJ,-,z1,-⟩:=hc.g.open;obtain⟨x3,y3,cI,-,z3,-⟩:=hc.m.open;obtain⟨la,lc,dI,-,zl,-⟩:=hL.open3;obtain⟨ra,rc,dF,-,zr,-⟩:=hx.open;unfold maxLen at z1 z3 zl zr;obtain⟨B,hB⟩:=nA w.heap.size;rw[hB]at c0 c1 c2 c3 c4 s0 s1 s2;replace c0:=aA.cell c0;replace c1:=aA.cell c1;replace c2:=aA.cell c2;replace c3:=aA.cell c3;replace c4:=aA.cell c4;obtain⟨C,hC⟩:∃C:AX,C=c:=⟨_,rfl⟩;have aO:=Aa hC;have aQ:Hia (∀r w',Yx C dg L xs r w'->Yx c dg L xs r w'):=Aa (fun r w' h=>by rw[<-hC];exact h);obtain⟨cp,cm,aB,cn,aC⟩:=c;unfold AX.arg at aR ⊢;unfold AX.obj at aN bG HL HX aR c0 c1 c2 c3 c4 s0 s1 s2;dsimp only at aN bG HL HX aR c0 c1 c2 c3 c4 s0 s1 s2 cJ cI ⊢;rw[<-hC]at aR;subst cJ cI dI dF;clear hc cH aA hL hx cK hC;have cZ:=Aa cP;clear cP;go_enter Tryz.func29,Tryz.ntmps29
 go_upto_region 1 with fail
 have aW:(w.alloc (.cells #[cp,cm,(x3,aB.length,y3),cn,(x1,aC.length,y1)] 39)).heap.size=B+1:=by simp[hB]
 try simp only[aW]
 try simp only[hB]
 clear hB aW;generalize (w.alloc (.cells #[cp,cm,(x3,aB.length,y3),cn,(x1,aC.length,y1)] 39)).alloc (.cells #[dg,.slice la L.length lc,(ra,xs.length,rc)] 53)=w1 at *;go_wp2_with fail
 refine aR.o.mono ?_;rintro e w2⟨⟨e0,cQ,ho⟩,aA⟩;have bB:=Aa aA;have bL:=Aa cQ;replace c0:=aA.cell c0;replace c1:=aA.cell c1;replace c2:=aA.cell c2;replace c3:=aA.cell c3;replace c4:=aA.cell c4;replace s0:=aA.cell s0;replace s1:=aA.cell s1;replace s2:=aA.cell s2;clear aA cQ aR;obtain⟨OE,aM⟩:∃x,IS C e0=x:=⟨_,rfl⟩;rw[aM]at ho;have bK:=Aa aM;rcases ho with⟨h0,ptr,d,rfl⟩|⟨h0,pn,mn,N,b,x0,hp,hm,hn,hN1,hN64,hD,rfl,hg,hx1,aA⟩
 .have hb:(OE !=0)=true:=by simpa using h0
  have H0:=Aa h0;have aP:=Aa (fun o=>aN.o.trans (bB.o.trans (AF w2 o)));clear h0 aM;go_wp2_with fail
  exact bodyPost_ret (v:= .tuple #[(),OE]) (by simp[results,Tryz.results29,go_sem]) rfl ⟨aQ.o _ _ ⟨e0,bL.o,.inl ⟨by rw[bK.o];exact H0.o,by rw[bK.o]⟩⟩,aP.o _⟩
 .subst h0;have dX:Hia (e0=0):=Aa (by
   unfold IS at aM;split at aM
   .exact aM
   .omega)
  have dL:cn=(N:Int):=by have:=aO.o;rw[this]at hn;exact hn
  have dK:cp=(pn:Int):=by have:=aO.o;rw[this]at hp;exact hp
  have dM:cm=(mn:Int):=by have:=aO.o;rw[this]at hm;exact hm
  subst dL dK dM;obtain⟨cU,dB,dV,cV⟩:=Of (show Bw pn mn aB N aC 0 from by have h1:=bL.o;rw[aO.o,dX.o]at h1;exact h1) (show(Ff C:Int)=((N*(pn^mn-1):Nat):Int) from by unfold Ff;rw[hp,hm,hn];rfl) (show AG C=Dw N (pn^mn) from by unfold AG;rw[hp,hm,hn];rfl) (show(∀l∈L,∀r∈l.reps,Gd pn mn aB N aC r=true)↔WX C L=true from by rw[P8,aO.o];exact Iff.rfl);obtain⟨dA,aK,cE,HG,HN,bF,bY,dW,aD⟩:=Ha0 (show Lw C (C.p.toNat^C.m.toNat) L (AG C) xs=Lw ⟨pn,mn,aB,N,aC⟩ (pn^mn) L (Dw N (pn^mn)) xs from by rw[dV.o,aO.o];first|done|rfl) (show ¬YC C dg L xs->∀(w':World),Yx C dg L xs (.returned (.tuple #[(),(13:Int)])) w' from fun h w'=>⟨e0,bL.o,.inr (.inl ⟨bK.o,h,rfl⟩)⟩) (show YC C dg L xs->∀(w':World) (v:Value),Hk w' v (EN L)->Yx C dg L xs (.returned (.tuple #[v,Ω])) w' from fun h w' v hv=>⟨e0,bL.o,.inr (.inr ⟨bK.o,h,v,rfl,hv⟩)⟩) (show Bh w2 b pn mn aB x0 from by have h:=hg;rw[aO.o]at h;exact h) (show 1<=N/\N<=64/\N*(pn^mn-1)<=64 from⟨hN1,hN64,hD⟩) (bG.o.ex bB.o) (HL.o.ex bB.o) (HX.o.ex bB.o) (AF w2 (.cells #[(b,0)] 97));have g0:(w2.alloc (.cells #[(b,0)] 97)).cell? (w2.heap.size,0)=some (.pointer (some (b,0))):=by simp
  obtain⟨GB,bT⟩:∃x,w2.heap.size=x:=⟨_,rfl⟩;rw[bT]at g0;obtain⟨D,bU⟩:=nA (N*(pn^mn-1));have bZ:=Aa bU;rw[bU];clear hp hm hn hN1 hN64 hD hg hx1 aA aM bU bG HL HX;go_upto_region 2 with fail
  try simp only[bT]
  clear bT;generalize w2.alloc (.cells #[(b,0)] 97)=w3 at *;replace c0:=aD.o.cell c0;replace c1:=aD.o.cell c1;replace c2:=aD.o.cell c2;replace c3:=aD.o.cell c3;replace c4:=aD.o.cell c4;replace s0:=aD.o.cell s0;replace s1:=aD.o.cell s1;replace s2:=aD.o.cell s2;have aJ:=Aa (aN.o.trans (bB.o.trans aD.o));have cX:=Aa (bY.o.ex aD.o);have cA:=Aa (fun (w5:World) (h5:Ex w3 w5)=>(⟨h5.cell c0,h5.cell c1,h5.cell c2,h5.cell c3,h5.cell c4,h5.cell s0,h5.cell s1,h5.cell s2,h5.cell g0⟩:w5.cell? (B,0)=some (.int .i64 pn)/\w5.cell? (B,1)=some (.int .i64 mn)/\w5.cell? (B,2)=some (.slice x3 aB.length y3)/\w5.cell? (B,3)=some (.int .i64 N)/\w5.cell? (B,4)=some (.slice x1 aC.length y1)/\w5.cell? (B+1,0)=some (.int .i64 dg)/\w5.cell? (B+1,1)=some (.slice la L.length lc)/\w5.cell? (B+1,2)=some (.slice ra xs.length rc)/\w5.cell? (GB,0)=some (.pointer (some (b,0)))));have bM:=Aa (GK w3 dg L _ cX.o cZ.o);obtain⟨KK,bS⟩:∃x,Bq dg L=x:=⟨_,rfl⟩;rw[bS]at bM;have bD:=Aa bS;clear bS;by_cases hk:KK=0
  rotate_left
  .have hb:(KK !=0)=true:=by simpa using hk
   have HR:=Aa (aK.o fun h=>hk (bD.o.symm.trans h.1));clear hk;go_wp2_with fail
   refine bM.o.mono ?_;rintro e w5⟨rfl,aG⟩;have aH:=Aa (aJ.o.trans aG);clear aG c0 c1 c2 c3 c4 s0 s1 s2 g0;exact zbD
  .subst hk;by_cases hdg:dg=(D:Int)
   rotate_left
   .have hb:(dg !=(D:Int))=true:=by simpa using hdg
    have HR:=Aa (aK.o fun h=>hdg (h.2.1.trans (by rw[dB.o,bZ.o])));clear hdg;go_wp2_with fail
    refine bM.o.mono ?_;rintro e w5⟨rfl,aG⟩;have aH:=Aa (aJ.o.trans aG);replace s0:=aG.cell s0;clear aG c0 c1 c2 c3 c4 s1 s2 g0;exact zbD
   .subst hdg;have dR:Hia (∀l∈L,∀r∈l.reps,r.length=N*(pn^mn-1)/\∀x∈r,0<=x/\x<(r.length:Int)):=Aa (fun l hl r hr=>by
     have h1:Bq (D:Int) L=0:=bD.o;unfold Bq at h1;split at h1
     .cases h1
     .split at h1
      .rename_i h2 h3;obtain⟨N',h4,-,-,S,h5,h6⟩:=Kh h3.1;have h7:r∈Bn L:=by unfold Bn;exact List.mem_flatMap.2 ⟨l,hl,hr⟩
       rw[h5]at h7;obtain⟨f,hf,rfl⟩:=List.mem_map.1 h7;have h8:(li N' f).length=N':=Fb _ _;refine⟨by rw[h8,bZ.o];omega,fun x hx=>?_⟩;rw[h8];obtain⟨i,hi⟩:=List.mem_iff_getElem?.1 hx;have h9:i<N':=by have:=(θ.1 hi).1;rw[h8]at this;exact this
       rw[DU h9]at hi;injection hi with hi;have:=(h6 f hf).lt i h9;omega
      .cases h1)
    go_upto_region 6 with (go_at_call 70;refine bM.o.mono ?_;rintro e w5⟨rfl,aG⟩;have aH:=Aa aG;replace s0:=aG.cell s0;clear aG)
    clear c0 c1 c2 c3 c4 s0 s1 s2 g0;obtain⟨LL,bH⟩:∃n,L.length=n:=⟨_,rfl⟩;have bC:=Aa bH;obtain⟨la2,lc2,cL,dD,dC,cF⟩:=(cX.o.ex aH.o).open3;have dJ:la=la2:=by injection cL
    subst dJ;have Z3:Hia (0<LL->_):=Aa (fun h=>cF (by rw[bH];exact h));have dT:Hia (LL<=1048576):=Aa (by
     have h1:Bq (D:Int) L=0:=bD.o;obtain⟨n,e1,h2,h3,S,h4,h5,h6⟩:=Uk h1;rw[<-bH,h6,List.length_map];unfold JT;exact Nat.le_trans (List.length_filter_le _ _) (by rw[List.length_range];omega))
    obtain⟨c0,c1,c2,c3,c4,s0,s1,s2,g0⟩:=cA.o w5 aH.o;have H0:Hia (∀l∈L.take 0,∀r∈l.reps,Gd pn mn aB N aC r=true):=Aa (fun l hl=>by simp at hl);clear cL dD dC cF bH;go_upto_region 7 with fail
    simp only[bC.o];clear c0 c1 c2 c3 c4 s0 s1 s2 g0
    go_loopw [35] (fun k' wr=>∃k:Nat,k<=LL/\k'= .int .i64 k/\Hia (Ex w5 wr)/\Hia (∀l∈L.take k,∀r∈l.reps,Gd pn mn aB N aC r=true)) (fun k' _=>LL-(intOf k').toNat)
    case atStart=>exact⟨0,ac,rfl,Aa (Ex.refl _),H0⟩
    case round=>
     clear H0;obtain⟨k,hk,rfl,aF,aI⟩:=hrel;by_cases hkl:k<LL
     .obtain⟨eb,eo,rfl,cR⟩:=Z3.o ac;obtain⟨l,hl⟩:∃l,L[k]?=some l:=⟨_,γ (by rw[bC.o];exact hkl)⟩;obtain⟨ou,orr,d0,d1,d2,k4,k5⟩:=cR k l hl;obtain⟨oa,oc,rfl,-,-,-⟩:=k4.open;clear k4;replace d0:=aF.o.cell d0;replace d1:=aF.o.cell d1;replace d2:=aF.o.cell d2;obtain⟨cW,dU,cY,dQ⟩:=Of (ι hl) hl hkl (k5.ex aF.o);obtain⟨qa,qc,rfl,-,-,-⟩:=k5.open;have i1:(0:Int)<=(k:Int):=by omega
      have i2:(k:Int)<(LL:Int):=ac;have hk64:k<=1048576:=by have:=dT.o;omega
      have bI:=Aa aF.o;have cD:=Aa aI.o;clear cR hl hkl k5 aF aI;go_upto_region 9 with fail
      have bx:∀x:Nat,wr.heap.size=x->(wr.alloc (.cells #[.int .i64 l.pt,.slice oa l.orb.length oc,.slice qa l.reps.length qc] 90)).cell? ⟨x,2,none⟩=some (.slice qa l.reps.length qc):=fun x h=>by subst h;simp
      obtain⟨XB,bR⟩:∃x,wr.heap.size=x:=⟨_,rfl⟩;have x2':=bx XB bR;have bJ:=Aa (AF wr (.cells #[.int .i64 l.pt,.slice oa l.orb.length oc,.slice qa l.reps.length qc] 90))
      try simp only[bR]
      clear bR d0 d1 d2 i1 i2 bx;generalize wr.alloc (.cells #[.int .i64 l.pt,.slice oa l.orb.length oc,.slice qa l.reps.length qc] 90)=w6 at *;have bA:=Aa (aH.o.trans (bI.o.trans bJ.o));obtain⟨pr,cM⟩:∃pr:Nat->Bool,∀(j:Nat) (r:List Int),l.reps[j]?=some r->pr j=!Gd pn mn aB N aC r:=⟨fun j=>match l.reps[j]? with|some r=> !Gd pn mn aB N aC r|none=>false,fun j r h=>by simp[h]⟩;have bX:=Aa cM;obtain⟨vals,bO,cG⟩:=dQ.o.ex bJ.o;have cB:=Aa (Jz w6 (.pointer (some (GB,0))) (.pointer (some (B,0))) (.slice qa l.reps.length qc) l.reps.length vals bO pr (fun w7 i u h7 hu=>by
       have hil:i<l.reps.length:=by
        have h1:=(θ.1 hu).1;have h2:=bO.1;omega
       have bP:l.reps[i]?=some (l.reps[i]'hil):=γ _;rw[bX.o i _ bP];obtain⟨c0,c1,c2,c3,c4,-,-,-,g0⟩:=cA.o w7 (bA.o.trans h7);obtain⟨dH,dG⟩:=dR.o l cW.o _ (ι bP);have aU:=aD.o.trans (bA.o.trans h7);exact chk_clo w7 (HG.o.ex aU) HN.o.1 HN.o.2.1 HN.o.2.2 cU.o _ _ (bF.o.ex aU) _ u ((cG i _ u bP hu).ex h7) dH dG GB B g0 c0 c1 c2 c3 c4))
      obtain⟨AN,bV⟩:∃x,(ξ l.reps.length).any pr=x:=⟨_,rfl⟩;rw[bV]at cB;have bN:=Aa bV;clear cM bV bO cG;have aX:AN=true->¬(∀r∈l.reps,Gd pn mn aB N aC r=true):=fun h dN=>by
       rw[h]at bN;obtain⟨j,hj,hp⟩:=List.any_eq_true.1 bN.o;have cO:=κ.1 hj;rw[bX.o j _ (γ cO),dN _ (List.getElem_mem cO)]at hp;cases hp
      have aL:AN=false->∀r∈l.reps,Gd pn mn aB N aC r=true:=fun h r hr=>by
       rw[h]at bN;obtain⟨j,hj,rfl⟩:=List.getElem_of_mem hr;have h1:=List.any_eq_false.1 bN.o j (κ.2 hj);rw[bX.o j _ (γ hj)]at h1;simpa using h1
      have cC:=Aa aX;have bE:=Aa aL;clear aX aL
      cases AN with
      | true=>
       have HR:=Aa (aK.o fun h=>cC.o rfl (cV.o.2 h.2.2.1 l cW.o));go_wp2_with (go_at_call 71;refine cB.o.mono ?_;rintro e w8⟨rfl,aT⟩;have bW:=Aa (bI.o.trans (bJ.o.trans aT));clear aT)
       have aP:=Aa (aJ.o.trans (aH.o.trans bW.o));exact zbI
      | false=>
       have dS:Hia (∀l∈L.take (k+1),∀r∈l.reps,Gd pn mn aB N aC r=true):=Aa (fun l' cN r hr=>by
        rw[List.take_add_one,dU.o]at cN;rcases List.mem_append.1 cN with h|h
        .exact cD.o l' h r hr
        .simp at h;subst h;exact bE.o rfl r hr)
       go_wp2_with (go_at_call 71;refine cB.o.mono ?_;rintro e w8⟨rfl,aT⟩;have bW:=Aa (bI.o.trans (bJ.o.trans aT));clear aT)
       go_roundw
       case rel=>exact⟨k+1,by have:=cY.o;omega,by go_num,bW,dS⟩
       case measure=>have:=cY.o;simp[intOf];omega
     .obtain rfl:LL=k:=by omega
      obtain⟨HM,bI,aZ,aE⟩:=Of (cV.o.1 (by have h:=aI.o;rwa[List.take_of_length_le (by rw[bC.o];exact ζ _)]at h)) aF.o (aH.o.trans aF.o) (aD.o.trans (aH.o.trans aF.o));clear aF aI hkl;obtain⟨c0,c1,c2,c3,c4,s0,s1,s2,g0⟩:=cA.o wr aZ.o;have aY:=Aa (OM wr (HG.o.ex aE.o) HN.o.1 HN.o.2.1 HN.o.2.2 cU.o _ _ (bF.o.ex aE.o) (D:Int) L _ (bY.o.ex aE.o) xs _ (dW.o.ex aE.o));unfold AX.arg at aY;dsimp only at aY;obtain⟨XK,bQ⟩:∃x,Lw ⟨pn,mn,aB,N,aC⟩ (pn^mn) L (Dw N (pn^mn)) xs=x:=⟨_,rfl⟩;rw[bQ]at aY;rw[bC.o]at aY s1;have cS:=Aa bQ;clear bQ;go_wp2_with fail
      refine aY.o.mono ?_;rintro e w9⟨rfl,aS⟩;have dP:=Aa aS;replace s0:=aS.cell s0;replace s1:=aS.cell s1;have aP:=Aa (aJ.o.trans (aZ.o.trans aS));clear aS c0 c1 c2 c3 c4 s2 g0
      cases XK with
      | false=>
       have HR:=Aa (aK.o fun h=>by have h1:=h.2.2.2;rw[dA.o,cS.o]at h1;cases h1);go_wp2_with fail
       exact zbI
      | true=>
       have HA:=Aa (cE.o ⟨bD.o,by rw[dB.o,bZ.o],HM.o,by rw[dA.o,cS.o]⟩);have cT:=Aa (L9 w9 (D:Int) L _ (bY.o.ex (aE.o.trans dP.o)) cZ.o);rw[bC.o]at cT;go_wp2_with fail
       refine cT.o.mono ?_;rintro e w10⟨dE,aV⟩;rcases dE with⟨h1,-⟩|⟨-,v,rfl,hv⟩
       .exact absurd bD.o h1
       .have HV:=Aa hv;have dO:=Aa (aP.o.trans aV);clear hv aV s0 s1;go_wp2_with fail
        exact bodyPost_ret (v:= .tuple #[v,Ω]) (by simp[results,Tryz.results29,go_sem]) rfl ⟨aQ.o _ _ (HA.o _ _ HV.o),dO.o⟩
def G6(p m:Nat)(ml pl sl:List Int):Nat->Nat:=Dr (J8 p m ml pl sl)
theorem Fm{N Q k:Nat}(hk:k<N*Q):∃i c,i<N/\c<Q/\k=i*Q+c:=by
 have hQ:0<Q:=by
  apply Nat.pos_of_ne_zero;intro e;rw[e,Nat.mul_zero]at hk;omega
 refine⟨k/Q,k%Q,Nat.div_lt_of_lt_mul (by rw[γq];exact hk),Nat.mod_lt _ hQ,?_⟩;rw[γq];exact(Nat.div_add_mod k Q).symm
theorem WA{N Q i c:Nat}(hi:i<N)(hc:c<Q):i*Q+c<N*Q:=by
 have:=Nat.mul_le_mul_right Q (show i+1<=N from hi);rw[Nat.succ_mul]at this;omega
theorem RH{Q i j c d:Nat}(hc:c<Q)(hd:d<Q)(h:i*Q+c=j*Q+d):i=j/\c=d:=by
 have h1:=congrArg (·/ Q) h;simp only[γq _ Q]at h1;rw[θh ac,θh ac,δn hc,δn hd,δp,δp]at h1;subst h1;exact⟨rfl,ac⟩
section
variable {p m N:Nat} {ml pl sl ql tl:List Int}
theorem DS(h:Bv p m ml pl sl 0 N){i c:Nat}(hi:i<N)(hc:c<p^m-1):∃z:Nat,sl.getD i 0=z/\1<=z/\z<p^m/\1<=Am p m (lw ml) z (c+1)/\Am p m (lw ml) z (c+1)<p^m/\G6 p m ml pl sl (i*(p^m-1)+c)=BJ pl i*(p^m-1)+(Am p m (lw ml) z (c+1)-1):=by
 obtain⟨z,hz,h1,h2⟩:=h.sc i hi;have k1:=h.hF.ne_zero h.hp h.hm h1 h2 (show 1<=c+1 by omega) (show c+1<p^m by omega);have k2:=A7 (p:=p) (m:=m) (low:=lw ml) (by have:=h.hp;omega) z (c+1);have aA:=WA hi hc;refine⟨z,hz,h1,h2,k1,k2,?_⟩;unfold G6 Dr J8;rw[Ao,h.pll,if_pos aA,δ,AT aA];show(Pi p m ml pl sl (i*(p^m-1)+c)).toNat=_
 unfold Pi;have hQ:0<p^m-1:=ac;rw[γq i,θh hQ,Nat.mul_add_mod,δn hc,Nat.mod_eq_of_lt hc,δp,hz,AE h2];omega
theorem Zv(h:Bv p m ml pl sl 0 N){k:Nat}(hk:N*(p^m-1)<=k):G6 p m ml pl sl k=k:=by
 unfold G6 Dr J8;rw[Ao,h.pll,if_neg ac]
theorem DZ(h:Bv p m ml pl sl 0 N):Bo (N*(p^m-1)) (G6 p m ml pl sl):=by
 refine Bo.of_inj (fun k hk=>?_) (fun k hk=>Zv h hk) fun a b ha hb e=>?_
 .obtain⟨i,c,hi,hc,rfl⟩:=Fm hk;obtain⟨z,hz,h1,h2,h3,h4,h5⟩:=DS h hi hc;rw[h5];exact WA (h.inj.lt i hi) ac
 .obtain⟨i,c,hi,hc,rfl⟩:=Fm ha;obtain⟨j,d,hj,hd,rfl⟩:=Fm hb;obtain⟨z,hz,h1,h2,h3,h4,h5⟩:=DS h hi hc;obtain⟨y,hy,g1,g2,g3,g4,g5⟩:=DS h hj hd;rw[h5,g5]at e;obtain⟨e1,e2⟩:=RH ac ac e;obtain rfl:=h.inj.inj i j hi hj e1;have aA:z=y:=by rw[hz]at hy;exact_mod_cast hy
  subst aA;have e3:Am p m (lw ml) (c+1) z=Am p m (lw ml) (d+1) z:=by rw[AY (c+1),AY (d+1)];omega
  have:=h.hF.cancel h.hp h.hm h1 h2 (show c+1<p^m by omega) (show d+1<p^m by omega) e3;omega
theorem RI(h:Bv p m ml pl sl 0 N):li (N*(p^m-1)) (G6 p m ml pl sl)=J8 p m ml pl sl:=by
 unfold li;have hl:(J8 p m ml pl sl).length=N*(p^m-1):=by unfold J8;rw[Ao,h.pll]
 refine Sc hl fun k hk=>?_;have hP:=(DZ h);unfold G6 Dr;rw[hl,if_pos hk];have:(J8 p m ml pl sl).getD k 0=Pi p m ml pl sl k:=by
  unfold J8;rw[h.pll,δ,AT hk];rfl
 rw[this];obtain⟨z,z1,z2,z3,zi,zp,zf⟩:=U2 h hk;rw[zf];omega
theorem Zy(h:Bv p m ml pl sl 0 N)(k:Bv p m ml ql tl 0 N):G6 p m ml (il N (cP pl ql)) (il N (cS p m ml pl sl tl 0))=Ap (G6 p m ml pl sl) (G6 p m ml ql tl):=by
 have hc:Bv p m ml (il N (cP pl ql)) (il N (cS p m ml pl sl tl 0)) 0 N:=by
  have:=Yg h k
  rwa[show(0+0)%m=0 from ag]at this
 refine Iv (n:=N*(p^m-1)) (DZ hc) ((DZ h).comp (DZ k)) fun x hx=>?_;obtain⟨i,c,hi,aA,rfl⟩:=Fm hx;obtain⟨z,hz,h1,h2,h3,h4,h5⟩:=DS h hi aA;obtain⟨y,hy,g1,g2,g3,g4,g5⟩:=DS k (h.inj.lt i hi) (show Am p m (lw ml) z (c+1)-1<p^m-1 by omega);obtain⟨x,hx,f1,f2,f3,f4,f5⟩:=DS hc hi aA;show _=G6 p m ml ql tl (G6 p m ml pl sl (i*(p^m-1)+c))
 rw[h5,g5,f5,LR h hi];rw[CZ hi]at hx;unfold cS at hx;rw[hz,hy,AE h2,AE g2]at hx;have aB:x=Am p m (lw ml) y z:=by exact_mod_cast hx.symm
 rw[aB,show Am p m (lw ml) z (c+1)-1+1=Am p m (lw ml) z (c+1) from ac,Bt (by have:=h.hp;omega)]
theorem Ik(h:Bv p m ml pl sl 0 N)(hn:∀i,i<N->0<=pl.getD i 0){i:Nat}(hi:i<=N):AU (i*(p^m-1)) (G6 p m ml pl sl)↔∀k,k<i->pl.getD k 0=(k:Int)/\sl.getD k 0=1:=by
 constructor
 .intro hf k hk;obtain⟨z,hz,h1,h2⟩:=h.sc k ac;have hQ:0<p^m-1:=by omega
  obtain⟨z',aA,_,_,h3,h4,h5⟩:=DS h (show k<N by omega) hQ;have aB:z'=z:=by rw[hz]at aA;exact_mod_cast aA.symm
  subst aB;have:=hf (k*(p^m-1)+0) (WA hk hQ);rw[h5]at this;obtain⟨e1,e2⟩:=RH ac hQ this;rw[ύ,BD h.hp h.hm h2]at e2 h3;have:=hn k ac;unfold BJ at e1;exact⟨ac,by rw[hz];omega⟩
 .intro hf k hk;obtain⟨j,c,hj,hc,rfl⟩:=Fm hk;obtain⟨z,hz,h1,h2,h3,h4,h5⟩:=DS h (show j<N by omega) hc;obtain⟨e1,e2⟩:=hf j hj;have aC:z=1:=by rw[e2]at hz;exact_mod_cast hz.symm
  subst aC;rw[h5,Cr h.hp h.hm (show c+1<p^m by omega)];unfold BJ;rw[e1];simp
theorem Hg{l k:List Int}{N:Nat}(h1:l.length=N)(h2:k.length=N)(h:∀i,i<N->l.getD i 0=k.getD i 0):l=k:=by
 rw[<-Sc h1 (f:=fun i=>l.getD i 0) fun i hi=>rfl,<-Sc h2 (f:=fun i=>k.getD i 0) fun i hi=>rfl];exact Fw h
theorem Zx(h:Bv p m ml pl sl 0 N)(k:Bv p m ml ql tl 0 N)(hn:∀i,i<N->0<=pl.getD i 0)(kn:∀i,i<N->0<=ql.getD i 0)(e:G6 p m ml pl sl=G6 p m ml ql tl):pl=ql/\sl=tl:=by
 have e2:J8 p m ml pl sl=J8 p m ml ql tl:=by rw[<-RI h,<-RI k,e]
 have h1:=Tj h;have h2:=Tj k;rw[e2]at h1;have h3:=h1.1.symm.trans h2.1;have h4:=h1.2.symm.trans h2.2;constructor
 .refine Hg h.pll k.pll fun i hi=>?_;have:=congrArg (fun l=>l.getD i 0) h3;simp only[CZ hi]at this;have a:=hn i hi;have b:=kn i hi;unfold BJ at this;omega
 .refine Hg h.sll k.sll fun i hi=>?_;have:=congrArg (fun l=>l.getD i 0) h4;simp only[CZ hi]at this;exact this
end
def tF(p m:Nat)(ml pl sl:List Int)(x:Nat->Int)(j:Nat):Int:=((Am p m (lw ml) (Av (p^m) (sl.getD j 0)) (Av (p^m) (x (BJ pl j))):Nat):Int)
section
variable {p m n:Nat} {ml:List Int} {l1 l2 l3:List (List Int)} {pl sl ql tl:List Int}
theorem dt_tF(hp:2<=p)(hi:FX n (BJ pl))(v x:Nat->Int):dt p m ml n (plc (BJ pl) (F7 p m ml sl v) n) x=dt p m ml n v (tF p m ml pl sl x):=by
 have h1:1<=p:=ac;rw[OR h1 hi,Hj,Hj];refine Gs n fun j hj=>?_;unfold F7 tF;rw[AE (A7 h1 _ _),AE (A7 h1 _ _),AY (Av (p^m) (sl.getD j 0)),Bt h1]
theorem Yb(v:Nat->Int){x y:Nat->Int}(h:∀j,j<n->Av (p^m) (x j)=Av (p^m) (y j)):dt p m ml n v x=dt p m ml n v y:=by
 rw[Hj,Hj];exact Gs n fun j hj=>by rw[h j hj]
theorem NU{R:Nat}(a:Nat->Nat->Int){x y:Nat->Int}(h:∀j,j<n->Av (p^m) (x j)=Av (p^m) (y j)):B9 p m ml n R a x↔B9 p m ml n R a y:=
 ⟨fun k i hi=>by rw[<-Yb (ml:=ml) (a i) h];exact k i hi,fun k i hi=>by rw[Yb (ml:=ml) (a i) h];exact k i hi⟩
theorem GO(hp:2<=p)(h1:pl.length=n)(h2:sl.length=n)(h3:∀i,i<n->0<=pl.getD i 0)(h4:FX n (BJ pl))(h5:∀i,i<n->∃z:Nat,sl.getD i 0=z/\1<=z/\z<p^m):
  AW p m ml n l1 l2 pl sl↔∀x,B9 p m ml n l2.length (An l2) x↔B9 p m ml n l1.length (An l1) (tF p m ml pl sl x):=by
 have e:∀x,B9 p m ml n l1.length (fun i=>plc (BJ pl) (F7 p m ml sl (An l1 i)) n) x↔B9 p m ml n l1.length (An l1) (tF p m ml pl sl x):=fun x=>by
  constructor
  .intro h i hi;rw[<-dt_tF hp h4];exact h i hi
  .intro h i hi;show dt p m ml n (plc (BJ pl) (F7 p m ml sl (An l1 i)) n) x=0
   rw[dt_tF hp h4];exact h i hi
 exact⟨fun h x=>(h.sol x).trans (e x),fun h=>⟨h1,h2,h3,h4,h5,fun x=>(h x).trans (e x).symm⟩⟩
theorem AW.solT(hp:2<=p)(h:AW p m ml n l1 l2 pl sl)(x:Nat->Int):B9 p m ml n l2.length (An l2) x↔B9 p m ml n l1.length (An l1) (tF p m ml pl sl x):=
 (GO hp h.pll h.sll h.nn h.inj h.sc).1 h x
structure Ha(p m:Nat)(ml:List Int)(n:Nat):Prop where
 hp:2<=p
 hm:1<=m
 hF:Hc p m (lw ml)
 n1:1<=n
 n2:n<=64
theorem AW.mon(hW:Ha p m ml n)(h:AW p m ml n l1 l2 pl sl):Bv p m ml pl sl 0 n:=⟨hW.hp,hW.hm,hW.hF,hW.n1,hW.n2,h.pll,h.sll,h.inj,h.sc,by have:=hW.hm;omega⟩
theorem cmp_nn(h:Bv p m ml pl sl 0 n)(kn:∀i,i<n->0<=ql.getD i 0):∀i,i<n->0<=(il n (cP pl ql)).getD i 0:=fun i hi=>by
 rw[CZ hi];exact kn _ (h.inj.lt i hi)
theorem mon0(h:Bv p m ml pl sl ((0+0)%m) n):Bv p m ml pl sl 0 n:=by rwa[show(0+0)%m=0 from ag]at h
theorem AW.comp(hW:Ha p m ml n)(h:AW p m ml n l1 l2 pl sl)(k:AW p m ml n l2 l3 ql tl):AW p m ml n l1 l3 (il n (cP pl ql)) (il n (cS p m ml pl sl tl 0)):=by
 have hc:=mon0 (Yg (h.mon hW) (k.mon hW));have h1:1<=p:=by have:=hW.hp;omega
 refine(GO hW.hp hc.pll hc.sll (cmp_nn (h.mon hW) k.nn) hc.inj hc.sc).2 fun x=>?_;rw[k.solT hW.hp,h.solT hW.hp];refine NU _ fun j hj=>?_;unfold tF;rw[CZ hj,LR (h.mon hW) hj];obtain⟨s,hs,hs1,aB⟩:=h.sc j hj;obtain⟨t,ht,ht1,aA⟩:=k.sc _ (h.inj.lt j hj);unfold cS;rw[hs,ht,AE aB,AE aA];show _=Av (p^m) ((Am p m (lw ml) (Av (p^m) ((Am p m (lw ml) t s:Nat):Int)) _:Nat):Int)
 rw[AE (A7 h1 _ _),AE (A7 h1 _ _),AE (A7 h1 _ _),AE (A7 h1 _ _),AY t s,Bt h1]
theorem AW.inv(hW:Ha p m ml n)(h:AW p m ml n l1 l2 pl sl):AW p m ml n l2 l1 (il n (plc (BJ pl) (fun i=>(i:Int)) n)) (il n (plc (BJ pl) (ivS p m ml sl 0) n)):=by
 have hM:=h.mon hW;have hv:=Xl hM 0 (by have:=hW.hm;omega);have h1:1<=p:=by have:=hW.hp;omega
 refine(GO hW.hp hv.pll hv.sll (fun j hj=>?_) hv.inj hv.sc).2 fun x=>?_
 .obtain⟨i,hi,rfl⟩:=h.inj.surj hj;rw[Lh hM _ hi];omega
 .rw[h.solT hW.hp];refine NU _ fun j hj=>?_;unfold tF;rw[Lh hM _ hj,Lg hM hj];obtain⟨s,hs,aB,aA⟩:=h.sc j hj;obtain⟨k1,k2,k3⟩:=Ot hW.hp hW.hm hW.hF aB aA;unfold ivS;rw[hs,AE aA];show Av (p^m) (x j)=Av (p^m) ((Am p m (lw ml) s (Av (p^m) ((Am p m (lw ml) (Av (p^m) ((Eg p m ml s:Nat):Int)) (Av (p^m) (x j)):Nat):Int)):Nat):Int)
  rw[AE k2,AE (A7 h1 _ _),AE (A7 h1 _ _),<-Bt h1,k3,Cr hW.hp hW.hm (Cb (ϕ ac) _)]
theorem Zw(h:Bv p m ml pl sl 0 n):G6 p m ml (il n (plc (BJ pl) (fun i=>(i:Int)) n)) (il n (plc (BJ pl) (ivS p m ml sl 0) n))=A8 (n*(p^m-1)) (G6 p m ml pl sl):=by
 have hv:=Xl h 0 (by have:=h.hm;omega);have h1:1<=p:=by have:=h.hp;omega
 refine(DZ h).inv_unique (Iv (n:=n*(p^m-1)) ((DZ h).comp (DZ hv)) (Fe _) fun x hx=>?_);obtain⟨i,c,hi,hc,rfl⟩:=Fm hx;obtain⟨z,hz,g1,g2,g3,g4,g5⟩:=DS h hi hc;obtain⟨y,hy,f1,f2,f3,f4,f5⟩:=DS hv (h.inj.lt i hi) (show Am p m (lw ml) z (c+1)-1<p^m-1 by omega);show G6 p m ml _ _ (G6 p m ml pl sl (i*(p^m-1)+c))=i*(p^m-1)+c
 rw[g5,f5,Lg h hi];rw[Lh h _ hi]at hy;obtain⟨k1,k2,k3⟩:=Ot h.hp h.hm h.hF g1 g2;unfold ivS at hy;rw[hz,AE g2]at hy;have aA:y=Eg p m ml z:=by
  have:((TT p m (lw ml) (Eg p m ml z) 0:Nat):Int)=((Eg p m ml z:Nat):Int):=rfl;rw[this]at hy
  exact_mod_cast hy.symm
 rw[aA,show Am p m (lw ml) z (c+1)-1+1=Am p m (lw ml) z (c+1) from ac,<-Bt h1,AY (Eg p m ml z),k3,Cr h.hp h.hm (show c+1<p^m by omega)];omega
theorem WV(hW:Ha p m ml n):Bv p m ml (Ll n) (Mf n) 0 n where
 hp:=hW.hp
 hm:=hW.hm
 hF:=hW.hF
 n1:=hW.n1
 n2:=hW.n2
 pll:=FQ n
 sll:=FJ n
 inj:=by
  have e:∀i,i<n->BJ (Ll n) i=i:=fun i hi=>by
   unfold BJ Ll;rw[δ,ϖ,κz hi];simp
  exact⟨fun i hi=>by rw[e i hi];exact hi,fun i j hi hj h=>by rw[e i hi,e j hj]at h;exact h⟩
 sc:=fun i hi=>⟨1,by unfold Mf;rw[δ,θj,if_pos hi];rfl,ζ _,BC hW.hp hW.hm⟩
 frm:=by have:=hW.hm;omega
theorem OC{i:Nat}(hi:i<n):(Ll n).getD i 0=(i:Int):=by
 unfold Ll;rw[δ,ϖ,κz hi];simp
theorem WL{i:Nat}(hi:i<n):(Mf n).getD i 0=1:=by
 unfold Mf;rw[δ,θj,if_pos hi];rfl
theorem AW.id(hW:Ha p m ml n)(l:List (List Int)):AW p m ml n l l (Ll n) (Mf n):=by
 have h:=WV hW;refine(GO hW.hp h.pll h.sll (fun i hi=>by rw[OC hi];omega) h.inj h.sc).2 fun x=>NU _ fun j hj=>?_;unfold tF BJ;have h1:1<=p:=by have:=hW.hp;omega
 rw[OC hj,WL hj];show Av (p^m) (x j)=Av (p^m) ((Am p m (lw ml) (Av (p^m) ((1:Nat):Int)) (Av (p^m) (x j)):Nat):Int)
 rw[AE (BC hW.hp hW.hm),Cr hW.hp hW.hm (Cb (ϕ ac) _),AE (Cb (ϕ ac) _)]
theorem ptF_id(hW:Ha p m ml n):G6 p m ml (Ll n) (Mf n)=Ep:=by
 have h:=WV hW;exact AU.all (DZ h) ((Ik h (fun i hi=>by rw[OC hi];omega) (ζ _)).2 fun k hk=>⟨OC hk,WL hk⟩)
def Gf(p m:Nat)(ml:List Int)(n:Nat)(l1 l2:List (List Int))(f:Nat->Nat):Prop:=∃pl sl,AW p m ml n l1 l2 pl sl/\f=G6 p m ml pl sl
theorem Gf.isP(hW:Ha p m ml n){f:Nat->Nat}(h:Gf p m ml n l1 l2 f):Bo (n*(p^m-1)) f:=by
 obtain⟨pl,sl,h,rfl⟩:=h;exact DZ (h.mon hW)
theorem Gf.comp(hW:Ha p m ml n){f g:Nat->Nat}(h:Gf p m ml n l1 l2 f)(k:Gf p m ml n l2 l3 g):Gf p m ml n l1 l3 (Ap f g):=by
 obtain⟨pl,sl,h,rfl⟩:=h;obtain⟨ql,tl,k,rfl⟩:=k;exact⟨_,_,h.comp hW k,(Zy (h.mon hW) (k.mon hW)).symm⟩
theorem Gf.inv(hW:Ha p m ml n){f:Nat->Nat}(h:Gf p m ml n l1 l2 f):Gf p m ml n l2 l1 (A8 (n*(p^m-1)) f):=by
 obtain⟨pl,sl,h,rfl⟩:=h;exact⟨_,_,h.inv hW,(Zw (h.mon hW)).symm⟩
theorem Gf.grp(hW:Ha p m ml n)(l:List (List Int)):Yw (n*(p^m-1)) (Gf p m ml n l l):=
 ⟨⟨_,_,AW.id hW l,(ptF_id hW).symm⟩,fun f g hf hg=>hf.comp hW hg,fun f hf=>hf.inv hW,fun f hf=>hf.isP hW⟩
theorem Gf.fx(hW:Ha p m ml n){f:Nat->Nat}(h:Gf p m ml n l1 l2 f){i:Nat}(hi:i<n)(hf:AU (i*(p^m-1)) f)(he:f (i*(p^m-1))=i*(p^m-1)):AU ((i+1)*(p^m-1)) f:=by
 obtain⟨pl,sl,h,rfl⟩:=h;have hM:=h.mon hW;refine(Ik hM h.nn ac).2 fun k hk=>?_;by_cases e:k=i
 .subst e;obtain⟨z,hz,h1,h2⟩:=h.sc k hi;have hQ:0<p^m-1:=by omega
  obtain⟨z',aA,_,_,h3,h4,h5⟩:=DS hM hi hQ;have aB:z'=z:=by rw[hz]at aA;exact_mod_cast aA.symm
  subst aB;rw[δp]at h5;rw[h5]at he;obtain⟨e1,e2⟩:=RH (Q:=p^m-1) (i:=BJ pl k) (j:=k) (c:=Am p m (lw ml) z' (0+1)-1) (d:=0) ac hQ (by rw[he,δp]);rw[ύ,BD hM.hp hM.hm h2]at e2 h3;have:=h.nn k hi;unfold BJ at e1;exact⟨ac,by rw[hz];omega⟩
 .exact(Ik hM h.nn (Nat.le_of_lt hi)).1 hf k ac
end
theorem Rm{n N Q:Nat}(hn:n=N*Q){H:(Nat->Nat)->Prop}(hG:Yw n H)(aF:∀i f,i<N->H f->AU (i*Q) f->f (i*Q)=i*Q->AU ((i+1)*Q) f){S:List (Nat->Nat)}(hS:∀s∈S,H s)
  (hc:∀i f,i<N->H f->AU (i*Q) f->∃s,Gn S s/\AU (i*Q) s/\s (i*Q)=f (i*Q)) (f:Nat->Nat):Gn S f↔H f:=by
 refine⟨fun h=>h.sub hG hS,?_⟩;have hSP:∀s∈S,Bo n s:=fun s hs=>hG.isP s (hS s hs);have aC:∀d i f,i+d=N->H f->AU (i*Q) f->Gn S f:=fun d=>by
  induction d with
  | zero=>
   intro i f hi hf hx;obtain rfl:i=N:=ac;rw[<-hn]at hx;rw[AU.all (hG.isP f hf) hx];exact .one
  | succ d ih=>
   intro i f hi hf hx;obtain⟨s,hs,aD,aE⟩:=hc i f ac hf hx;have aB:=hs.sub hG hS;have aA:=hG.isP s aB;have h1:H (Ap f (A8 n s)):=hG.mul _ _ hf (hG.inv _ aB);have h2:AU (i*Q) (Ap f (A8 n s)):=hx.comp (aD.inv aA);have h3:Ap f (A8 n s) (i*Q)=i*Q:=by
    show A8 n s (f (i*Q))=i*Q
    rw[<-aE];exact aA.inv_l _
   have h4:=ih (i+1) _ ac h1 (aF i _ ac h1 h2 h3);have h5:Ap (Ap f (A8 n s)) s=f:=aA.cancel;rw[<-h5];exact h4.mul hs
 intro hf;exact aC N 0 f ac hf fun i hi=>by rw[Nat.zero_mul]at hi;omega
end Go.Proofs.YtehieobniamagaaGreat
