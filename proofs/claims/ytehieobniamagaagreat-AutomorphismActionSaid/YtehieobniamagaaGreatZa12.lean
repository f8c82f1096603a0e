/- Walks of equivalence.open and Check. -/
import Derived.Test.YtehieobniamagaaGreatZa11
namespace Go.Proofs.YtehieobniamagaaGreat
open Go.RowKit
set_option linter.all false
set_option maxRecDepth 100000
set_option maxHeartbeats 4000000
theorem zbe{P:Prop}(h:P:=by
 go_wp2_with (go_at_call 150;refine aB.o.mono ?_;rintro e w3⟨rfl,aA⟩;have aC:=Aa (HX.o.trans aA);have a1:=aA.cell a1;have b1:=aA.cell b1;have b2:=aA.cell b2;clear aA)
 go_ret2;exact⟨Ea (by decide) (some ⟨b,0,none⟩) _,aC.o⟩):P:=h
theorem zcD{P:Prop}(h:P:=by
 go_wp2_with fail
 go_ret2;exact⟨Ea (by decide) none _,HX.o⟩):P:=h
theorem zck{P:Prop}(h:P:=by
 clear hn1 h1;exact zcD):P:=h
theorem Hs(w:World)(p m:Int)(ml:List Int)(mv:Value)(aH:Aj w mv ml)(n:Int)(pl sl:List Int)(pv sv:Value)(hp:Aj w pv pl)(hs:Aj w sv sl)(fr:Int):
  Calls Tryz.prog 91 #[.agg #[.int .i64 p,.int .i64 m,mv],.int .i64 n,.agg #[pv,sv,.int .i64 fr]] w fun r w'=>Za p m ml (BF p m ml n pl sl fr) r w'/\Ex w w':=by
 obtain⟨a0,a1,a2,ea⟩:=Da w p m mv;obtain⟨b0,b1,b2,eb⟩:=Ay (w.alloc (.cells #[.int .i64 p,.int .i64 m,mv] 24)) pv sv fr;have a0:=eb.cell a0;have a1:=eb.cell a1;have a2:=eb.cell a2;have aI:(w.alloc (.cells #[.int .i64 p,.int .i64 m,mv] 24)).heap.size=w.heap.size+1:=ag;rw[aI]at b0 b1 b2;have HE:=Aa (ea.trans eb);have aM:=Aa (ES p m ml mv _ (aH.ex HE.o));have aO:=Aa (fun w1 (hx:Ex w w1)=>F7 w1 pl pv n (hp.ex hx));have aR:=Aa (fun w1 (hx:Ex w w1) (b pn mn x0:Nat) (hg:AP w1 b pn mn ml x0)=>Io w1 hg sl sv (hs.ex hx));obtain⟨ma,mc,rfl,_,_,_⟩:=aH.open;obtain⟨pa,pc,rfl,_,p2,_⟩:=hp.open;obtain⟨sa,sc,rfl,_,s2,_⟩:=hs.open;unfold maxLen at p2 s2;obtain⟨E,hE⟩:=nA (BF p m ml n pl sl fr);have hM:=hE;unfold BF at hM;rw[hE];clear aH hp hs hE aI ea eb;go_enter Tryz.func91,Tryz.ntmps91
 go_wp2_with fail
 obtain⟨q,hq⟩:=nA w.heap.size;rw[hq]at a0 a1 a2 b0 b1 b2
 try simp only[hq]
 clear hq;generalize (w.alloc (.cells #[.int .i64 p,.int .i64 m,.slice ma ml.length mc] 24)).alloc (.cells #[.slice pa pl.length pc,.slice sa sl.length sc,.int .i64 fr] 26)=w1 at *;obtain⟨A0,A1,B0,B1,B2⟩:=Of a0 a1 b0 b1 b2;clear a0 a1 a2 b0 b1 b2;refine aM.o.mono ?_;rintro e w2⟨hn,aD⟩;rcases hn with⟨pn,mn,x0,b,rfl,rfl,rfl,hg,x1,x2⟩|⟨hno,rfl⟩
 .have aF:BY pn mn ml=0:=(Cm _ _ _).2 (hg.fldB x1 x2);rw[if_neg (by rw[aF];decide),Int.toNat_natCast,Int.toNat_natCast]at hM;have HG:=Aa hg;have HX:=Aa (HE.o.trans aD);have a1:=aD.cell A1.o;have b0:=aD.cell B0.o;have b1:=aD.cell B1.o;have b2:=aD.cell B2.o;have HX2:=Aa aD;have aJ:=Aa (show 1<=x0/\x0<pn^mn from⟨x1,x2⟩);clear aF hg aD x1 x2;by_cases hn1:n<1∨64<n
  .rw[if_pos hn1]at hM;subst hM;by_cases h1:n<1
   .have e1:decide (n<1)=true:=decide_eq_true h1;exact zck
   .have e1:decide (n<1)=false:=decide_eq_false h1;have e2:decide (64<n)=true:=decide_eq_true ac;exact zck
  .rw[if_neg hn1]at hM;have e1:decide (n<1)=false:=decide_eq_false ac;have e2:decide (64<n)=false:=decide_eq_false ac;by_cases hln:(pl.length:Int)≠n∨(sl.length:Int)≠n
   .rw[if_pos hln]at hM;subst hM;by_cases h1:(pl.length:Int)=n
    .have e3:((pl.length:Int) !=n)=false:=by simpa using h1
     have e4:((sl.length:Int) !=n)=true:=aq;clear hln h1 hn1;exact zcD
    .have e3:((pl.length:Int) !=n)=true:=by simpa using h1
     clear hln h1 hn1;exact zcD
   .rw[if_neg hln]at hM;have e3:((pl.length:Int) !=n)=false:=by simp;omega
    have e4:((sl.length:Int) !=n)=false:=aq;have aB:=Aa (aO.o w2 HX.o);clear hln hn1;by_cases hr:Bz pl n=true
    .obtain⟨D,hD⟩:=nA (Dt pl);have aE:EJ pl n=if D=true then 18 else 0:=by unfold EJ;rw[if_neg (by rw[hr];decide),hD]
     rw[hD]at hM;rw[aE]at aB;by_cases hf:fr<0∨(mn:Int)<=fr
     .rw[if_pos (.inr hf)]at hM;subst hM;cases D <;> (
       first|rw[if_pos rfl]at aB|rw[if_neg ae]at aB
       by_cases h1:fr<0
       .have e5:decide (fr<0)=true:=decide_eq_true h1;clear hf h1 aE hD;exact zbe
       .have e5:decide (fr<0)=false:=decide_eq_false h1;have e6:decide ((mn:Int)<=fr)=true:=decide_eq_true ac;clear hf h1 aE hD;go_wp2_with (go_at_call 150;refine aB.o.mono ?_;rintro e w3⟨rfl,aA⟩;have aC:=Aa (HX.o.trans aA);have a1:=aA.cell a1;have b1:=aA.cell b1;have b2:=aA.cell b2;clear aA)
        go_ret2;exact⟨Ea ae (some ⟨b,0,none⟩) _,aC.o⟩)
     .rw[if_neg (by
        rintro (h|h);·rw[hr]at h;cases h
        .exact hf h)]at hM
      have e5:decide (fr<0)=false:=decide_eq_false ac;have e6:decide ((mn:Int)<=fr)=false:=decide_eq_false ac
      cases D with
      | true=>
       rw[if_pos rfl]at aB hM;subst hM;clear hf aE hD;exact zbe
      | false=>
       rw[if_neg ae]at aB hM;have aN:=Aa hM;clear hf aE hD hM;go_wp2_with (go_at_call 150;refine aB.o.mono ?_;rintro e w3⟨rfl,aA⟩;have aC:=Aa (HX.o.trans aA);have a1:=aA.cell a1;have b1:=aA.cell b1;have b2:=aA.cell b2;have aK:=Aa (HG.o.ex aA);have aQ:=Aa (aR.o w3 aC.o b pn mn x0 aK.o);clear aA)
       refine aQ.o.mono ?_;rintro e w4⟨rfl,aG⟩;have aL:=Aa (aC.o.trans aG);have aP:=Aa (aK.o.ex aG);rw[aN.o];clear aG;go_wp2_with fail
       go_ret2;refine⟨?_,aL.o⟩;by_cases h0:E=0
       .subst h0;exact .inl ⟨rfl,b,pn,mn,x0,rfl,rfl,rfl,aP.o,aJ.o.1,aJ.o.2⟩
       .exact Ea h0 (some ⟨b,0,none⟩) _
    .have hr:Bz pl n=false:=by simpa using hr
     have aE:EJ pl n=6:=by unfold EJ;rw[if_pos hr]
     rw[aE]at aB;rw[if_pos (.inl hr)]at hM;subst hM;clear aE hr;exact zbe
 .have aF:BY p m ml≠0:=fun h=>hno ((Cm _ _ _).1 h);rw[if_pos aF]at hM;subst hM;clear aF hno;go_wp2_with fail
  go_ret2;exact⟨Ea ae none _,HE.o.trans aD⟩
theorem zcP{P:Prop}(h:P:=by
 go_wp2_with fail
 go_ret;exact⟨rfl,HX.o⟩):P:=h
theorem JO(w:World)(p m:Int)(ml:List Int)(mv:Value)(aB:Aj w mv ml)(n:Int)(pl sl:List Int)(pv sv:Value)(hp:Aj w pv pl)(hs:Aj w sv sl)(fr:Int):
  Calls Tryz.prog 51 #[.agg #[.int .i64 p,.int .i64 m,mv],.int .i64 n,.agg #[pv,sv,.int .i64 fr]] w fun r w'=>r= .returned (.int .i64 (BF p m ml n pl sl fr))/\Ex w w':=by
 obtain⟨ma,mc,rfl,_,_,_⟩:=aB.open;obtain⟨pa,pc,rfl,_,_,_⟩:=hp.open;obtain⟨sa,sc,rfl,_,_,_⟩:=hs.open;have HO:=Aa (fun w1 (hx:Ex w w1)=>Hs w1 p m ml _ (aB.ex hx) n pl sl _ _ (hp.ex hx) (hs.ex hx) fr);obtain⟨E,hE⟩:=nA (BF p m ml n pl sl fr);rw[hE]at HO ⊢;clear hE aB hp hs;go_enter Tryz.func51,Tryz.ntmps51
 go_wp2_with fail
 refine(HO.o _ (((Ex.refl w).alloc _).alloc _)).mono ?_;rintro e w2⟨hr,aA⟩;have HX:=Aa ((((Ex.refl w).alloc _).alloc _).trans aA);rcases hr with⟨rfl,b,pn,mn,x0,rfl,rfl,rfl,hg,_,_⟩|⟨h0,ptr,rfl⟩
 .clear hg aA;exact zcP
 .clear aA h0;exact zcP
def FV(pl:List Int)(i:Nat):Nat:=(pl.getD i 0).toNat
def vF(p m:Nat)(ml sl:List Int)(fr:Nat)(x:List Int)(i:Nat):Int:=
 ((Ap p m (lw ml) (Az (p^m) (sl.getD i 0)) (QA p m (lw ml) (Az (p^m) (x.getD i 0)) fr):Nat):Int)
def Kc(p m:Nat)(ml pl sl:List Int)(fr:Nat)(x:List Int)(N:Nat):Nat->Int:=plc (FV pl) (vF p m ml sl fr x) N
theorem dl{P:Prop}(h:P:=by rw[List.getD_eq_getElem?_getD,List.getElem?_eq_getElem hi];exact List.getElem_mem _):P:=h
theorem Dd{l:List Int}{n:Int}(h:Bz l n=true){i:Nat}(hi:i<l.length):0<=l.getD i 0/\l.getD i 0<n:=by
 unfold Bz at h;have:=List.all_eq_true.1 h (l.getD i 0) dl;simpa using this
theorem Aw{l:List Int}{i:Nat}(hi:i<l.length):l[i]?=some (l.getD i 0):=by
 rw[List.getD_eq_getElem?_getD,List.getElem?_eq_getElem hi];rfl
section
variable {b p m x0:Nat} {ml:List Int}
theorem RL(w:World)(hg:AP w b p m ml x0)(N:Nat)(hN:N<=64)(pl sl x:List Int)(pv sv xv:Value)(hp:Aj w pv pl)(hs:Aj w sv sl)(hx:Aj w xv x)(fr:Nat)(bF:fr<m)(aH:pl.length=N)(aG:sl.length=N)(aK:x.length=N)(hr:Bz pl N=true):
  Calls Tryz.prog 92 #[.pointer (some ⟨b,0,none⟩),.agg #[pv,sv,.int .i64 fr],xv] w fun r w'=>∃g,r= .returned (.slice (some ⟨g,0,none⟩) N N)/\AI w' w.heap.size 3 g N (iv (Kc p m ml pl sl fr x N))/\Ex w w':=by
 obtain⟨b0,b1,b2,eb⟩:=Ay w pv sv fr;have p2:=hg.sh.p2;have m1:=hg.sh.m1;have bO:=Aa (fun (w1:World) (h1:Ex w w1) (y:Int)=>Ga w1 (hg.ex h1) y fr bF);have bK:=Aa (fun (w1:World) (h1:Ex w w1) (y z:Int)=>DC w1 (hg.ex h1) y z);obtain⟨pa,pc,rfl,_,q2,p3⟩:=hp.open;obtain⟨sa,sc,rfl,_,s2,s3⟩:=hs.open;obtain⟨xa,xc,rfl,_,x2,x3⟩:=hx.open;unfold maxLen at q2 s2 x2;rw[aH]at p3;rw[aG]at s3;rw[aK]at x3;rw[aH,aG,aK];rw[aH,aG]at b0 b1 eb b2;obtain⟨P3,S3,X3,bJ,bN,bM,bL,aE⟩:=On p3 s3 x3 (fun i (hi:i<N)=>Dd hr (i:=i) ac) (fun i (hi:i<N)=>Aw (l:=pl) (i:=i) ac) (fun i (hi:i<N)=>Aw (l:=sl) (i:=i) ac) (fun i (hi:i<N)=>Aw (l:=x) (i:=i) ac) eb;clear hg hp hs hx p3 s3 x3 eb aH aG aK hr;go_enter Tryz.func92,Tryz.ntmps92
 go_wp2_with (at_make;refine Aq _ rfl _ _ 22 rfl 3 (.int .i64 0) 8 Tryz.underlying22 Au rfl _ N rfl rfl rfl ac ai ?_)
 obtain⟨B,hB⟩:=nA w.heap.size;rw[hB]at b0 b1 b2
 try simp only[hB]
 have bQ:=Aa hB;have aT:(w.alloc (.cells #[.slice pa N pc,.slice sa N sc,.int .i64 fr] 26)).heap.size=B+1:=by simp[hB]
 clear hB;generalize w.alloc (.cells #[.slice pa N pc,.slice sa N sc,.int .i64 fr] 26)=w1 at *;intro w3 aA aR;have B0:=Aa b0;have B1:=Aa b1;have B2:=Aa b2;obtain⟨g,aI⟩:=nA (B+1);have aX:=Aa (show AI w3 g 3 g N (iv (plc (FV pl) (vF p m ml sl fr x) 0)) from by rw[<-aI];exact aA)
 try simp only[aI]
 have bH:=Aa aR;have aZ:=Aa (show w1.heap.size=g from by rw[<-aI,<-aT]);clear aA aR b0 b1 b2 aI aT;go_wp2_with fail
 go_loopw [15] (fun i' wr=>∃(i:Nat),i<=N/\i'= .int .i64 i/\Hia (AI wr g 3 g N (iv (plc (FV pl) (vF p m ml sl fr x) i)))/\Hia (Ex w1 wr)) (fun i' _=>N-(intOf i').toNat)
 case atStart=>exact⟨0,ac,rfl,aX,bH⟩
 case round=>
  clear aX;obtain⟨i,hi,rfl,aA,aB⟩:=hrel;by_cases hin:i<N
  .obtain⟨pb,po,rfl,aV⟩:=P3.o ac;obtain⟨sb,so,rfl,aU⟩:=S3.o ac;obtain⟨xb,xo,rfl,aQ⟩:=X3.o ac;have bE:=bJ.o i hin;have aF:=Aa (aE.o.trans aB.o);obtain⟨y,hy⟩:=nA (FV pl i);have aP:pl.getD i 0=(y:Int):=by rw[<-hy];unfold FV;omega
   have bD:y<N:=ac;have aN:=bN.o i hin;rw[aP]at aN;have bC:=Aa (aV i _ aN);have cp:=aF.o.cell bC.o;obtain⟨s,hs⟩:=nA (sl.getD i 0);have aM:=bM.o i hin;rw[hs]at aM;have bB:=Aa (aU i _ aM);have cs:=aF.o.cell bB.o;obtain⟨z,hz⟩:=nA (x.getD i 0);have aL:=bL.o i hin;rw[hz]at aL;have cx:=aF.o.cell (aQ i _ aL);have i1:(0:Int)<=(i:Int):=ac;have i2:(i:Int)<(N:Int):=ac;have i3:(0:Int)<=(y:Int):=ac;have i4:(y:Int)<(N:Int):=ac;have bA:=Aa (fun (w5:World) (h5:Ex wr w5)=>bO.o w5 (aF.o.trans h5) z);obtain⟨t,ht⟩:=nA (QA p m (lw ml) (Az (p^m) z) fr);have aS:t<p^m:=by rw[<-ht];exact Mm p2 m1 (Cr (Nat.pow_pos ac) _) _
   rw[ht]at bA;have aY:=Aa (fun (w5:World) (h5:Ex wr w5)=>by
    have:=bK.o w5 (aF.o.trans h5) s (t:Int);rw[Bj aS]at this;exact this)
   obtain⟨u,hu⟩:=nA (Ap p m (lw ml) (Az (p^m) s) t);rw[hu]at aY;have bI:=Aa (show Ax (plc (FV pl) (vF p m ml sl fr x) i) y (u:Int)=plc (FV pl) (vF p m ml sl fr x) (i+1) from by
    show _=Ax (plc (FV pl) (vF p m ml sl fr x) i) (FV pl i) (vF p m ml sl fr x i)
    rw[hy]
    congr 1
    unfold vF;rw[hs,hz,ht,hu])
   have d0:=aB.o.cell B0.o;have d1:=aB.o.cell B1.o;have d2:=aB.o.cell B2.o;have aJ:=Aa aA.o;have bP:=Aa aB.o;have aC:=Aa (fun (w5:World) (h5:Ex wr w5)=>(aJ.o.ex h5).exSet (a:=w1) (Nat.le_of_eq aZ.o) (bP.o.trans h5) y (.int .i64 (u:Int)));have aW:=Aa (fun (w5:World) (h5:Ex wr w5)=>show AI (w5.setCell ⟨g,y,none⟩ (.int .i64 (u:Int))) g 3 g N (iv (plc (FV pl) (vF p m ml sl fr x) (i+1))) from by
    rw[<-bI.o,<-CN];exact(aJ.o.ex h5).set y _)
   obtain⟨CP,CS,CX,bG⟩:=Eq cp cs cx bD;clear bE hy aP aN hs aM hz aL ht aS hu aV aU aQ aA aB;go_wp2_with fail
   have bT:=Aa d0;have bS:=Aa d1;have bR:=Aa d2;have aD:=Aa (fun (w5:World) (h5:Ex wr w5)=>(⟨h5.cell CP.o,h5.cell CS.o,h5.cell bT.o,h5.cell bS.o,h5.cell bR.o⟩:w5.cell? ⟨pb,po+i,none⟩=some (.int .i64 (y:Int))/\w5.cell? ⟨sb,so+i,none⟩=some (.int .i64 s)/\w5.cell? ⟨B,0,none⟩=some (.slice (some ⟨pb,po,none⟩) N pc)/\w5.cell? ⟨B,1,none⟩=some (.slice (some ⟨sb,so,none⟩) N sc)/\w5.cell? ⟨B,2,none⟩=some (.int .i64 (fr:Int))));have aO:=Aa (fun (w5:World) (h5:Ex wr w5)=>(⟨(aE.o.trans (aC.o w5 h5)).cell bC.o,(aE.o.trans (aC.o w5 h5)).cell bB.o,(aC.o w5 h5).cell B0.o,(aC.o w5 h5).cell B1.o,(aC.o w5 h5).cell B2.o⟩:(w5.setCell ⟨g,y,none⟩ (.int .i64 (u:Int))).cell? ⟨pb,po+i,none⟩=some (.int .i64 (y:Int))/\(w5.setCell ⟨g,y,none⟩ (.int .i64 (u:Int))).cell? ⟨sb,so+i,none⟩=some (.int .i64 s)/\(w5.setCell ⟨g,y,none⟩ (.int .i64 (u:Int))).cell? ⟨B,0,none⟩=some (.slice (some ⟨pb,po,none⟩) N pc)/\(w5.setCell ⟨g,y,none⟩ (.int .i64 (u:Int))).cell? ⟨B,1,none⟩=some (.slice (some ⟨sb,so,none⟩) N sc)/\(w5.setCell ⟨g,y,none⟩ (.int .i64 (u:Int))).cell? ⟨B,2,none⟩=some (.int .i64 (fr:Int))));clear d0 d1 d2 cp cs;have G0:Ex wr wr.drew:=(Ex.refl wr).drew
   go_region_held3 (fun w'=>w'.cell? ⟨pb,po+i,none⟩=some (.int .i64 (y:Int))/\w'.cell? ⟨sb,so+i,none⟩=some (.int .i64 s)/\w'.cell? ⟨B,0,none⟩=some (.slice (some ⟨pb,po,none⟩) N pc)/\w'.cell? ⟨B,1,none⟩=some (.slice (some ⟨sb,so,none⟩) N sc)/\w'.cell? ⟨B,2,none⟩=some (.int .i64 (fr:Int)))
    (first|with_reducible exact aD.o _ G0|with_reducible exact aD.o _ X5|with_reducible exact aD.o _ X6|with_reducible exact aO.o _ X6)
    (first|(go_at_call 107;(with_reducible refine(bA.o _ G0).mono ?_);rintro e w5⟨rfl,h5⟩;have X5:=G0.trans h5;clear h5)|(go_at_call 106;(with_reducible refine(aY.o _ X5).mono ?_);rintro e w6⟨rfl,n6,rfl⟩;have X6:=X5.drewN n6;have co6:=(aJ.o.ex X6).cell bG.o;have cf6:=(aJ.o.ex X6).frz y))
   go_wp2_with fail
   go_roundw
   case rel=>first|exact⟨i+1,ac,by go_num,Aa (aW.o _ X6),Aa (aC.o _ X6)⟩|((repeat apply Exists.intro);exact⟨⟨i+1,ac,by go_num,Aa (aW.o _ X6),Aa (aC.o _ X6)⟩,rfl⟩)
   case measure=>simp[intOf];omega
  .obtain rfl:i=N:=by omega
   go_wp2_with fail
   go_ret;exact⟨g,rfl,aA.o.mono (by have:=aZ.o;have:=bQ.o;have:=aE.o.size;omega),aE.o.trans aB.o⟩
end
theorem TH:(Tryz.prog.info? 22).map (fun i=>(i.zero,i.size,i.bytes))=some (some (.slice none 0 0),1,24):=ah
def AQ(rows:List (List Int))(i j:Nat):Int:=(rows.getD i []).getD j 0
structure EK(w0 w:World)(g R N:Nat)(blk cap:Nat->Nat)(a:Nat->Nat->Int)(k:Nat):Prop where
 arr:AI w w0.heap.size 22 g R (fun i=>if i<k then Dr blk cap N i else .slice none 0 0)
 row:∀i,i<k->AO w w0.heap.size 3 (blk i) N (cap i) (iv (a i))
 apart:∀i j,i<k->j<k->i≠j->blk i≠blk j
 off:∀i,i<k->blk i≠g
 ex:Ex w0 w
theorem EK.later{w0 w w':World}{g R N:Nat}{blk cap:Nat->Nat}{a:Nat->Nat->Int}{k:Nat}(h:EK w0 w g R N blk cap a k)(hx:Ex w w'):EK w0 w' g R N blk cap a k:=
 ⟨h.arr.ex hx,fun i hi=>(h.row i hi).ex hx,h.apart,h.off,h.ex.trans hx⟩
theorem za0{P:Prop}(h:P:=by
 rw[if_neg h,if_neg (by omega)]):P:=h
theorem EK.put{w0 w:World}{g R N:Nat}{blk cap:Nat->Nat}{a:Nat->Nat->Int}{k:Nat}(h:EK w0 w g R N blk cap a k){w':World}(hx:Ex w w'){nb nc:Nat}(hn:AO w' w.heap.size 3 nb N nc (iv (a k)))(hw:w0.heap.size<=w.heap.size):
  EK w0 (w'.setCell ⟨g,k,none⟩ (.slice (some ⟨nb,0,none⟩) N nc)) g R N (Ax blk k nb) (Ax cap k nc) a (k+1):=by
 have h1:=h.later hx;have hgl:=h.arr.lt.2;have hnl:=hn.lt.1;have aA:nb≠g:=ac;refine⟨(h1.arr.set k _).congr fun i hi=>?_,fun i hi=>?_,fun i j hi hj aB=>?_,fun i hi=>?_,h1.arr.exSet (Nat.le_refl _) h1.ex k _⟩
 .by_cases e:i=k
  .subst e;rw[Ad];show _=(if i<i+1 then Dr (Ax blk i nb) (Ax cap i nc) N i else .slice none 0 0)
   rw[if_pos ac];unfold Dr;rw[Ad,Ad]
  .rw[Ae _ _ e];show(if i<k then Dr blk cap N i else .slice none 0 0)=(if i<k+1 then Dr (Ax blk k nb) (Ax cap k nc) N i else .slice none 0 0)
   by_cases h:i<k
   .rw[if_pos h,if_pos ac];unfold Dr;rw[Ae _ _ e,Ae _ _ e]
   .exact za0
 .by_cases e:i=k
  .subst e;rw[Ad,Ad];exact(show AO w' w0.heap.size 3 nb N nc (iv (a i)) from Bq hn hw).other aA _
  .rw[Ae _ _ e,Ae _ _ e];exact(h1.row i ac).other (h.off i ac) _
 .by_cases e:i=k
  .subst e;rw[Ad,Ae _ _ (fun e=>aB e.symm)];have:=(h.row j ac).lt.2;omega
  .by_cases e2:j=k
   .subst e2;rw[Ad,Ae _ _ e];have:=(h.row i ac).lt.2;omega
   .rw[Ae _ _ e,Ae _ _ e2];exact h.apart i j ac ac aB
 .by_cases e:i=k
  .subst e;rw[Ad];exact aA
  .rw[Ae _ _ e];exact h.off i ac
theorem EK.done{w0 w:World}{g R N:Nat}{blk cap:Nat->Nat}{a:Nat->Nat->Int}(h:EK w0 w g R N blk cap a R):EM w w0.heap.size g R N blk cap a []:=
 ⟨h.arr.congr fun i hi=>by show(if i<R then Dr blk cap N i else .slice none 0 0)=_;rw[if_pos hi],h.row,h.apart,h.off,fun B hB=>by cases hB⟩
theorem RU(w:World)(N R:Nat)(rows:List (List Int))(v:Value)(hv:BT w v rows)(hR:rows.length=R)(hR2:R<=256)(hN1:1<=N)(hN:N<=256)(hr:∀(i:Nat) (r:List Int),rows[i]?=some r->r.length=N):
  Calls Tryz.prog 202 #[v] w fun r w'=>∃g blk cap,r= .returned (.slice (some ⟨g,0,none⟩) R R)/\EM w' w.heap.size g R N blk cap (AQ rows) []/\Ex w w':=by
 obtain⟨za,zc,rfl,z1,z2,z3⟩:=hv.open;rw[hR]at z1 z3 ⊢;unfold maxLen at z2;have Z3:=Aa z3;have aN:=Aa hr;have aM:=Aa hR;clear z3 hr hv hR;go_enter Tryz.func202,Tryz.ntmps202
 go_wp2_with (at_make;refine Aq _ rfl _ _ 37 rfl 22 (.slice none 0 0) 24 Tryz.underlying37 TH rfl _ R rfl rfl rfl ac ai ?_)
 intro w3 aA aI;obtain⟨g,aD⟩:=nA w.heap.size;have HSZ:=Aa aD;have aG:=Aa (show EK w w3 w.heap.size R N (fun _=>0) (fun _=>0) (AQ rows) 0 from⟨aA.congr fun i hi=>ag,fun i hi=>ac,fun i j hi=>ac,fun i hi=>ac,aI⟩);rw[aD]at aG
 try simp only[aD]
 clear aA aI aD;go_wp2_with fail
 go_loopw [11] (fun k' wr=>∃(k:Nat) (blk cap:Nat->Nat),k<=R/\k'= .int .i64 k/\Hia (EK w wr g R N blk cap (AQ rows) k)) (fun k' _=>R-(intOf k').toNat)
 case atStart=>exact⟨0,_,_,ac,rfl,aG⟩
 case round=>
  clear aG;obtain⟨k,blk,cap,hk,rfl,aB⟩:=hrel;by_cases hkR:k<R
  .obtain⟨zb,zo,rfl,aH⟩:=Z3.o ac;obtain⟨r,aC⟩:∃r,rows[k]?=some r:=⟨_,List.getElem?_eq_getElem (by rw[aM.o];exact hkR)⟩;obtain⟨uz,c1,aF⟩:=aH k r aC;have c1:=aB.o.ex.cell c1;have aJ:=aN.o k r aC;have HC:=Aa (Lk wr r uz (aF.ex aB.o.ex) ac ac);obtain⟨ua,uc,rfl,_,u2,_⟩:=aF.open;rw[aJ]at HC c1;have i1:(0:Int)<=(k:Int):=by omega
   have i2:(k:Int)<(R:Int):=ac;have aO:=Aa (show(fun j=>r.getD j 0)=AQ rows k from by
    funext j;unfold AQ;rw[List.getD_eq_getElem?_getD (l:=rows),aC];rfl)
   have aK:=aB.o.arr.cell hkR;have aL:=aB.o.arr.frz k;clear aH aF aC aJ;go_wp2_with (go_at_call 154;refine HC.o.mono ?_;rintro e w4⟨gg,cc,rfl,aA,aE⟩;have hcg2:=aE.cell aK;have hfg2:=aE.frz aK aL)
   rw[aO.o]at aA;have HP:=Aa (aB.o.put aE aA aB.o.ex.size);go_roundw
   case rel=>first|exact⟨k+1,_,_,ac,by go_num,HP⟩|((repeat apply Exists.intro);exact⟨⟨k+1,_,_,ac,by go_num,HP⟩,rfl⟩)
   case measure=>simp[intOf];omega
  .obtain rfl:R=k:=by omega
   have HE:=Aa aB.o.done;have HX:=Aa aB.o.ex;clear aB;go_wp2_with fail
   go_ret;exact⟨g,blk,cap,rfl,HE.o,HX.o⟩
theorem EM.low{w:World}{base g R N:Nat}{blk cap:Nat->Nat}{a:Nat->Nat->Int}(h:EM w base g R N blk cap a []){A:Addr}(hA:A.block<base)(u:Value):EM (w.setCell A u) base g R N blk cap a []:=
 ⟨h.arr.other (by have:=h.arr.lt;omega) u,fun i hi=>(h.row i hi).other (by have:=(h.row i hi).lt;omega) u,h.apart,h.off,fun B hB=>by cases hB⟩
def AL(N k:Nat)(a:Nat->Nat->Int):List (List Int):=(List.range k).map fun i=>il N (a i)
theorem FC{N k i:Nat}{a:Nat->Nat->Int}(h:i<k):(AL N k a)[i]?=some (il N (a i)):=by unfold AL;simp[h]
theorem B9(N k:Nat)(a:Nat->Nat->Int):(AL N k a).length=k:=by unfold AL;simp
theorem EM.msl{w:World}{base g R N k:Nat}{blk cap:Nat->Nat}{a:Nat->Nat->Int}{avs:List Nat}(h:EM w base g R N blk cap a avs)(hk:k<=R)(hR:R<=256):BT w (.slice (some ⟨g,0,none⟩) k k) (AL N k a):=by
 refine⟨(List.range k).map fun i=>Dr blk cap N i,?_,fun i r u h1 h2=>?_⟩
 .rw[B9];refine⟨ag,some ⟨g,0,none⟩,k,rfl,Nat.le_refl _,by unfold maxLen;omega,fun h0=>⟨g,0,rfl,fun i z hz=>?_⟩⟩;have hi:i<k:=by have:=(List.getElem?_eq_some_iff.1 hz).1;simpa using this
  simp[hi]at hz;subst hz;rw[Nat.zero_add];exact h.cell ac
 .have hi:i<k:=by have:=(List.getElem?_eq_some_iff.1 h1).1;rw[B9]at this;exact this
  rw[FC hi]at h1;injection h1 with h1;subst h1;simp[hi]at h2;subst h2;exact(h.row i ac).isl
theorem PA{p m:Nat}{ml:List Int}{b x0:Nat}(w:World)(hg:AP w b p m ml x0)(aL:1<=x0)(aK:x0<p^m)(N R:Nat)(rows:List (List Int))(v:Value)(hv:BT w v rows)(hR:rows.length=R)(aE:R<=256)(aM:1<=N)(hN:N<=256)(hr:∀(i:Nat) (r:List Int),rows[i]?=some r->r.length=N/\Cs (p^m) r=0):
  Calls Tryz.prog 157 #[.pointer (some ⟨b,0,none⟩),v,.int .i64 N] w fun r w'=>∃piv pv rv a',r= .returned (.tuple #[rv,pv])/\OI p m ml N R (AQ rows) a' piv/\BT w' rv (AL N piv.length a')/\Aj w' pv (pI piv)/\Ex w w'/\∃g blk cap,rv= .slice (some ⟨g,0,none⟩) piv.length piv.length/\EM w' w.heap.size g R N blk cap a' []/\∀B,pv.ownBlock=some B->w.heap.size<=B:=by
 have aA:R4 p m R N (AQ rows):=fun i hi j hj=>by
  obtain⟨r,aF⟩:∃r,rows[i]?=some r:=⟨_,List.getElem?_eq_getElem ac⟩;obtain⟨h1,h2⟩:=hr i r aF;have e:AQ rows i j=r.getD j 0:=by unfold AQ;rw[List.getD_eq_getElem?_getD (l:=rows),aF];rfl
  rw[e];refine T6 h2 _ ?_;rw[List.getD_eq_getElem?_getD,List.getElem?_eq_getElem ac];exact List.getElem_mem _
 have HC:=Aa (RU w N R rows v hv hR aE aM hN fun i r h=>(hr i r h).1);have HG:=Aa hg;have aN:=Aa aA;clear hv hr aA hg;go_enter Tryz.func157,Tryz.ntmps157
 go_wp2_with (go_at_call 202;refine HC.o.mono ?_;rintro e w1⟨g,blk,cap,rfl,hem,hx1_⟩)
 refine(T8 w w1 HG.o aL aK hx1_ hem (Nat.le_refl _) hN aE aN.o).mono ?_;rintro e w2⟨piv,pv,det,blk',cap',a',rfl,aB,aD,aC,hx2_,aG⟩;obtain⟨aJ,aP,HX,aH,aI⟩:=Of aB aD hx2_ aC aG;have hk:piv.length<=R:=by obtain⟨c,_,h,_⟩:=aD;exact h.le
 obtain⟨pa,pc,rfl,_,p2_,_⟩:=aC.open;rw[S2]at aH aI ⊢;clear hem aB aD aC hx1_ hx2_ HC aG;have k1:(0:Int)<=(piv.length:Int):=ac;have k2:(piv.length:Int)<=(R:Int):=ac;have aO:=Aa (aJ.o.msl hk aE);go_wp2_with fail
 go_ret2;exact⟨piv,_,_,a',rfl,aP.o,aO.o,aH.o,HX.o,g,blk',cap',rfl,aJ.o,aI.o⟩
def Mv(l:List Int)(n:Int):Int:=if Bz l n=true then 0 else 6
theorem Qa{l:List Int}{n:Int}(h:∀j,j<l.length->0<=l.getD j 0/\l.getD j 0<n):Bz l n=true:=by
 unfold Bz;refine List.all_eq_true.2 fun x hx=>?_;obtain⟨j,hj,rfl⟩:=List.getElem_of_mem hx;have:=h j hj;rw[List.getD_eq_getElem?_getD,List.getElem?_eq_getElem hj]at this;exact decide_eq_true this
theorem zcL{P:Prop}(h:P:=by
 go_wp2_with fail
 go_ret;exact⟨Ag HR.o.symm,rfl⟩):P:=h
theorem Ro(w:World)(l:List Int)(v:Value)(hl:Aj w v l)(n:Int):
  Calls Tryz.prog 97 #[v,.int .i64 n] w fun r w'=>r= .returned (.int .i64 (Mv l n))/\w=w':=by
 obtain⟨a,cap,rfl,s1,s2,s3⟩:=hl.open;unfold maxLen at s2;have S3:=Aa s3;have HD:=Aa (show(∀j,j<l.length->0<=l.getD j 0/\l.getD j 0<n)->Mv l n=0 from fun h=>by unfold Mv;rw[if_pos (Qa h)]);have HN:=Aa (show ∀j,j<l.length->¬(0<=l.getD j 0/\l.getD j 0<n)->Mv l n=6 from fun j hj h=>by
  unfold Mv;rw[if_neg fun hr=>h (Dd hr hj)])
 clear hl s3;go_enter Tryz.func97,Tryz.ntmps97
 go_wp2_with fail
 go_loop [5] (fun i'=>∃(i:Nat),i<=l.length/\i'= .int .i64 i/\Hia (∀j,j<i->0<=l.getD j 0/\l.getD j 0<n)) (fun i'=>l.length-(intOf i').toNat)
 case atStart=>exact⟨0,ac,rfl,Aa (fun j h=>ac)⟩
 case round=>
  obtain⟨i,hi,rfl,aA⟩:=hrel;by_cases hlt:i<l.length
  .obtain⟨bb,o,rfl,hc⟩:=S3.o ac;have c1:=hc i _ (Aw hlt);obtain⟨x,hx⟩:=nA (l.getD i 0);rw[hx]at c1;have HX:=Aa hx;have aB:=Aa (show(0<=x/\x<n)->∀j,j<i+1->0<=l.getD j 0/\l.getD j 0<n from fun h j hj=>by
    by_cases e:j=i
    .subst e;rw[hx];exact h
    .exact aA.o j ac)
   have i1:(0:Int)<=(i:Int):=ac;have i2:(i:Int)<(l.length:Int):=ac;clear hc hx;by_cases h0:x<0
   .have HR:=Aa (HN.o i hlt (by rw[HX.o];omega));have k0:decide (x<0)=true:=by simpa using h0
    exact zcL
   .have k0:decide (x<0)=false:=by simpa using h0
    by_cases h1:n<=x
    .have HR:=Aa (HN.o i hlt (by rw[HX.o];omega));have k1:decide (n<=x)=true:=by simpa using h1
     exact zcL
    .have HA:=Aa (aB.o ⟨ac,ac⟩);have k1:decide (n<=x)=false:=by simpa using h1
     exact zbG
  .obtain rfl:i=l.length:=by omega
   have HR:=Aa (HD.o aA.o);exact zcL
theorem Fs{l:List Int}:Dt l=true↔∃i j,j<i/\i<l.length/\l.getD i 0=l.getD j 0:=by
 unfold Dt Kd;rw[List.any_eq_true];constructor
 .rintro⟨i,hi,h⟩;have hi:=List.mem_range.1 hi;rw[List.contains_iff_mem]at h;obtain⟨j,hj,e⟩:=List.getElem_of_mem h;rw[List.length_take]at hj;refine⟨i,j,ac,hi,?_⟩;rw[<-e,List.getElem_take,List.getD_eq_getElem?_getD,List.getElem?_eq_getElem (show j<l.length by omega)];rfl
 .rintro⟨i,j,h1,h2,h3⟩;refine⟨i,List.mem_range.2 h2,?_⟩;rw[List.contains_iff_mem,h3];have hj:j<(l.take i).length:=by rw[List.length_take];omega
  have:=List.getElem_mem hj;rw[List.getElem_take]at this;rw[List.getD_eq_getElem?_getD,List.getElem?_eq_getElem (show j<l.length by omega)];exact this
theorem OZ(w:World)(l:List Int)(v:Value)(hl:Aj w v l):
  Calls Tryz.prog 98 #[v] w fun r w'=>r= .returned (.bool (Dt l))/\Ex w w':=by
 obtain⟨a,cap,rfl,s1,s2,s3⟩:=hl.open;unfold maxLen at s2;have S3:=Aa s3;have HY:=Aa (show ∀i j,j<i->i<l.length->l.getD i 0=l.getD j 0->Dt l=true from fun i j h1 h2 h3=>Fs.2 ⟨i,j,h1,h2,h3⟩);have HN:=Aa (show(∀i j,j<i->i<l.length->l.getD i 0≠l.getD j 0)->Dt l=false from fun h=>by
  cases hb:Dt l with
  | false=>rfl
  | true=>obtain⟨i,j,h1,h2,h3⟩:=Fs.1 hb;exact absurd h3 (h i j h1 h2))
 obtain⟨D,hD⟩:=nA (Dt l);rw[hD]at HY HN;rw[hD];clear hl s3 hD;go_enter Tryz.func98,Tryz.ntmps98
 go_wp2_with fail
 go_loopw [3,4] (fun i' _ wr=>∃(i:Nat),i<=l.length/\i'= .int .i64 i/\Hia (∀k j,j<k->k<i->l.getD k 0≠l.getD j 0)/\Hia (Ex w wr)) (fun i' _ _=>l.length-(intOf i').toNat)
 case atStart=>exact⟨0,ac,rfl,Aa (fun k j _ h=>ac),Aa (Ex.refl _)⟩
 case round=>
  obtain⟨i,hi,rfl,aB,aD⟩:=hrel;by_cases hlt:i<l.length
  .obtain⟨bb,o,rfl,hc⟩:=S3.o ac;have c1:=hc i _ (Aw hlt);obtain⟨x,hx⟩:=nA (l.getD i 0);rw[hx]at c1;have HX:=Aa hx;have HC:=Aa hc;have C1:=Aa c1;have i1:(0:Int)<=(i:Int):=by omega
   have i2:(i:Int)<(l.length:Int):=ac;clear hc hx c1;obtain⟨w8,h8⟩:∃w8,w8=wr:=⟨_,rfl⟩;rw[<-h8]at aD ⊢;clear h8;go_wp2_with fail
   go_loopw [4] (fun j' wr=>∃(j:Nat),j<=i/\j'= .int .i64 j/\Hia (∀k,k<j->x≠l.getD k 0)/\Hia (Ex w wr)) (fun j' _=>i-(intOf j').toNat)
   case atStart=>exact⟨0,ac,rfl,Aa (fun k h=>ac),aD⟩
   case round=>
    obtain⟨j,hj,rfl,aC,aA⟩:=hrel;have c1:=aA.o.cell C1.o;by_cases hji:j<i
    .have c2:=aA.o.cell (HC.o j _ (Aw ac));obtain⟨y,hy⟩:=nA (l.getD j 0);rw[hy]at c2;have aE:=Aa hy;have j1:(0:Int)<=(j:Int):=by omega
     have j2:(j:Int)<(l.length:Int):=ac;clear hy;by_cases hxy:x=y
     .have hr:D=true:=HY.o i j hji hlt (by rw[HX.o,aE.o,hxy]);subst hr;have kb:(x==y)=true:=by simpa using hxy
      clear hxy;go_upto_region 7 with fail
      go_quiet (fail)
      go_wp2_with fail
      go_ret;exact⟨rfl,aA.o.drewN _⟩
     .have kb:(x==y)=false:=by simpa using hxy
      have HA:=Aa (show ∀k,k<j+1->x≠l.getD k 0 from fun k hk=>by
       by_cases e:k=j
       .subst e;rw[aE.o];exact hxy
       .exact aC.o k ac)
      clear hxy;go_upto_region 7 with fail
      go_quiet (fail)
      go_wp2_with fail
      go_roundw
      case rel=>exact⟨j+1,ac,by go_num,HA,Aa (aA.o.drewN _)⟩
      case measure=>simp[intOf];omega
    .obtain rfl:j=i:=by omega
     have HA:=Aa (show ∀k m,m<k->k<j+1->l.getD k 0≠l.getD m 0 from fun k m hm hk=>by
      by_cases e:k=j
      .subst e;rw[HX.o];exact aC.o m hm
      .exact aB.o k m hm ac)
     go_wp2_with fail
     go_roundw
     case rel=>first|exact⟨j+1,ac,by go_num,HA,aA⟩|((repeat apply Exists.intro);exact⟨⟨j+1,ac,by go_num,HA,aA⟩,rfl⟩)
     case measure=>simp[intOf];omega
  .obtain rfl:i=l.length:=by omega
   have hr:D=false:=HN.o fun k j h1 h2=>aB.o k j h1 h2;subst hr;go_wp2_with fail
   go_ret;exact⟨rfl,aD.o⟩
section
variable {p m:Nat} {ml:List Int} {mv:Value}
theorem TY{q:Nat}{l:List Int}:DS q l=if Cs q l≠0 then Cs q l else if l.contains 0=true then 7 else 0:=by
 unfold DS Cs;have e:(l.any fun x=> !Fa q x)=!(l.all fun x=>Fa q x):=by rw[List.not_all_eq_any_not]
 rw[e];cases (l.all fun x=>Fa q x) <;> simp
theorem zcH{P:Prop}(h:P:=by
 go_wp2_with fail
 go_ret;exact⟨Ag HR.o.symm,aB.o⟩):P:=h
theorem ST(w:World)(hf:Li p m ml)(l:List Int)(v:Value)(hl:Aj w v l):
  Calls Tryz.prog 99 #[.agg #[.int .i64 p,.int .i64 m,mv],v] w fun r w'=>r= .returned (.int .i64 (DS (p^m) l))/\Ex w w':=by
 obtain⟨d0,d1,d2,e0,aE⟩:=Bc w p m mv;have HE:=Aa (LH (mv:=mv) _ hf l v (hl.ex e0));obtain⟨a,cap,rfl,s1,s2,s3⟩:=hl.open;unfold maxLen at s2;have S3:=Aa s3;have HF:=Aa (TY (q:=p^m) (l:=l));have aF:=Aa e0;obtain⟨F,hF⟩:=nA (DS (p^m) l);obtain⟨E,hE⟩:=nA (Cs (p^m) l);rw[hF,hE]at HF;rw[hE]at HE;rw[hF];clear hl s3 hf hF hE e0 aE;go_enter Tryz.func99,Tryz.ntmps99
 go_wp2_with fail
 generalize w.alloc (.cells #[.int .i64 p,.int .i64 m,mv] 24)=w1 at *;refine HE.o.mono ?_;rintro e w2⟨rfl,aC⟩;have aB:=Aa (aF.o.trans aC);clear d0 d1 d2;by_cases he:E=0
 .subst he;have aD:=Aa (show F=if l.contains 0=true then 7 else 0 from HF.o);clear aC;go_wp2_with fail
  go_loop [6] (fun i'=>∃(i:Nat),i<=l.length/\i'= .int .i64 i/\Hia (∀j,j<i->l.getD j 0≠0)) (fun i'=>l.length-(intOf i').toNat)
  case atStart=>exact⟨0,ac,rfl,Aa (fun j h=>ac)⟩
  case round=>
   obtain⟨i,hi,rfl,aA⟩:=hrel;by_cases hlt:i<l.length
   .obtain⟨bb,o,rfl,hc⟩:=S3.o ac;have c1:=aB.o.cell (hc i _ (Aw hlt));have i1:(0:Int)<=(i:Int):=by omega
    have i2:(i:Int)<(l.length:Int):=ac;obtain⟨x,hx⟩:=nA (l.getD i 0);rw[hx]at c1;have HX:=Aa hx;clear hc hx;by_cases h0:x=0
    .subst h0;have HR:=Aa (show F=7 from by
      rw[aD.o,if_pos];rw[List.contains_iff_mem,<-HX.o,List.getD_eq_getElem?_getD,List.getElem?_eq_getElem hlt];exact List.getElem_mem hlt)
     exact zcH
    .have kb:(x==0)=false:=by simpa using h0
     have HA:=Aa (show ∀j,j<i+1->l.getD j 0≠0 from fun j hj=>by
      by_cases e:j=i
      .subst e;rw[HX.o];exact h0
      .exact aA.o j ac)
     clear h0;exact zbG
   .obtain rfl:i=l.length:=by omega
    have HR:=Aa (show F=0 from by
     rw[aD.o,if_neg];intro h;rw[List.contains_iff_mem]at h;obtain⟨j,hj,e⟩:=List.getElem_of_mem h;exact aA.o j hj (by rw[List.getD_eq_getElem?_getD,List.getElem?_eq_getElem hj];exact e))
    exact zcH
 .have HR:=Aa (show F=E from by rw[HF.o,if_pos he]);have kb:(E !=0)=true:=by simpa using he
  clear aC he;exact zcH
end
end Go.Proofs.YtehieobniamagaaGreat
