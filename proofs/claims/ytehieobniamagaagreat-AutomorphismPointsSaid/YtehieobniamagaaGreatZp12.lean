/- Walks of equivalence.open and Check. -/
import Derived.Deep.AppendLies
import Derived.Test.YtehieobniamagaaGreatZp06
import Derived.Test.YtehieobniamagaaGreatZp10
import Derived.Test.YtehieobniamagaaGreatZp11
namespace Go.Proofs.YtehieobniamagaaGreat
set_option linter.unusedVariables false
set_option linter.unusedSimpArgs false
set_option maxRecDepth 100000
set_option maxHeartbeats 4000000
section
open Go.RowKit
theorem za2{P:Prop}(h:P:=by
 go_wp2_with (go_at_call 150;refine aB.o.mono ?_;rintro e w3⟨rfl,aA⟩;have aC:=Aa (HX.o.trans aA);have a1:=aA.cell a1;have b1:=aA.cell b1;have b2:=aA.cell b2;clear aA)
 go_ret2;exact⟨Ek (by decide) (some ⟨b,0,none⟩) _,aC.o⟩):P:=h
theorem zbL{P:Prop}(h:P:=by
 go_wp2_with fail
 go_ret2;exact⟨Ek (by decide) none _,HX.o⟩):P:=h
theorem Lc(w:World)(p m:Int)(ml:List Int)(mv:Value)(aH:Ak w mv ml)(n:Int)(pl sl:List Int)(pv sv:Value)(hp:Ak w pv pl)(hs:Ak w sv sl)(fr:Int):
  Calls Tryz.prog 91 #[.agg #[.int .i64 p,.int .i64 m,mv],.int .i64 n,.agg #[pv,sv,.int .i64 fr]] w fun r w'=>Zf p m ml (Ck p m ml n pl sl fr) r w'/\Ex w w':=by
 obtain⟨a0,a1,a2,ea⟩:=B3 w p m mv;obtain⟨b0,b1,b2,eb⟩:=Az (w.alloc (.cells #[.int .i64 p,.int .i64 m,mv] 24)) pv sv fr;have a0:=eb.cell a0;have a1:=eb.cell a1;have a2:=eb.cell a2;have aI:(w.alloc (.cells #[.int .i64 p,.int .i64 m,mv] 24)).heap.size=w.heap.size+1:=ag;rw[aI]at b0 b1 b2;have HE:=Aa (ea.trans eb);have aM:=Aa (E4 p m ml mv _ (aH.ex HE.o));have aO:=Aa (fun w1 (hx:Ex w w1)=>Gb w1 pl pv n (hp.ex hx));have aR:=Aa (fun w1 (hx:Ex w w1) (b pn mn x0:Nat) (hg:AR w1 b pn mn ml x0)=>Io w1 hg sl sv (hs.ex hx));obtain⟨ma,mc,rfl,_,_,_⟩:=aH.open;obtain⟨pa,pc,rfl,_,p2,_⟩:=hp.open;obtain⟨sa,sc,rfl,_,s2,_⟩:=hs.open;unfold maxLen at p2 s2;obtain⟨E,hE⟩:=nA (Ck p m ml n pl sl fr);have hM:=hE;unfold Ck at hM;rw[hE];clear aH hp hs hE aI ea eb;go_enter Tryz.func91,Tryz.ntmps91
 go_wp2_with fail
 obtain⟨q,hq⟩:=nA w.heap.size;rw[hq]at a0 a1 a2 b0 b1 b2
 try simp only[hq]
 clear hq;generalize (w.alloc (.cells #[.int .i64 p,.int .i64 m,.slice ma ml.length mc] 24)).alloc (.cells #[.slice pa pl.length pc,.slice sa sl.length sc,.int .i64 fr] 26)=w1 at *;have A0:=Aa a0;have A1:=Aa a1;have B0:=Aa b0;have B1:=Aa b1;have B2:=Aa b2;clear a0 a1 a2 b0 b1 b2;refine aM.o.mono ?_;rintro e w2⟨hn,aD⟩;rcases hn with⟨pn,mn,x0,b,rfl,rfl,rfl,hg,x1,x2⟩|⟨hno,rfl⟩
 .have aF:BN pn mn ml=0:=(BH _ _ _).2 (hg.fldB x1 x2);rw[if_neg (by rw[aF];decide),Int.toNat_natCast,Int.toNat_natCast]at hM;have HG:=Aa hg;have HX:=Aa (HE.o.trans aD);have a1:=aD.cell A1.o;have b0:=aD.cell B0.o;have b1:=aD.cell B1.o;have b2:=aD.cell B2.o;have HX2:=Aa aD;have aJ:=Aa (show 1<=x0/\x0<pn^mn from⟨x1,x2⟩);clear aF hg aD x1 x2;by_cases hn1:n<1∨64<n
  .rw[if_pos hn1]at hM;subst hM;by_cases h1:n<1
   .have e1:decide (n<1)=true:=decide_eq_true h1;clear hn1 h1;exact zbL
   .have e1:decide (n<1)=false:=decide_eq_false h1;have e2:decide (64<n)=true:=decide_eq_true ac;clear hn1 h1;exact zbL
  .rw[if_neg hn1]at hM;have e1:decide (n<1)=false:=decide_eq_false ac;have e2:decide (64<n)=false:=decide_eq_false ac;by_cases hln:(pl.length:Int)≠n∨(sl.length:Int)≠n
   .rw[if_pos hln]at hM;subst hM;by_cases h1:(pl.length:Int)=n
    .have e3:((pl.length:Int) !=n)=false:=by simpa using h1
     have e4:((sl.length:Int) !=n)=true:=al;clear hln h1 hn1;exact zbL
    .have e3:((pl.length:Int) !=n)=true:=by simpa using h1
     clear hln h1 hn1;exact zbL
   .rw[if_neg hln]at hM;have e3:((pl.length:Int) !=n)=false:=by simp;omega
    have e4:((sl.length:Int) !=n)=false:=al;have aB:=Aa (aO.o w2 HX.o);clear hln hn1;by_cases hr:Bq pl n=true
    .obtain⟨D,hD⟩:=nA (DC pl);have aE:EU pl n=if D=true then 18 else 0:=by unfold EU;rw[if_neg (by rw[hr];decide),hD]
     rw[hD]at hM;rw[aE]at aB;by_cases hf:fr<0∨(mn:Int)<=fr
     .rw[if_pos (.inr hf)]at hM;subst hM;cases D <;> (
       first|rw[if_pos rfl]at aB|rw[if_neg ae]at aB
       by_cases h1:fr<0
       .have e5:decide (fr<0)=true:=decide_eq_true h1;clear hf h1 aE hD;exact za2
       .have e5:decide (fr<0)=false:=decide_eq_false h1;have e6:decide ((mn:Int)<=fr)=true:=decide_eq_true ac;clear hf h1 aE hD;go_wp2_with (go_at_call 150;refine aB.o.mono ?_;rintro e w3⟨rfl,aA⟩;have aC:=Aa (HX.o.trans aA);have a1:=aA.cell a1;have b1:=aA.cell b1;have b2:=aA.cell b2;clear aA)
        go_ret2;exact⟨Ek ae (some ⟨b,0,none⟩) _,aC.o⟩)
     .rw[if_neg (by
        rintro (h|h);·rw[hr]at h;cases h
        .exact hf h)]at hM
      have e5:decide (fr<0)=false:=decide_eq_false ac;have e6:decide ((mn:Int)<=fr)=false:=decide_eq_false ac
      cases D with
      | true=>
       rw[if_pos rfl]at aB hM;subst hM;clear hf aE hD;exact za2
      | false=>
       rw[if_neg ae]at aB hM;have aN:=Aa hM;clear hf aE hD hM;go_wp2_with (go_at_call 150;refine aB.o.mono ?_;rintro e w3⟨rfl,aA⟩;have aC:=Aa (HX.o.trans aA);have a1:=aA.cell a1;have b1:=aA.cell b1;have b2:=aA.cell b2;have aK:=Aa (HG.o.ex aA);have aQ:=Aa (aR.o w3 aC.o b pn mn x0 aK.o);clear aA)
       refine aQ.o.mono ?_;rintro e w4⟨rfl,aG⟩;have aL:=Aa (aC.o.trans aG);have aP:=Aa (aK.o.ex aG);rw[aN.o];clear aG;go_wp2_with fail
       go_ret2;refine⟨?_,aL.o⟩;by_cases h0:E=0
       .subst h0;exact .inl ⟨rfl,b,pn,mn,x0,rfl,rfl,rfl,aP.o,aJ.o.1,aJ.o.2⟩
       .exact Ek h0 (some ⟨b,0,none⟩) _
    .have hr:Bq pl n=false:=by simpa using hr
     have aE:EU pl n=6:=by unfold EU;rw[if_pos hr]
     rw[aE]at aB;rw[if_pos (.inl hr)]at hM;subst hM;clear aE hr;exact za2
 .have aF:BN p m ml≠0:=fun h=>hno ((BH _ _ _).1 h);rw[if_pos aF]at hM;subst hM;clear aF hno;go_wp2_with fail
  go_ret2;exact⟨Ek ae none _,HE.o.trans aD⟩
theorem Pw(w:World)(p m:Int)(ml:List Int)(mv:Value)(aB:Ak w mv ml)(n:Int)(pl sl:List Int)(pv sv:Value)(hp:Ak w pv pl)(hs:Ak w sv sl)(fr:Int):
  Calls Tryz.prog 51 #[.agg #[.int .i64 p,.int .i64 m,mv],.int .i64 n,.agg #[pv,sv,.int .i64 fr]] w fun r w'=>r= .returned (.int .i64 (Ck p m ml n pl sl fr))/\Ex w w':=by
 obtain⟨ma,mc,rfl,_,_,_⟩:=aB.open;obtain⟨pa,pc,rfl,_,_,_⟩:=hp.open;obtain⟨sa,sc,rfl,_,_,_⟩:=hs.open;have HO:=Aa (fun w1 (hx:Ex w w1)=>Lc w1 p m ml _ (aB.ex hx) n pl sl _ _ (hp.ex hx) (hs.ex hx) fr);obtain⟨E,hE⟩:=nA (Ck p m ml n pl sl fr);rw[hE]at HO ⊢;clear hE aB hp hs;go_enter Tryz.func51,Tryz.ntmps51
 go_wp2_with fail
 refine(HO.o _ (((Ex.refl w).alloc _).alloc _)).mono ?_;rintro e w2⟨hr,aA⟩;have HX:=Aa ((((Ex.refl w).alloc _).alloc _).trans aA);rcases hr with⟨rfl,b,pn,mn,x0,rfl,rfl,rfl,hg,_,_⟩|⟨h0,ptr,rfl⟩
 .clear hg aA;go_wp2_with fail
  go_ret;exact⟨rfl,HX.o⟩
 .clear aA h0;go_wp2_with fail
  go_ret;exact⟨rfl,HX.o⟩
end
section
open Go.RowKit
def Et(pl:List Int)(i:Nat):Nat:=(pl.getD i 0).toNat
def vF(p m:Nat)(ml sl:List Int)(fr:Nat)(x:List Int)(i:Nat):Int:=
 ((Ar p m (lw ml) (AA (p^m) (sl.getD i 0)) (WN p m (lw ml) (AA (p^m) (x.getD i 0)) fr):Nat):Int)
def Ki(p m:Nat)(ml pl sl:List Int)(fr:Nat)(x:List Int)(N:Nat):Nat->Int:=plc (Et pl) (vF p m ml sl fr x) N
theorem dn{P:Prop}(h:P:=by rw[List.getD_eq_getElem?_getD,List.getElem?_eq_getElem hi];exact List.getElem_mem _):P:=h
theorem Dk{l:List Int}{n:Int}(h:Bq l n=true){i:Nat}(hi:i<l.length):0<=l.getD i 0/\l.getD i 0<n:=by
 unfold Bq at h;have:=List.all_eq_true.1 h (l.getD i 0) dn;simpa using this
theorem Ay{l:List Int}{i:Nat}(hi:i<l.length):l[i]?=some (l.getD i 0):=by
 rw[List.getD_eq_getElem?_getD,List.getElem?_eq_getElem hi];rfl
section
variable {b p m x0:Nat} {ml:List Int}
theorem dy{P:Prop}(h:P:=by simp[hB]):P:=h
theorem RM(w:World)(hg:AR w b p m ml x0)(N:Nat)(hN:N<=64)(pl sl x:List Int)(pv sv xv:Value)(hp:Ak w pv pl)(hs:Ak w sv sl)(hx:Ak w xv x)(fr:Nat)(bF:fr<m)(aH:pl.length=N)(aG:sl.length=N)(aK:x.length=N)(hr:Bq pl N=true):
  Calls Tryz.prog 92 #[.pointer (some ⟨b,0,none⟩),.agg #[pv,sv,.int .i64 fr],xv] w fun r w'=>∃g,r= .returned (.slice (some ⟨g,0,none⟩) N N)/\AG w' w.heap.size 3 g N (iv (Ki p m ml pl sl fr x N))/\Ex w w':=by
 obtain⟨b0,b1,b2,eb⟩:=Az w pv sv fr;have p2:=hg.sh.p2;have m1:=hg.sh.m1;have bO:=Aa (fun (w1:World) (h1:Ex w w1) (y:Int)=>KB w1 (hg.ex h1) y fr bF);have bK:=Aa (fun (w1:World) (h1:Ex w w1) (y z:Int)=>Eg w1 (hg.ex h1) y z);obtain⟨pa,pc,rfl,_,q2,p3⟩:=hp.open;obtain⟨sa,sc,rfl,_,s2,s3⟩:=hs.open;obtain⟨xa,xc,rfl,_,x2,x3⟩:=hx.open;unfold maxLen at q2 s2 x2;rw[aH]at p3;rw[aG]at s3;rw[aK]at x3;rw[aH,aG,aK];rw[aH,aG]at b0 b1 eb b2;have P3:=Aa p3;have S3:=Aa s3;have X3:=Aa x3;have bJ:=Aa (fun i (hi:i<N)=>Dk hr (i:=i) ac);have bN:=Aa (fun i (hi:i<N)=>Ay (l:=pl) (i:=i) ac);have bM:=Aa (fun i (hi:i<N)=>Ay (l:=sl) (i:=i) ac);have bL:=Aa (fun i (hi:i<N)=>Ay (l:=x) (i:=i) ac);have aE:=Aa eb;clear hg hp hs hx p3 s3 x3 eb aH aG aK hr;go_enter Tryz.func92,Tryz.ntmps92
 go_wp2_with (at_make;refine Ap _ rfl _ _ 22 rfl 3 (.int .i64 0) 8 Tryz.underlying22 Aw rfl _ N rfl rfl rfl ac ai ?_)
 obtain⟨B,hB⟩:=nA w.heap.size;rw[hB]at b0 b1 b2
 try simp only[hB]
 have bQ:=Aa hB;have aT:(w.alloc (.cells #[.slice pa N pc,.slice sa N sc,.int .i64 fr] 26)).heap.size=B+1:=dy;clear hB;generalize w.alloc (.cells #[.slice pa N pc,.slice sa N sc,.int .i64 fr] 26)=w1 at *;intro w3 aA aR;have B0:=Aa b0;have B1:=Aa b1;have B2:=Aa b2;obtain⟨g,aI⟩:=nA (B+1);have aX:=Aa (show AG w3 g 3 g N (iv (plc (Et pl) (vF p m ml sl fr x) 0)) from by rw[<-aI];exact aA)
 try simp only[aI]
 have bH:=Aa aR;have aZ:=Aa (show w1.heap.size=g from by rw[<-aI,<-aT]);clear aA aR b0 b1 b2 aI aT;go_wp2_with fail
 go_loopw [15] (fun i' wr=>∃(i:Nat),i<=N/\i'= .int .i64 i/\Hia (AG wr g 3 g N (iv (plc (Et pl) (vF p m ml sl fr x) i)))/\Hia (Ex w1 wr)) (fun i' _=>N-(intOf i').toNat)
 case atStart=>exact⟨0,ac,rfl,aX,bH⟩
 case round=>
  clear aX;obtain⟨i,hi,rfl,aA,aB⟩:=hrel;by_cases hin:i<N
  .obtain⟨pb,po,rfl,aV⟩:=P3.o ac;obtain⟨sb,so,rfl,aU⟩:=S3.o ac;obtain⟨xb,xo,rfl,aQ⟩:=X3.o ac;have bE:=bJ.o i hin;have aF:=Aa (aE.o.trans aB.o);obtain⟨y,hy⟩:=nA (Et pl i);have aP:pl.getD i 0=(y:Int):=by rw[<-hy];unfold Et;omega
   have bD:y<N:=ac;have aN:=bN.o i hin;rw[aP]at aN;have bC:=Aa (aV i _ aN);have cp:=aF.o.cell bC.o;obtain⟨s,hs⟩:=nA (sl.getD i 0);have aM:=bM.o i hin;rw[hs]at aM;have bB:=Aa (aU i _ aM);have cs:=aF.o.cell bB.o;obtain⟨z,hz⟩:=nA (x.getD i 0);have aL:=bL.o i hin;rw[hz]at aL;have cx:=aF.o.cell (aQ i _ aL);have i1:(0:Int)<=(i:Int):=ac;have i2:(i:Int)<(N:Int):=ac;have i3:(0:Int)<=(y:Int):=ac;have i4:(y:Int)<(N:Int):=ac;have bA:=Aa (fun (w5:World) (h5:Ex wr w5)=>bO.o w5 (aF.o.trans h5) z);obtain⟨t,ht⟩:=nA (WN p m (lw ml) (AA (p^m) z) fr);have aS:t<p^m:=by rw[<-ht];exact T5 p2 m1 (Cx (Nat.pow_pos ac) _) _
   rw[ht]at bA;have aY:=Aa (fun (w5:World) (h5:Ex wr w5)=>by
    have:=bK.o w5 (aF.o.trans h5) s (t:Int);rw[Bu aS]at this;exact this)
   obtain⟨u,hu⟩:=nA (Ar p m (lw ml) (AA (p^m) s) t);rw[hu]at aY;have bI:=Aa (show Ax (plc (Et pl) (vF p m ml sl fr x) i) y (u:Int)=plc (Et pl) (vF p m ml sl fr x) (i+1) from by
    show _=Ax (plc (Et pl) (vF p m ml sl fr x) i) (Et pl i) (vF p m ml sl fr x i)
    rw[hy]
    congr 1
    unfold vF;rw[hs,hz,ht,hu])
   have d0:=aB.o.cell B0.o;have d1:=aB.o.cell B1.o;have d2:=aB.o.cell B2.o;have aJ:=Aa aA.o;have bP:=Aa aB.o;have aC:=Aa (fun (w5:World) (h5:Ex wr w5)=>(aJ.o.ex h5).exSet (a:=w1) (Nat.le_of_eq aZ.o) (bP.o.trans h5) y (.int .i64 (u:Int)));have aW:=Aa (fun (w5:World) (h5:Ex wr w5)=>show AG (w5.setCell ⟨g,y,none⟩ (.int .i64 (u:Int))) g 3 g N (iv (plc (Et pl) (vF p m ml sl fr x) (i+1))) from by
    rw[<-bI.o,<-Cy];exact(aJ.o.ex h5).set y _)
   have CP:=Aa cp;have CS:=Aa cs;have CX:=Aa cx;have bG:=Aa bD;clear bE hy aP aN hs aM hz aL ht aS hu aV aU aQ aA aB;go_wp2_with fail
   have bT:=Aa d0;have bS:=Aa d1;have bR:=Aa d2;have aD:=Aa (fun (w5:World) (h5:Ex wr w5)=>(⟨h5.cell CP.o,h5.cell CS.o,h5.cell bT.o,h5.cell bS.o,h5.cell bR.o⟩:w5.cell? ⟨pb,po+i,none⟩=some (.int .i64 (y:Int))/\w5.cell? ⟨sb,so+i,none⟩=some (.int .i64 s)/\w5.cell? ⟨B,0,none⟩=some (.slice (some ⟨pb,po,none⟩) N pc)/\w5.cell? ⟨B,1,none⟩=some (.slice (some ⟨sb,so,none⟩) N sc)/\w5.cell? ⟨B,2,none⟩=some (.int .i64 (fr:Int))));have aO:=Aa (fun (w5:World) (h5:Ex wr w5)=>(⟨(aE.o.trans (aC.o w5 h5)).cell bC.o,(aE.o.trans (aC.o w5 h5)).cell bB.o,(aC.o w5 h5).cell B0.o,(aC.o w5 h5).cell B1.o,(aC.o w5 h5).cell B2.o⟩:(w5.setCell ⟨g,y,none⟩ (.int .i64 (u:Int))).cell? ⟨pb,po+i,none⟩=some (.int .i64 (y:Int))/\(w5.setCell ⟨g,y,none⟩ (.int .i64 (u:Int))).cell? ⟨sb,so+i,none⟩=some (.int .i64 s)/\(w5.setCell ⟨g,y,none⟩ (.int .i64 (u:Int))).cell? ⟨B,0,none⟩=some (.slice (some ⟨pb,po,none⟩) N pc)/\(w5.setCell ⟨g,y,none⟩ (.int .i64 (u:Int))).cell? ⟨B,1,none⟩=some (.slice (some ⟨sb,so,none⟩) N sc)/\(w5.setCell ⟨g,y,none⟩ (.int .i64 (u:Int))).cell? ⟨B,2,none⟩=some (.int .i64 (fr:Int))));clear d0 d1 d2 cp cs;have G0:Ex wr wr.drew:=(Ex.refl wr).drew
   go_region_held3 (fun w'=>w'.cell? ⟨pb,po+i,none⟩=some (.int .i64 (y:Int))/\w'.cell? ⟨sb,so+i,none⟩=some (.int .i64 s)/\w'.cell? ⟨B,0,none⟩=some (.slice (some ⟨pb,po,none⟩) N pc)/\w'.cell? ⟨B,1,none⟩=some (.slice (some ⟨sb,so,none⟩) N sc)/\w'.cell? ⟨B,2,none⟩=some (.int .i64 (fr:Int)))
    (first|with_reducible exact aD.o _ G0|with_reducible exact aD.o _ X5|with_reducible exact aD.o _ X6|with_reducible exact aO.o _ X6)
    (first|(go_at_call 107;(with_reducible refine(bA.o _ G0).mono ?_);rintro e w5⟨rfl,h5⟩;have X5:=G0.trans h5;clear h5)|(go_at_call 106;(with_reducible refine(aY.o _ X5).mono ?_);rintro e w6⟨rfl,n6,rfl⟩;have X6:=X5.drewN n6;have co6:=(aJ.o.ex X6).cell bG.o;have cf6:=(aJ.o.ex X6).frz y))
   go_wp2_with fail
   go_roundw
   case rel=>first|exact⟨i+1,ac,by go_num,Aa (aW.o _ X6),Aa (aC.o _ X6)⟩|((repeat apply Exists.intro);exact⟨⟨i+1,ac,by go_num,Aa (aW.o _ X6),Aa (aC.o _ X6)⟩,rfl⟩)
   case measure=>simp[intOf];omega
  .obtain rfl:i=N:=by omega
   go_wp2_with fail
   go_ret;exact⟨g,rfl,aA.o.mono (by have:=aZ.o;have:=bQ.o;have:=aE.o.size;omega),aE.o.trans aB.o⟩
end
end
section
open Go.RowKit
theorem Hj{p m:Int}{ml:List Int}{n:Int}{pl sl:List Int}{fr:Int}(h:Ck p m ml n pl sl fr=0):
  BN p m ml=0/\1<=n/\n<=64/\(pl.length:Int)=n/\(sl.length:Int)=n/\Bq pl n=true/\0<=fr/\fr<m/\DC pl=false/\D4 (p.toNat^m.toNat) sl=0:=by
 unfold Ck at h;split at h
 .cases h
 rename_i h1;split at h
 .cases h
 rename_i h2;split at h
 .cases h
 rename_i h3;split at h
 .cases h
 rename_i h4;split at h
 .cases h
 rename_i h5;refine⟨by simpa using h1,ac,ac,ac,ac,?_,ac,ac,by simpa using h5,h⟩
 cases hr:Bq pl n with
 | true=>rfl
 | false=>exact absurd (.inl hr) h4
section
variable {b p m x0:Nat} {ml:List Int}
end
end
section
open Go.RowKit
theorem XQ{q:Nat}{l:List Int}(h:D4 q l=0){i:Nat}(hi:i<l.length):∃z:Nat,l.getD i 0=(z:Int)/\1<=z/\z<q:=by
 unfold D4 at h;split at h
 .cases h
 rename_i h1;split at h
 .cases h
 rename_i h2;have hm:l.getD i 0∈l:=dn;have ha:Fi q (l.getD i 0)=true:=by
  cases hb:Fi q (l.getD i 0) with
  | true=>rfl
  | false=>exact absurd (List.any_eq_true.2 ⟨_,hm,by rw[hb];rfl⟩) h1
 have hz:l.getD i 0≠0:=fun e=>h2 (List.contains_iff_mem.2 (e ▸ hm));clear hm;generalize l.getD i 0=z at *;unfold Fi at ha;simp at ha;exact⟨z.toNat,ac,ac,ac⟩
structure CE where
 perm:List Int
 scale:List Int
 frob:Int
def Zr(M:CE)(e:Int)(r:Ending)(w':World):Prop:=∃u v,r= .returned (.tuple #[.agg #[u,v,.int .i64 M.frob],.int .i64 e])/\Ak w' u M.perm/\Ak w' v M.scale
structure WD(w:World)(b:Nat):Prop where
 c0:w.cell? ⟨b,0,none⟩=some (.slice none 0 0)
 c1:w.cell? ⟨b,1,none⟩=some (.slice none 0 0)
 c2:w.cell? ⟨b,2,none⟩=some (.int .i64 0)
 f0:w.frozen? ⟨b,0,none⟩=false
 f1:w.frozen? ⟨b,1,none⟩=false
 f2:w.frozen? ⟨b,2,none⟩=false
theorem WD.new(w:World):WD (w.alloc (.cells #[.slice none 0 0,.slice none 0 0,.int .i64 0] 26)) w.heap.size:=⟨ag,ag,ag,ag,ag,ag⟩
theorem WD.ex{w w':World}{b:Nat}(h:WD w b)(hx:Ex w w'):WD w' b:=⟨hx.cell h.c0,hx.cell h.c1,hx.cell h.c2,hx.frz h.c0 h.f0,hx.frz h.c1 h.f1,hx.frz h.c2 h.f2⟩
theorem AT{w0 w:World}{q:Nat}(hx:Ex w0 w)(hq:w0.heap.size<=q)(u v z:Value):Ex w0 (((w.setCell ⟨q,0,none⟩ u).setCell ⟨q,1,none⟩ v).setCell ⟨q,2,none⟩ z):=
 ((hx.setCell (p:=⟨q,0,none⟩) hq _).setCell (p:=⟨q,1,none⟩) hq _).setCell (p:=⟨q,2,none⟩) hq _
theorem Dq{w:World}{q:Nat}{v:Value}{l:List Int}(h:Ak w v l)(hq:∀B,v.ownBlock=some B->B≠q)(a b c:Value):Ak (((w.setCell ⟨q,0,none⟩ a).setCell ⟨q,1,none⟩ b).setCell ⟨q,2,none⟩ c) v l:=
 Sl.other (Sl.other (Sl.other h (fun B e=>hq B e) _) (fun B e=>hq B e) _) (fun B e=>hq B e) _
end
section
open Go.RowKit
theorem Au(w:World)(a b:Addr)(u:Value):(w.setCell a u).frozen? b=w.frozen? b:=ag
structure E6(w1 wr:World)(B:Nat)(bk:Int)(pv sv:Value)(L0 L1:List Int):Prop where
 b0:wr.cell? ⟨B,0,none⟩=some pv
 b1:wr.cell? ⟨B,1,none⟩=some sv
 b2:wr.cell? ⟨B,2,none⟩=some (.int .i64 bk)
 f0:wr.frozen? ⟨B,0,none⟩=false
 f1:wr.frozen? ⟨B,1,none⟩=false
 o0:wr.ownsRow w1.heap.size 3 1 pv L0.length (Am L0)
 o1:wr.ownsRow w1.heap.size 3 1 sv L1.length (Am L1)
 ap:AJ pv sv
 n0:∀X,pv.ownBlock=some X->X≠B
 n1:∀X,sv.ownBlock=some X->X≠B
 lb:w1.heap.size<=B
 ex:Ex w1 wr
section
variable {w1 wr w':World} {B:Nat} {bk:Int} {pv sv v':Value} {L0 L1:List Int} {x:Int}
theorem E6.later(h:E6 w1 wr B bk pv sv L0 L1)(hx:Ex wr w'):E6 w1 w' B bk pv sv L0 L1:=
 ⟨hx.cell h.b0,hx.cell h.b1,hx.cell h.b2,hx.frz h.b0 h.f0,hx.frz h.b1 h.f1,Ai h.o0 hx,Ai h.o1 hx,h.ap,h.n0,h.n1,h.lb,h.ex.trans hx⟩
theorem E6.no0(h:E6 w1 wr B bk pv sv L0 L1):some B≠pv.ownBlock:=fun e=>h.n0 B e.symm rfl
theorem E6.no1(h:E6 w1 wr B bk pv sv L0 L1):some B≠sv.ownBlock:=fun e=>h.n1 B e.symm rfl
theorem zbf{P:Prop}(h:P:=by
 have aA:=World.block_lt_of_cell? _ _ hB;rcases ha.at_ with h1|h1
 .rw[h1]at e;exact h X e
 .rw[h1]at e;injection e with e;have:B<wr.heap.size:=aA;omega):P:=h
theorem E6.blk{b:Nat}{u:Value}{e:TypeId}{n:Nat}{xs news:List Value}(ha:A8 wr w' b e 1 u v' n xs news)(hB:wr.cell? ⟨B,0,none⟩=some pv)(h:∀X,u.ownBlock=some X->X≠B):∀X,v'.ownBlock=some X->X≠B:=fun X e=>by
 exact zbf
end
section
variable {w1 wr w':World} {B:Nat} {bk:Int} {pv sv v':Value} {L0 L1:List Int} {x:Int}
theorem E6.at0g(h:E6 w1 wr B bk pv sv L0 L1)(ha:Oz wr w' w1.heap.size 3 1 pv v' L0.length (Am L0) [.int .i64 x]):
  w'.cell? ⟨B,0,none⟩=some pv/\w'.frozen? ⟨B,0,none⟩=false:=⟨ha.cell h.b0 h.no0,ha.frz h.b0 h.f0 h.no0⟩
theorem E6.at1g(h:E6 w1 wr B bk pv sv L0 L1)(ha:Oz wr w' w1.heap.size 3 1 sv v' L1.length (Am L1) [.int .i64 x]):
  w'.cell? ⟨B,1,none⟩=some sv/\w'.frozen? ⟨B,1,none⟩=false:=⟨ha.cell h.b1 h.no1,ha.frz h.b1 h.f1 h.no1⟩
theorem E6.blkg{b:Nat}{u:Value}{e:TypeId}{n:Nat}{xs news:List Value}(ha:Oz wr w' b e 1 u v' n xs news)(hB:wr.cell? ⟨B,0,none⟩=some pv)(h:∀X,u.ownBlock=some X->X≠B):∀X,v'.ownBlock=some X->X≠B:=fun X e=>by
 exact zbf
theorem E6.app0g(h:E6 w1 wr B bk pv sv L0 L1)(ha:Oz wr w' w1.heap.size 3 1 pv v' L0.length (Am L0) [.int .i64 x]):
  E6 w1 (w'.setCell ⟨B,0,none⟩ v') B bk v' sv (L0 ++ [x]) L1:=by
 have hn:=E6.blkg ha h.b0 h.n0;have hr:=ha.row h.o1 h.ap.symm;refine⟨World.cell?_setCell_same _ _ _ (ha.cell h.b0 h.no0),?_,?_,?_,?_,?_,?_,hr.2.symm,hn,h.n1,h.lb,(ha.ex h.ex (Nat.le_refl _)).setCell (p:=⟨B,0,none⟩) h.lb _⟩
 .rw[Ag ae];exact ha.cell h.b1 h.no0
 .rw[Ag ae];exact ha.cell h.b2 h.no0
 .rw[Au];exact ha.frz h.b0 h.f0 h.no0
 .rw[Au];exact ha.frz h.b1 h.f1 h.no0
 .have:=Ad (a:=⟨B,0,none⟩) ha.own (fun e=>hn B e rfl) v';rw[List.length_append,show Am (L0 ++ [x])=Am L0 ++ [.int .i64 x] from by unfold Am;simp];exact this
 .exact Ad (a:=⟨B,0,none⟩) hr.1 (fun e=>h.n1 B e rfl) v'
theorem E6.app1g(h:E6 w1 wr B bk pv sv L0 L1)(ha:Oz wr w' w1.heap.size 3 1 sv v' L1.length (Am L1) [.int .i64 x]):
  E6 w1 (w'.setCell ⟨B,1,none⟩ v') B bk pv v' L0 (L1 ++ [x]):=by
 have hn:=E6.blkg ha h.b0 h.n1;have hr:=ha.row h.o0 h.ap;refine⟨?_,World.cell?_setCell_same _ _ _ (ha.cell h.b1 h.no1),?_,?_,?_,?_,?_,hr.2,h.n0,hn,h.lb,(ha.ex h.ex (Nat.le_refl _)).setCell (p:=⟨B,1,none⟩) h.lb _⟩
 .rw[Ag ae];exact ha.cell h.b0 h.no1
 .rw[Ag ae];exact ha.cell h.b2 h.no1
 .rw[Au];exact ha.frz h.b0 h.f0 h.no1
 .rw[Au];exact ha.frz h.b1 h.f1 h.no1
 .exact Ad (a:=⟨B,1,none⟩) hr.1 (fun e=>h.n0 B e rfl) v'
 .have:=Ad (a:=⟨B,1,none⟩) ha.own (fun e=>hn B e rfl) v';rw[List.length_append,show Am (L1 ++ [x])=Am L1 ++ [.int .i64 x] from by unfold Am;simp];exact this
end
theorem E6.new(w1:World)(bk:Int):E6 w1 (w1.alloc (.cells #[.slice none 0 0,.slice none 0 0,.int .i64 bk] 26)) w1.heap.size bk (.slice none 0 0) (.slice none 0 0) [] []:=
 ⟨ag,ag,ag,ag,ag,World.ownsRow_nil _ _ _ _,World.ownsRow_nil _ _ _ _,AJ.nil _,by simp[Value.ownBlock],by simp[Value.ownBlock],Nat.le_refl _,(Ex.refl _).alloc _⟩
end
section
open Go.RowKit
theorem TM:(Tryz.prog.info? 22).map (fun i=>(i.zero,i.size,i.bytes))=some (some (.slice none 0 0),1,24):=ah
def AX(rows:List (List Int))(i j:Nat):Int:=(rows.getD i []).getD j 0
structure EK(w0 w:World)(g R N:Nat)(blk cap:Nat->Nat)(a:Nat->Nat->Int)(k:Nat):Prop where
 arr:AG w w0.heap.size 22 g R (fun i=>if i<k then Dz blk cap N i else .slice none 0 0)
 row:∀i,i<k->AQ w w0.heap.size 3 (blk i) N (cap i) (iv (a i))
 apart:∀i j,i<k->j<k->i≠j->blk i≠blk j
 off:∀i,i<k->blk i≠g
 ex:Ex w0 w
theorem EK.later{w0 w w':World}{g R N:Nat}{blk cap:Nat->Nat}{a:Nat->Nat->Int}{k:Nat}(h:EK w0 w g R N blk cap a k)(hx:Ex w w'):EK w0 w' g R N blk cap a k:=
 ⟨h.arr.ex hx,fun i hi=>(h.row i hi).ex hx,h.apart,h.off,h.ex.trans hx⟩
theorem EK.put{w0 w:World}{g R N:Nat}{blk cap:Nat->Nat}{a:Nat->Nat->Int}{k:Nat}(h:EK w0 w g R N blk cap a k){w':World}(hx:Ex w w'){nb nc:Nat}(hn:AQ w' w.heap.size 3 nb N nc (iv (a k)))(hw:w0.heap.size<=w.heap.size):
  EK w0 (w'.setCell ⟨g,k,none⟩ (.slice (some ⟨nb,0,none⟩) N nc)) g R N (Ax blk k nb) (Ax cap k nc) a (k+1):=by
 have h1:=h.later hx;have hgl:=h.arr.lt.2;have hnl:=hn.lt.1;have aA:nb≠g:=ac;refine⟨(h1.arr.set k _).congr fun i hi=>?_,fun i hi=>?_,fun i j hi hj aB=>?_,fun i hi=>?_,h1.arr.exSet (Nat.le_refl _) h1.ex k _⟩
 .by_cases e:i=k
  .subst e;rw[Ab];show _=(if i<i+1 then Dz (Ax blk i nb) (Ax cap i nc) N i else .slice none 0 0)
   rw[if_pos ac];unfold Dz;rw[Ab,Ab]
  .rw[Ae _ _ e];show(if i<k then Dz blk cap N i else .slice none 0 0)=(if i<k+1 then Dz (Ax blk k nb) (Ax cap k nc) N i else .slice none 0 0)
   by_cases h:i<k
   .rw[if_pos h,if_pos ac];unfold Dz;rw[Ae _ _ e,Ae _ _ e]
   .rw[if_neg h,if_neg ac]
 .by_cases e:i=k
  .subst e;rw[Ab,Ab];exact(show AQ w' w0.heap.size 3 nb N nc (iv (a i)) from Bt hn hw).other aA _
  .rw[Ae _ _ e,Ae _ _ e];exact(h1.row i ac).other (h.off i ac) _
 .by_cases e:i=k
  .subst e;rw[Ab,Ae _ _ (fun e=>aB e.symm)];have:=(h.row j ac).lt.2;omega
  .by_cases e2:j=k
   .subst e2;rw[Ab,Ae _ _ e];have:=(h.row i ac).lt.2;omega
   .rw[Ae _ _ e,Ae _ _ e2];exact h.apart i j ac ac aB
 .by_cases e:i=k
  .subst e;rw[Ab];exact aA
  .rw[Ae _ _ e];exact h.off i ac
theorem EK.done{w0 w:World}{g R N:Nat}{blk cap:Nat->Nat}{a:Nat->Nat->Int}(h:EK w0 w g R N blk cap a R):EM w w0.heap.size g R N blk cap a []:=
 ⟨h.arr.congr fun i hi=>by show(if i<R then Dz blk cap N i else .slice none 0 0)=_;rw[if_pos hi],h.row,h.apart,h.off,fun B hB=>by cases hB⟩
theorem RY(w:World)(N R:Nat)(rows:List (List Int))(v:Value)(hv:B6 w v rows)(hR:rows.length=R)(hR2:R<=256)(hN1:1<=N)(hN:N<=256)(hr:∀(i:Nat) (r:List Int),rows[i]?=some r->r.length=N):
  Calls Tryz.prog 202 #[v] w fun r w'=>∃g blk cap,r= .returned (.slice (some ⟨g,0,none⟩) R R)/\EM w' w.heap.size g R N blk cap (AX rows) []/\Ex w w':=by
 obtain⟨za,zc,rfl,z1,z2,z3⟩:=hv.open;rw[hR]at z1 z3 ⊢;unfold maxLen at z2;have Z3:=Aa z3;have aN:=Aa hr;have aM:=Aa hR;clear z3 hr hv hR;go_enter Tryz.func202,Tryz.ntmps202
 go_wp2_with (at_make;refine Ap _ rfl _ _ 37 rfl 22 (.slice none 0 0) 24 Tryz.underlying37 TM rfl _ R rfl rfl rfl ac ai ?_)
 intro w3 aA aI;obtain⟨g,aD⟩:=nA w.heap.size;have HSZ:=Aa aD;have aG:=Aa (show EK w w3 w.heap.size R N (fun _=>0) (fun _=>0) (AX rows) 0 from⟨aA.congr fun i hi=>ag,fun i hi=>ac,fun i j hi=>ac,fun i hi=>ac,aI⟩);rw[aD]at aG
 try simp only[aD]
 clear aA aI aD;go_wp2_with fail
 go_loopw [11] (fun k' wr=>∃(k:Nat) (blk cap:Nat->Nat),k<=R/\k'= .int .i64 k/\Hia (EK w wr g R N blk cap (AX rows) k)) (fun k' _=>R-(intOf k').toNat)
 case atStart=>exact⟨0,_,_,ac,rfl,aG⟩
 case round=>
  clear aG;obtain⟨k,blk,cap,hk,rfl,aB⟩:=hrel;by_cases hkR:k<R
  .obtain⟨zb,zo,rfl,aH⟩:=Z3.o ac;obtain⟨r,aC⟩:∃r,rows[k]?=some r:=⟨_,List.getElem?_eq_getElem (by rw[aM.o];exact hkR)⟩;obtain⟨uz,c1,aF⟩:=aH k r aC;have c1:=aB.o.ex.cell c1;have aJ:=aN.o k r aC;have HC:=Aa (Lq wr r uz (aF.ex aB.o.ex) ac ac);obtain⟨ua,uc,rfl,_,u2,_⟩:=aF.open;rw[aJ]at HC c1;have i1:(0:Int)<=(k:Int):=by omega
   have i2:(k:Int)<(R:Int):=ac;have aO:=Aa (show(fun j=>r.getD j 0)=AX rows k from by
    funext j;unfold AX;rw[List.getD_eq_getElem?_getD (l:=rows),aC];rfl)
   have aK:=aB.o.arr.cell hkR;have aL:=aB.o.arr.frz k;clear aH aF aC aJ;go_wp2_with (go_at_call 154;refine HC.o.mono ?_;rintro e w4⟨gg,cc,rfl,aA,aE⟩;have hcg2:=aE.cell aK;have hfg2:=aE.frz aK aL)
   rw[aO.o]at aA;have HP:=Aa (aB.o.put aE aA aB.o.ex.size);go_roundw
   case rel=>first|exact⟨k+1,_,_,ac,by go_num,HP⟩|((repeat apply Exists.intro);exact⟨⟨k+1,_,_,ac,by go_num,HP⟩,rfl⟩)
   case measure=>simp[intOf];omega
  .obtain rfl:R=k:=by omega
   have HE:=Aa aB.o.done;have HX:=Aa aB.o.ex;clear aB;go_wp2_with fail
   go_ret;exact⟨g,blk,cap,rfl,HE.o,HX.o⟩
theorem EM.low{w:World}{base g R N:Nat}{blk cap:Nat->Nat}{a:Nat->Nat->Int}(h:EM w base g R N blk cap a []){A:Addr}(hA:A.block<base)(u:Value):EM (w.setCell A u) base g R N blk cap a []:=
 ⟨h.arr.other (by have:=h.arr.lt;omega) u,fun i hi=>(h.row i hi).other (by have:=(h.row i hi).lt;omega) u,h.apart,h.off,fun B hB=>by cases hB⟩
def AM(N k:Nat)(a:Nat->Nat->Int):List (List Int):=(List.range k).map fun i=>il N (a i)
theorem FL{N k i:Nat}{a:Nat->Nat->Int}(h:i<k):(AM N k a)[i]?=some (il N (a i)):=by unfold AM;simp[h]
theorem Cc(N k:Nat)(a:Nat->Nat->Int):(AM N k a).length=k:=by unfold AM;simp
theorem EM.msl{w:World}{base g R N k:Nat}{blk cap:Nat->Nat}{a:Nat->Nat->Int}{avs:List Nat}(h:EM w base g R N blk cap a avs)(hk:k<=R)(hR:R<=256):B6 w (.slice (some ⟨g,0,none⟩) k k) (AM N k a):=by
 refine⟨(List.range k).map fun i=>Dz blk cap N i,?_,fun i r u h1 h2=>?_⟩
 .rw[Cc];refine⟨ag,some ⟨g,0,none⟩,k,rfl,Nat.le_refl _,by unfold maxLen;omega,fun h0=>⟨g,0,rfl,fun i z hz=>?_⟩⟩;have hi:i<k:=by have:=(List.getElem?_eq_some_iff.1 hz).1;simpa using this
  simp[hi]at hz;subst hz;rw[Nat.zero_add];exact h.cell ac
 .have hi:i<k:=by have:=(List.getElem?_eq_some_iff.1 h1).1;rw[Cc]at this;exact this
  rw[FL hi]at h1;injection h1 with h1;subst h1;simp[hi]at h2;subst h2;exact(h.row i ac).isl
theorem Pz{p m:Nat}{ml:List Int}{b x0:Nat}(w:World)(hg:AR w b p m ml x0)(aL:1<=x0)(aK:x0<p^m)(N R:Nat)(rows:List (List Int))(v:Value)(hv:B6 w v rows)(hR:rows.length=R)(aE:R<=256)(aM:1<=N)(hN:N<=256)(hr:∀(i:Nat) (r:List Int),rows[i]?=some r->r.length=N/\Cz (p^m) r=0):
  Calls Tryz.prog 157 #[.pointer (some ⟨b,0,none⟩),v,.int .i64 N] w fun r w'=>∃piv pv rv a',r= .returned (.tuple #[rv,pv])/\OF p m ml N R (AX rows) a' piv/\B6 w' rv (AM N piv.length a')/\Ak w' pv (pI piv)/\Ex w w'/\∃g blk cap,rv= .slice (some ⟨g,0,none⟩) piv.length piv.length/\EM w' w.heap.size g R N blk cap a' []/\∀B,pv.ownBlock=some B->w.heap.size<=B:=by
 have aA:R7 p m R N (AX rows):=fun i hi j hj=>by
  obtain⟨r,aF⟩:∃r,rows[i]?=some r:=⟨_,List.getElem?_eq_getElem ac⟩;obtain⟨h1,h2⟩:=hr i r aF;have e:AX rows i j=r.getD j 0:=by unfold AX;rw[List.getD_eq_getElem?_getD (l:=rows),aF];rfl
  rw[e];refine Ud h2 _ ?_;rw[List.getD_eq_getElem?_getD,List.getElem?_eq_getElem ac];exact List.getElem_mem _
 have HC:=Aa (RY w N R rows v hv hR aE aM hN fun i r h=>(hr i r h).1);have HG:=Aa hg;have aN:=Aa aA;clear hv hr aA hg;go_enter Tryz.func157,Tryz.ntmps157
 go_wp2_with (go_at_call 202;refine HC.o.mono ?_;rintro e w1⟨g,blk,cap,rfl,hem,hx1_⟩)
 refine(Uf w w1 HG.o aL aK hx1_ hem (Nat.le_refl _) hN aE aN.o).mono ?_;rintro e w2⟨piv,pv,det,blk',cap',a',rfl,aB,aD,aC,hx2_,aG⟩;have aJ:=Aa aB;have aP:=Aa aD;have HX:=Aa hx2_;have aH:=Aa aC;have aI:=Aa aG;have hk:piv.length<=R:=by obtain⟨c,_,h,_⟩:=aD;exact h.le
 obtain⟨pa,pc,rfl,_,p2_,_⟩:=aC.open;rw[S7]at aH aI ⊢;clear hem aB aD aC hx1_ hx2_ HC aG;have k1:(0:Int)<=(piv.length:Int):=ac;have k2:(piv.length:Int)<=(R:Int):=ac;have aO:=Aa (aJ.o.msl hk aE);go_wp2_with fail
 go_ret2;exact⟨piv,_,_,a',rfl,aP.o,aO.o,aH.o,HX.o,g,blk',cap',rfl,aJ.o,aI.o⟩
end
section
open Go.RowKit
theorem N0{p m:Nat}{ml:List Int}{N R:Nat}{a a':Nat->Nat->Int}{piv:List Nat}(h:OF p m ml N R a a' piv):piv.length<=R/\∀t∈AM N piv.length a',t.length=N/\Cz (p^m) t=0:=by
 obtain⟨c,hc,hP,_,hS⟩:=h;refine⟨hP.le,fun t ht=>?_⟩;unfold AM at ht;obtain⟨i,hi,rfl⟩:=List.mem_map.1 ht;have hi:=List.mem_range.1 hi;refine⟨AY _ _,QJ fun x hx=>?_⟩;obtain⟨j,hj,rfl⟩:=TP hx;exact hP.rng i (by have:=hP.le;omega) j hj
end
end Go.Proofs.YtehieobniamagaaGreat
