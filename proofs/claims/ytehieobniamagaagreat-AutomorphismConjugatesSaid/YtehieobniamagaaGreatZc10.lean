/- Walk of equivalence.image. -/
import Derived.Test.YtehieobniamagaaGreatZc09
namespace Go.Proofs.YtehieobniamagaaGreat
open Go.RowKit
set_option linter.all false
set_option maxRecDepth 100000
set_option maxHeartbeats 8000000
def BH(pl:List Int)(i:Nat):Nat:=(pl.getD i 0).toNat
def vF(p m:Nat)(ml sl:List Int)(fr:Nat)(x:List Int)(i:Nat):Int:=
 ((Al p m (lw ml) (Av (p^m) (sl.getD i 0)) (TQ p m (lw ml) (Av (p^m) (x.getD i 0)) fr):Nat):Int)
def LQ(p m:Nat)(ml pl sl:List Int)(fr:Nat)(x:List Int)(N:Nat):Nat->Int:=plc (BH pl) (vF p m ml sl fr x) N
theorem dn{P:Prop}(h:P:=by rw[List.getD_eq_getElem?_getD,List.getElem?_eq_getElem hi];exact List.getElem_mem _):P:=h
theorem Dy{l:List Int}{n:Int}(h:BD l n=true){i:Nat}(hi:i<l.length):0<=l.getD i 0/\l.getD i 0<n:=by
 unfold BD at h;have:=List.all_eq_true.1 h (l.getD i 0) dn;simpa using this
theorem AU{l:List Int}{i:Nat}(hi:i<l.length):l[i]?=some (l.getD i 0):=by
 rw[List.getD_eq_getElem?_getD,List.getElem?_eq_getElem hi];rfl
section
variable {b p m x0:Nat} {ml:List Int}
theorem Vb(w:World)(hg:Bj w b p m ml x0)(N:Nat)(hN:N<=64)(pl sl x:List Int)(pv sv xv:Value)(hp:Aj w pv pl)(hs:Aj w sv sl)(hx:Aj w xv x)(fr:Nat)(bF:fr<m)(aH:pl.length=N)(aG:sl.length=N)(aK:x.length=N)(hr:BD pl N=true):
  Calls Tryz.prog 92 #[.pointer (some (b,0)),.agg #[pv,sv,fr],xv] w fun r w'=>∃g,r= .returned (.slice (some ⟨g,0,none⟩) N N)/\AF w' w.heap.size 3 g N (iv (LQ p m ml pl sl fr x N))/\Ex w w':=by
 obtain⟨b0,b1,b2,eb⟩:=Bh w pv sv fr;have p2:=hg.sh.p2;have m1:=hg.sh.m1;have bO:=Aa (fun (w1:World) (h1:Ex w w1) (y:Int)=>M8 w1 (hg.ex h1) y fr bF);have bK:=Aa (fun (w1:World) (h1:Ex w w1) (y z:Int)=>Fg w1 (hg.ex h1) y z);obtain⟨pa,pc,rfl,_,q2,p3⟩:=hp.open;obtain⟨sa,sc,rfl,_,s2,s3⟩:=hs.open;obtain⟨xa,xc,rfl,_,x2,x3⟩:=hx.open;unfold maxLen at q2 s2 x2;rw[aH]at p3;rw[aG]at s3;rw[aK]at x3;rw[aH,aG,aK];rw[aH,aG]at b0 b1 eb b2;obtain⟨P3,S3,X3,bJ,bN,bM,bL,aE⟩:=On p3 s3 x3 (fun i (hi:i<N)=>Dy hr (i:=i) ac) (fun i (hi:i<N)=>AU (l:=pl) (i:=i) ac) (fun i (hi:i<N)=>AU (l:=sl) (i:=i) ac) (fun i (hi:i<N)=>AU (l:=x) (i:=i) ac) eb;clear hg hp hs hx p3 s3 x3 eb aH aG aK hr;go_enter Tryz.func92,Tryz.ntmps92
 go_wp2_with (at_make;refine Ar _ rfl _ _ 22 rfl 3 (.int .i64 0) 8 Tryz.underlying22 Az rfl _ N rfl rfl rfl ac ai ?_)
 obtain⟨B,hB⟩:=nA w.heap.size;rw[hB]at b0 b1 b2
 try simp only[hB]
 have bQ:=Aa hB;have aT:(w.alloc (.cells #[.slice pa N pc,.slice sa N sc,fr] 26)).heap.size=B+1:=by simp[hB]
 clear hB;generalize w.alloc (.cells #[.slice pa N pc,.slice sa N sc,fr] 26)=w1 at *;intro w3 aA aR;have B0:=Aa b0;have B1:=Aa b1;have B2:=Aa b2;obtain⟨g,aI⟩:=nA (B+1);have aX:=Aa (show AF w3 g 3 g N (iv (plc (BH pl) (vF p m ml sl fr x) 0)) from by rw[<-aI];exact aA)
 try simp only[aI]
 have bH:=Aa aR;have aZ:=Aa (show w1.heap.size=g from by rw[<-aI,<-aT]);clear aA aR b0 b1 b2 aI aT;go_wp2_with fail
 go_loopw [15] (fun i' wr=>∃(i:Nat),i<=N/\i'= .int .i64 i/\Hia (AF wr g 3 g N (iv (plc (BH pl) (vF p m ml sl fr x) i)))/\Hia (Ex w1 wr)) (fun i' _=>N-(intOf i').toNat)
 case atStart=>exact⟨0,ac,rfl,aX,bH⟩
 case round=>
  clear aX;obtain⟨i,hi,rfl,aA,aB⟩:=hrel;by_cases hin:i<N
  .obtain⟨pb,po,rfl,aV⟩:=P3.o ac;obtain⟨sb,so,rfl,aU⟩:=S3.o ac;obtain⟨xb,xo,rfl,aQ⟩:=X3.o ac;have bE:=bJ.o i hin;have aF:=Aa (aE.o.trans aB.o);obtain⟨y,hy⟩:=nA (BH pl i);have aP:pl.getD i 0=(y:Int):=by rw[<-hy];unfold BH;omega
   have bD:y<N:=ac;have aN:=bN.o i hin;rw[aP]at aN;have bC:=Aa (aV i _ aN);have cp:=aF.o.cell bC.o;obtain⟨s,hs⟩:=nA (sl.getD i 0);have aM:=bM.o i hin;rw[hs]at aM;have bB:=Aa (aU i _ aM);have cs:=aF.o.cell bB.o;obtain⟨z,hz⟩:=nA (x.getD i 0);have aL:=bL.o i hin;rw[hz]at aL;have cx:=aF.o.cell (aQ i _ aL);have i1:(0:Int)<=(i:Int):=ac;have i2:(i:Int)<(N:Int):=ac;have i3:(0:Int)<=(y:Int):=ac;have i4:(y:Int)<(N:Int):=ac;have bA:=Aa (fun (w5:World) (h5:Ex wr w5)=>bO.o w5 (aF.o.trans h5) z);obtain⟨t,ht⟩:=nA (TQ p m (lw ml) (Av (p^m) z) fr);have aS:t<p^m:=by rw[<-ht];exact OP p2 m1 (Cc (Nat.pow_pos ac) _) _
   rw[ht]at bA;have aY:=Aa (fun (w5:World) (h5:Ex wr w5)=>by
    have:=bK.o w5 (aF.o.trans h5) s (t:Int);rw[AA aS]at this;exact this)
   obtain⟨u,hu⟩:=nA (Al p m (lw ml) (Av (p^m) s) t);rw[hu]at aY;have bI:=Aa (show Ay (plc (BH pl) (vF p m ml sl fr x) i) y (u:Int)=plc (BH pl) (vF p m ml sl fr x) (i+1) from by
    show _=Ay (plc (BH pl) (vF p m ml sl fr x) i) (BH pl i) (vF p m ml sl fr x i)
    rw[hy]
    congr 1
    unfold vF;rw[hs,hz,ht,hu])
   have d0:=aB.o.cell B0.o;have d1:=aB.o.cell B1.o;have d2:=aB.o.cell B2.o;have aJ:=Aa aA.o;have bP:=Aa aB.o;have aC:=Aa (fun (w5:World) (h5:Ex wr w5)=>(aJ.o.ex h5).exSet (a:=w1) (Nat.le_of_eq aZ.o) (bP.o.trans h5) y (.int .i64 (u:Int)));have aW:=Aa (fun (w5:World) (h5:Ex wr w5)=>show AF (w5.setCell (g,y) (.int .i64 (u:Int))) g 3 g N (iv (plc (BH pl) (vF p m ml sl fr x) (i+1))) from by
    rw[<-bI.o,<-CD];exact(aJ.o.ex h5).set y _)
   obtain⟨CP,CS,CX,bG⟩:=Eq cp cs cx bD;clear bE hy aP aN hs aM hz aL ht aS hu aV aU aQ aA aB;go_wp2_with fail
   have bT:=Aa d0;have bS:=Aa d1;have bR:=Aa d2;have aD:=Aa (fun (w5:World) (h5:Ex wr w5)=>(⟨h5.cell CP.o,h5.cell CS.o,h5.cell bT.o,h5.cell bS.o,h5.cell bR.o⟩:w5.cell? (pb,po+i)=some (.int .i64 (y:Int))/\w5.cell? (sb,so+i)=some (.int .i64 s)/\w5.cell? (B,0)=some (.slice (some (pb,po)) N pc)/\w5.cell? (B,1)=some (.slice (some (sb,so)) N sc)/\w5.cell? (B,2)=some (.int .i64 (fr:Int))));have aO:=Aa (fun (w5:World) (h5:Ex wr w5)=>(⟨(aE.o.trans (aC.o w5 h5)).cell bC.o,(aE.o.trans (aC.o w5 h5)).cell bB.o,(aC.o w5 h5).cell B0.o,(aC.o w5 h5).cell B1.o,(aC.o w5 h5).cell B2.o⟩:(w5.setCell (g,y) (.int .i64 (u:Int))).cell? (pb,po+i)=some (.int .i64 (y:Int))/\(w5.setCell (g,y) (.int .i64 (u:Int))).cell? (sb,so+i)=some (.int .i64 s)/\(w5.setCell (g,y) (.int .i64 (u:Int))).cell? (B,0)=some (.slice (some (pb,po)) N pc)/\(w5.setCell (g,y) (.int .i64 (u:Int))).cell? (B,1)=some (.slice (some (sb,so)) N sc)/\(w5.setCell (g,y) (.int .i64 (u:Int))).cell? (B,2)=some (.int .i64 (fr:Int))));clear d0 d1 d2 cp cs;have G0:Ex wr wr.drew:=(Ex.refl wr).drew
   go_region_held3 (fun w'=>w'.cell? (pb,po+i)=some (.int .i64 (y:Int))/\w'.cell? (sb,so+i)=some (.int .i64 s)/\w'.cell? (B,0)=some (.slice (some (pb,po)) N pc)/\w'.cell? (B,1)=some (.slice (some (sb,so)) N sc)/\w'.cell? (B,2)=some (.int .i64 (fr:Int)))
    (first|with_reducible exact aD.o _ G0|with_reducible exact aD.o _ X5|with_reducible exact aD.o _ X6|with_reducible exact aO.o _ X6)
    (first|(go_at_call 107;(with_reducible refine(bA.o _ G0).mono ?_);rintro e w5⟨rfl,h5⟩;have X5:=G0.trans h5;clear h5)|(go_at_call 106;(with_reducible refine(aY.o _ X5).mono ?_);rintro e w6⟨rfl,n6,rfl⟩;have X6:=X5.drewN n6;have co6:=(aJ.o.ex X6).cell bG.o;have cf6:=(aJ.o.ex X6).frz y))
   go_wp2_with fail
   go_roundw
   case rel=>first|exact⟨i+1,ac,by go_num,Aa (aW.o _ X6),Aa (aC.o _ X6)⟩|((repeat apply Exists.intro);exact⟨⟨i+1,ac,by go_num,Aa (aW.o _ X6),Aa (aC.o _ X6)⟩,rfl⟩)
   case measure=>simp[intOf];omega
  .obtain rfl:i=N:=by omega
   go_wp2_with fail
   go_ret;exact⟨g,rfl,aA.o.mono (by have:=aZ.o;have:=bQ.o;have:=aE.o.size;omega),aE.o.trans aB.o⟩
end
theorem Lr{p m:Int}{ml:List Int}{n:Int}{pl sl:List Int}{fr:Int}(h:CL p m ml n pl sl fr=0):
  B6 p m ml=0/\1<=n/\n<=64/\(pl.length:Int)=n/\(sl.length:Int)=n/\BD pl n=true/\0<=fr/\fr<m/\ET pl=false/\E4 (p.toNat^m.toNat) sl=0:=by
 unfold CL at h;split at h
 .cases h
 rename_i h1;split at h
 .cases h
 rename_i h2;split at h
 .cases h
 rename_i h3;split at h
 .cases h
 rename_i h4;split at h
 .cases h
 rename_i h5;refine⟨by simpa using h1,ac,ac,ac,ac,?_,ac,ac,by simpa using h5,h⟩
 cases hr:BD pl n with
 | true=>rfl
 | false=>exact absurd (.inl hr) h4
section
variable {b p m x0:Nat} {ml:List Int}
end
theorem zaM{P:Prop}(h:P:=by
 rw[List.getElem?_eq_none (by rw[AJ];omega),List.getElem?_eq_none (by omega)]):P:=h
theorem V4{N i:Nat}{rows:List (List Int)}{r:List Int}(hr:rows[i]?=some r)(hl:r.length=N):il N (An rows i)=r:=by
 apply List.ext_getElem?;intro j;by_cases h:j<N
 .rw[AQ h];unfold An;rw[List.getD_eq_getElem?_getD (l:=rows),hr,List.getD_eq_getElem?_getD];show some (r[j]?.getD 0)=r[j]?
  rw[List.getElem?_eq_getElem ac];rfl
 .exact zaM
theorem GR{p m:Nat}{ml:List Int}{N R:Nat}{a a':Nat->Nat->Int}{piv:List Nat}(h:Hk p m ml N R a a' piv):piv.length<=R/\∀t∈Au N piv.length a',t.length=N/\Ce (p^m) t=0:=by
 obtain⟨c,hc,hP,_,hS⟩:=h;refine⟨hP.le,fun t ht=>?_⟩;unfold Au at ht;obtain⟨i,hi,rfl⟩:=List.mem_map.1 ht;have hi:=List.mem_range.1 hi;refine⟨AJ _ _,TV fun x hx=>?_⟩;obtain⟨j,hj,rfl⟩:=OH hx;exact hP.rng i (by have:=hP.le;omega) j hj
def Dx(p m:Int)(ml:List Int)(aA:Int)(rows:List (List Int)):Int:=if B6 p m ml≠0 then 1 else BV (p.toNat^m.toNat) aA rows
def CanR(p m:Int)(ml:List Int)(aA:Int)(rows:List (List Int))(b0:Nat)(r:Ending)(w':World):Prop:=
 (Dx p m ml aA rows=0/\∃(pn mn N:Nat) (piv:List Nat) (a':Nat->Nat->Int) (rv pv:Value),p=pn/\m=mn/\aA=N/\FP p m ml/\BV (pn^mn) N rows=0/\r= .returned (.tuple #[.agg #[N,rv],pv,(0:Int)])/\Hk pn mn ml N rows.length (An rows) a' piv/\B9 w' rv (Au N piv.length a')/\Aj w' pv (pI piv)/\∃g blk cap base,b0<=base/\rv= .slice (some ⟨g,0,none⟩) piv.length piv.length/\EM w' base g rows.length N blk cap a' [])∨
 (Dx p m ml aA rows≠0/\r= .returned (.tuple #[.agg #[(0:Int),.slice none 0 0],.slice none 0 0,.int .i64 (Dx p m ml aA rows)]))
theorem cz{P:Prop}(h:P:=by show w.heap.size<=xb+1+1;omega):P:=h
theorem dk{P:Prop}(h:P:=by simp[results,Tryz.results152,go_sem,q0,q1]):P:=h
theorem HJ(w:World)(p m:Int)(ml:List Int)(mv:Value)(aX:Aj w mv ml)(aA:Int)(rows:List (List Int))(v:Value)(hv:B9 w v rows)(h0:Dx p m ml aA rows=0->1<=aA):
  Calls Tryz.prog 152 #[.agg #[p,m,mv],.agg #[aA,v]] w fun r w'=>CanR p m ml aA rows w.heap.size r w'/\Ex w w':=by
 have HO:=Aa (fun w' B h1 h2 h3 h4=>US p m ml mv w' h1 aA rows v h2 B h3 h4);obtain⟨g0,g1,g2,e0,aQ⟩:=AD w p m mv;have aU:=Aa aX;have HV:=Aa hv;have H0:=Aa h0;obtain⟨za,zc,rfl,z1,z2,z3⟩:=hv.open;clear z1 z3;unfold maxLen at z2;obtain⟨xb,bB⟩:=nA w.heap.size;rw[bB]at g0 g1 g2 aQ;clear aX hv h0;go_enter Tryz.func152,Tryz.ntmps152
 go_wp2_with fail
 generalize w.alloc (.cells #[p,m,mv] 24)=wA at *;obtain⟨a0,a1,ea⟩:=EU wA aA (.slice za rows.length zc);have aL:(wA.alloc (.cells #[aA,.slice za rows.length zc] 137)).heap.size=xb+1+1:=by simp[aQ]
 rw[aQ]at a0 a1;generalize wA.alloc (.cells #[aA,.slice za rows.length zc] 137)=wB at *;obtain⟨q0,q1,eb⟩:=EU wB 0 (.slice none 0 0);have qf:(wB.alloc (.cells #[(0:Int),.slice none 0 0] 137)).frozen? (xb+1+1,1)=false:=dp;have aH:(wB.alloc (.cells #[(0:Int),.slice none 0 0] 137)).frozen? (xb+1+1,0)=false:=dp;have aY:(wB.alloc (.cells #[(0:Int),.slice none 0 0] 137)).heap.size=xb+1+1+1:=by simp[aL]
 rw[aL]at q0 q1;generalize wB.alloc (.cells #[(0:Int),.slice none 0 0] 137)=wC at *;obtain⟨l0,l1,ec⟩:=EU wC aA (.slice za rows.length zc);rw[aY]at l0 l1;generalize wC.alloc (.cells #[aA,.slice za rows.length zc] 137)=wD at *;have eD:Ex w wD:=((e0.trans ea).trans eb).trans ec;obtain⟨A0,A1,Q0,Q1,QF,aM,bE⟩:=OK ((eb.trans ec).cell a0) ((eb.trans ec).cell a1) (ec.cell q0) (ec.cell q1) (ec.frz q1 qf) (ec.frz q0 aH) eD;refine(HO.o wD (xb+1+1+1) (aU.o.ex eD) (HV.o.ex eD) l0 l1).mono ?_;clear g0 g1 g2 e0 aQ ea aL a0 a1 eb aY q0 q1 qf aH l0 l1 ec eD HO;rintro e w2⟨ho,aC⟩;have aR:=Aa (bE.o.trans aC);have QF:=Aa (aC.frz Q1.o QF.o);have aM:=Aa (aC.frz Q0.o aM.o);have c0:=aC.cell A0.o;have c1:=aC.cell A1.o;have Q0:=Aa (aC.cell Q0.o);have Q1:=Aa (aC.cell Q1.o);have A0:=Aa c0;clear aC A1;have bA:=Aa (fun (i:Value) (j:Value)=>((aR.o).setCell (p:=⟨xb+1+1,0,none⟩) cz i).setCell (p:=⟨xb+1+1,1,none⟩) cz j);rcases ho with⟨pn,mn,x0,b,rfl,rfl,hg,hx01,hx02,⟨hmk,rfl⟩|⟨hno,rfl⟩⟩|⟨hno,rfl⟩
 .have aG:B6 pn mn ml=0:=(BU _ _ _).2 ⟨pn,mn,rfl,rfl,hg.sh,hg.pr,hg.isF hx01 hx02⟩;have aB:Dx pn mn ml aA rows=0:=by
   unfold Dx;rw[if_neg (by simp[aG]),Int.toNat_natCast,Int.toNat_natCast];exact hmk
  have bD:=H0.o aB;obtain⟨s1,s2,s3,s4⟩:=EP hmk;obtain⟨N,rfl⟩:∃N:Nat,aA=N:=⟨aA.toNat,ac⟩;have aD:=Aa aB;have bL:=Aa ((BU _ _ _).1 aG);have bK:=Aa hmk;have bN:=Aa (Sr w2 hg hx01 hx02 N rows.length rows _ (HV.o.ex aR.o) rfl s3 ac ac fun i r h=>by
   have:=s4 r (List.mem_of_getElem? h);exact⟨ac,this.2⟩)
  have bG:=Aa s3;clear hg aG aB bD s1 s2 s3 s4 hmk hx01 hx02;go_wp2_with (go_at_call 157;refine bN.o.mono ?_;rintro e w8⟨piv2,pv2,rv2,a2,rfl,aK,aS,aF,aE,g8,blk8,cap8,rfl,aJ,aI⟩;have a0n:=aE.cell A0.o;have q0:=aE.cell Q0.o;have aH:=aE.frz Q0.o aM.o;have q1:=aE.cell Q1.o;have aW:=aE.frz Q1.o QF.o;have aO:=Aa aK;have aN:=Aa aJ;have bF:=Aa aE;have aT:=Aa aF;have bH:=Aa aI;obtain⟨pa,pc,rfl,-,-,-⟩:=aF.open;clear aK aJ aE aI aS aF)
  have aP:xb+1+1<w2.heap.size:=World.block_lt_of_cell? _ _ Q0.o;have bC:=(GR aO.o).1;obtain⟨bJ,aV,aZ,bM⟩:=Eq (((aN.o.low (A:=⟨xb+1+1,0,none⟩) aP (.int .i64 N)).low (A:=⟨xb+1+1,1,none⟩) aP (.slice (some ⟨g8,0,none⟩) piv2.length piv2.length)).msl bC bG.o) ((aN.o.low (A:=⟨xb+1+1,0,none⟩) aP (.int .i64 N)).low (A:=⟨xb+1+1,1,none⟩) aP (.slice (some ⟨g8,0,none⟩) piv2.length piv2.length)) (fun B h=>show B≠xb+1+1 from by have:=bH.o B h;omega) ((((aR.o).trans bF.o).setCell (p:=⟨xb+1+1,0,none⟩) cz (.int .i64 N)).setCell (p:=⟨xb+1+1,1,none⟩) cz (.slice (some ⟨g8,0,none⟩) piv2.length piv2.length));exact bodyPost_ret (v:= .tuple #[.agg #[N,.slice (some ⟨g8,0,none⟩) piv2.length piv2.length],.slice pa (pI piv2).length pc,(0:Int)]) dk rfl ⟨.inl ⟨aD.o,pn,mn,N,piv2,a2,_,_,rfl,rfl,rfl,bL.o,bK.o,rfl,aO.o,bJ.o,Sl.other (Sl.other aT.o (fun B h=>aZ.o B h) _) (fun B h=>aZ.o B h) _,g8,blk8,cap8,_,aR.o.size,rfl,aV.o⟩,bM.o⟩
 .have aG:B6 pn mn ml=0:=(BU _ _ _).2 ⟨pn,mn,rfl,rfl,hg.sh,hg.pr,hg.isF hx01 hx02⟩;have aB:Dx pn mn ml aA rows=BV (pn^mn) aA rows:=by
   unfold Dx;rw[if_neg (by simp[aG]),Int.toNat_natCast,Int.toNat_natCast]
  have aD:=Aa aB;clear hg aG aB hx01 hx02 aU HV H0;obtain⟨E,hE⟩:=nA (BV (pn^mn) aA rows);rw[hE]at aD hno ⊢;have hb:(E !=0)=true:=by simpa using hno
  have bI:=Aa hno;have q0:=Q0.o;have q1:=Q1.o;have aH:=aM.o;have aW:=QF.o;clear hE hno;go_wp2_with fail
  exact bodyPost_ret (v:= .tuple #[.agg #[(0:Int),.slice none 0 0],.slice none 0 0,E]) dk rfl ⟨.inr ⟨by rw[aD.o];exact bI.o,by rw[aD.o]⟩,bA.o _ _⟩
 .have aB:Dx p m ml aA rows=1:=by
   unfold Dx;rw[if_pos (fun h=>hno ((BU _ _ _).1 h))]
  have aD:=Aa aB;clear hno aB aU HV H0;have q0:=Q0.o;have q1:=Q1.o;have aH:=aM.o;have aW:=QF.o;go_wp2_with fail
  exact bodyPost_ret (v:= .tuple #[.agg #[(0:Int),.slice none 0 0],.slice none 0 0,(1:Int)]) dk rfl ⟨.inr ⟨by rw[aD.o];decide,by rw[aD.o]⟩,bA.o _ _⟩
theorem zct{P:Prop}(h:P:=by
 cases l with
 | nil=>rfl
 | cons x t=>obtain⟨_,_,h,_⟩:=s3 (by simp);cases h):P:=h
theorem Gi(w:World)(l:List Int)(v:Value)(hl:Aj w v l)(hn2:l.length<=1000):
  Calls Tryz.prog 154 #[v] w fun r w'=>∃v',r= .returned v'/\Aj w' v' l/\(∀B,v'.ownBlock=some B->w.heap.size<=B)/\Ex w w':=by
 have HL:=Aa hl;obtain⟨a,cap,rfl,s1,s2,s3⟩:=hl.open;have aD:∀u∈Ap l,u.oneCell'=true:=by
  exact zc4
 have aG:=Aa aD;clear hl aD
 cases a with
 | none=>
  have h0:l= []:=by
   exact zct
  subst h0;have aB:=fun w'=>AP (P:=Tryz.prog) w' 22 3 none 0 cap Tryz.underlying22;simp only[Option.isNone]at aB;clear s1 s2 s3;go_enter Tryz.func154,Tryz.ntmps154
  go_wp2_with fail
  go_ret;exact⟨_,rfl,AR _,by simp[Value.ownBlock],Ex.refl _⟩
 | some ad=>
  have aB:=fun w'=>AP (P:=Tryz.prog) w' 22 3 (some ad) l.length cap Tryz.underlying22;simp only[Option.isNone]at aB;clear s3;go_enter Tryz.func154,Tryz.ntmps154
  go_wp2_with (at_builtin;refine A9 _ rfl _ _ 22 rfl w.heap.size 3 (.int .i64 0) 1 8 Tryz.underlying22 Az rfl ae _ 0 [] rfl (Bv w 3) (.slice (some ad) l.length cap) l.length (Ap l) rfl (HL.o.ex ((Ex.refl w).alloc _)) aG.o ai ac ag ?_)
  intro v1 w1 aA aE aF;have aC:Ex w w1:=Ex.grown ((Ex.refl w).alloc _) (Bv w 3) (Nat.le_refl _) aE;have HI:=Aa (show Aj w1 v1 l from Sl.own aA);have HB:=Aa (fun B (e:v1.ownBlock=some B)=>(aA.lt B e).1);have HX:=Aa aC;clear aA aE aF aC aB;go_wp2_with fail
  go_ret;exact⟨_,rfl,HI.o,HB.o,HX.o⟩
def Ew(n:Int):Int:=if n<1∨64<n then 4 else 0
theorem Lz(w:World)(n:Int):Calls Tryz.prog 148 #[n] w fun r w'=>r= .returned (.int .i64 (Ew n))/\w'=w:=by
 unfold Ew;go_enter Tryz.func148,Tryz.ntmps148
 by_cases h1:n<1
 .have b1:decide (n<1)=true:=by simpa using h1
  rw[if_pos (.inl h1)];exact zdd
 .have b1:decide (n<1)=false:=by simpa using h1
  by_cases h2:64<n
  .have b2:decide (64<n)=true:=by simpa using h2
   rw[if_pos (.inr h2)];exact zdd
  .have b2:decide (64<n)=false:=by simpa using h2
   rw[if_neg ac];exact zdd
theorem EV(w:World)(p m:Int)(mv:Value)(n:Int)(gv:Value):(w.alloc (.cells #[p,m,mv,n,gv] 39)).cell? (w.heap.size,0)=some (.int .i64 p)/\(w.alloc (.cells #[p,m,mv,n,gv] 39)).cell? (w.heap.size,1)=some (.int .i64 m)/\(w.alloc (.cells #[p,m,mv,n,gv] 39)).cell? (w.heap.size,2)=some mv/\(w.alloc (.cells #[p,m,mv,n,gv] 39)).cell? (w.heap.size,3)=some (.int .i64 n)/\(w.alloc (.cells #[p,m,mv,n,gv] 39)).cell? (w.heap.size,4)=some gv/\Ex w (w.alloc (.cells #[p,m,mv,n,gv] 39)):=
 ⟨ag,ag,ag,ag,ag,(Ex.refl _).alloc _⟩
theorem Z6(w:World)(p m:Int)(mv:Value)(n:Int)(rows:List (List Int))(gv:Value)(hg:B9 w gv rows):
  Calls Tryz.prog 104 #[.agg #[p,m,mv,n,gv]] w fun r w'=>r= .returned (.agg #[n,gv])/\Ex w w':=by
 obtain⟨a0,a1,a2,a3,a4,ea⟩:=EV w p m mv n gv;obtain⟨za,zc,rfl,z1,z2,z3⟩:=hg.open;clear z3;unfold maxLen at z2;go_enter Tryz.func104,Tryz.ntmps104
 go_wp2_with fail
 exact bodyPost_ret (v:= .agg #[n,.slice za rows.length zc]) (by simp[results,Tryz.results104,go_sem]) rfl ⟨rfl,ea.trans ((Ex.refl _).alloc _)⟩
theorem d9{P:Prop}(h:P:=by show w.heap.size<=xb+1;omega):P:=h
theorem Zv(w:World)(p m:Int)(ml:List Int)(mv:Value)(aD:Aj w mv ml)(hn:ml.length<=1000):
  Calls Tryz.prog 159 #[.agg #[p,m,mv]] w fun r w'=>∃v',r= .returned (.agg #[p,m,v'])/\Aj w' v' ml/\(∀B,v'.ownBlock=some B->w.heap.size<=B)/\Ex w w':=by
 obtain⟨a0,a1,a2,e0,aJ⟩:=AD w p m mv;obtain⟨q0,q1,q2,eb,aI⟩:=AD (w.alloc (.cells #[p,m,mv] 24)) 0 0 (.slice none 0 0);have af:(w.alloc (.cells #[p,m,mv] 24)).frozen? (w.heap.size,2)=false:=ag;have qf:((w.alloc (.cells #[p,m,mv] 24)).alloc (.cells #[(0:Int),(0:Int),.slice none 0 0] 24)).frozen? ((w.alloc (.cells #[p,m,mv] 24)).heap.size,0)=false/\((w.alloc (.cells #[p,m,mv] 24)).alloc (.cells #[(0:Int),(0:Int),.slice none 0 0] 24)).frozen? ((w.alloc (.cells #[p,m,mv] 24)).heap.size,1)=false/\((w.alloc (.cells #[p,m,mv] 24)).alloc (.cells #[(0:Int),(0:Int),.slice none 0 0] 24)).frozen? ((w.alloc (.cells #[p,m,mv] 24)).heap.size,2)=false:=⟨ag,ag,ag⟩;replace af:=eb.frz a2 af;replace a0:=eb.cell a0;replace a1:=eb.cell a1;replace a2:=eb.cell a2;rw[aJ]at q0 q1 q2 qf aI;have HE:=Aa (e0.trans eb);have aO:=Aa (aD.ex HE.o);obtain⟨ma,mc,rfl,m1',m2,m3⟩:=aD.open;unfold maxLen at m2;clear aD m3 e0 eb aJ;go_enter Tryz.func159,Tryz.ntmps159
 go_wp2_with fail
 obtain⟨xb,aA⟩:=nA w.heap.size;rw[aA]at a0 a1 a2 q0 q1 q2 qf aI af
 try simp only[aA]
 generalize (w.alloc (.cells #[p,m,.slice ma ml.length mc] 24)).alloc (.cells #[(0:Int),(0:Int),.slice none 0 0] 24)=w1 at *;have aN:=Aa aA;obtain⟨aG,aF,aE⟩:=qf;clear aA;refine(Gi w1 ml _ aO.o hn).mono ?_;rintro e w2⟨v',rfl,aC,aH,hx⟩;have HV:=Aa aC;have HB:=Aa (fun B e=>show xb+1+1<=B from by have:=aH B e;omega);have HX:=Aa hx;obtain⟨va,vc,rfl,-,-,-⟩:=aC.open;have a0':=hx.cell a0;have a1':=hx.cell a1;have af':=hx.frz a2 af;have a2':=hx.cell a2;have aM:=hx.cell q0;have aL:=hx.cell q1;have aK:=hx.cell q2;have qf0':=hx.frz q0 aG;have qf1':=hx.frz q1 aF;have qf2':=hx.frz q2 aE;clear a0 a1 a2 af q0 q1 q2 aG aF aE aC aH hx;go_wp2_with fail
 have aB:∀B,(Value.slice va ml.length vc).ownBlock=some B->B≠xb/\B≠xb+1:=fun B e=>by have:=HB.o B e;omega
 have hw:w.heap.size=xb:=aN.o;exact bodyPost_ret (v:= .agg #[p,m,.slice va ml.length vc]) (by simp[results,Tryz.results159,go_sem,aM,aL,aK]) rfl ⟨_,rfl,Sl.other (Sl.other (Sl.other (Sl.other HV.o (fun B h=>(aB B h).1) _) (fun B h=>(aB B h).2) _) (fun B h=>(aB B h).2) _) (fun B h=>(aB B h).2) _,fun B e=>by have:=HB.o B e;omega,
  ((((HE.o.trans HX.o).setCell (p:=⟨xb,2,none⟩) (by show w.heap.size<=xb;omega) _).setCell (p:=⟨xb+1,0,none⟩) d9 _).setCell (p:=⟨xb+1,1,none⟩) d9 _).setCell (p:=⟨xb+1,2,none⟩) d9 _⟩
theorem Hj(w:World)(l k:List Int)(v u:Value)(hl:Aj w v l)(hk:Aj w u k):
  Calls Tryz.prog 101 #[v,u] w fun r w'=>r= .returned (.bool (decide (l=k)))/\∃n,w'=w.drewN n:=by
 obtain⟨a,cap,rfl,s1,s2,s3⟩:=hl.open;obtain⟨c,cc,rfl,t1,t2,t3⟩:=hk.open;have S3:=Aa s3;have T3:=Aa t3;unfold maxLen at s2 t2;clear hl hk s3 t3;by_cases hlk:l.length=k.length
 .have hb:((l.length:Int) !=(k.length:Int))=false:=by simp;omega
  have aD:=Aa hlk;clear hlk;go_enter Tryz.func101,Tryz.ntmps101
  go_wp2_with fail
  go_loopw [13] (fun i' wr=>∃i n:Nat,i<=l.length/\i'= .int .i64 i/\wr=w.drewN n/\Hia (∀j,j<i->l[j]?=k[j]?)) (fun i' _=>l.length-(intOf i').toNat)
  case atStart=>exact⟨0,0,ac,rfl,rfl,Aa (fun j hj=>ac)⟩
  case round=>
   exact zcf
 .have hb:((l.length:Int) !=(k.length:Int))=true:=by simp;omega
  have HN:=Aa (show ¬l=k from fun e=>hlk cw);clear hlk;go_enter Tryz.func101,Tryz.ntmps101
  exact zcF
theorem Ea(w:World)(l k:List (List Int))(v u:Value)(hl:B9 w v l)(hk:B9 w u k):
  Calls Tryz.prog 128 #[v,u,.func (.func 101) #[] #[]] w fun r w'=>r= .returned (.bool (decide (l=k)))/\∃n,w'=w.drewN n:=by
 obtain⟨a,cap,rfl,s1,s2,s3⟩:=hl.open;obtain⟨c,cc,rfl,t1,t2,t3⟩:=hk.open;have S3:=Aa s3;have T3:=Aa t3;unfold maxLen at s2 t2;clear hl hk s3 t3;by_cases hlk:l.length=k.length
 .have hb:((l.length:Int) !=(k.length:Int))=false:=by simp;omega
  have aI:=Aa hlk;clear hlk;go_enter Tryz.func128,Tryz.ntmps128
  go_wp2_with fail
  go_loopw [17] (fun i' wr=>∃i n:Nat,i<=l.length/\i'= .int .i64 i/\wr=w.drewN n/\Hia (∀j,j<i->l[j]?=k[j]?)) (fun i' _=>l.length-(intOf i').toNat)
  case atStart=>exact⟨0,0,ac,rfl,rfl,Aa (fun j hj=>ac)⟩
  case round=>
   obtain⟨i,n,hi,rfl,rfl,aC⟩:=hrel;by_cases hlt:i<l.length
   .obtain⟨x,hx⟩:∃x,l[i]?=some x:=⟨_,List.getElem?_eq_getElem hlt⟩;have aJ:i<k.length:=by have:=aI.o;omega
    obtain⟨y,hy⟩:∃y,k[i]?=some y:=⟨_,List.getElem?_eq_getElem aJ⟩;obtain⟨b,o,rfl,hc⟩:=S3.o ac;obtain⟨b2,o2,rfl,aG⟩:=T3.o ac;obtain⟨u1,e1,aF⟩:=hc i x hx;obtain⟨u2,e2,aE⟩:=aG i y hy;have c1:=((Ex.refl w).drewN n).cell e1;have c2:=((Ex.refl w).drewN n).cell e2;have aB:=aF.ex ((Ex.refl w).drewN n);have aA:=aE.ex ((Ex.refl w).drewN n);have i1:(0:Int)<=(i:Int):=bu;have i2:(i:Int)<(l.length:Int):=ac;have i3:(i:Int)<(k.length:Int):=ac;obtain⟨W,hW⟩:=nA (w.drewN n);rw[hW]at c1 c2 aB aA ⊢;have aH:=Aa hW;have aD:=Aa (Hj W x y u1 u2 aB aA);obtain⟨ua,uc,rfl,_,_,_⟩:=aB.open;obtain⟨va,vc,rfl,_,_,_⟩:=aA.open;by_cases hxy:x=y
    .have HA:=Aa (show ∀j,j<i+1->l[j]?=k[j]? from fun j hj=>by
      by_cases e:j=i
      .subst e;rw[hx,hy,hxy]
      .exact aC.o j ac)
     rw[decide_eq_true hxy]at aD;clear hc aG hx hy hxy hW aF aE e1 e2 aB aA;go_wp2_with (go_at_call 101;refine aD.o.mono ?_;rintro e w5⟨rfl,n5,rfl⟩)
     exact zbG
    .have HN:=Aa (show ¬l=k from fun e=>hxy (by rw[e,hy]at hx;injection hx with hx;exact hx.symm));rw[decide_eq_false hxy]at aD;clear hc aG hx hy hxy hW aF aE e1 e2 aB aA;go_wp2_with (go_at_call 101;refine aD.o.mono ?_;rintro e w5⟨rfl,n5,rfl⟩)
     exact zcd
   .exact zax
 .have hb:((l.length:Int) !=(k.length:Int))=true:=by simp;omega
  have HN:=Aa (show ¬l=k from fun e=>hlk cw);clear hlk;go_enter Tryz.func128,Tryz.ntmps128
  exact zcF
theorem Dt(w:World)(c:Int)(v:Value):(w.alloc (.cells #[c,v] 137)).cell? (w.heap.size,0)=some (.int .i64 c)/\(w.alloc (.cells #[c,v] 137)).cell? (w.heap.size,1)=some v/\Ex w (w.alloc (.cells #[c,v] 137)):=⟨ag,ag,(Ex.refl _).alloc _⟩
def MQ(p m:Int)(ml:List Int)(aA:Int)(rows:List (List Int))(e:Int):Prop:=
 (Dx p m ml aA rows≠0/\e=Dx p m ml aA rows)∨
 (Dx p m ml aA rows=0/\∃(pn mn N:Nat) (piv:List Nat) (a':Nat->Nat->Int),p=pn/\m=mn/\aA=N/\FP p m ml/\BV (pn^mn) N rows=0/\Hk pn mn ml N rows.length (An rows) a' piv/\e=if Au N piv.length a'=rows then 0 else 5)
structure BxV(w:World)(b:Nat):Prop where
 c0:w.cell? (b,0)=some (.pointer none)
 c1:w.cell? (b,1)=some (.int .i64 0)
 c2:w.cell? (b,2)=some (.slice none 0 0)
 c3:w.cell? (b,3)=some (.slice none 0 0)
 f0:w.frozen? (b,0)=false
 f1:w.frozen? (b,1)=false
 f2:w.frozen? (b,2)=false
 f3:w.frozen? (b,3)=false
theorem BxV.new(w:World):BxV (w.alloc (.cells #[.pointer none,(0:Int),.slice none 0 0,.slice none 0 0] 230)) w.heap.size:=⟨ag,ag,ag,ag,ag,ag,ag,ag⟩
theorem BxV.ex{w w':World}{b:Nat}(h:BxV w b)(hx:Ex w w'):BxV w' b:=⟨hx.cell h.c0,hx.cell h.c1,hx.cell h.c2,hx.cell h.c3,hx.frz h.c0 h.f0,hx.frz h.c1 h.f1,hx.frz h.c2 h.f2,hx.frz h.c3 h.f3⟩
theorem N7{w0 w:World}{q:Nat}(hx:Ex w0 w)(hq:w0.heap.size<=q)(u v z y:Value):Ex w0 ((((w.setCell (q,0) u).setCell (q,1) v).setCell (q,2) z).setCell (q,3) y):=
 (((hx.setCell (p:=⟨q,0,none⟩) hq _).setCell (p:=⟨q,1,none⟩) hq _).setCell (p:=⟨q,2,none⟩) hq _).setCell (p:=⟨q,3,none⟩) hq _
theorem dd{P:Prop}(h:P:=by simp[results,Tryz.results196,go_sem,q0,q1,q2,q3]):P:=h
theorem MD(w:World)(p m:Int)(ml:List Int)(mv:Value)(aJ:Aj w mv ml)(aA:Int)(rows:List (List Int))(v:Value)(hv:B9 w v rows)(h0:Dx p m ml aA rows=0->1<=aA):
  Calls Tryz.prog 196 #[.agg #[p,m,mv],.agg #[aA,v]] w fun r w'=>(∃(g:Option Addr) (c:Int) (a1 a2:Option Addr) (n1 k1 n2 k2:Nat) (e:Int),r= .returned (.tuple #[.agg #[.pointer g,c,.slice a1 n1 k1,.slice a2 n2 k2],e])/\MQ p m ml aA rows e)/\Ex w w':=by
 obtain⟨g0,g1,g2,e0,aK⟩:=AD w p m mv;have aY:=Aa (fun (w':World) (h:Ex w w')=>HJ w' p m ml mv (aJ.ex h) aA rows v (hv.ex h) h0);have bB:=Aa (fun (w':World) (h:Ex w w')=>Gf p m ml mv w' (aJ.ex h));have HV:=Aa hv;obtain⟨za,zc,rfl,z1,z2,z3⟩:=hv.open;clear z1 z3;unfold maxLen at z2;obtain⟨ma,mc,rfl,-,m2,-⟩:=aJ.open;unfold maxLen at m2;obtain⟨xb,aZ⟩:=nA w.heap.size;rw[aZ]at g0 g1 g2 aK;clear aJ hv h0;go_enter Tryz.func196,Tryz.ntmps196
 go_wp2_with fail
 generalize w.alloc (.cells #[p,m,.slice ma ml.length mc] 24)=wA at *;obtain⟨a0,a1,ea⟩:=Dt wA aA (.slice za rows.length zc);have aV:(wA.alloc (.cells #[aA,.slice za rows.length zc] 137)).heap.size=xb+1+1:=by simp[aK]
 rw[aK]at a0 a1;generalize wA.alloc (.cells #[aA,.slice za rows.length zc] 137)=wB at *;have bq:=BxV.new wB;rw[aV]at bq;have eb:Ex wB _:=(Ex.refl wB).alloc (.cells #[.pointer none,(0:Int),.slice none 0 0,.slice none 0 0] 230);obtain⟨A0,A1,G0,G1,G2,BQ,HE⟩:=OK (eb.cell a0) (eb.cell a1) ((ea.trans eb).cell g0) ((ea.trans eb).cell g1) ((ea.trans eb).cell g2) bq ((e0.trans ea).trans eb);generalize wB.alloc (.cells #[.pointer none,(0:Int),.slice none 0 0,.slice none 0 0] 230)=wC at *;refine(aY.o wC HE.o).mono ?_;clear g0 g1 g2 a0 a1 bq e0 ea eb aV aK;rintro e w2⟨hc,aC⟩;obtain⟨aI,aO,A0,A1,G0,G1,G2,aN⟩:=On (HE.o.trans aC) (BQ.o.ex aC) (aC.cell A0.o) (aC.cell A1.o) (aC.cell G0.o) (aC.cell G1.o) (aC.cell G2.o) (show w.heap.size<=xb+1+1 from ac);clear aC BQ HE aY;rcases hc with⟨hce,pn,mn,N,piv,a',rv,pv,rfl,rfl,rfl,hfb,hmk,rfl,hel,hrv,hpv,-⟩|⟨hce,rfl⟩
 .have aX:=Aa hrv;have aE:=Aa (fun e (h:e=if Au N piv.length a'=rows then 0 else 5)=>show MQ pn mn ml N rows e from .inr ⟨hce,pn,mn,N,piv,a',rfl,rfl,rfl,hfb,hmk,hel,h⟩);have bC:=Aa hfb;obtain⟨ra,rc,rfl,-,r2,-⟩:=hrv.open;obtain⟨pa,pc,rfl,-,p2,-⟩:=hpv.open;unfold maxLen at r2 p2;obtain⟨L,hL⟩:=nA (Au N piv.length a');obtain⟨PL,aU⟩:=nA (pI piv);rw[hL]at aX aE ⊢;rw[aU];clear hce hfb hmk hel hrv hpv hL aU;have aH:=Aa ((Ex.refl w2).alloc (.cells #[N,.slice ra L.length rc] 137));have l0:(w2.alloc (.cells #[N,.slice ra L.length rc] 137)).cell? (w2.heap.size,1)=some (.slice ra L.length rc):=by simp
  have aW:=aH.o.cell A1.o;have aL:=Aa (Ea (w2.alloc (.cells #[N,.slice ra L.length rc] 137)) L rows _ _ (aX.o.ex aH.o) (HV.o.ex (aI.o.trans aH.o)));by_cases hLR:L=rows
  .rw[decide_eq_true hLR]at aL;have aD:=Aa (aE.o 0 (by rw[if_pos hLR]));clear hLR;go_wp2_with fail
   refine aL.o.mono ?_;rintro e w3⟨rfl,n3,aG⟩;have aF:Ex (w2.alloc (.cells #[N,.slice ra L.length rc] 137)) w3:=by rw[aG];exact(Ex.refl _).drewN n3
   have aB:=Aa (aH.o.trans aF);have g0:=aB.o.cell G0.o;have g1:=aB.o.cell G1.o;have g2:=aB.o.cell G2.o;clear aF aG l0 aW;go_wp2_with fail
   refine(bB.o w3 (aI.o.trans aB.o)).mono ?_;rintro e w4⟨aM,aT⟩;rcases aM with⟨pn',mn',x,b,e1,e2,rfl,hg,-,-⟩|⟨aM,_⟩
   .have X4:=Aa (aB.o.trans aT);have a0:=X4.o.cell A0.o;have a1:=X4.o.cell A1.o;obtain⟨q0,q1,q2,q3,aS,aR,aQ,aP⟩:=aO.o.ex X4.o;clear e1 e2 hg aT g0 g1 g2;go_wp2_with fail
    exact bodyPost_ret (v:= .tuple #[.agg #[.pointer (some ⟨b,0,none⟩),N,.slice za rows.length zc,.slice pa PL.length pc],(0:Int)]) dd rfl ⟨⟨_,_,_,_,_,_,_,_,_,rfl,aD.o⟩,N7 (aI.o.trans X4.o) aN.o _ _ _ _⟩
   .exact absurd bC.o aM
  .rw[decide_eq_false hLR]at aL;have aD:=Aa (aE.o 5 (by rw[if_neg hLR]));clear hLR;go_wp2_with fail
   refine aL.o.mono ?_;rintro e w3⟨rfl,n3,aG⟩;have aF:Ex (w2.alloc (.cells #[N,.slice ra L.length rc] 137)) w3:=by rw[aG];exact(Ex.refl _).drewN n3
   have aB:=Aa (aH.o.trans aF);obtain⟨q0,q1,q2,q3,aS,aR,aQ,aP⟩:=aO.o.ex aB.o;clear aF aG l0 aW;go_wp2_with fail
   exact bodyPost_ret (v:= .tuple #[.agg #[.pointer none,(0:Int),.slice none 0 0,.slice none 0 0],(5:Int)]) dd rfl ⟨⟨_,_,_,_,_,_,_,_,_,rfl,aD.o⟩,N7 (aI.o.trans aB.o) aN.o _ _ _ _⟩
 .have aE:=Aa (show MQ p m ml aA rows (Dx p m ml aA rows) from .inl ⟨hce,rfl⟩);obtain⟨E,hE⟩:=nA (Dx p m ml aA rows);rw[hE]at aE hce ⊢;have hb:(E !=0)=true:=by simpa using hce
  obtain⟨q0,q1,q2,q3,aS,aR,aQ,aP⟩:=aO.o.ex ((Ex.refl w2).alloc (.cells #[(0:Int),.slice none 0 0] 137));have bA:=Aa (aI.o.alloc (.cells #[(0:Int),.slice none 0 0] 137));clear hE hce;go_wp2_with fail
  exact bodyPost_ret (v:= .tuple #[.agg #[.pointer none,(0:Int),.slice none 0 0,.slice none 0 0],E]) dd rfl ⟨⟨_,_,_,_,_,_,_,_,_,rfl,aE.o⟩,N7 bA.o aN.o _ _ _ _⟩
def OX(l:List Int)(n:Int):Int:=if BD l n=true then 0 else 6
theorem Ze{l:List Int}{n:Int}(h:∀j,j<l.length->0<=l.getD j 0/\l.getD j 0<n):BD l n=true:=by
 unfold BD;refine List.all_eq_true.2 fun x hx=>?_;obtain⟨j,hj,rfl⟩:=List.getElem_of_mem hx;have:=h j hj;rw[List.getD_eq_getElem?_getD,List.getElem?_eq_getElem hj]at this;exact decide_eq_true this
theorem zc5{P:Prop}(h:P:=by
 go_wp2_with fail
 go_ret;exact⟨Af HR.o.symm,rfl⟩):P:=h
theorem UK(w:World)(l:List Int)(v:Value)(hl:Aj w v l)(n:Int):
  Calls Tryz.prog 97 #[v,n] w fun r w'=>r= .returned (.int .i64 (OX l n))/\w=w':=by
 obtain⟨a,cap,rfl,s1,s2,s3⟩:=hl.open;unfold maxLen at s2;have S3:=Aa s3;have HD:=Aa (show(∀j,j<l.length->0<=l.getD j 0/\l.getD j 0<n)->OX l n=0 from fun h=>by unfold OX;rw[if_pos (Ze h)]);have HN:=Aa (show ∀j,j<l.length->¬(0<=l.getD j 0/\l.getD j 0<n)->OX l n=6 from fun j hj h=>by
  unfold OX;rw[if_neg fun hr=>h (Dy hr hj)])
 clear hl s3;go_enter Tryz.func97,Tryz.ntmps97
 go_wp2_with fail
 go_loop [5] (fun i'=>∃(i:Nat),i<=l.length/\i'= .int .i64 i/\Hia (∀j,j<i->0<=l.getD j 0/\l.getD j 0<n)) (fun i'=>l.length-(intOf i').toNat)
 case atStart=>exact⟨0,ac,rfl,Aa (fun j h=>ac)⟩
 case round=>
  obtain⟨i,hi,rfl,aA⟩:=hrel;by_cases hlt:i<l.length
  .obtain⟨bb,o,rfl,hc⟩:=S3.o ac;have c1:=hc i _ (AU hlt);obtain⟨x,hx⟩:=nA (l.getD i 0);rw[hx]at c1;have HX:=Aa hx;have aB:=Aa (show(0<=x/\x<n)->∀j,j<i+1->0<=l.getD j 0/\l.getD j 0<n from fun h j hj=>by
    by_cases e:j=i
    .subst e;rw[hx];exact h
    .exact aA.o j ac)
   have i1:(0:Int)<=(i:Int):=ac;have i2:(i:Int)<(l.length:Int):=ac;clear hc hx;by_cases h0:x<0
   .have HR:=Aa (HN.o i hlt (by rw[HX.o];omega));have k0:decide (x<0)=true:=by simpa using h0
    exact zc5
   .have k0:decide (x<0)=false:=by simpa using h0
    by_cases h1:n<=x
    .have HR:=Aa (HN.o i hlt (by rw[HX.o];omega));have k1:decide (n<=x)=true:=by simpa using h1
     exact zc5
    .have HA:=Aa (aB.o ⟨ac,ac⟩);have k1:decide (n<=x)=false:=by simpa using h1
     exact zbP
  .obtain rfl:i=l.length:=by omega
   have HR:=Aa (HD.o aA.o);exact zc5
theorem IS{l:List Int}:ET l=true↔∃i j,j<i/\i<l.length/\l.getD i 0=l.getD j 0:=by
 unfold ET MO;rw[List.any_eq_true];constructor
 .rintro⟨i,hi,h⟩;have hi:=List.mem_range.1 hi;rw[List.contains_iff_mem]at h;obtain⟨j,hj,e⟩:=List.getElem_of_mem h;rw[List.length_take]at hj;refine⟨i,j,ac,hi,?_⟩;rw[<-e,List.getElem_take,List.getD_eq_getElem?_getD,List.getElem?_eq_getElem (show j<l.length by omega)];rfl
 .rintro⟨i,j,h1,h2,h3⟩;refine⟨i,List.mem_range.2 h2,?_⟩;rw[List.contains_iff_mem,h3];have hj:j<(l.take i).length:=by rw[List.length_take];omega
  have:=List.getElem_mem hj;rw[List.getElem_take]at this;rw[List.getD_eq_getElem?_getD,List.getElem?_eq_getElem (show j<l.length by omega)];exact this
theorem Rt(w:World)(l:List Int)(v:Value)(hl:Aj w v l):
  Calls Tryz.prog 98 #[v] w fun r w'=>r= .returned (.bool (ET l))/\Ex w w':=by
 obtain⟨a,cap,rfl,s1,s2,s3⟩:=hl.open;unfold maxLen at s2;have S3:=Aa s3;have HY:=Aa (show ∀i j,j<i->i<l.length->l.getD i 0=l.getD j 0->ET l=true from fun i j h1 h2 h3=>IS.2 ⟨i,j,h1,h2,h3⟩);have HN:=Aa (show(∀i j,j<i->i<l.length->l.getD i 0≠l.getD j 0)->ET l=false from fun h=>by
  cases hb:ET l with
  | false=>rfl
  | true=>obtain⟨i,j,h1,h2,h3⟩:=IS.1 hb;exact absurd h3 (h i j h1 h2))
 obtain⟨D,hD⟩:=nA (ET l);rw[hD]at HY HN;rw[hD];clear hl s3 hD;go_enter Tryz.func98,Tryz.ntmps98
 go_wp2_with fail
 go_loopw [3,4] (fun i' _ wr=>∃(i:Nat),i<=l.length/\i'= .int .i64 i/\Hia (∀k j,j<k->k<i->l.getD k 0≠l.getD j 0)/\Hia (Ex w wr)) (fun i' _ _=>l.length-(intOf i').toNat)
 case atStart=>exact⟨0,ac,rfl,Aa (fun k j _ h=>ac),Aa (Ex.refl _)⟩
 case round=>
  obtain⟨i,hi,rfl,aB,aD⟩:=hrel;by_cases hlt:i<l.length
  .obtain⟨bb,o,rfl,hc⟩:=S3.o ac;have c1:=hc i _ (AU hlt);obtain⟨x,hx⟩:=nA (l.getD i 0);rw[hx]at c1;have HX:=Aa hx;have HC:=Aa hc;have C1:=Aa c1;have i1:(0:Int)<=(i:Int):=by omega
   have i2:(i:Int)<(l.length:Int):=ac;clear hc hx c1;obtain⟨w8,h8⟩:∃w8,w8=wr:=⟨_,rfl⟩;rw[<-h8]at aD ⊢;clear h8;go_wp2_with fail
   go_loopw [4] (fun j' wr=>∃(j:Nat),j<=i/\j'= .int .i64 j/\Hia (∀k,k<j->x≠l.getD k 0)/\Hia (Ex w wr)) (fun j' _=>i-(intOf j').toNat)
   case atStart=>exact⟨0,ac,rfl,Aa (fun k h=>ac),aD⟩
   case round=>
    obtain⟨j,hj,rfl,aC,aA⟩:=hrel;have c1:=aA.o.cell C1.o;by_cases hji:j<i
    .have c2:=aA.o.cell (HC.o j _ (AU ac));obtain⟨y,hy⟩:=nA (l.getD j 0);rw[hy]at c2;have aE:=Aa hy;have j1:(0:Int)<=(j:Int):=by omega
     have j2:(j:Int)<(l.length:Int):=ac;clear hy;by_cases hxy:x=y
     .have hr:D=true:=HY.o i j hji hlt (by rw[HX.o,aE.o,hxy]);subst hr;have kb:(x==y)=true:=by simpa using hxy
      clear hxy;go_upto_region 7 with fail
      go_quiet (fail)
      go_wp2_with fail
      go_ret;exact⟨rfl,aA.o.drewN _⟩
     .have kb:(x==y)=false:=by simpa using hxy
      have HA:=Aa (show ∀k,k<j+1->x≠l.getD k 0 from fun k hk=>by
       by_cases e:k=j
       .subst e;rw[aE.o];exact hxy
       .exact aC.o k ac)
      clear hxy;go_upto_region 7 with fail
      go_quiet (fail)
      go_wp2_with fail
      go_roundw
      case rel=>exact⟨j+1,ac,by go_num,HA,Aa (aA.o.drewN _)⟩
      case measure=>simp[intOf];omega
    .obtain rfl:j=i:=by omega
     have HA:=Aa (show ∀k m,m<k->k<j+1->l.getD k 0≠l.getD m 0 from fun k m hm hk=>by
      by_cases e:k=j
      .subst e;rw[HX.o];exact aC.o m hm
      .exact aB.o k m hm ac)
     go_wp2_with fail
     go_roundw
     case rel=>first|exact⟨j+1,ac,by go_num,HA,aA⟩|((repeat apply Exists.intro);exact⟨⟨j+1,ac,by go_num,HA,aA⟩,rfl⟩)
     case measure=>simp[intOf];omega
  .obtain rfl:i=l.length:=by omega
   have hr:D=false:=HN.o fun k j h1 h2=>aB.o k j h1 h2;subst hr;go_wp2_with fail
   go_ret;exact⟨rfl,aD.o⟩
section
variable {p m:Nat} {ml:List Int} {mv:Value}
theorem Xw{q:Nat}{l:List Int}:E4 q l=if Ce q l≠0 then Ce q l else if l.contains 0=true then 7 else 0:=by
 unfold E4 Ce;have e:(l.any fun x=> !Gt q x)=!(l.all fun x=>Gt q x):=by rw[List.not_all_eq_any_not]
 rw[e];cases (l.all fun x=>Gt q x) <;> simp
theorem zc1{P:Prop}(h:P:=by
 go_wp2_with fail
 go_ret;exact⟨Af HR.o.symm,aB.o⟩):P:=h
theorem Wg(w:World)(hf:Hh p m ml)(l:List Int)(v:Value)(hl:Aj w v l):
  Calls Tryz.prog 99 #[.agg #[p,m,mv],v] w fun r w'=>r= .returned (.int .i64 (E4 (p^m) l))/\Ex w w':=by
 obtain⟨d0,d1,d2,e0,aE⟩:=AD w p m mv;have HE:=Aa (Iz (mv:=mv) _ hf l v (hl.ex e0));obtain⟨a,cap,rfl,s1,s2,s3⟩:=hl.open;unfold maxLen at s2;have S3:=Aa s3;have HF:=Aa (Xw (q:=p^m) (l:=l));have aF:=Aa e0;obtain⟨F,hF⟩:=nA (E4 (p^m) l);obtain⟨E,hE⟩:=nA (Ce (p^m) l);rw[hF,hE]at HF;rw[hE]at HE;rw[hF];clear hl s3 hf hF hE e0 aE;go_enter Tryz.func99,Tryz.ntmps99
 go_wp2_with fail
 generalize w.alloc (.cells #[p,m,mv] 24)=w1 at *;refine HE.o.mono ?_;rintro e w2⟨rfl,aC⟩;have aB:=Aa (aF.o.trans aC);clear d0 d1 d2;by_cases he:E=0
 .subst he;have aD:=Aa (show F=if l.contains 0=true then 7 else 0 from HF.o);clear aC;go_wp2_with fail
  go_loop [6] (fun i'=>∃(i:Nat),i<=l.length/\i'= .int .i64 i/\Hia (∀j,j<i->l.getD j 0≠0)) (fun i'=>l.length-(intOf i').toNat)
  case atStart=>exact⟨0,ac,rfl,Aa (fun j h=>ac)⟩
  case round=>
   obtain⟨i,hi,rfl,aA⟩:=hrel;by_cases hlt:i<l.length
   .obtain⟨bb,o,rfl,hc⟩:=S3.o ac;have c1:=aB.o.cell (hc i _ (AU hlt));have i1:(0:Int)<=(i:Int):=by omega
    have i2:(i:Int)<(l.length:Int):=ac;obtain⟨x,hx⟩:=nA (l.getD i 0);rw[hx]at c1;have HX:=Aa hx;clear hc hx;by_cases h0:x=0
    .subst h0;have HR:=Aa (show F=7 from by
      rw[aD.o,if_pos];rw[List.contains_iff_mem,<-HX.o,List.getD_eq_getElem?_getD,List.getElem?_eq_getElem hlt];exact List.getElem_mem hlt)
     exact zc1
    .have kb:(x==0)=false:=by simpa using h0
     have HA:=Aa (show ∀j,j<i+1->l.getD j 0≠0 from fun j hj=>by
      by_cases e:j=i
      .subst e;rw[HX.o];exact h0
      .exact aA.o j ac)
     clear h0;exact zbP
   .obtain rfl:i=l.length:=by omega
    have HR:=Aa (show F=0 from by
     rw[aD.o,if_neg];intro h;rw[List.contains_iff_mem]at h;obtain⟨j,hj,e⟩:=List.getElem_of_mem h;exact aA.o j hj (by rw[List.getD_eq_getElem?_getD,List.getElem?_eq_getElem hj];exact e))
    exact zc1
 .have HR:=Aa (show F=E from by rw[HF.o,if_pos he]);have kb:(E !=0)=true:=by simpa using he
  clear aC he;exact zc1
end
theorem Hk.le{p m N R:Nat}{ml:List Int}{a a':Nat->Nat->Int}{piv:List Nat}(h:Hk p m ml N R a a' piv):piv.length<=R:=by
 obtain⟨c,_,h,_⟩:=h;exact h.le
theorem PU{p m:Nat}{ml:List Int}{mv:Value}(w:World)(hf:Hh p m ml)(hF:Hr p m (lw ml))(aB:Aj w mv ml)(N R:Nat)(hN:N<=256)(hR:R<=256)(a:Nat->Nat->Int)(aA:Q4 p m R N a)(v:Value)(hv:B9 w v (Au N R a)):
  Calls Tryz.prog 146 #[.agg #[p,m,mv],v,N] w fun r w'=>∃piv pv rv a',r= .returned (.tuple #[rv,pv])/\Hk p m ml N R a a' piv/\B9 w' rv (Au N piv.length a')/\Aj w' pv (pI piv)/\Ex w w'/\JC w.heap.size w' rv (Au N piv.length a'):=by
 obtain⟨a0,a1,a2,ea,aK⟩:=AD w p m mv;have aI:=Aa (UJ (w.alloc (.cells #[p,m,mv] 24)) hf hF (aB.ex ea) N R hN hR a aA v (hv.ex ea));have HE:=Aa ea;obtain⟨va,vc,aF,v1,v2,-⟩:=hv.open;rw[AL]at aF v1;subst aF;obtain⟨ma,mc,rfl,-,-,-⟩:=aB.open;clear hf hF aB hv aA ea;go_enter Tryz.func146,Tryz.ntmps146
 go_wp2_with fail
 refine aI.o.mono ?_;rintro e w2⟨⟨piv,pa,pc,la,lc,a',rfl,aD,aG,hlc,aC⟩,hx⟩;have hk:=aD.le;have aE:=Aa aD;have aH:=Aa ((aC _ hk).mono (by have:=HE.o.size;omega:w.heap.size<=_));have aM:=Aa aH.o.msl;have aL:=Aa aG;have HX:=Aa (HE.o.trans hx);have l2:lc<=maxLen:=by
  obtain⟨l3,l4,aJ,l1,l2,_⟩:=(aC _ (Nat.le_refl R)).msl.open;injection aJ with _ _ h3;rw[h3];exact l2
 unfold maxLen at l2;have k1:(0:Int)<=(piv.length:Int):=ac;have k2:(piv.length:Int)<=(lc:Int):=ac;clear aD aC aG hx aI HE a0 a1 a2 aK;go_wp2_with fail
 go_ret2;exact⟨piv,_,_,a',rfl,aE.o,aM.o,aL.o,HX.o,aH.o⟩
theorem Ry{p m:Nat}{ml:List Int}{mv:Value}(w:World)(hf:Hh p m ml)(hF:Hr p m (lw ml))(aB:Aj w mv ml)(N R:Nat)(hN:N<=256)(hR:R<=256)(a:Nat->Nat->Int)(aA:Q4 p m R N a)(v:Value)(hv:B9 w v (Au N R a)):
  Calls Tryz.prog 146 #[.agg #[p,m,mv],v,N] w fun r w'=>∃piv pv rv a',r= .returned (.tuple #[rv,pv])/\Hk p m ml N R a a' piv/\B9 w' rv (Au N piv.length a')/\Aj w' pv (pI piv)/\Ex w w':=
 (PU w hf hF aB N R hN hR a aA v hv).mono fun r w' ⟨piv,pv,rv,a',h1,h2,h3,h4,h5,_⟩=>⟨piv,pv,rv,a',h1,h2,h3,h4,h5⟩
end Go.Proofs.YtehieobniamagaaGreat
