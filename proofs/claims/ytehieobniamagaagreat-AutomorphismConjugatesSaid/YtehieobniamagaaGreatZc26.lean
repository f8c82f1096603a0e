/- Walk of automorphism.group. -/
import Derived.Test.YtehieobniamagaaGreatZc25
namespace Go.Proofs.YtehieobniamagaaGreat
open Go.RowKit
set_option linter.all false
set_option maxRecDepth 100000
set_option maxHeartbeats 8000000
def Ey(p m:Nat)(ml:List Int)(Ms:List CZ):List (List Int):=Ms.map fun M=>Hm p m ml M.perm M.scale
def MU(N:Nat)(M:CZ):Prop:=M.perm.length=N/\M.scale.length=N/\BD M.perm N=true
theorem Ml{n:Int}{rows:List (List Int)}{l:Lv}(h:l∈(Dd n rows).1.lev):2<=l.orb.length/\2<=l.reps.length/\∀r∈l.reps,2<=r.length:=by
 unfold Dd at h;split at h
 .cases h
 .exact QQ h
theorem boxCn(w:World):(w.alloc (.cells #[(0:Int),.slice none 0 0] 43)).cell? (w.heap.size,0)=some (.int .i64 0)/\(w.alloc (.cells #[(0:Int),.slice none 0 0] 43)).cell? (w.heap.size,1)=some (.slice none 0 0)/\
  (∀j,2<=j->(w.alloc (.cells #[(0:Int),.slice none 0 0] 43)).cell? ⟨w.heap.size,j,none⟩=none)/\(w.alloc (.cells #[(0:Int),.slice none 0 0] 43)).frozen? (w.heap.size,0)=false/\(w.alloc (.cells #[(0:Int),.slice none 0 0] 43)).frozen? (w.heap.size,1)=false:=
 ⟨ag,ag,fun j hj=>by
  obtain⟨i,rfl⟩:∃i,j=i+2:=⟨j-2,ac⟩;simp,ag,ag⟩
structure BxN(w:World)(b:Nat):Prop where
 c0:w.cell? (b,0)=some (.int .i64 0)
 c1:w.cell? (b,1)=some (.slice none 0 0)
 c2:∀j,2<=j->w.cell? ⟨b,j,none⟩=none
 f0:w.frozen? (b,0)=false
 f1:w.frozen? (b,1)=false
theorem BxN.new(w:World):BxN (w.alloc (.cells #[(0:Int),.slice none 0 0] 43)) w.heap.size:=by
 obtain⟨a,b,c,d,e⟩:=boxCn w;exact⟨a,b,c,d,e⟩
theorem BxN.ex{w w':World}{b:Nat}(h:BxN w b)(hx:Ex w w'):BxN w' b:=⟨hx.cell h.c0,hx.cell h.c1,fun j hj=>(Below.cell hx (show(⟨b,j,none⟩:Addr).block<w.heap.size from(World.block_lt_of_cell? _ (⟨b,0,none⟩:Addr) h.c0:b<w.heap.size))).trans (h.c2 j hj),hx.frz h.c0 h.f0,hx.frz h.c1 h.f1⟩
theorem Kd{w0 w:World}{q:Nat}(hx:Ex w0 w)(hq:w0.heap.size<=q)(u v:Value):Ex w0 ((w.setCell (q,0) u).setCell (q,1) v):=(hx.setCell (p:=⟨q,0,none⟩) hq _).setCell (p:=⟨q,1,none⟩) hq _
section
variable {b p m x0:Nat} {ml:List Int}
theorem JW(w:World)(hg:Bj w b p m ml x0)(N:Nat)(hN:N<=64)(hd:N*(p^m-1)<=64)(Ms:List CZ)(mv:Value)(hM:Pb w mv Ms)(aF:∀M∈Ms,MU N M)(aG:Ms.length<=1000):
  Calls Tryz.prog 64 #[.pointer (some (b,0)),N,mv] w fun r w'=>BldR ((N*(p^m-1):Nat):Int) (Ey p m ml Ms) r w'/\Ex w w':=by
 have bJ:=Aa (BxN.new w);have aU:=Aa (fun (w1:World) (h:Ex w w1) (M:CZ) (hM:M∈Ms) (u v:Value) (hu:Aj w1 u M.perm) (hv:Aj w1 v M.scale)=>RK w1 (hg.ex h) N hN M.perm M.scale u v hu hv (aF M hM).1 (aF M hM).2.1 (aF M hM).2.2 hd M.frob);have bL:2<=p^m:=Nat.le_trans hg.sh.p2 (Nat.le_self_pow (by have:=hg.sh.m1;omega) p);have bK:=hg.sh.q;have bE:=Aa (fun w1 (h:Ex w w1)=>Cu w1 (hg.ex h));have bW:=Aa (fun (M:CZ) (hM:M∈Ms)=>(show Hm p m ml M.perm M.scale=il (N*(p^m-1)) (Pi p m ml M.perm M.scale) from by unfold Hm;rw[(aF M hM).1]));obtain⟨GL,aM⟩:∃g,Ey p m ml Ms=g:=⟨_,rfl⟩;have aX:=Aa (show ∀k (M:CZ),Ms[k]?=some M->GL.take (k+1)=GL.take k ++ [il (N*(p^m-1)) (Pi p m ml M.perm M.scale)] from fun k M h=>by
  rw[<-aM,<-bW.o M (List.mem_of_getElem? h)];exact EN (by unfold Ey;rw[List.getElem?_map,h];rfl))
 have aV:=Aa (show GL.length=Ms.length from by rw[<-aM];unfold Ey;rw[List.length_map]);rw[aM];have HM:=Aa hM;obtain⟨q,hq⟩:=nA (p^m);rw[hq]at bE aU aX bL bK hd ⊢;obtain⟨D,hD⟩:=nA (N*(q-1));have kD:(N:Int)*((q:Int)-1)=(D:Int):=by rw[<-hD,Int.natCast_mul,Int.natCast_sub ac];rfl
 rw[hD]at aU aX hd ⊢;obtain⟨ma,mc,rfl,z1,z2,m3⟩:=hM.open;unfold maxLen at z2;have M3:=Aa m3;obtain⟨LM,aS⟩:∃n,Ms.length=n:=⟨_,rfl⟩;rw[aS]at HM M3 aV z1 aG ⊢;have bS:=Aa aS;have bV:=Aa kD;clear hg hM aF m3 aS aM hD hq kD;go_enter Tryz.func64,Tryz.ntmps64
 go_upto_region 1 with fail
 obtain⟨RB,aL⟩:∃x,w.heap.size=x:=⟨_,rfl⟩;rw[aL]at bJ;have aT:=Aa (show Ex w (w.alloc (.cells #[(0:Int),.slice none 0 0] 43)) from(Ex.refl w).alloc _)
 try simp only[aL]
 have bQ:=Aa aL;clear aL;generalize w.alloc (.cells #[(0:Int),.slice none 0 0] 43)=w1 at *;have bD:=Aa (BF.nil w1 w1.heap.size);go_wp2_with fail
 go_loopw [8,13] (fun gv k' wr=>∃(k:Nat) (vals:List Value),k<=LM/\k'= .int .i64 k/\Hia (BF wr w1.heap.size gv (GL.take k) vals)/\Hia (Ex w1 wr)) (fun _ k' _=>LM-(intOf k').toNat)
 case atStart=>exact⟨0, [],ac,rfl,bD,Ex.refl _⟩
 case round=>
  clear bD;obtain⟨k,vals,hk,rfl,hr,hx⟩:=hrel;obtain⟨ga,gc,rfl⟩:=Ad hr.o.cvo;by_cases hkl:k<LM
  .obtain⟨mb,mo,rfl,aY⟩:=M3.o ac;obtain⟨M,hM⟩:∃M,Ms[k]?=some M:=⟨_,List.getElem?_eq_getElem (by rw[bS.o];exact hkl)⟩;obtain⟨u,r,d0,d1,d2,hu,aQ⟩:=aY k M hM;obtain⟨ua,uc,rfl,-,-,-⟩:=hu.open;obtain⟨ra,rc,rfl,-,-,-⟩:=aQ.open;have aE:=Aa (aT.o.trans hx.o);replace d0:=aE.o.cell d0;replace d1:=aE.o.cell d1;replace d2:=aE.o.cell d2;rw[show mo+3*k=mo+k*3 from ac]at d0;rw[show mo+(3*k+1)=mo+k*3+1 from ac]at d1;rw[show mo+(3*k+2)=mo+k*3+2 from ac]at d2;have HU:=Aa (hu.ex aE.o);have bC:=Aa (aQ.ex aE.o);obtain⟨LP,bA⟩:∃x,M.perm.length=x:=⟨_,rfl⟩;obtain⟨LS,aZ⟩:∃x,M.scale.length=x:=⟨_,rfl⟩;rw[bA]at d0 HU;rw[aZ]at d1 bC;have HR:=Aa hr.o;have HX:=Aa hx.o;have bG:=Aa hM;have i1:(0:Int)<=(k:Int):=by omega
   have i2:(k:Int)<(LM:Int):=ac;have aW:=Aa hkl;obtain⟨TB,aK⟩:∃x,wr.heap.size=x:=⟨_,rfl⟩;obtain⟨t0,t1,t2,et⟩:=Bh wr (.slice ua LP uc) (.slice ra LS rc) M.frob;rw[aK]at t0 t1 t2;have aD:=Aa et;clear hr hx hM hu aQ aY hkl bA aZ et;go_upto_region 5 with fail
   try simp only[aK]
   have HTB:=Aa aK;clear aK d0 d1 d2 i1 i2;generalize wr.alloc (.cells #[.slice ua LP uc,.slice ra LS rc,M.frob] 26)=w5 at *;have aO:=Aa (aU.o w5 (aE.o.trans aD.o) M (List.mem_of_getElem? bG.o) _ _ (HU.o.ex aD.o) (bC.o.ex aD.o));go_wp2_with fail
   refine aO.o.mono ?_;rintro e w6⟨v6,rfl,aR,aB⟩;have bF:=Aa aR;obtain⟨va,vc,rfl⟩:=Ad aR;have aC:=Aa (aD.o.trans aB);obtain⟨LG,aA⟩:∃x,(GL.take k).length=x:=⟨_,rfl⟩;have bT:=Aa aA;have bH:=Aa (show LG<=1000 from by rw[<-aA,List.length_take];omega);rw[aA]at HR ⊢;have bR:=Aa (show w6.ownsRow w1.heap.size 22 1 (.slice ga LG gc) LG vals from by have:=(HR.o.ex aC.o).cvo;rwa[aA]at this);have bP:=Aa (HX.o.trans aC.o).size;have hkb:k<=1000:=by omega
   clear aR aB t0 t1 t2 aO aA;go_wp2_with (at_builtin;refine Am _ rfl _ _ 37 rfl w1.heap.size 22 (.slice none 0 0) 1 24 Tryz.underlying37 BG rfl ae _ LG vals rfl bR.o [.slice va D vc] 22 _ rfl ag rfl aj (by have:=bH.o;unfold maxLen;omega) (by have:=bH.o;omega) bP.o ?_)
   intro v8 w8 aJ;have aH:Bt w6 w8 w1.heap.size 22 1 (.slice ga LG gc) v8 (GL.take k).length vals [.slice va D vc]:=by rw[bT.o];exact aJ
   have HN:=Aa ((HR.o.ex aC.o).app (L:=il D (Pi p m ml M.perm M.scale)) (by rw[Ao,Cw];exact FX bF.o (Nat.le_trans HX.o.size aD.o.size)) (GX (fun X e=>Nat.le_trans aD.o.size (bF.o.lt X e).1) (fun X e=>(HR.o.cvo.lt X e).2)) aH);rw[<-aX.o k M bG.o]at HN;have bB:=Aa (aJ.ex (HX.o.trans aC.o) (Nat.le_refl _));obtain⟨ga8,gc8,rfl⟩:=Ad aJ.own;clear aJ aH;go_wp2_with fail
   go_roundw
   case rel=>first|exact⟨k+1,_,by have:=aW.o;omega,by go_num,HN,bB⟩|((repeat apply Exists.intro);exact⟨⟨k+1,_,by have:=aW.o;omega,by go_num,HN,bB⟩,rfl⟩)
   case measure=>have:=aW.o;simp[intOf];omega
  .obtain rfl:LM=k:=by omega
   have bO:=Aa (show GL.take LM=GL from List.take_of_length_le (by rw[aV.o];exact Nat.le_refl _));rw[bO.o]at hr ⊢;obtain⟨HX,HMS,bI,aO⟩:=Eq hx.o hr.o.msl (NU wr (D:Int) GL _ hr.o.msl (by rw[aV.o];exact aG)) (bE.o wr (aT.o.trans hx.o));have k3:=bV.o;obtain⟨BS,aN⟩:∃x,Dd (D:Int) GL=x:=⟨_,rfl⟩;have bX:=Aa aN;obtain⟨⟨bd,bl⟩,be⟩:=BS;have aI:=Aa (show Calls Tryz.prog 123 #[(D:Int),.slice ga GL.length gc] wr fun r w'=>(∃v,r= .returned (.tuple #[.agg #[bd,v],be])/\EH w' v bl)/\Ex wr w' from bI.o.mono (by
    rintro r w'⟨⟨v,h1,h2⟩,h3⟩;rw[aN]at h1 h2;exact⟨⟨v,h1,h2⟩,h3⟩))
   have bY:=Aa (show ∀l∈bl,2<=l.orb.length/\2<=l.reps.length/\∀r∈l.reps,2<=r.length from fun l hl=>Ml (n:=(D:Int)) (rows:=GL) (by rw[aN];exact hl));obtain⟨LG,aA⟩:∃x,GL.length=x:=⟨_,rfl⟩;rw[aA]at aI ⊢;have HQ:=Aa (bJ.o.ex hx.o);clear hr hx bI aN aA;go_wp2_with (first|(go_at_call 54;refine aO.o.mono ?_;rintro e w5⟨rfl,rfl⟩)|(go_at_call 123;refine aI.o.mono ?_;rintro e w6⟨⟨v6,rfl,aP⟩,aB⟩;obtain⟨la,lc,bM,_,_,_⟩:=aP.open;subst bM;obtain⟨q0,q1,q2,qf0,qf1⟩:=HQ.o.ex aB;have bN:=Aa aP;have aC:=Aa aB;clear aP aB))
   have bU:=Aa (bN.o.set2 q0 q1 q2 bY.o (.int .i64 bd) (.slice la bl.length lc));exact bodyPost_ret (v:= .tuple #[.agg #[bd,.slice la bl.length lc],be]) (by simp[results,Tryz.results64,go_sem,q0,q1]) rfl ⟨Kx bX.o bU.o,Kd (aT.o.trans (HX.o.trans aC.o)) (Nat.le_of_eq bQ.o) _ _⟩
end
def CE(x:Nat):Prop:=x<BM^200
theorem CE.len{x n:Nat}{f:Nat->Nat}(h:CE x)(hc:JL n f)(hv:vS f n=x):n<=1000:=Nat.le_trans (hc.len (by rw[hv];exact h)) ac
theorem G5{x:Nat}(h:x<18446744073709551616):CE x:=by
 have h1:(18446744073709551616:Nat)=BM^2:=ae;have h2:BM^2<=BM^200:=Nat.pow_le_pow_right IY ac;unfold CE;omega
theorem XY:JL 1 fun _=>1:=⟨fun _ _=>ae,fun _ _=>ac⟩
theorem vS_one:vS (fun _=>1) 1=1:=ae
def NMl(w:World)(v:Value)(xs:List Nat):Prop:=∃vals:List Value,Sl w v xs.length 1 vals/\∀(i x:Nat) (u:Value),xs[i]?=some x->vals[i]?=some u->Hq w u x
theorem NMl.open{w:World}{v:Value}{xs:List Nat}(h:NMl w v xs):∃a cap,v= .slice a xs.length cap/\xs.length<=cap/\cap<=maxLen/\
  (0<xs.length->∃b o,a=some ⟨b,o,none⟩/\∀(i x:Nat),xs[i]?=some x->∃u,w.cell? ⟨b,o+i,none⟩=some u/\Hq w u x):=by
 obtain⟨vals,⟨h1,a,cap,h2,h3,h4,h5⟩,h6⟩:=h;refine⟨a,cap,h2,h3,h4,fun hn=>?_⟩;obtain⟨b,o,h7,h8⟩:=h5 hn;refine⟨b,o,h7,fun i x hx=>?_⟩;have hi:=(List.getElem?_eq_some_iff.1 hx).1;have hu:vals[i]?=some vals[i]:=List.getElem?_eq_getElem ac;exact⟨_,h8 i _ hu,h6 i x _ hx hu⟩
def Gk:List Nat->Nat:=fun xs=>xs.foldl (·* ·) 1
theorem Lg{xs:List Nat}{k x:Nat}(h:xs[k]?=some x):Gk (xs.take (k+1))=Gk (xs.take k)*x:=by
 unfold Gk;rw[List.take_add_one,h,List.foldl_append];rfl
theorem WB(w:World)(xs:List Nat)(v:Value)(hv:NMl w v xs)(aM:∀x∈xs,CE x)(hp:∀k,k<=xs.length->CE (Gk (xs.take k))):
  Calls Tryz.prog 41 #[v] w fun r w'=>(∃u,r= .returned u/\Hq w' u (Gk xs))/\Ex w w':=by
 obtain⟨a,cap,rfl,s1,s2,s3⟩:=hv.open;unfold maxLen at s2;have S3:=Aa s3;have aT:=Aa aM;have HP:=Aa hp;clear hv s3 aM hp;have ea:=(Ex.refl w).alloc (.cells #[.int .u32 1] 91);have q0:(w.alloc (.cells #[.int .u32 1] 91)).cell? (w.heap.size,0)=some (.int .u32 1):=ag;have H1:=Aa (show Hq (w.alloc (.cells #[.int .u32 1] 91)) (.slice (some ⟨w.heap.size,0,none⟩) 1 1) 1 from⟨1,_,XY,vS_one,NL.mk (Nat.le_refl _) ai fun _=>⟨_,0,rfl,fun j hj=>by
  obtain rfl:j=0:=ac;exact q0⟩⟩)
 have EA:=Aa ea;clear ea q0;go_enter Tryz.func41,Tryz.ntmps41
 go_wp2_with fail
 go_loopw [3,9] (fun p' k' wr=>∃(k:Nat),k<=xs.length/\k'= .int .i64 k/\Hia (Hq wr p' (Gk (xs.take k)))/\Hia (Ex w wr)) (fun _ k' _=>xs.length-(intOf k').toNat)
 case atStart=>exact⟨0,ac,rfl,H1,EA⟩
 case round=>
  clear H1 EA;obtain⟨k,hk,rfl,hn,aF⟩:=hrel;have aV:=Aa (HP.o k hk);obtain⟨n,f,aE,aD,aC⟩:=hn.o;have hn1:=aV.o.len aE aD;obtain⟨pa,pc,rfl,_,_,_⟩:=aC.open;by_cases hkn:k<xs.length
  .obtain⟨x,hx⟩:∃x,xs[k]?=some x:=⟨_,List.getElem?_eq_getElem hkn⟩;obtain⟨b,o,rfl,hc⟩:=S3.o ac;obtain⟨u,hu,aR⟩:=hc k x hx;have c1:=aF.o.cell hu;obtain⟨m,g,aJ,aI,aH⟩:=aR;have hm1:=(aT.o x (List.mem_of_getElem? hx)).len aJ aI;have i1:(0:Int)<=(k:Int):=by omega
   have i2:(k:Int)<(xs.length:Int):=ac;obtain⟨aW,aU,aX,aZ,aY⟩:=Of (Ee _ m g u (aH.ex aF.o) aJ.lt) (fun u' m' (aN:m'<=m) (aS:JL m' g) (h:NL _ u' m' g)=>Uq _ n m' f g _ _ aC h aE.lt aS.lt ac ac) (Lg hx) aD aI;obtain⟨ya,yc,rfl,_,_,_⟩:=aH.open;clear hc hu hx aE aD aC aJ aI aH;go_wp2_with (first|(go_at_call 87;refine aW.o.mono ?_;rintro e w5⟨⟨u,m',rfl,aN,aP,aO,aG⟩,rfl⟩;obtain⟨oa,oc,rfl,_,_,_⟩:=aG.open;have aQ:=Aa (aU.o _ m' aN aP aG);rw[aZ.o,aO,aY.o]at aQ;clear aP aO aG)|(go_at_call 95;refine aQ.o.mono ?_;rintro e w6⟨⟨u6,rfl,aA⟩,aB⟩;obtain⟨_,_,_,_,h6⟩:=id aA;obtain⟨oa,oc,rfl,_,_,_⟩:=h6.open;have aL:=Aa aA;have aK:=Aa (aF.o.trans aB);clear aA h6 aB))
   go_roundw
   case rel=>exact⟨k+1,ac,by go_num,by rw[aX.o];exact aL,aK⟩
   case measure=>simp[intOf];omega
  .obtain rfl:k=xs.length:=by omega
   have hT:=QY wr n f _ aC aE.lt ac;rw[aD,List.take_length]at hT;have HT:=Aa hT;clear hT aE aD aC;go_wp2_with (go_at_call 96;refine HT.o.mono ?_;rintro e w6⟨⟨u6,rfl,aA⟩,aB⟩;obtain⟨_,_,_,_,h6⟩:=id aA;obtain⟨oa,oc,rfl,_,_,_⟩:=h6.open;have aL:=Aa aA;have aK:=Aa (aF.o.trans aB);clear aA h6 aB)
   go_ret;exact⟨⟨_,rfl,aL.o⟩,aK.o⟩
theorem zcy{P:Prop}(h:P:=by
 go_enter Tryz.func110,Tryz.ntmps110
 exact zdd):P:=h
theorem Qc(w:World)(n i:Nat)(f:Nat->Nat)(v:Value)(hv:NL w v n f)(aA:∀k,k<n->f k<BM)(hi:i<=10000):
  Calls Tryz.prog 110 #[v,i] w fun r w'=>r= .returned (.int .u64 ((if i<n then f i else 0:Nat):Int))/\w'=w:=by
 obtain⟨a,cap,rfl,s1,s2,s3⟩:=hv.open;have S3:=Aa s3;unfold maxLen at s2;clear hv s3;by_cases hin:i<n
 .obtain⟨b,o,rfl,hc⟩:=S3.o ac;have c1:=hc i hin;rw[if_pos hin];have hb:f i<4294967296:=aA i hin;have e1:IntKind.u64.wrap (f i:Int)=(f i:Int):=by rw[IntKind.wrap_u64];omega
  have i1:(0:Int)<=(i:Int):=ac;have i2:(i:Int)<(n:Int):=ac;clear hc aA hb;exact zcy
 .rw[if_neg hin];have i2:¬(i:Int)<(n:Int):=by omega
  clear aA;exact zcy
def Qe(n:Nat)(f:Nat->Nat)(i:Nat):Nat:=if i<n then f i else 0
theorem WR{n m:Nat}(f:Nat->Nat)(h:n<=m):vS (Qe n f) m=vS f n:=by
 rw[NZ h fun k h1 _=>by unfold Qe;rw[if_neg ac]];exact Gx fun k hk=>by unfold Qe;rw[if_pos hk]
theorem Wh(w:World)(x y:Nat)(u v:Value)(hu:Hq w u x)(hv:Hq w v y)(hx:CE x)(hy:CE y):
  Calls Tryz.prog 50 #[u,v] w fun r w'=>(∃z:Int,r= .returned (.int .i64 z)/\(z=0↔x=y))/\w'=w:=by
 obtain⟨n,f,aE,aD,aI⟩:=hu;obtain⟨m,g,aC,aB,aH⟩:=hv;have hn:=hx.len aE aD;have hm:=hy.len aC aB;have aP:=Aa (fun i (hi:i<=10000)=>Qc w n i f u aI aE.lt hi);have aO:=Aa (fun i (hi:i<=10000)=>Qc w m i g v aH aC.lt hi);have aQ:=Aa (show(∀i,Qe n f i=Qe m g i)->x=y from fun h=>by
  rw[<-aD,<-aB,<-WR f (Nat.le_max_left n m),<-WR g (Nat.le_max_right n m)];exact Gx fun k _=>h k)
 have aN:=Aa (show ∀i,Qe n f i≠Qe m g i->¬x=y from fun i h e=>by
  obtain⟨h1,h2⟩:=aE.uniq aC (by rw[aD,aB,e]);subst h1;refine h ?_;unfold Qe;split
  .exact h2 i ac
  .rfl)
 obtain⟨ua,uc,rfl,_,_,_⟩:=aI.open;obtain⟨va,vc,rfl,_,_,_⟩:=aH.open;clear aE aD aI aC aB aH hx hy;have aR:=Aa (show(∀i,i<n∨i<m->Qe n f i=Qe m g i)->x=y from fun h=>aQ.o fun i=>by
  by_cases hi:i<n∨i<m
  .exact h i hi
  .unfold Qe;rw[if_neg ac,if_neg ac])
 go_enter Tryz.func50,Tryz.ntmps50
 go_wp2_with fail
 all_goals
  go_loopw [5] (fun i' wr=>∃i:Nat,i<=1000/\i'= .int .i64 ((i:Int)-1)/\wr=w/\Hia (∀k,i<=k->k<n∨k<m->Qe n f k=Qe m g k)) (fun i' _=>((intOf i')+1).toNat)
  case atStart=>first|exact⟨n,ac,rfl,rfl,Aa (fun k h1 h2=>ac)⟩|exact⟨m,ac,rfl,rfl,Aa (fun k h1 h2=>ac)⟩|exact⟨max n m,ac,congrArg (Value.int .i64) ac,rfl,Aa (fun k h1 h2=>ac)⟩
  case round=>
   obtain⟨i,hi,rfl,rfl,aA⟩:=hrel
   cases i with
   | zero=>
    have HE:=Aa (aR.o fun k hk=>aA.o k (Nat.zero_le _) hk);go_wp2_with fail
    go_ret;exact⟨⟨0,rfl,fun _=>HE.o,fun _=>rfl⟩,rfl⟩
   | succ k=>
    have aK:((k+1:Nat):Int)-1=(k:Int):=ac;rw[aK];have i1:(0:Int)<=(k:Int):=ac;have L1:=Aa (aP.o k ac);have L2:=Aa (aO.o k ac);have aJ:=Aa (aN.o k);obtain⟨p,hp⟩:=nA ((if k<n then f k else 0));obtain⟨q,hq⟩:=nA ((if k<m then g k else 0));rw[hp]at L1;rw[hq]at L2;have aG:Qe n f k=p:=hp;have aF:Qe m g k=q:=hq;rw[aG,aF]at aJ;have aL:=Aa (show p=q->∀j,k<=j->j<n∨j<m->Qe n f j=Qe m g j from fun e j h1 h2=>by
     by_cases e2:j=k
     .subst e2;rw[aG,aF,e]
     .exact aA.o j ac h2)
    clear hp hq aG aF aA;rcases Nat.lt_trichotomy p q with h|h|h
    .have HN:=Aa (aJ.o ac);have h1:(p:Int)<(q:Int):=by omega
     go_wp2_with (go_at_call 110;first|(with_reducible refine L1.o.mono ?_;rintro e w2⟨rfl,rfl⟩)|(with_reducible refine L2.o.mono ?_;rintro e w2⟨rfl,rfl⟩))
     go_ret;exact⟨⟨-1,rfl,fun h=>ac,fun h=>absurd h HN.o⟩,rfl⟩
    .subst h;have aM:=Aa (aL.o rfl);have h1:¬(p:Int)<(p:Int):=by omega
     go_wp2_with (go_at_call 110;first|(with_reducible refine L1.o.mono ?_;rintro e w2⟨rfl,rfl⟩)|(with_reducible refine L2.o.mono ?_;rintro e w2⟨rfl,rfl⟩))
     go_roundw
     case rel=>exact⟨k,ac,by go_num,trivial,aM⟩
     case measure=>simp[intOf]
    .have HN:=Aa (aJ.o ac);have h1:¬(p:Int)<(q:Int):=by omega
     have h2:(q:Int)<(p:Int):=ac;go_wp2_with (go_at_call 110;first|(with_reducible refine L1.o.mono ?_;rintro e w2⟨rfl,rfl⟩)|(with_reducible refine L2.o.mono ?_;rintro e w2⟨rfl,rfl⟩))
     go_ret;exact⟨⟨1,rfl,fun h=>ac,fun h=>absurd h HN.o⟩,rfl⟩
theorem LR{q:List Nat}{j y:Nat}(h:q[j]?=some y):(CU q).getD j 0=(y:Int):=by
 rw[List.getD_eq_getElem?_getD,TF h];rfl
theorem ZV{q:List Nat}{y:Nat}(h:y∈q):∃i:Nat,q[i]?=some y/\Cx (fun j=>(y:Int)==(CU q).getD j 0) (CU q).length=i:=by
 rw[Cj];have aA:∀k:Nat,(∃i:Nat,i<k/\q[i]?=some y/\∀j:Nat,j<i->q[j]?≠some y)∨∀j:Nat,j<k->q[j]?≠some y:=by
  intro k
  induction k with
  | zero=>exact .inr fun j h=>ac
  | succ k ih=>
   rcases ih with⟨i,h1,h2,h3⟩|h1
   .exact .inl ⟨i,ac,h2,h3⟩
   .by_cases e:q[k]?=some y
    .exact .inl ⟨k,ac,e,h1⟩
    .exact .inr fun j hj=>by
      by_cases e2:j=k
      .subst e2;exact e
      .exact h1 j ac
 rcases aA q.length with⟨i,h1,h2,h3⟩|h1
 .refine⟨i,h2,CA h1 (by rw[LR h2];simp) fun j hj=>?_⟩;have hq:q[j]?=some (q[j]'ac):=List.getElem?_eq_getElem _;rw[LR hq];have:q[j]'ac≠y:=fun e=>h3 j hj (by rw[hq,e]);simp;omega
 .obtain⟨j,hj,e⟩:=List.getElem_of_mem h;exact absurd ar (h1 j hj)
theorem Xf{q:List Nat}{y:Nat}(h:¬y∈q):Cx (fun j=>(y:Int)==(CU q).getD j 0) (CU q).length=-1:=by
 rw[Cj];refine BZ fun j hj=>?_;have hq:q[j]?=some (q[j]'ac):=List.getElem?_eq_getElem _;rw[LR hq];have:q[j]'ac≠y:=fun e=>h (by rw[<-e];exact List.getElem_mem hj);simp;omega
def El(L:List Lv):Nat:=Gk (L.map fun l=>l.orb.length)
theorem Nh{L:List Lv}{k:Nat}{l:Lv}(h:L[k]?=some l):El (L.take (k+1))=El (L.take k)*l.orb.length:=by
 unfold El;rw[List.map_take,List.map_take];exact Lg (by rw[List.getElem?_map,h];rfl)
theorem Lx{n:Nat}{S:List (Nat->Nat)}{bs:List Nat}{l:Lv}(h:l∈bs.map (Fo n S)):l.orb.length<=n:=by
 obtain⟨b,_,rfl⟩:=List.mem_map.1 h;show(CU (A7 S b n)).length<=n
 rw[Cj];exact Fz S b n
theorem KR{L:List Lv}(h:∀l∈L,l.orb.length<=64):∀k,k<=64->CE (El (L.take k)):=by
 have aA:∀k,El (L.take k)<=64^k:=by
  intro k
  induction k with
  | zero=>exact Nat.le_refl _
  | succ k ih=>
   by_cases hk:k<L.length
   .have hl:L[k]?=some (L[k]'hk):=List.getElem?_eq_getElem hk;rw[Nh hl,Nat.pow_succ];exact Nat.mul_le_mul ih (h _ (List.getElem_mem hk))
   .rw[List.take_of_length_le ac]at ih ⊢;exact Nat.le_trans ih (Nat.pow_le_pow_right ac ac)
 intro k hk;have h1:(64:Nat)^k<=64^64:=Nat.pow_le_pow_right ac hk;have h2:(64:Nat)^64=BM^12:=ae;have h3:BM^12<BM^200:=(Nat.pow_lt_pow_iff_right (by decide:1<BM)).2 ac;have:=aA k;unfold CE;omega
def SizR(d:Int)(L:List Lv)(r:Ending)(w':World):Prop:=(Bb d L≠0/\r= .returned (.tuple #[.slice none 0 0,.int .i64 (Bb d L)]))∨(Bb d L=0/\∃v,r= .returned (.tuple #[v,(0:Int)])/\Hq w' v (El L))
theorem nml2{w:World}{u v:Value}{x y:Nat}(hu:Hq w u x)(hv:Hq w v y)(t:TypeId):NMl (w.alloc (.cells #[u,v] t)) (.slice (some (w.heap.size,0)) 2 2) [x,y]:=by
 have ea:Ex w (w.alloc (.cells #[u,v] t)):=(Ex.refl _).alloc _;refine⟨[u,v],⟨rfl,_,2,rfl,Nat.le_refl _,by unfold maxLen;omega,fun _=>⟨_,0,rfl,fun j z hz=>?_⟩⟩,fun i z s h1 h2=>?_⟩
 .match j,hz with
  | 0,hz=>simp at hz;subst hz;simp
  | 1,hz=>simp at hz;subst hz;simp
  | j+2,hz=>simp at hz
 .match i,h1,h2 with
  | 0,h1,h2=>simp at h1 h2;subst h1 h2;exact hu.ex ea
  | 1,h1,h2=>simp at h1 h2;subst h1 h2;exact hv.ex ea
  | i+2,h1,h2=>simp at h1
theorem nMul2{w:World}{u v:Value}{x y:Nat}(hu:Hq w u x)(hv:Hq w v y)(hx:CE x)(hy:CE y)(aA:CE (x*y))(t:TypeId):
  Calls Tryz.prog 41 #[.slice (some (w.heap.size,0)) 2 2] (w.alloc (.cells #[u,v] t)) fun r w'=>(∃u,r= .returned u/\Hq w' u (x*y))/\Ex w w':=by
 have h:=WB _ _ _ (nml2 hu hv t) (fun z hz=>by
  simp at hz;rcases hz with e|e
  .rw[e];exact hx
  .rw[e];exact hy) (fun j hj=>by
  match j,hj with
  | 0,_=>exact G5 (by show(1:Nat)<_;omega)
  | 1,_=>show CE (1*x);rw[Nat.one_mul];exact hx
  | 2,_=>show CE (1*x*y);rw[Nat.one_mul];exact aA)
 have e:Gk [x,y]=x*y:=by show 1*x*y=_;rw[Nat.one_mul]
 rw[e]at h;exact h.mono fun r w' ⟨h1,h2⟩=>⟨h1,((Ex.refl w).alloc _).trans h2⟩
theorem zbF{P:Prop}(h:P:=by
 unfold Dk;have:=List.length_filter_le (fun b=>decide (1<(A7 S b n).length)) (List.range n);rw[List.length_range]at this;exact this):P:=h
theorem I3(w:World)(d:Int)(L:List Lv)(lv:Value)(hL:EH w lv L)(hg:(AE L).length<=1000):
  Calls Tryz.prog 35 #[.agg #[d,lv]] w fun r w'=>SizR d L r w'/\Ex w w':=by
 obtain⟨d0,d1,e0⟩:=BW w d lv;obtain⟨za,zc,rfl,z1,z2,z3⟩:=(hL.ex e0).open3;unfold maxLen at z2;have bF:=Aa (EY _ d L _ (hL.ex e0) hg);have Z3:=Aa z3;clear z3 hL;go_enter Tryz.func35,Tryz.ntmps35
 go_wp2_with fail
 obtain⟨q,hq⟩:=nA w.heap.size;rw[hq]at d0 d1
 try simp only[hq]
 clear hq;generalize w.alloc (.cells #[d,.slice za L.length zc] 43)=w1 at *;have aR:=Aa e0;clear e0;refine bF.o.mono ?_;rintro e w2⟨rfl,aA⟩;have d1:=aA.cell d1;have aH:=Aa aA;obtain⟨E,hE⟩:=nA (Bb d L);rw[hE];by_cases h0:E=0
 .subst h0;obtain⟨n,rfl,hn1,hn2,S,hS,aS,aG⟩:=Kw hE;have aB:∀l∈L,l.orb.length<=n:=fun l hl=>Lx (aG ▸ hl);have hll:L.length<=n:=by
   rw[aG,List.length_map];exact zbF
  obtain⟨bA,aQ,D1,HE,bB⟩:=Of aB (KR (L:=L) fun l hl=>by have:=aB l hl;omega) d1 hE (Yl w2 1 ac);clear aA hE aB aG aS hS d0;go_wp2_with (go_at_call 42;refine bB.o.mono ?_;rintro e w3⟨⟨u,rfl,hu⟩,aD⟩;have HU:=Aa hu;have aO:=Aa aD;have d1:=aD.cell D1.o;clear hu aD)
  clear d1
  go_loopw [5,17] (fun p' k' wr=>∃(k:Nat),k<=L.length/\k'= .int .i64 k/\Hia (Hq wr p' (El (L.take k)))/\Hia (Ex w3 wr)) (fun _ k' _=>L.length-(intOf k').toNat)
  case atStart=>exact⟨0,ac,rfl,HU,Aa (Ex.refl _)⟩
  case round=>
   clear HU;obtain⟨k,hk,rfl,hn,aF⟩:=hrel;obtain⟨pn,pf,_,_,aN⟩:=id hn.o;obtain⟨pa,pc,rfl,_,_,_⟩:=aN.open;clear aN;by_cases hkl:k<L.length
   .obtain⟨l,hl⟩:∃l,L[k]?=some l:=⟨_,List.getElem?_eq_getElem hkl⟩;obtain⟨zb,zo,rfl,aK⟩:=Z3.o ac;have aJ:=Aa (aH.o.trans (aO.o.trans aF.o));obtain⟨u,r,c0,c1,c2,hu,hr⟩:=aK k l hl;have c0:=aJ.o.cell c0;have c1:=aJ.o.cell c1;have c2:=aJ.o.cell c2;obtain⟨oa,oc,rfl,_,_,_⟩:=hu.open;obtain⟨ra,rc,rfl,_,_,_⟩:=hr.open;have i1:(0:Int)<=(k:Int):=by omega
    have i2:(k:Int)<(L.length:Int):=ac;have aB:=bA.o l (List.mem_of_getElem? hl);obtain⟨p,hp⟩:=nA l.pt;rw[hp]at c0;obtain⟨b0,b1,b2,eb⟩:=Ei wr p (.slice oa l.orb.length oc) (.slice ra l.reps.length rc);have e1:IntKind.u64.wrap (l.orb.length:Int)=(l.orb.length:Int):=bw;obtain⟨aI,HN,bE,aP,aY,aZ,aX⟩:=OK (Yl (wr.alloc (.cells #[p,.slice oa l.orb.length oc,.slice ra l.reps.length rc] 90)) l.orb.length ac) (hn.o.ex eb) eb (Nh hl) (aQ.o (k+1) ac) (aQ.o k ac) (G5 (x:=l.orb.length) ac);clear aK hl hp hu hr eb hn;go_wp2_with (first|(go_at_call 42;refine aI.o.mono ?_;rintro e w5⟨⟨u5,rfl,aE⟩,aC⟩;obtain⟨_,_,_,_,h5⟩:=id aE;obtain⟨ya,yc,rfl,_,_,_⟩:=h5.open;have bC:=Aa (nMul2 (HN.o.ex aC) aE aZ.o aX.o (by rw[<-aP.o];exact aY.o) 56);have aU:=Aa aC;clear h5 aE aC)|(go_at_call 41;refine bC.o.mono ?_;rintro e w6⟨⟨u6,rfl,aM⟩,aL⟩;have aW:=Aa aM;have aT:=Aa aL;clear aM aL))
    have bD:=Aa (aF.o.trans (bE.o.trans (aU.o.trans aT.o)));have aV:=Aa (show Hq w6 u6 (El (L.take (k+1))) from by
     rw[aP.o];exact aW.o)
    go_roundw
    case rel=>exact⟨k+1,ac,by go_num,aV,bD⟩
    case measure=>simp[intOf];omega
   .obtain rfl:k=L.length:=by omega
    have HN:=Aa (show Hq wr (.slice pa pn pc) (El L) from by have:=hn.o;rwa[List.take_length]at this);go_wp2_with fail
    go_ret2;exact⟨.inr ⟨HE.o,_,rfl,HN.o⟩,aR.o.trans (aH.o.trans (aO.o.trans aF.o))⟩
 .have hb:(E !=0)=true:=by simpa using h0
  have HR:=Aa (show Bb d L≠0 from by rw[hE];exact h0);have HE:=Aa hE;clear h0 hE aA;go_wp2_with fail
  go_ret2;exact⟨.inl ⟨HR.o,ret_ve HE.o.symm⟩,aR.o.trans aH.o⟩
theorem PW{P:Program}{f:FuncId}{aA:Array Value}{w:World}{n:Nat}{v:Value}
  (h:Calls P f aA (w.drewN n) fun e w'=>e= .returned v/\w.drewN n=w'):Calls P f aA (w.drewN n) fun e w''=>e= .returned v/\∃m,w''=w.drewN m:=
 h.mono fun _ _ ⟨he,hm⟩=>⟨he,n,hm.symm⟩
noncomputable def Em(d:Int)(L:List Lv)(p:List Int):Int:=if Bb d L≠0 then Bb d L else if BA p≠0 then BA p else if (p.length:Int)≠d then 10 else 0
noncomputable def Gq(d:Int)(L:List Lv)(p:List Int):List Int × Nat × Int:=if Em d L p≠0 then([],0,Em d L p) else
 (li d.toNat (En d.toNat ((AE L).map CJ) (Dk d.toNat ((AE L).map CJ)) (CJ p) 0).1,(En d.toNat ((AE L).map CJ) (Dk d.toNat ((AE L).map CJ)) (CJ p) 0).2,0)
def SftR(d:Int)(L:List Lv)(p:List Int)(r:Ending)(w':World):Prop:=∃v,r= .returned (.tuple #[v,((Gq d L p).2.1:Int),.int .i64 (Gq d L p).2.2])/\Aj w' v (Gq d L p).1
theorem Ix{d:Int}{L:List Lv}{p l:List Int}{k:Nat}{e:Int}{v:Value}{w':World}(h:Gq d L p=(l,k,e))(hv:Aj w' v l):SftR d L p (.returned (.tuple #[v,(k:Int),e])) w':=⟨v,by rw[h],by rw[h];exact hv⟩
theorem bh{P:Prop}(h:P:=by simp[results,Tryz.results100,go_sem]):P:=h
theorem Yh(w:World)(d:Int)(L:List Lv)(lv:Value)(hL:EH w lv L)(hg:(AE L).length<=1000)(p:List Int)(pv:Value)(hp:Aj w pv p):
  Calls Tryz.prog 100 #[.agg #[d,lv],pv] w fun r w'=>SftR d L p r w'/\Ex w w':=by
 obtain⟨d0,d1,e0⟩:=BW w d lv;obtain⟨za,zc,rfl,z1,z2,z3⟩:=(hL.ex e0).open3;unfold maxLen at z2;have cM:=Aa (EY _ d L _ (hL.ex e0) hg);have Z3:=Aa z3;have HP:=Aa (hp.ex e0);obtain⟨pa,pc,rfl,_,_,_⟩:=hp.open;clear z3 hL hp;go_enter Tryz.func100,Tryz.ntmps100
 go_wp2_with fail
 obtain⟨q,hq⟩:=nA w.heap.size;rw[hq]at d0 d1
 try simp only[hq]
 clear hq;generalize w.alloc (.cells #[d,.slice za L.length zc] 43)=w1 at *;have aM:=Aa e0;clear e0;refine cM.o.mono ?_;rintro e w2⟨rfl,aH⟩;have d1:=aH.cell d1;have d0:=aH.cell d0;have aG:=Aa aH;obtain⟨E,hE⟩:=nA (Bb d L);rw[hE];by_cases h0:E=0
 .subst h0;have aJ:=Aa (FR w2 p _ (HP.o.ex aH));obtain⟨F,hF⟩:=nA (BA p);rw[hF]at aJ;have D0:=Aa d0;have D1:=Aa d1;clear aH;by_cases h1:F=0
  .subst h1;obtain⟨n,f,hn1,hn2,hpl,aS,rfl⟩:=Fd hF;by_cases h2:((li n f).length:Int)=d
   .have bZ:(n:Int)=d:=by rw[<-h2,BB]
    subst bZ;obtain⟨n',bK,_,_,S,hS,aD,bQ⟩:=Kw hE;have bK:n'=n:=ac;subst bK;have bF:((AE L).map CJ)=S:=by rw[aD];exact Ev hS
    have bO:CJ (li n' f)=f:=F8 aS;have aW:=Aa (show ∀(g:Nat->Nat) (k:Nat),En n' S (Dk n' S) f 0=(g,k)->Gq n' L (li n' f)=(li n' g,k,0) from fun g k h=>by
     have:Em n' L (li n' f)=0:=by unfold Em;rw[hE,if_neg ae,hF,if_neg ae,if_neg el]
     unfold Gq;rw[this,if_neg ae,bF,bO];show(li n' (En n' S (Dk n' S) f 0).1,(En n' S (Dk n' S) f 0).2,0)=_
     rw[h])
    have HS:=Aa hS;have aX:=Aa bQ;have cL:=Aa aS;obtain⟨pt,aC⟩:=nA (Dk n' S);have cG:=Aa (show ∀b∈pt,b<n' from fun b hb=>by
     rw[<-aC]at hb;unfold Dk at hb;exact List.mem_range.1 (List.mem_filter.1 hb).1)
    rw[aC]at aW aX;have bL:L.length=pt.length:=by rw[aX.o,List.length_map]
    have hptl:pt.length<=n':=by
     rw[<-aC];unfold Dk;have:=List.length_filter_le (fun b=>decide (1<(A7 S b n').length)) (List.range n');rw[List.length_range]at this;exact this
    have bP:=HP.o.ex aG.o;have bY:=Aa (fun w' (hx:Ex w2 w')=>JK w' _ _ (bP.ex hx) el el);have bX:=Aa bL;rw[BB]at bY h2;have aK:(li n' f).length=n':=BB _ _;rw[aK]at aJ ⊢;clear hE hF aD bQ bF bO hS aS aC bL bP h2 aK;go_wp2_with (first|(go_at_call 57;refine aJ.o.mono ?_;rintro e w3⟨rfl,aA⟩;have aF:=Aa aA;have d0:=aA.cell D0.o;clear aA)|(go_at_call 154;refine(bY.o _ aF.o).mono ?_;rintro e w4⟨cg,cc,rfl,bJ,aQ⟩;have bV:=Aa bJ;have aV:=Aa (aF.o.trans aQ);have d1:=(aF.o.trans aQ).cell D1.o;clear bJ aQ))
    have D4:=Aa d1;clear d0 d1;have bU:=Aa (show Aj w4 (.slice (some ⟨cg,0,none⟩) n' cc) (li n' f) from by
     have e:il n' (fun j=>(li n' f).getD j 0)=li n' f:=by
      unfold li;exact Qp fun j hj=>ZU hj _
     have:=bV.o.isl
     rwa[e]at this)
    go_loopw [8,35] (fun o' k' wr=>∃(k:Nat) (g:Nat->Nat),k<=L.length/\k'= .int .i64 k/\Hia (AY n' g)/\Hia (Aj wr o' (li n' g))/\Hia (En n' S pt f 0=En n' S (pt.drop k) g k)/\Hia (Ex w4 wr)) (fun _ k' _=>L.length-(intOf k').toNat)
    case atStart=>exact⟨0,f,ac,rfl,cL,bU,Aa rfl,Aa (Ex.refl _)⟩
    case round=>
     clear bU bV;obtain⟨k,g,hk,rfl,bN,aD,aO,aL⟩:=hrel;obtain⟨oa,oc,rfl,_,_,_⟩:=DV aD.o;obtain⟨ob,oo,rfl,_,bG⟩:=EI aD.o ac;by_cases hkl:k<L.length
     .obtain⟨b,hb⟩:∃b,pt[k]?=some b:=⟨_,List.getElem?_eq_getElem (by rw[<-bX.o];exact hkl)⟩;have cB:=cG.o b (List.mem_of_getElem? hb);have hl:L[k]?=some (Fo n' S b):=by rw[aX.o,List.getElem?_map,hb];rfl
      have aT:pt.drop k=b :: pt.drop (k+1):=by
       have h1:=(List.getElem?_eq_some_iff.1 hb).1;rw[List.drop_eq_getElem_cons h1];have h2:=(List.getElem?_eq_some_iff.1 hb).2;rw[h2]
      have HRE:=Aa (aO.o.trans (by rw[aT]));obtain⟨zb,zo,rfl,aY⟩:=Z3.o ac;obtain⟨u,r,c0,c1,c2,hu,hr⟩:=aY k _ hl;have aN:=Aa (aG.o.trans (aV.o.trans aL.o));have c0:wr.cell? (zb,zo+k*3)=some (.int .i64 (b:Int)):=aN.o.cell c0;have c1:=aN.o.cell c1;have c2:=aN.o.cell c2;have hu:Aj w1 u (CU (A7 S b n')):=hu;have hr:B9 w1 r ((A7 S b n').map fun x=>li n' (CH n' S b x)):=hr;have bW:=Aa (fun y=>Ci (S:=S) (b:=b) (m:=n') (x:=y));obtain⟨Q,hQ⟩:=nA (A7 S b n');obtain⟨R,hR⟩:∃R,(Q.map fun x=>li n' (CH n' S b x))=R:=⟨_,rfl⟩;rw[hQ]at hu hr bW;rw[hR]at hr;have cF:=Aa hR;have bC:En n' S (b :: pt.drop (k+1)) g k=if g b∈Q then En n' S (pt.drop (k+1)) (Ak g (AS n' (CH n' S b (g b)))) (k+1) else(g,k):=by rw[<-hQ];rfl
      have aI:=Aa (aO.o.trans ((by rw[aT]:En n' S (pt.drop k) g k=En n' S (b :: pt.drop (k+1)) g k).trans bC));have HU:=Aa (hu.ex aN.o);have cE:=Aa (hr.ex aN.o);obtain⟨ua,uc,rfl,_,_,_⟩:=hu.open;obtain⟨ra,rc,rfl,_,_,_⟩:=hr.open;have co:=bG b cB;have i1:(0:Int)<=(k:Int):=by omega
      have i2:(k:Int)<(L.length:Int):=ac;have i3:(0:Int)<=(b:Int):=ac;have i4:(b:Int)<(n':Int):=ac;obtain⟨y,hy⟩:=nA (g b);rw[hy]at co aI;obtain⟨b0,b1,b2,eb⟩:=Ei wr (b:Int) (.slice ua (CU Q).length uc) (.slice ra R.length rc);have co:=eb.cell co;have aB:=fun q'=>NP ((wr.alloc (.cells #[(b:Int),.slice ua (CU Q).length uc,.slice ra R.length rc] 90)).drewN q') (CU Q) _ (y:Int) ((HU.o.ex eb).ex ((Ex.refl _).drewN q'));have HYE:=Aa hy;have EB:=Aa eb;clear aT hl aY hb hu hr hQ hR bC bG eb hy aO;by_cases hm:y∈Q
      .obtain⟨i,hi,bM⟩:=ZV hm;rw[bM]at aB;have aB:=Aa aB;rw[if_pos hm]at aI;obtain⟨x,hx⟩:=nA (CH n' S b y);have aE:=(Dl HS.o ((bW.o y).1 hm).2).gn.isP HS.o (n:=n');rw[hx]at aI aE;have bR:=Aa aE;have aU:R[i]?=some (li n' x):=by rw[<-cF.o,List.getElem?_map,hi,<-hx];rfl
       have cA:=(List.getElem?_eq_some_iff.1 aU).1;obtain⟨_,_,er,_,_,bE⟩:=cE.o.open;injection er with er1 er2 er3;subst er1 er3;obtain⟨rb,ro,rfl,bD⟩:=bE ac;obtain⟨v,bB,aR⟩:=bD i _ aU;have bT:=Aa (aR.ex EB.o);have cv:=EB.o.cell bB;obtain⟨va,vc,rfl,_,_,_⟩:=DV aR;have i5:(0:Int)<=(i:Int):=bu;have i6:(i:Int)<(R.length:Int):=ac;clear hm hi bM hx aE aU er2 bE bD bB aR cA;go_wp2_with fail
       obtain⟨W,hW⟩:=nA ((wr.alloc (.cells #[(b:Int),.slice ua (CU Q).length uc,.slice (some ⟨rb,ro,none⟩) R.length rc] 90)));rw[hW]at aB b0 b1 b2 co EB bT cv ⊢;clear hW
       go_quiet ((go_at_call 155;exact PW (aB.o _)))
       have cJ:=Aa (fun q'=>Ff (W.drewN q') n' x _ (bT.o.ex ((Ex.refl W).drewN q')) ac bR.o);have cK:=Aa (bN.o.comp bR.o.inv);go_wp2_with (first|(go_at_call 109;refine(cJ.o _).mono ?_;rintro e w6⟨ig,rfl,bI,bA⟩;have cI:=Aa bI.li;have bS:=Aa ((EB.o.drewN _).trans bA);clear bI bA)|(go_at_call 108;refine(EL w6 n' g (AS n' x) _ _ (aD.o.ex bS.o) cI.o ac bN.o.lt).mono ?_;rintro e w7⟨tg,rfl,bH,aZ⟩;have cH:=Aa bH.li;have cD:=Aa (bS.o.trans aZ);clear bH aZ))
       go_roundw
       case rel=>exact⟨k+1,_,ac,by go_num,cK,cH,aI,Aa (aL.o.trans cD.o)⟩
       case measure=>simp[intOf];omega
      .rw[Xf hm]at aB;have aB:=Aa aB;rw[if_neg hm]at aI;have HR:=Aa (aW.o _ _ aI.o);clear hm;go_wp2_with fail
       obtain⟨W,hW⟩:=nA ((wr.alloc (.cells #[(b:Int),.slice ua (CU Q).length uc,.slice ra R.length rc] 90)));rw[hW]at aB b0 b1 b2 co EB ⊢;clear hW
       go_quiet ((go_at_call 155;exact PW (aB.o _)))
       go_wp2_with fail
       exact bodyPost_ret (v:= .tuple #[.slice (some ⟨ob,oo,none⟩) n' oc,(k:Nat),(0:Int)]) bh rfl ⟨Ix HR.o (aD.o.ex (EB.o.drewN _)),aM.o.trans (aG.o.trans (aV.o.trans (aL.o.trans (EB.o.drewN _))))⟩
     .obtain rfl:k=L.length:=by omega
      have HR:=Aa (aW.o g L.length (aO.o.trans (by rw[bX.o,List.drop_length];rfl)));have d1:=(aL.o).cell D4.o;go_wp2_with fail
      go_quiet (fail)
      go_wp2_with fail
      exact bodyPost_ret (v:= .tuple #[.slice (some ⟨ob,oo,none⟩) n' oc,(L.length:Nat),(0:Int)]) bh rfl ⟨Ix HR.o (aD.o.ex ((Ex.refl wr).drewN _)),aM.o.trans (aG.o.trans (aV.o.trans (aL.o.drewN _)))⟩
   .have aP:(li n f).length=n:=BB n f;rw[aP]at h2;have HR:=Aa (show Gq d L (li n f)=([],0,10) from by
     have:Em d L (li n f)=10:=by unfold Em;rw[hE,if_neg ae,hF,if_neg ae,if_pos (by rw[aP];exact h2)]
     unfold Gq;rw[this];rfl)
    have hb:((n:Int) !=d)=true:=dw;rw[aP]at aJ ⊢;clear hE hF h2 aP;go_wp2_with (go_at_call 57;refine aJ.o.mono ?_;rintro e w3⟨rfl,aA⟩;have aF:=Aa aA;have d0:=aA.cell D0.o;clear aA)
    exact bodyPost_ret (v:= .tuple #[.slice none 0 0,(0:Nat),(10:Int)]) bh rfl ⟨Ix HR.o (AR _),aM.o.trans (aG.o.trans aF.o)⟩
  .have HR:=Aa (show Gq d L p=([],0,F) from by
    have:Em d L p=F:=by unfold Em;rw[hE,if_neg ae,hF,if_pos h1]
    unfold Gq;rw[this,if_pos h1])
   have hb:(F !=0)=true:=bt;have cC:(F==0)=false:=bt;clear hE hF h1;go_wp2_with (go_at_call 57;refine aJ.o.mono ?_;rintro e w3⟨rfl,aA⟩;have aF:=Aa aA;have d0:=aA.cell D0.o;clear aA)
   exact bodyPost_ret (v:= .tuple #[.slice none 0 0,(0:Nat),F]) bh rfl ⟨Ix HR.o (AR _),aM.o.trans (aG.o.trans aF.o)⟩
 .have HR:=Aa (show Gq d L p=([],0,E) from by
   have:Em d L p=E:=by unfold Em;rw[hE,if_pos h0]
   unfold Gq;rw[this,if_pos h0])
  have hb:(E !=0)=true:=by simpa using h0
  have cC:(E==0)=false:=by simpa using h0
  clear h0 hE aH;go_wp2_with fail
  exact bodyPost_ret (v:= .tuple #[.slice none 0 0,(0:Nat),E]) bh rfl ⟨Ix HR.o (AR _),aM.o.trans aG.o⟩
theorem Rr{b c:Bool}{e f:Int}(h:b=c)(k:e=f):Ending.returned (.tuple #[.bool b,e])= .returned (.tuple #[.bool c,f]):=by rw[h,k]
theorem VU{d:Int}{L:List Lv}{p:List Int}(h:Em d L p≠0):Gq d L p=([],0,Em d L p):=by unfold Gq;rw[if_pos h]
theorem SY{d:Int}{L:List Lv}{p:List Int}(h:Em d L p=0):∃(n:Nat) (f:Nat->Nat) (S:List (Nat->Nat)),d=n/\1<=n/\n<=64/\AY n f/\p=li n f/\(∀s∈S,AY n s)/\L=(Dk n S).map (Fo n S)/\AE L=S.map (li n)/\Gq d L p=(li n (En n S (Dk n S) f 0).1,(En n S (Dk n S) f 0).2,0):=by
 have h0:=h;unfold Em at h;split at h
 .exact absurd h (by assumption)
 .split at h
  .exact absurd h (by assumption)
  .split at h
   .cases h
   .rename_i h1 h2 h3;have h1:Bb d L=0:=by simpa using h1
    have h2:BA p=0:=dw;obtain⟨n,rfl,k1,k2,S,k3,k4,k5⟩:=Kw h1;obtain⟨m,f,m1,m2,m3,m4,rfl⟩:=Fd h2;rw[BB]at h3;have hm:m=n:=ac;subst hm;refine⟨m,f,S,rfl,k1,k2,m4,rfl,k3,k5,k4,?_⟩;unfold Gq;rw[h0,if_neg ae,k4,Ev k3,F8 m4];rfl
open Classical in
noncomputable def J5 (d:Int) (L:List Lv) (p:List Int):Bool:=decide (Em d L p=0/\(Gq d L p).2.1=L.length/\(Gq d L p).1=li d.toNat DA)
theorem Xl{n:Nat}{S:List (Nat->Nat)}{f:Nat->Nat}{L:List Lv}(hS:∀s∈S,AY n s)(hP:AY n f)(hL:L=B3 n S n)(he:Em n L (li n f)=0):J5 n L (li n f)=true↔Gn S f:=by
 obtain⟨n',f',S',h1,h2,h3,h4,h5,h6,h7,h8,h9⟩:=SY he;have hn:n'=n:=ac;subst hn;have hf:=WO hP h4 h5;subst hf;have aB:∀g,Gn S' g↔Gn S g:=fun g=>by
  have hs:=Fa n' S;have e:AE L=(Ca n' S (Dk n' S)).map (li n'):=by rw[hL,DH,FK]
  have e2:S'=Ca n' S (Dk n' S):=by
   rw[<-Ev h6,<-h8,e,Ev (FV hS _)]
  rw[e2,DQ hS hs];exact⟨fun h=>h.1,fun h=>⟨h,fun i hi=>ac⟩⟩
 rw[<-aB,<-VS h6 hP];unfold J5;rw[decide_eq_true_eq,h9];have aA:L.length=(Dk n' S').length:=by rw[h7,List.length_map]
 constructor
 .rintro⟨_,k1,k2⟩;have k2:li n' (En n' S' (Dk n' S') f 0).1=li n' DA:=k2;have:=WO (PB h6 _ f 0 hP) (DW n') k2;exact Prod.ext this (by rw[<-aA];exact k1)
 .intro h;rw[h];exact⟨he,aA.symm,rfl⟩
theorem zcC{P:Prop}(h:P:=by
 go_wp2_with fail
 go_ret2;exact⟨Rr HB.o.symm aC.o,aF.o.trans aE.o⟩):P:=h
theorem Has_any(w:World)(d:Int)(L:List Lv)(lv:Value)(hL:EH w lv L)(hg:(AE L).length<=1000)(p:List Int)(pv:Value)(hp:Aj w pv p):
  Calls Tryz.prog 44 #[.agg #[d,lv],pv] w fun r w'=>r= .returned (.tuple #[.bool (J5 d L p),.int .i64 (Em d L p)])/\Ex w w':=by
 obtain⟨d0,d1,e0⟩:=BW w d lv;obtain⟨za,zc,rfl,z1,z2,z3⟩:=(hL.ex e0).open3;unfold maxLen at z2;have aN:=Aa (Yh _ d L _ (hL.ex e0) hg p _ (hp.ex e0));obtain⟨pa,pc,rfl,_,_,_⟩:=hp.open;clear z3 hL hp;go_enter Tryz.func44,Tryz.ntmps44
 go_wp2_with fail
 obtain⟨q,hq⟩:=nA w.heap.size;rw[hq]at d0 d1
 try simp only[hq]
 clear hq;generalize w.alloc (.cells #[d,.slice za L.length zc] 43)=w1 at *;have aF:=Aa e0;clear e0;refine aN.o.mono ?_;rintro e w2⟨⟨v,rfl,hv⟩,aA⟩;have d1:=aA.cell d1;have aE:=Aa aA;by_cases he:Em d L p=0
 .obtain⟨n,f,S,rfl,hn1,hn2,hfP,rfl,hS,aL,aK,aB⟩:=SY he;rw[aB]at hv ⊢;dsimp only at hv ⊢;obtain⟨g,aD⟩:=nA ((En n S (Dk n S) f 0).1);obtain⟨k,hk⟩:=nA ((En n S (Dk n S) f 0).2);rw[aD,hk]at aB;rw[aD]at hv;rw[hk];have HB:=Aa (show J5 n L (li n f)=decide (k=L.length/\li n g=li n DA) from by
   unfold J5;rw[aB,he];simp)
  have HV:=Aa hv;have aP:=Aa (fun w'=>F5 w' n ac);obtain⟨va,vc,rfl,_,_,_⟩:=DV hv;have aC:=Aa he.symm;have D1:=Aa d1;have hli:(li n f).length=n:=BB _ _;clear aB hv he aD aL aK hS aA;by_cases hkl:k=L.length
  .subst hkl;rw[show decide (L.length=L.length/\li n g=li n DA)=decide (li n g=li n DA) from decide_eq_decide.2 ⟨fun h=>h.2,fun h=>⟨rfl,h⟩⟩]at HB;go_wp2_with (first|(go_at_call 102;refine(aP.o _).mono ?_;rintro e w6⟨ig,rfl,aI,aG⟩;have aO:=Aa aI.li;have aJ:=Aa aG;clear aI aG)|(go_at_call 101;refine(Hj w6 _ _ _ _ (HV.o.ex aJ.o) aO.o).mono ?_;rintro e w7⟨rfl,n7,aH⟩;have aM:=Aa (aJ.o.trans (show Ex w6 w7 from by rw[aH];exact(Ex.refl w6).drewN n7));clear aH))
   go_ret2;exact⟨Rr HB.o.symm aC.o,aF.o.trans (aE.o.trans aM.o)⟩
  .rw[decide_eq_false (fun h=>hkl h.1)]at HB;have hb:((k:Int)==(L.length:Int))=false:=by simp;omega
   clear hkl;exact zcC
 .rw[VU he]at hv ⊢;dsimp only at hv ⊢;have HB:=Aa (show J5 d L p=false from by
   unfold J5;exact decide_eq_false fun h=>he h.1)
  obtain⟨E,hE⟩:=nA (Em d L p);rw[hE]at he ⊢;have aC:=Aa hE.symm;obtain⟨va,vc,rfl⟩:=W7 hv;have hb:(E==0)=false:=by simpa using he
  clear he hv hE aA;exact zcC
end Go.Proofs.YtehieobniamagaaGreat
