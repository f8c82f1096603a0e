/- Walks of the echelon's missing, the pair's sides, unit, the pair's witness. -/
import Derived.Test.YtehieobniamagaaGreatZc13
namespace Go.Proofs.YtehieobniamagaaGreat
open Go.RowKit
set_option linter.all false
set_option maxRecDepth 100000
set_option maxHeartbeats 16000000
section
variable {b p m x0:Nat} {ml:List Int}
theorem Oo(w:World)(hg:Bj w b p m ml x0)(B E t:Nat)(ht:t<=1000)(e:My)(rv pv:Value)(hE:Gp w E b t e rv pv)(aB:∀i,i<e.n->e.pl i<t)(f:Nat->Int)(uv:Value)(hu:Aj w uv (il t f))(c0:w.cell? (B,0)=some (.pointer (some (E,0)))):
  Calls Tryz.prog 262 #[uv,.pointer (some (B,0))] w fun r w'=>r= .returned (.bool (decide (0<=MK t (e.red p m ml f))))/\Ex w w':=by
 have HR:=Aa (K9 w hg E t ht e rv pv hE aB f uv hu);obtain⟨z,hz⟩:=nA (MK t (e.red p m ml f));rw[hz]at HR ⊢;clear hg hE hu hz aB;go_enter Tryz.func262,Tryz.ntmps262
 go_wp2_with fail
 refine HR.o.mono ?_;rintro e' w1⟨v1,rfl,-,aA⟩;have HX:=Aa aA;clear aA;exact zc9
theorem GF(w:World)(hg:Bj w b p m ml x0)(E t:Nat)(ht:t<=1000)(e:My)(rv pv:Value)(hE:Gp w E b t e rv pv)(aB:∀i,i<e.n->e.pl i<t)(R:Nat)(a:Nat->Nat->Int)(v:Value)(hv:B9 w v (Au t R a)):
  Calls Tryz.prog 226 #[.pointer (some (E,0)),v] w fun r w'=>r= .returned (.int .i64 (Jp p m ml t e a R))/\Ex w w':=by
 obtain⟨vals,hs,hr⟩:=hv;rw[AL]at hs;have ec:Ex w (w.alloc (.cells #[.pointer (some ⟨E,0,none⟩)] 259)):=(Ex.refl _).alloc _;have c0:(w.alloc (.cells #[.pointer (some ⟨E,0,none⟩)] 259)).cell? (w.heap.size,0)=some (.pointer (some (E,0))):=ag;have aD:=Aa (MY (w.alloc (.cells #[.pointer (some ⟨E,0,none⟩)] 259)) (.pointer (some ⟨w.heap.size,0,none⟩)) v R vals (hs.ex ec) (fun i=>decide (0<=MK t (e.red p m ml (a i)))) (fun w1 i u h1 hu=>by
  have hi:i<R:=by
   have h2:=(List.getElem?_eq_some_iff.1 hu).1;have h3:=hs.1;omega
  have hx:=ec.trans h1;exact Oo w1 (hg.ex hx) w.heap.size E t ht e rv pv (hE.ex hx) aB (a i) u ((hr i _ u (Dq hi) hu).ex hx) (h1.cell c0)))
 obtain⟨-,va,vc,rfl,-,-,-⟩:=hs;have aC:=Aa ec;clear hr hg hE aB c0 ec;go_enter Tryz.func226,Tryz.ntmps226
 go_wp2_with fail
 refine aD.o.mono ?_;rintro e' w1⟨rfl,aA⟩;have HX:=Aa aA;clear aA;go_wp2_with fail
 go_ret;exact⟨rfl,aC.o.trans HX.o⟩
end
theorem Pu(w:World)(i n:Nat)(hi:i<n)(hn:n<=1000):
  Calls Tryz.prog 240 #[i,n] w fun r w'=>∃g,r= .returned (.slice (some ⟨g,0,none⟩) n n)/\AF w' w.heap.size 3 g n (iv (Ay (fun _=>0) i 1))/\Ex w w':=by
 obtain⟨B,hB⟩:=nA w.heap.size;have aA:=Aa hB;go_enter Tryz.func240,Tryz.ntmps240
 go_wp2_with (at_make;refine Ar _ rfl _ _ 22 rfl 3 (.int .i64 0) 8 Tryz.underlying22 Az rfl _ n rfl rfl rfl ac ai ?_)
 intro w3 hown hx3
 try simp only[hB]at hown ⊢
 have co:=hown.cell hi;have cf:=hown.frz i;have i1:(0:Int)<=(i:Int):=ac;have i2:(i:Int)<(n:Int):=ac;have HO:=Aa (show AF (w3.setCell (B,i) (.int .i64 1)) B 3 B n (iv (Ay (fun _=>(0:Int)) i 1)) from by rw[<-CD];exact hown.set i _);have HX:=Aa (show Ex w (w3.setCell (B,i) (.int .i64 1)) from hown.exSet ac hx3 i _);clear hown hx3 hB;go_wp2_with fail
 go_ret;exact⟨B,rfl,by rw[aA.o];exact HO.o,HX.o⟩
structure MS(w:World)(A b n:Nat)(v1 v2:Value):Prop where
 c0:w.cell? (A,0)=some (.pointer (some (b,0)))
 c4:w.cell? (A,4)=some (.int .i64 n)
 c5:w.cell? (A,5)=some v1
 c10:w.cell? (A,10)=some v2
theorem MS.ex{w w':World}{A b n:Nat}{v1 v2:Value}(h:MS w A b n v1 v2)(hx:Ex w w'):MS w' A b n v1 v2:=⟨hx.cell h.c0,hx.cell h.c4,hx.cell h.c5,hx.cell h.c10⟩
theorem KY(N k:Nat)(a:Nat->Nat->Int):Au N (k+1) a=Au N k a ++ [il N (a k)]:=by unfold Au;rw[List.range_succ,List.map_append];rfl
section
variable {b p m x0:Nat} {ml:List Int}
theorem aw{P:Prop}(h:P:=by rw[List.getD_eq_getElem?_getD,List.getElem?_eq_getElem hi];rfl):P:=h
theorem Ni(w:World)(hg:Bj w b p m ml x0)(A n:Nat)(hn:n<=64)(v1 v2:Value)(hP:MS w A b n v1 v2)(l1 l2:List (List Int))(h1:B9 w v1 l1)(h2:B9 w v2 l2)(bA:∀r∈l1,r.length=n)(aZ:∀r∈l2,r.length=n)(bK:l1.length<=256)(bJ:l2.length<=256)
  (tl sl:List Int) (tv sv:Value) (ht:Aj w tv tl) (hs:Aj w sv sl) (bI:sl.length=tl.length) (bG:tl.length<=n) (aY:BD tl n=true):
  Calls Tryz.prog 224 #[.pointer (some (A,0)),.agg #[tv,sv]] w fun r w'=>∃u1 u2,r= .returned (.tuple #[u1,u2])/\B9 w' u1 (Au tl.length l1.length fun i=>Gl p m ml sl (An l1 i))/\B9 w' u2 (Au tl.length l2.length fun i=>Jc tl (An l2 i))/\Ex w w':=by
 obtain⟨b0,b1,eb,bH⟩:=AX w tv sv;obtain⟨N,hN⟩:=nA tl.length;have aQ:=Aa (fun i (hi:i<l1.length)=>show l1[i]?=some (l1.getD i [])/\(l1.getD i []).length=n from by
  have h:l1[i]?=some (l1.getD i []):=aw;exact⟨h,bA _ (List.mem_of_getElem? h)⟩)
 have aP:=Aa (fun i (hi:i<l2.length)=>show l2[i]?=some (l2.getD i [])/\(l2.getD i []).length=n from by
  have h:l2[i]?=some (l2.getD i []):=aw;exact⟨h,aZ _ (List.mem_of_getElem? h)⟩)
 have bP:=Aa (fun (w1:World) (hw:Ex w w1) (x:List Int) (xv:Value) (hx:Aj w1 xv x) (hl:x.length=n)=>Lw w1 (hg.ex hw) A (hw.cell hP.c0) N ac tl sl x tv sv xv (ht.ex hw) (hs.ex hw) hx hN ac ac);have bO:=Aa (fun (w1:World) (hw:Ex w w1) (y:List Int) (yv:Value) (hy:Aj w1 yv y) (hl:y.length=n)=>KX w1 A N ac tl y tv sv yv (ht.ex hw) hy hN (by rw[hl];exact aY));obtain⟨ra,rc,rfl,-,r2,r3⟩:=h1.open;obtain⟨sa,sc,rfl,-,s2,s3⟩:=h2.open;unfold maxLen at r2 s2;have R3:=Aa r3;have S3:=Aa s3;have p5:=eb.cell hP.c5;have aE:=eb.cell hP.c10;have aX:=Aa eb;obtain⟨F1,aV⟩:∃F,(fun i=>Gl p m ml sl (An l1 i))=F:=⟨_,rfl⟩;obtain⟨F2,aU⟩:∃F,(fun i=>Jc tl (An l2 i))=F:=⟨_,rfl⟩;have bR:=Aa (fun i=>congrFun aV i);have bQ:=Aa (fun i=>congrFun aU i);rw[aV,aU,hN];obtain⟨R1,bC⟩:∃R,l1.length=R:=⟨_,rfl⟩;obtain⟨R2,bB⟩:∃R,l2.length=R:=⟨_,rfl⟩;rw[bC]at R3 aQ bK p5 ⊢;rw[bB]at S3 aP bJ aE ⊢;clear hg hP h1 h2 bA aZ ht hs r3 s3 aV aU aY eb bC bB hN bI bG;go_enter Tryz.func224,Tryz.ntmps224
 go_wp2_with fail
 obtain⟨B,hB⟩:=nA w.heap.size;rw[hB]at b0 b1
 try simp only[hB]
 clear hB bH;generalize w.alloc (.cells #[tv,sv] 71)=w1 at *;have B0:=Aa b0;have B1:=Aa b1;have bN:=Aa aE;clear p5 aE b0 b1
 go_loopw [4,16] (fun cv k' wr=>∃(k:Nat) (vals:List Value),k<=R1/\k'= .int .i64 k/\Hia (BF wr w1.heap.size cv (Au N k F1) vals)/\Hia (Ex w1 wr)) (fun _ k' _=>R1-(intOf k').toNat)
 case atStart=>exact⟨0, [],ac,rfl,Aa (BF.nil _ _),Aa (Ex.refl _)⟩
 case round=>
  obtain⟨k,vals,hk,rfl,hm,hx⟩:=hrel;obtain⟨ca,cc,bM⟩:=Ad hm.o.cvo;subst bM;by_cases hkR:k<R1
  .obtain⟨rb,ro,rfl,aI⟩:=R3.o ac;obtain⟨aL,aK⟩:=aQ.o k hkR;obtain⟨uv,aH,aG⟩:=aI k _ aL;have aB:=aX.o.trans hx.o;have cu:=aB.cell aH;have b0:=hx.o.cell B0.o;have b1:=hx.o.cell B1.o;have i1:(0:Int)<=(k:Int):=by omega
   have i2:(k:Int)<(R1:Int):=ac;have HC:=Aa (bP.o wr aB _ uv (aG.ex aB) aK);rw[show(Gl p m ml sl fun j=>(l1.getD k []).getD j 0)=F1 k from bR.o k]at HC;have HM:=Aa hm.o;have HX:=Aa hx.o;have aO:=Aa (AL N k F1);clear aI aL aK aH aG aB hm hx;go_wp2_with (first
        | (go_at_call 228
           refine HC.o.mono ?_;rintro e w5⟨g5,rfl,aJ,aF⟩;have aC:=Aa aJ;have aN:=Aa aF;clear aJ aF;have aD:=Aa (HM.o.ex aN.o);have aM:=Aa (HX.o.trans aN.o);have HL:=Aa (show w5.ownsRow w1.heap.size 3 1 (.slice (some ⟨g5,0,none⟩) N N) (il N (F1 k)).length (Ap (il N (F1 k))) from by
             rw[AJ,Cw];exact Bl aC.o (by have:=HX.o.size;omega))
           have aR:=Aa (show AT (.slice (some ⟨g5,0,none⟩) N N) (.slice ca (Au N k F1).length cc) from by
             right;show some g5≠_
             intro e;have:=(HM.o.cvo.lt g5 e.symm).2;have:=aC.o.lt.1;omega)
           clear HM aC)
        | (at_builtin;refine Am _ rfl _ _ 37 rfl w1.heap.size 22 (.slice none 0 0) 1 24 Tryz.underlying37 BG rfl ae _ (Au N k F1).length _ rfl aD.o.cvo [.slice (some ⟨g5,0,none⟩) N N] 22 _ rfl ag rfl aj (by have:=aO.o;unfold maxLen;omega) (by have:=aO.o;omega) aM.o.size ?_))
   intro v2 w6 aA;have HO:=Aa (aD.o.app HL.o aR.o aA);have HE:=Aa (aA.ex aM.o (Nat.le_refl _));obtain⟨va,vc,aT⟩:=Ad aA.own;subst aT;rw[<-KY]at HO;clear aA HL aR aD;go_wp2_with fail
   go_roundw
   case rel=>first|exact⟨k+1,_,ac,by go_num,HO,HE⟩|((repeat apply Exists.intro);exact⟨⟨k+1,_,ac,by go_num,HO,HE⟩,rfl⟩)
   case measure=>simp[intOf];omega
  .obtain rfl:k=R1:=by omega
   have HM:=Aa hm.o;have HX:=Aa hx.o;have aE:=hx.o.cell bN.o;have bE:=Aa hm.o.msl;obtain⟨w8,aS⟩:∃w8,w8=wr:=⟨_,rfl⟩;rw[<-aS]at HM HX bE;have H8:=Aa aS;clear hm hx;go_wp2_with fail
   go_loopw [5,34] (fun cv k' wr=>∃(k:Nat) (vals:List Value),k<=R2/\k'= .int .i64 k/\Hia (BF wr w8.heap.size cv (Au N k F2) vals)/\Hia (Ex w8 wr)) (fun _ k' _=>R2-(intOf k').toNat)
   case atStart=>exact⟨0, [],ac,rfl,Aa (BF.nil _ _),Aa (by rw[H8.o];exact Ex.refl _)⟩
   case round=>
    clear aE aS;obtain⟨j,vals2,hj,rfl,hm,hx⟩:=hrel;obtain⟨da,dc,bL⟩:=Ad hm.o.cvo;subst bL;by_cases hjR:j<R2
    .obtain⟨rb,ro,rfl,aI⟩:=S3.o ac;obtain⟨aL,aK⟩:=aP.o j hjR;obtain⟨uv,aH,aG⟩:=aI j _ aL;have aB:=(aX.o.trans HX.o).trans hx.o;have cu:=aB.cell aH;have b0:=(HX.o.trans hx.o).cell B0.o;have b1:=(HX.o.trans hx.o).cell B1.o;have i1:(0:Int)<=(j:Int):=by omega
     have i2:(j:Int)<(R2:Int):=ac;have HC:=Aa (bO.o wr aB _ uv (aG.ex aB) aK);rw[show(Jc tl fun bF=>(l2.getD j []).getD bF 0)=F2 j from bQ.o j]at HC;have aW:=Aa hm.o;have bD:=Aa hx.o;have aO:=Aa (AL N j F2);clear aI aL aK aH aG aB hm hx;go_wp2_with (first
            | (go_at_call 227
               refine HC.o.mono ?_;rintro e w5⟨g5,rfl,aJ,aF⟩;have aC:=Aa aJ;have aN:=Aa aF;clear aJ aF;have aD:=Aa (aW.o.ex aN.o);have aM:=Aa (bD.o.trans aN.o);have HL:=Aa (show w5.ownsRow w8.heap.size 3 1 (.slice (some ⟨g5,0,none⟩) N N) (il N (F2 j)).length (Ap (il N (F2 j))) from by
                 rw[AJ,Cw];exact Bl aC.o (by have:=bD.o.size;omega))
               have aR:=Aa (show AT (.slice (some ⟨g5,0,none⟩) N N) (.slice da (Au N j F2).length dc) from by
                 right;show some g5≠_
                 intro e;have:=(aW.o.cvo.lt g5 e.symm).2;have:=aC.o.lt.1;omega)
               clear aW aC)
            | (at_builtin;refine Am _ rfl _ _ 37 rfl w8.heap.size 22 (.slice none 0 0) 1 24 Tryz.underlying37 BG rfl ae _ (Au N j F2).length _ rfl aD.o.cvo [.slice (some ⟨g5,0,none⟩) N N] 22 _ rfl ag rfl aj (by have:=aO.o;unfold maxLen;omega) (by have:=aO.o;omega) aM.o.size ?_))
     intro v2 w6 aA;have HO:=Aa (aD.o.app HL.o aR.o aA);have HE:=Aa (aA.ex aM.o (Nat.le_refl _));obtain⟨va,vc,aT⟩:=Ad aA.own;subst aT;rw[<-KY]at HO;clear aA HL aR aD;go_wp2_with fail
     go_roundw
     case rel=>first|exact⟨j+1,_,ac,by go_num,HO,HE⟩|((repeat apply Exists.intro);exact⟨⟨j+1,_,ac,by go_num,HO,HE⟩,rfl⟩)
     case measure=>simp[intOf];omega
    .obtain rfl:j=R2:=by omega
     go_wp2_with fail
     go_ret2;exact⟨_,_,rfl,bE.o.ex hx.o,hm.o.msl,(aX.o.trans HX.o).trans hx.o⟩
end
theorem IC{w:World}{base g n:Nat}{i:Nat}(h:AF w base 3 g n (iv (Ay (fun _=>0) i 1))):Aj w (.slice (some (g,0)) n n) (SR i n):=h.isl
section
variable {b p m x0:Nat} {ml:List Int}
theorem JM(w:World)(hg:Bj w b p m ml x0)(aI:1<=x0)(aH:x0<p^m)(A n:Nat)(hn:n<=64)(v1 v2:Value)(hP:MS w A b n v1 v2)(l1 l2:List (List Int))(h1:B9 w v1 l1)(h2:B9 w v2 l2)(bN:∀r∈l1,r.length=n)(bM:∀r∈l2,r.length=n)(bP:l1.length<=256)(bO:l2.length<=256)
  (tl sl:List Int) (tv sv:Value) (ht:Aj w tv tl) (hs:Aj w sv sl) (bK:sl.length=tl.length) (bJ:tl.length<=n) (bL:BD tl n=true):
  Calls Tryz.prog 192 #[.pointer (some (A,0)),.agg #[tv,sv]] w fun r w'=>∃mv,r= .returned (.tuple #[.int .i64 (Fi p m ml l1 l2 tl sl).1,mv])/\Aj w' mv (J3 l1.length l2.length (Fi p m ml l1 l2 tl sl))/\(∀B,mv.ownBlock=some B->w.heap.size<=B)/\Ex w w':=by
 obtain⟨b0,b1,eb,hsz⟩:=AX w tv sv;have aG:=Aa (Ni _ (hg.ex eb) A n hn v1 v2 (hP.ex eb) l1 l2 (h1.ex eb) (h2.ex eb) bN bM bP bO tl sl tv sv (ht.ex eb) (hs.ex eb) bK bJ bL);have HA:=Aa hP.c0;have HG:=Aa hg;obtain⟨W,hW⟩:=nA (Fi p m ml l1 l2 tl sl);have aD:=hW;unfold Fi at aD;rw[hW];obtain⟨N,hN⟩:=nA tl.length;rw[hN]at aG aD bJ;obtain⟨F1,bV⟩:∃F,(fun i=>Gl p m ml sl (An l1 i))=F:=⟨_,rfl⟩;obtain⟨F2,bU⟩:∃F,(fun i=>Jc tl (An l2 i))=F:=⟨_,rfl⟩;rw[bV,bU]at aG aD;obtain⟨R1,bT⟩:∃R,l1.length=R:=⟨_,rfl⟩;obtain⟨R2,bS⟩:∃R,l2.length=R:=⟨_,rfl⟩;rw[bT]at aG aD bP ⊢;rw[bS]at aG aD bO ⊢;obtain⟨I1,aQ⟩:∃i,Jp p m ml N (Ht p m ml N F2 R2) F1 R1=i:=⟨_,rfl⟩;obtain⟨I2,aP⟩:∃i,Jp p m ml N (Ht p m ml N F1 R1) F2 R2=i:=⟨_,rfl⟩;have bF:=Aa (show I1<R1/\-1<=I1 from by rw[<-aQ];exact OO _ _);have bE:=Aa (show I2<R2/\-1<=I2 from by rw[<-aP];exact OO _ _);simp only[aQ,aP]at aD;have bD:=Aa (fun (w1:World) (hw:Ex w w1) (E:Nat) (rv pv:Value) (hE:Gp w1 E b N (Ht p m ml N F2 R2) rv pv) (v:Value) (hv:B9 w1 v (Au N R1 F1))=>GF w1 (hg.ex hw) E N ac _ rv pv hE (KL N F2 R2) R1 F1 v hv);have bC:=Aa (fun (w1:World) (hw:Ex w w1) (E:Nat) (rv pv:Value) (hE:Gp w1 E b N (Ht p m ml N F1 R1) rv pv) (v:Value) (hv:B9 w1 v (Au N R2 F2))=>GF w1 (hg.ex hw) E N ac _ rv pv hE (KL N F1 R1) R2 F2 v hv);rw[aQ]at bD;rw[aP]at bC;have aS:=Aa aD;have cC:=Aa eb;clear hg hP h1 h2 bN bM ht hs bV bU bL bT bS hN bK hW aD aQ aP eb;go_enter Tryz.func192,Tryz.ntmps192
 go_wp2_with fail
 refine aG.o.mono ?_;rintro e w1⟨u1,u2,rfl,aU,aT,bI⟩;have aZ:=Aa (cC.o.trans bI);have aE:=Aa aU;have aC:=Aa aT;obtain⟨ua,uc,rfl,-,ul,-⟩:=aU.open;obtain⟨va,vc,rfl,-,vl,-⟩:=aT.open;rw[AL]at aE aC ⊢;rw[AL];have aL:=Aa (KM w1 (HG.o.ex aZ.o) aI aH A (aZ.o.cell HA.o) N R2 ac ac F2 _ aC.o);clear aU aT bI aG;go_wp2_with fail
 refine aL.o.mono ?_;rintro e w2⟨E1,rv1,pv1,rfl,bR,aO⟩;have bW:=Aa (aZ.o.trans aO);have aE:=Aa (aE.o.ex aO);have aC:=Aa (aC.o.ex aO);have aM:=Aa (bD.o w2 bW.o E1 rv1 pv1 bR _ aE.o);clear bR aO aL bD;go_wp2_with fail
 refine aM.o.mono ?_;rintro e w3⟨rfl,aN⟩;have aJ:=Aa (bW.o.trans aN);have aE:=Aa (aE.o.ex aN);have aC:=Aa (aC.o.ex aN);clear aN aM;by_cases hi1:0<=I1
 .have aA:=aS.o;rw[if_pos hi1]at aA;subst aA;obtain⟨i,rfl⟩:=Int.eq_ofNat_of_zero_le hi1;have bY:decide ((0:Int)<=(i:Int))=true:=by simp
  have aX:i<R1:=by have:=bF.o.1;omega
  have bA:=Aa (Pu w3 i R1 aX ac);clear hi1 aS;go_wp2_with fail
  refine bA.o.mono ?_;rintro e w4⟨g,rfl,aW,aF⟩;have cB:=Aa aW;have aR:=Aa (aJ.o.trans aF);have bB:=Aa (show w.heap.size<=g from Nat.le_trans aJ.o.size aW.lt.1);clear aW aF;go_wp2_with fail
  go_ret2;refine⟨_,rfl,?_,fun B hB=>?_,aR.o⟩
  .unfold J3;rw[if_pos rfl];exact IC cB.o
  .injection hB with hB;rw[<-hB];exact bB.o
 .have aA:=aS.o;rw[if_neg hi1]at aA;have bY:decide ((0:Int)<=I1)=false:=by simpa using hi1
  have aB:=Aa aA;have aK:=Aa (KM w3 (HG.o.ex aJ.o) aI aH A (aJ.o.cell HA.o) N R1 ac ac F1 _ aE.o);clear hi1 aS aA;go_wp2_with fail
  refine aK.o.mono ?_;rintro e w4⟨E2,rv2,pv2,rfl,bQ,aF⟩;have aR:=Aa (aJ.o.trans aF);have aC:=Aa (aC.o.ex aF);have aM:=Aa (bC.o w4 aR.o E2 rv2 pv2 bQ _ aC.o);clear bQ aF aK bC;go_wp2_with fail
  refine aM.o.mono ?_;rintro e w5⟨rfl,bH⟩;have aY:=Aa (aR.o.trans bH);clear bH aM;by_cases hi2:0<=I2
  .have aA:=aB.o;rw[if_pos hi2]at aA;subst aA;obtain⟨i,rfl⟩:=Int.eq_ofNat_of_zero_le hi2;have bX:decide ((0:Int)<=(i:Int))=true:=by simp
   have aX:i<R2:=by have:=bE.o.1;omega
   have bA:=Aa (Pu w5 i R2 aX ac);clear hi2 aB;go_wp2_with fail
   refine bA.o.mono ?_;rintro e w6⟨g,rfl,aV,bG⟩;have cA:=Aa aV;have bZ:=Aa (aY.o.trans bG);have bB:=Aa (show w.heap.size<=g from Nat.le_trans aY.o.size aV.lt.1);clear aV bG;go_wp2_with fail
   go_ret2;refine⟨_,rfl,?_,fun B hB=>?_,bZ.o⟩
   .unfold J3;rw[if_neg (by show ¬((1:Int)=0);decide),if_pos rfl];exact IC cA.o
   .injection hB with hB;rw[<-hB];exact bB.o
  .have aA:=aB.o;rw[if_neg hi2]at aA;subst aA;have bX:decide ((0:Int)<=I2)=false:=by simpa using hi2
   clear hi2 aB;go_wp2_with fail
   go_ret2;exact⟨_,rfl,AR _,fun B hB=>by simp[Value.ownBlock]at hB,aY.o⟩
end
structure AO(DM:World->Nat->Prop)(w w':World):Prop where
 size:w.heap.size<=w'.heap.size
 blk:∀B,B<w.heap.size->¬DM w B->w'.heap[B]?=w.heap[B]?/\¬DM w' B
theorem AO.refl(DM:World->Nat->Prop)(w:World):AO DM w w:=⟨Nat.le_refl _,fun B _ h=>⟨rfl,h⟩⟩
theorem AO.trans{DM:World->Nat->Prop}{a b c:World}(h:AO DM a b)(k:AO DM b c):AO DM a c:=
 ⟨Nat.le_trans h.size k.size,fun B hB hn=>by
  have h1:=h.blk B hB hn;have h2:=k.blk B (Nat.lt_of_lt_of_le hB h.size) h1.2;exact⟨h2.1.trans h1.1,h2.2⟩⟩
theorem IX{w w':World}{B o:Nat}{v:Value}(h:w'.heap[B]?=w.heap[B]?)(hc:w.cell? (B,o)=some v):w'.cell? (B,o)=some v:=by
 rw[<-hc];unfold World.cell?;rw[h]
theorem AO.cell{DM:World->Nat->Prop}{w w':World}(h:AO DM w w'){B o:Nat}{v:Value}(hn:¬DM w B)(hc:w.cell? (B,o)=some v):w'.cell? (B,o)=some v:=
 IX (h.blk B (World.block_lt_of_cell? _ _ hc) hn).1 hc
def C7(DM:World->Nat->Prop)(w:World)(v:Value)(l:List Int):Prop:=Aj w v l/\(l≠ []->∀B,v.ownBlock=some B->¬DM w B)
theorem C7.keep{DM:World->Nat->Prop}{w w':World}{v:Value}{l:List Int}(h:C7 DM w v l)(k:AO DM w w'):C7 DM w' v l:=by
 obtain⟨h1,h2⟩:=h
 cases l with
 | nil=>
  obtain⟨g1,a,cap,g2,g3,g4,g5⟩:=h1;exact⟨⟨g1,a,cap,g2,g3,g4,fun hn=>absurd hn ag⟩,fun hn=>absurd rfl hn⟩
 | cons x l=>
  obtain⟨g1,a,cap,g2,g3,g4,g5⟩:=h1;obtain⟨b,o,rfl,g7⟩:=g5 ag;have hb:¬DM w b:=h2 ag b (by rw[g2];rfl);have aA:b<w.heap.size:=World.block_lt_of_cell? _ _ (g7 0 (.int .i64 x) (by simp[Ap]));have hk:=k.blk b aA hb;refine⟨⟨g1,_,cap,g2,g3,g4,fun _=>⟨b,o,rfl,fun j u hu=>IX hk.1 (g7 j u hu)⟩⟩,fun _ B hB=>?_⟩;rw[g2]at hB;injection hB with hB;rw[<-hB];exact hk.2
theorem C7.fresh{DM:World->Nat->Prop}{w:World}{v:Value}{l:List Int}(h:Aj w v l)(hB:∀B,v.ownBlock=some B->¬DM w B):C7 DM w v l:=⟨h,fun _=>hB⟩
structure Vz{σ:Type}(St:σ->World->Prop)(DM:World->Nat->Prop):Prop where
 ex:∀s w w',St s w->Ex w w'->St s w'
 lt:∀s w B,St s w->DM w B->B<w.heap.size
 dx:∀s w w' B,St s w->Ex w w'->DM w' B->DM w B
section
variable {σ:Type} {St:σ->World->Prop} {DM:World->Nat->Prop} {s:σ} {w w':World}
theorem Vz.keeps(H:Vz St DM)(hs:St s w)(hx:Ex w w'):AO DM w w':=
 ⟨hx.size,fun B hB hn=>⟨hx.block B hB,fun h=>hn (H.dx s w w' B hs hx h)⟩⟩
theorem Vz.new(H:Vz St DM)(hs:St s w)(hx:Ex w w'){B:Nat}(hB:w.heap.size<=B):¬DM w' B:=fun h=>by
 have:=H.lt s w B hs (H.dx s w w' B hs hx h);omega
end
section
variable {σ:Type} {step:σ->List Int->List Int->σ × Int} {tl sl:List Int} {j q:Nat} {s:σ}
theorem PH{c:Nat}(h:(Gr step tl sl j c s).2≠0):∀k,Gr step tl sl j (c+k) s=Gr step tl sl j c s
 | 0=>rfl
 | k+1=>by
  show(if (Gr step tl sl j (c+k) s).2≠0 then Gr step tl sl j (c+k) s else _)=_
  rw[PH h k,if_pos h]
theorem PD{j:Nat}(h:(Es step q tl sl j s).2≠0):∀k,Es step q tl sl (j+k) s=Es step q tl sl j s
 | 0=>rfl
 | k+1=>by
  show(if (Es step q tl sl (j+k) s).2≠0 then Es step q tl sl (j+k) s else _)=_
  rw[PD h k,if_pos h]
theorem V7{c:Nat}(h:(Gr step tl sl j c s).2=0):Gr step tl sl j (c+1) s=step (Gr step tl sl j c s).1 (tl ++ [(j:Int)]) (sl ++ [((c+1:Nat):Int)]):=by
 show(if (Gr step tl sl j c s).2≠0 then _ else _)=_
 rw[if_neg (by simp[h])]
theorem V5{j:Nat}(h:(Es step q tl sl j s).2=0)(hc:tl.contains (j:Int)=true):Es step q tl sl (j+1) s=Es step q tl sl j s:=by
 show(if (Es step q tl sl j s).2≠0 then _ else if _ then _ else _)=_
 rw[if_neg (by simp[h]),if_pos hc]
theorem N9{j:Nat}(h:(Es step q tl sl j s).2=0)(hc:tl.contains (j:Int)=false):Es step q tl sl (j+1) s=Gr step tl sl j (q-1) (Es step q tl sl j s).1:=by
 show(if (Es step q tl sl j s).2≠0 then _ else if _ then _ else _)=_
 rw[if_neg (by simp[h]),if_neg (by rw[hc];decide)]
theorem S6{j n c:Nat}(h:(Es step q tl sl j s).2=0)(hc:tl.contains (j:Int)=false)(hj:j<n)(hcq:c<=q-1)(he:(Gr step tl sl j c (Es step q tl sl j s).1).2≠0):
  Es step q tl sl n s=Gr step tl sl j c (Es step q tl sl j s).1:=by
 have h1:=N9 h hc;have h2:=PH he (q-1-c);rw[show c+(q-1-c)=q-1 from ac]at h2;rw[h2]at h1;have h3:=PD (step:=step) (q:=q) (tl:=tl) (sl:=sl) (s:=s) (j:=j+1) (by rw[h1];exact he) (n-(j+1));rw[show j+1+(n-(j+1))=n from ac,h1]at h3;exact h3
end
theorem Gh(w:World)(l:List Int)(v:Value)(hl:Aj w v l)(hn2:l.length<=1000):
  Calls Tryz.prog 154 #[v] w fun r w'=>∃v',r= .returned v'/\w'.ownsRow w.heap.size 3 1 v' l.length (Ap l)/\Ex w w':=by
 have HL:=Aa hl;obtain⟨a,cap,rfl,s1,s2,s3⟩:=hl.open;have aD:∀u∈Ap l,u.oneCell'=true:=by
  exact zc4
 have aG:=Aa aD;clear hl aD
 cases a with
 | none=>
  have h0:l= []:=by
   exact zct
  subst h0;have aA:=fun w'=>AP (P:=Tryz.prog) w' 22 3 none 0 cap Tryz.underlying22;simp only[Option.isNone]at aA;clear s1 s2 s3;go_enter Tryz.func154,Tryz.ntmps154
  go_wp2_with fail
  go_ret;exact⟨_,rfl,World.ownsRow_nil _ _ _ _,Ex.refl _⟩
 | some ad=>
  have aA:=fun w'=>AP (P:=Tryz.prog) w' 22 3 (some ad) l.length cap Tryz.underlying22;simp only[Option.isNone]at aA;clear s3;go_enter Tryz.func154,Tryz.ntmps154
  go_wp2_with (at_builtin;refine A9 _ rfl _ _ 22 rfl w.heap.size 3 (.int .i64 0) 1 8 Tryz.underlying22 Az rfl ae _ 0 [] rfl (Bv w 3) (.slice (some ad) l.length cap) l.length (Ap l) rfl (HL.o.ex ((Ex.refl w).alloc _)) aG.o ai ac ag ?_)
  intro v1 w1 aB aE aF;have aC:Ex w w1:=Ex.grown ((Ex.refl w).alloc _) (Bv w 3) (Nat.le_refl _) aE;have HI:=Aa aB;have HX:=Aa aC;clear aB aE aF aC aA;go_wp2_with fail
  go_ret;exact⟨_,rfl,HI.o,HX.o⟩
theorem Kg{w:World}{base:Nat}{e t:TypeId}{n:Nat}{v:Value}{xs:List Value}{g:Nat}{cs:Array Value}(h:w.ownsRow base e 1 v n xs)(hg:w.heap[g]?=some (.cells cs t))(he:e≠t):∀B,v.ownBlock=some B->B≠g:=by
 intro B hB e0;rcases h.2 with⟨h1,h2⟩|⟨g',cap,cur,h1,h2,h3,_⟩
 .rw[h1]at hB;cases hB
 .rw[h1]at hB;injection hB with hB;have hB:g'=B:=hB;subst hB e0;rw[hg]at h3;injection h3 with h3;injection h3 with _ h3;exact he h3.symm
theorem U9(l:List Int)(x:Int):Ap l ++ [Value.int .i64 x]=Ap (l ++ [x]):=by unfold Ap;simp
theorem IB{w:World}{base:Nat}{v:Value}{l:List Int}{x:Int}(h:w.ownsRow base 3 1 v (l.length+1) (Ap l ++ [Value.int .i64 x])):w.ownsRow base 3 1 v (l ++ [x]).length (Ap (l ++ [x])):=by
 rw[<-U9,List.length_append];exact h
structure Yk(wr wx:World)(qb:Nat)(tv sv:Value)(tl sl:List Int):Prop where
 c0:wx.cell? (qb,0)=some tv
 c1:wx.cell? (qb,1)=some sv
 t:Aj wx tv tl
 s:Aj wx sv sl
 tb:∀B,tv.ownBlock=some B->wr.heap.size<=B
 sb:∀B,sv.ownBlock=some B->wr.heap.size<=B
 ex:Ex wr wx
theorem Yk.of_set{wr wB:World}{qb:Nat}{tv sv:Value}{tl sl:List Int}{t:TypeId}(ht:3≠t)(o1:wB.ownsRow wr.heap.size 3 1 tv tl.length (Ap tl))(o2:wB.ownsRow wr.heap.size 3 1 sv sl.length (Ap sl))(hx:Ex wr wB)(hq:wr.heap.size<=qb)(hb:wB.heap[qb]?=some (.cells #[.slice none 0 0,.slice none 0 0] t)):
  Yk wr ((wB.setCell (qb,0) tv).setCell (qb,1) sv) qb tv sv tl sl:=by
 have hc:∀i,i<2->∃v,wB.cell? ⟨qb,i,none⟩=some v:=fun i hi=>by
  unfold World.cell?;rw[hb];rcases i with _ | _|i
  .exact⟨_,rfl⟩
  .exact⟨_,rfl⟩
  .omega
 have n1:=Kg o1 hb ht;have n2:=Kg o2 hb ht;have s1:((wB.setCell (qb,0) tv).setCell (qb,1) sv).ownsRow wr.heap.size 3 1 tv tl.length (Ap tl):=Ac (a:=⟨qb,1,none⟩) (Ac (a:=⟨qb,0,none⟩) o1 (fun e=>n1 qb e rfl) _) (fun e=>n1 qb e rfl) _;have s2:((wB.setCell (qb,0) tv).setCell (qb,1) sv).ownsRow wr.heap.size 3 1 sv sl.length (Ap sl):=Ac (a:=⟨qb,1,none⟩) (Ac (a:=⟨qb,0,none⟩) o2 (fun e=>n2 qb e rfl) _) (fun e=>n2 qb e rfl) _;obtain⟨u0,h0⟩:=hc 0 ac;obtain⟨u1,h1⟩:=hc 1 ac;refine⟨?_,World.cell?_setCell_same _ _ _ (by rw[Ag ae];exact h1),Sl.own s1,Sl.own s2,fun B h=>(o1.lt B h).1,fun B h=>(o2.lt B h).1,(hx.setCell (p:=⟨qb,0,none⟩) hq _).setCell (p:=⟨qb,1,none⟩) hq _⟩;rw[Ag ae];exact World.cell?_setCell_same _ _ _ h0
theorem Ko{w w':World}{B:Nat}{o:Obj}(h:Ex w w')(hb:w.heap[B]?=some o):w'.heap[B]?=some o:=by
 exact zce
theorem D7{w:World}{B:Nat}{o:Obj}(hb:w.heap.size=B):(w.alloc o).heap[B]?=some o:=by
 subst hb;show(w.heap.push o)[w.heap.size]?=some o
 exact Array.getElem?_push_size
theorem Nn{w:World}{B:Nat}{u v:Value}{t:TypeId}(h:w.heap[B]?=some (.cells #[u,v] t)):w.cell? (B,0)=some u/\w.cell? (B,1)=some v/\w.frozen? (B,0)=false/\w.frozen? (B,1)=false:=by
 refine⟨?_,?_,?_,?_⟩
 .unfold World.cell?;simp[h]
 .unfold World.cell?;simp[h]
 .unfold World.frozen?;simp[h]
 .unfold World.frozen?;simp[h]
theorem KQ{w:World}{B:Nat}{x:Value}{t:TypeId}(h:w.heap[B]?=some (.cells #[x] t)):Sl w (.slice (some (B,0)) 1 1) 1 1 [x]:=
 ⟨rfl,some ⟨B,0,none⟩,1,rfl,Nat.le_refl _,by unfold maxLen;omega,fun _=>⟨B,0,rfl,fun j u hu=>by
  rcases j with _|j
  .simp at hu;subst hu;unfold World.cell?;simp[h]
  .simp at hu⟩⟩
theorem Yk.later{wr w w':World}{qb:Nat}{tv sv:Value}{tl sl:List Int}(h:Yk wr w qb tv sv tl sl)(hx:Ex w w'):Yk wr w' qb tv sv tl sl:=
 ⟨hx.cell h.c0,hx.cell h.c1,h.t.ex hx,h.s.ex hx,h.tb,h.sb,h.ex.trans hx⟩
structure Et(wr:World)(BP:Nat)(tv sv:Value)(tl sl:List Int)(j c:Nat)(L:Nat->Bool)(V:Nat->Value)(w:World):Prop where
 ex:Ex wr w
 v0:L 0=true->V 0= .pointer (some (BP,0))
 v1:L 1=true->V 1=tv
 v2:L 2=true->L 5=false->w.ownsRow wr.heap.size 3 1 (V 2) tl.length (Ap tl)
 v3:L 3=true->V 3= .int .i64 j
 v4:L 4=true->L 5=false->∃B,V 4= .slice (some ⟨B,0,none⟩) 1 1/\w.heap[B]?=some (.cells #[(j:Int)] 3)
 v5:L 5=true->L 14=false->w.ownsRow wr.heap.size 3 1 (V 5) (tl ++ [(j:Int)]).length (Ap (tl ++ [(j:Int)]))
 v6:L 6=true->V 6= .pointer (some (BP,1))
 v7:L 7=true->V 7=sv
 v8:L 8=true->L 11=false->w.ownsRow wr.heap.size 3 1 (V 8) sl.length (Ap sl)/\AT (V 5) (V 8)
 v9:L 9=true->V 9= .int .i64 c
 v10:L 10=true->L 11=false->∃B,V 10= .slice (some ⟨B,0,none⟩) 1 1/\w.heap[B]?=some (.cells #[(c:Int)] 3)/\(L 2=true->L 5=false->(V 2).ownBlock≠some B)
 v11:L 11=true->L 14=false->w.ownsRow wr.heap.size 3 1 (V 11) (sl ++ [(c:Int)]).length (Ap (sl ++ [(c:Int)]))
 v12:L 12=true->V 12= .agg #[V 5,V 11]
 v13:L 13=true->L 14=false->∃qb,V 13= .pointer (some ⟨qb,0,none⟩)/\wr.heap.size<=qb/\w.heap[qb]?=some (.cells #[.slice none 0 0,.slice none 0 0] 71)
 v14:L 14=true->∃qb,V 13= .pointer (some ⟨qb,0,none⟩)/\Yk wr w qb (V 5) (V 11) (tl ++ [(j:Int)]) (sl ++ [(c:Int)])
section
variable {wr w w':World} {BP:Nat} {tv sv u:Value} {tl sl:List Int} {j c:Nat} {L:Nat->Bool} {V:Nat->Value}
theorem Et.grow(h:Et wr BP tv sv tl sl j c L V w)(hx:Ex w w'):Et wr BP tv sv tl sl j c L V w' where
 ex:=h.ex.trans hx
 v0:=h.v0
 v1:=h.v1
 v2:=fun a b=>Ai (h.v2 a b) hx
 v3:=h.v3
 v4:=fun a b=>by obtain⟨B,h1,h2⟩:=h.v4 a b;exact⟨B,h1,Ko hx h2⟩
 v5:=fun a b=>Ai (h.v5 a b) hx
 v6:=h.v6
 v7:=h.v7
 v8:=fun a b=>⟨Ai (h.v8 a b).1 hx,(h.v8 a b).2⟩
 v9:=h.v9
 v10:=fun a b=>by obtain⟨B,h1,h2,h3⟩:=h.v10 a b;exact⟨B,h1,Ko hx h2,h3⟩
 v11:=fun a b=>Ai (h.v11 a b) hx
 v12:=h.v12
 v13:=fun a b=>by obtain⟨B,h1,h2,h3⟩:=h.v13 a b;exact⟨B,h1,h2,Ko hx h3⟩
 v14:=fun a=>by obtain⟨B,h1,h2⟩:=h.v14 a;exact⟨B,h1,h2.later hx⟩
theorem Et.set0(h:Et wr BP tv sv tl sl j c L V w)(hu:u= .pointer (some (BP,0))):Et wr BP tv sv tl sl j c (Ay L 0 true) (Ay V 0 u) w:=
 ⟨h.ex,fun _=>hu,h.v1,h.v2,h.v3,h.v4,h.v5,h.v6,h.v7,h.v8,h.v9,h.v10,h.v11,h.v12,h.v13,h.v14⟩
theorem Et.set1(h:Et wr BP tv sv tl sl j c L V w)(hu:u=tv):Et wr BP tv sv tl sl j c (Ay L 1 true) (Ay V 1 u) w:=
 ⟨h.ex,h.v0,fun _=>hu,h.v2,h.v3,h.v4,h.v5,h.v6,h.v7,h.v8,h.v9,h.v10,h.v11,h.v12,h.v13,h.v14⟩
theorem Et.set3(h:Et wr BP tv sv tl sl j c L V w)(hu:u= .int .i64 j):Et wr BP tv sv tl sl j c (Ay L 3 true) (Ay V 3 u) w:=
 ⟨h.ex,h.v0,h.v1,h.v2,fun _=>hu,h.v4,h.v5,h.v6,h.v7,h.v8,h.v9,h.v10,h.v11,h.v12,h.v13,h.v14⟩
theorem Et.set6(h:Et wr BP tv sv tl sl j c L V w)(hu:u= .pointer (some (BP,1))):Et wr BP tv sv tl sl j c (Ay L 6 true) (Ay V 6 u) w:=
 ⟨h.ex,h.v0,h.v1,h.v2,h.v3,h.v4,h.v5,fun _=>hu,h.v7,h.v8,h.v9,h.v10,h.v11,h.v12,h.v13,h.v14⟩
theorem Et.set7(h:Et wr BP tv sv tl sl j c L V w)(hu:u=sv):Et wr BP tv sv tl sl j c (Ay L 7 true) (Ay V 7 u) w:=
 ⟨h.ex,h.v0,h.v1,h.v2,h.v3,h.v4,h.v5,h.v6,fun _=>hu,h.v8,h.v9,h.v10,h.v11,h.v12,h.v13,h.v14⟩
theorem Et.set9(h:Et wr BP tv sv tl sl j c L V w)(hu:u= .int .i64 c):Et wr BP tv sv tl sl j c (Ay L 9 true) (Ay V 9 u) w:=
 ⟨h.ex,h.v0,h.v1,h.v2,h.v3,h.v4,h.v5,h.v6,h.v7,h.v8,fun _=>hu,h.v10,h.v11,h.v12,h.v13,h.v14⟩
theorem Et.set2(h:Et wr BP tv sv tl sl j c L V w)(hu:w.ownsRow wr.heap.size 3 1 u tl.length (Ap tl))(hn:∀B,(∃o,w.heap[B]?=some o/\V 10= .slice (some ⟨B,0,none⟩) 1 1/\L 10=true/\L 11=false)->u.ownBlock≠some B):Et wr BP tv sv tl sl j c (Ay L 2 true) (Ay V 2 u) w:=
 ⟨h.ex,h.v0,h.v1,fun _ _=>hu,h.v3,h.v4,h.v5,h.v6,h.v7,h.v8,h.v9,fun a b=>by obtain⟨B,h1,h2,h3⟩:=h.v10 a b;exact⟨B,h1,h2,fun _ _=>hn B ⟨_,h2,h1,a,b⟩⟩,h.v11,h.v12,h.v13,h.v14⟩
theorem Et.set4(h:Et wr BP tv sv tl sl j c L V w){B:Nat}(hu:u= .slice (some (B,0)) 1 1)(hb:w.heap[B]?=some (.cells #[(j:Int)] 3)):Et wr BP tv sv tl sl j c (Ay L 4 true) (Ay V 4 u) w:=
 ⟨h.ex,h.v0,h.v1,h.v2,h.v3,fun _ _=>⟨B,hu,hb⟩,h.v5,h.v6,h.v7,h.v8,h.v9,h.v10,h.v11,h.v12,h.v13,h.v14⟩
theorem Et.set8(h:Et wr BP tv sv tl sl j c L V w)(hu:w.ownsRow wr.heap.size 3 1 u sl.length (Ap sl))(ha:AT (V 5) u):Et wr BP tv sv tl sl j c (Ay L 8 true) (Ay V 8 u) w:=
 ⟨h.ex,h.v0,h.v1,h.v2,h.v3,h.v4,h.v5,h.v6,h.v7,fun _ _=>⟨hu,ha⟩,h.v9,h.v10,h.v11,h.v12,h.v13,h.v14⟩
theorem Et.set10(h:Et wr BP tv sv tl sl j c L V w){B:Nat}(hu:u= .slice (some (B,0)) 1 1)(hb:w.heap[B]?=some (.cells #[(c:Int)] 3))(hn:L 2=true->L 5=false->(V 2).ownBlock≠some B):Et wr BP tv sv tl sl j c (Ay L 10 true) (Ay V 10 u) w:=
 ⟨h.ex,h.v0,h.v1,h.v2,h.v3,h.v4,h.v5,h.v6,h.v7,h.v8,h.v9,fun _ _=>⟨B,hu,hb,hn⟩,h.v11,h.v12,h.v13,h.v14⟩
theorem Et.set12(h:Et wr BP tv sv tl sl j c L V w)(hu:u= .agg #[V 5,V 11]):Et wr BP tv sv tl sl j c (Ay L 12 true) (Ay V 12 u) w:=
 ⟨h.ex,h.v0,h.v1,h.v2,h.v3,h.v4,h.v5,h.v6,h.v7,h.v8,h.v9,h.v10,h.v11,fun _=>hu,h.v13,h.v14⟩
theorem Et.set13(h:Et wr BP tv sv tl sl j c L V w)(aA:L 14=false){qb:Nat}(hu:u= .pointer (some (qb,0)))(hq:wr.heap.size<=qb)(hb:w.heap[qb]?=some (.cells #[.slice none 0 0,.slice none 0 0] 71)):Et wr BP tv sv tl sl j c (Ay L 13 true) (Ay V 13 u) w:=
 ⟨h.ex,h.v0,h.v1,h.v2,h.v3,h.v4,h.v5,h.v6,h.v7,h.v8,h.v9,h.v10,h.v11,h.v12,fun _ _=>⟨qb,hu,hq,hb⟩,fun a=>absurd (a.symm.trans aA) ae⟩
theorem az{P:Prop}(h:P:=by show ¬(true=false);decide):P:=h
theorem Et.set5(h:Et wr BP tv sv tl sl j c L V w)(h2:L 2=true)(h5:L 5=false)(h8:L 8=false)(aD:L 11=false)(aC:L 12=false)(aB:L 14=false)(hx:Ex wr w')(hg:w.grownBy w' (V 2).ownBlock)(hu:w'.ownsRow wr.heap.size 3 1 u (tl ++ [(j:Int)]).length (Ap (tl ++ [(j:Int)]))):Et wr BP tv sv tl sl j c (Ay L 5 true) (Ay V 5 u) w' where
 ex:=hx
 v0:=h.v0
 v1:=h.v1
 v2:=fun _ b=>absurd b az
 v3:=h.v3
 v4:=fun _ b=>absurd b az
 v5:=fun _ _=>hu
 v6:=h.v6
 v7:=h.v7
 v8:=fun a=>absurd ((show L 8=true from a).symm.trans h8) ae
 v9:=h.v9
 v10:=fun a b=>by
  obtain⟨B,h1,h3,h4⟩:=h.v10 a b;refine⟨B,h1,?_,fun _ b=>absurd b az⟩;have aA:B<w.heap.size:=(Array.getElem?_eq_some_iff.1 h3).1;rw[hg.block B aA (fun e=>h4 h2 h5 e.symm)];exact h3
 v11:=fun a=>absurd ((show L 11=true from a).symm.trans aD) ae
 v12:=fun a=>absurd ((show L 12=true from a).symm.trans aC) ae
 v13:=fun a b=>by
  obtain⟨B,h1,h3,h4⟩:=h.v13 a b;refine⟨B,h1,h3,?_⟩;have aA:B<w.heap.size:=(Array.getElem?_eq_some_iff.1 h4).1;rw[hg.block B aA (fun e=>Kg (h.v2 h2 h5) h4 ae B e.symm rfl)];exact h4
 v14:=fun a=>absurd ((show L 14=true from a).symm.trans aB) ae
theorem Et.set11(h:Et wr BP tv sv tl sl j c L V w)(h5:L 5=true)(h8:L 8=true)(aA:L 11=false)(aD:L 12=false)(aC:L 14=false)(hx:Ex wr w')(hg:w.grownBy w' (V 8).ownBlock)(hu:w'.ownsRow wr.heap.size 3 1 u (sl ++ [(c:Int)]).length (Ap (sl ++ [(c:Int)]))):Et wr BP tv sv tl sl j c (Ay L 11 true) (Ay V 11 u) w' where
 ex:=hx
 v0:=h.v0
 v1:=h.v1
 v2:=fun _ b=>absurd (h5.symm.trans b) ae
 v3:=h.v3
 v4:=fun _ b=>absurd (h5.symm.trans b) ae
 v5:=fun a b=>(h.v5 a b).kept hg (h.v8 h8 aA).2
 v6:=h.v6
 v7:=h.v7
 v8:=fun _ b=>absurd b az
 v9:=h.v9
 v10:=fun _ b=>absurd b az
 v11:=fun _ _=>hu
 v12:=fun a=>absurd ((show L 12=true from a).symm.trans aD) ae
 v13:=fun a b=>by
  obtain⟨B,h1,h3,h4⟩:=h.v13 a b;refine⟨B,h1,h3,?_⟩;have aB:B<w.heap.size:=(Array.getElem?_eq_some_iff.1 h4).1;rw[hg.block B aB (fun e=>Kg (h.v8 h8 aA).1 h4 ae B e.symm rfl)];exact h4
 v14:=fun a=>absurd ((show L 14=true from a).symm.trans aC) ae
theorem Et.set14(h:Et wr BP tv sv tl sl j c L V w)(h5:L 5=true)(aA:L 11=true)(h14:L 14=false)(h2:L 2=true){qb:Nat}(hq:V 13= .pointer (some (qb,0)))(hQ:Yk wr w' qb (V 5) (V 11) (tl ++ [(j:Int)]) (sl ++ [(c:Int)])):Et wr BP tv sv tl sl j c (Ay L 14 true) (Ay V 14 u) w' where
 ex:=hQ.ex
 v0:=h.v0
 v1:=h.v1
 v2:=fun _ b=>absurd (h5.symm.trans b) ae
 v3:=h.v3
 v4:=fun _ b=>absurd (h5.symm.trans b) ae
 v5:=fun _ b=>absurd b az
 v6:=h.v6
 v7:=h.v7
 v8:=fun _ b=>absurd (aA.symm.trans b) ae
 v9:=h.v9
 v10:=fun _ b=>absurd (aA.symm.trans b) ae
 v11:=fun _ b=>absurd b az
 v12:=h.v12
 v13:=fun _ b=>absurd b az
 v14:=fun _=>⟨qb,hq,hQ⟩
end
theorem zaa{P:Prop}(h:P:=by
 have b0:=hk.o.cell bG.o B0.o;have bN:=(HT.o.keep hk.o).1;have i1:(j:Int)<(n:Int):=by omega
 obtain⟨bA,HE,aB,HK⟩:=Eq (DJ wr tl tv j bN) he.o BC.o hk.o;clear he BC hk
 cases hc:tl.contains (j:Int) with
 | true=>
  rw[hc]at bA;have bT:=Aa (V5 (step:=step) (q:=q) (sl:=sl) (s:=s) HE.o hc);clear hc;go_wp2_with (go_at_call 132;refine bA.o.mono ?_;rintro e w4⟨rfl,rfl⟩)
  go_roundw
  case rel=>exact⟨j+1,by omega,by go_num,Aa (by rw[bT.o];exact HE.o),Aa (by rw[bT.o];exact aB.o),HK⟩
  case measure=>simp[intOf];omega
 | false=>
  rw[hc]at bA;have bJ:=Aa hc;obtain⟨s1,bC⟩:=nA ((Es step q tl sl j s).1);rw[bC]at aB;have aK:=Aa bC;clear hc bC;go_wp2_with (go_at_call 132;refine bA.o.mono ?_;rintro e w4⟨rfl,rfl⟩)
  clear b0 bN
  go_loopw [8] (fun c' wr=>∃c:Nat,1<=c/\c<=q/\c'= .int .i64 c/\Hia ((Gr step tl sl j (c-1) s1).2=0)/\Hia (St (Gr step tl sl j (c-1) s1).1 wr)/\Hia (AO DM w1 wr)) (fun c' _=>q-(intOf c').toNat)
  case atStart=>exact⟨1,by omega,by omega,rfl,Aa rfl,aB,HK⟩
  case round=>
   clear aB HK;obtain⟨c,cB,hcq,rfl,he,BC,hk⟩:=hrel;have bI:=Aa he.o;have aB:=Aa BC.o;have HK:=Aa hk.o;obtain⟨c0,-,aP⟩:=HC.o _ _ BC.o;have aV:=Aa aP;clear he BC hk aP;by_cases aA:c<q
   .have b0:=HK.o.cell bG.o B0.o;have b1:=HK.o.cell bG.o B1.o;have i2:(c:Int)<(q:Int):=by omega
    have aN:=(HT.o.keep HK.o).1;have aO:=(cI.o.keep HK.o).1;have aX:=Aa (fun (w5:World) (h5:Ex wr w5)=>Gh w5 tl tv (aN.ex h5) (by omega));have aW:=Aa (fun (w5:World) (h5:Ex wr w5)=>Gh w5 sl sv (aO.ex h5) (by omega));have bL:=Aa (fun (w5:World) (h5:Ex wr w5)=>(⟨h5.cell b0,h5.cell b1,h5⟩:w5.cell? (BP,0)=some tv/\w5.cell? (BP,1)=some sv/\Ex wr w5));clear aN aO;go_wp2_with (go_at_call 54;refine aV.o.mono ?_;rintro e w5⟨rfl,rfl⟩)
    go_upto_region 8 with fail
    go_cut [9] from 32 to 50 (fun s9 wx=>∃qb aL aM,s9= .pointer (some ⟨qb,0,none⟩)/\Hia (Yk wr wx qb aL aM (tl ++ [(j:Int)]) (sl ++ [(c:Int)])))
    case first=>
     have X0:=Aa (Ex.refl wr).drew;have bR:=Aa bX;have bS:=Aa bZ;clear c0;refine Db (Et wr BP tv sv tl sl j c) (by kernel_rfl) (by kernel_rfl) ?_ ?_ ?_
     .exact⟨X0.o,fun h=>(by cases h),fun h=>(by cases h),fun h=>(by cases h),fun h=>(by cases h),fun h=>(by cases h),fun h=>(by cases h),fun h=>(by cases h),fun h=>(by cases h),fun h=>(by cases h),fun h=>(by cases h),fun h=>(by cases h),fun h=>(by cases h),fun h=>(by cases h),fun h=>(by cases h),fun h=>(by cases h)⟩
     .refine⟨fun L V a w hf hj hi hd aA K hK=>?_,fun L V a w hf hj hi hd aA K hK=>?_,fun L V a w hf hj hi hd aA K hK=>?_,fun L V a w hf hj hi hd aA K hK=>?_,fun L V a w hf hj hi hd aA K hK=>?_,fun L V a w hf hj hi hd aA K hK=>?_,fun L V a w hf hj hi hd aA K hK=>?_,fun L V a w hf hj hi hd aA K hK=>?_,fun L V a w hf hj hi hd aA K hK=>?_,fun L V a w hf hj hi hd aA K hK=>?_,fun L V a w hf hj hi hd aA K hK=>?_,fun L V a w hf hj hi hd aA K hK=>?_,fun L V a w hf hj hi hd aA K hK=>?_,fun L V a w hf hj hi hd aA K hK=>?_,fun L V a w hf hj hi hd aA K hK=>?_,trivial⟩
      .have e:a.tmps[4]?=some (.pointer (some (BP,0))):=hf.out_ 4 (by kernel_rfl);clear hf aA hd;go_simp;exact hK _ _ (hj.set0 rfl)
      .have d0:L 0=true:=hd ⟨0,.data⟩ (by simp) rfl;have e:=hf.in_ 0 32 d0 rfl rfl;rw[hj.v0 d0]at e;have c0:=hj.ex.cell b0;clear hf aA hd;go_simp;exact hK _ _ (hj.set1 rfl)
      .have d1:L 1=true:=hd ⟨1,.data⟩ (by simp) rfl;have e:=hf.in_ 1 33 d1 rfl rfl;rw[hj.v1 d1]at e;have hc:=Aa (aX.o w hj.ex);clear hf aA hd;go_simp;refine hc.o.mono ?_;rintro e w'⟨v1,rfl,ho,hx⟩;refine hK _ _ ((hj.grow hx).set2 (Bl ho hj.ex.size) (fun B hB e=>?_));obtain⟨o,hb,hv,cE,aE⟩:=hB;obtain⟨B',h1,h2,h3⟩:=hj.v10 cE aE;have e2:B=B':=by
        have:=hv.symm.trans h1;injection this with this;injection this with this;injection this with this
       have h4:B'<w.heap.size:=(Array.getElem?_eq_some_iff.1 h2).1;have:=(ho.lt B e).1;omega
      .have e:a.tmps[7]?=some (.int .i64 j):=hf.out_ 7 (by kernel_rfl);clear hf aA hd;go_simp;exact hK _ _ (hj.set3 rfl)
      .have d3:L 3=true:=hd ⟨3,.data⟩ (by simp) rfl;have e:=hf.in_ 3 35 d3 rfl rfl;rw[hj.v3 d3]at e;clear hf aA hd;go_simp;exact hK _ _ ((hj.grow (AI w _)).set4 rfl (D7 rfl))
      .have d2:L 2=true:=hd ⟨2,.data⟩ (by simp) rfl;have d4:L 4=true:=hd ⟨4,.data⟩ (by simp) rfl;have e1:=CC (hf.in_ 2 34 d2 rfl rfl);have e2:=CC (hf.in_ 4 36 d4 rfl rfl);obtain⟨B,hv,hb⟩:=hj.v4 d4 hi;have aS:L 12=false:=Bn fun h=>absurd (hi.symm.trans (aA 12 _ h rfl ⟨5,.data⟩ (by simp) rfl)) (by decide);have h8:L 8=false:=Bn fun h=>absurd (hi.symm.trans (aA 8 _ h rfl ⟨5,.chain⟩ (by simp) rfl)) (by decide);have aE:L 11=false:=Bn fun h=>absurd (h8.symm.trans (aA 11 _ h rfl ⟨8,.data⟩ (by simp) rfl)) (by decide);have aF:L 14=false:=Bn fun h=>absurd (aS.symm.trans (aA 14 _ h rfl ⟨12,.data⟩ (by simp) rfl)) (by decide);rw[hv]at e2;have own:=hj.v2 d2 hi;refine Dr _ _ 22 rfl wr.heap.size 3 (.int .i64 0) 1 8 Tryz.underlying22 Az rfl (by decide) (V 2) tl.length (Ap tl) e1 own _ 1 [.int .i64 (j:Int)] e2 (KQ hb) (by simp[Value.oneCell']) (by have:=bR.o;unfold maxLen;omega) (by have:=bR.o;omega) hj.ex.size ?_;intro v' w' aJ hg ha;exact hK _ _ (hj.set5 d2 hi h8 aE aS aF (Ex.grown hj.ex own (Nat.le_refl _) hg) hg (IB aJ))
      .have e:a.tmps[4]?=some (.pointer (some (BP,0))):=hf.out_ 4 (by kernel_rfl);clear hf aA hd;go_simp;exact hK _ _ (hj.set6 rfl)
      .have d0:L 6=true:=hd ⟨6,.data⟩ (by simp) rfl;have e:=hf.in_ 6 38 d0 rfl rfl;rw[hj.v6 d0]at e;have c0:=hj.ex.cell b1;clear hf aA hd;go_simp;exact hK _ _ (hj.set7 rfl)
      .have d1:L 7=true:=hd ⟨7,.data⟩ (by simp) rfl;have d5:L 5=true:=hd ⟨5,.chain⟩ (by simp) rfl;have aE:L 11=false:=Bn fun h=>absurd (hi.symm.trans (aA 11 _ h rfl ⟨8,.data⟩ (by simp) rfl)) (by decide);have aF:L 14=false:=Bn fun h=>absurd (aE.symm.trans (aA 14 _ h rfl ⟨11,.chain⟩ (by simp) rfl)) (by decide);have e:=hf.in_ 7 39 d1 rfl rfl;rw[hj.v7 d1]at e;have hc:=Aa (aW.o w hj.ex);have bB:=hj.v5 d5 aF;clear hf aA hd;go_simp;refine hc.o.mono ?_;rintro e w'⟨v1,rfl,ho,hx⟩;refine hK _ _ ((hj.grow hx).set8 (Bl ho hj.ex.size) ?_)
       cases h5b:(V 5).ownBlock with
       | none=>exact .inl h5b
       | some B=>
        right;rw[h5b];intro e2;have h1:=(bB.lt B h5b).2;have h2:=(ho.lt B e2.symm).1;omega
      .have e:a.tmps[8]?=some (.int .i64 c):=hf.out_ 8 (by kernel_rfl);clear hf aA hd;go_simp;exact hK _ _ (hj.set9 rfl)
      .have d3:L 9=true:=hd ⟨9,.data⟩ (by simp) rfl;have e:=hf.in_ 9 41 d3 rfl rfl;rw[hj.v9 d3]at e;clear hf aA hd;go_simp;exact hK _ _ ((hj.grow (AI w _)).set10 rfl (D7 rfl) (fun h2 h5 e2=>by have:=(hj.v2 h2 h5).lt _ e2;omega))
      .have d2:L 8=true:=hd ⟨8,.data⟩ (by simp) rfl;have d4:L 10=true:=hd ⟨10,.data⟩ (by simp) rfl;have d5:L 5=true:=aA 8 _ d2 rfl ⟨5,.chain⟩ (by simp) rfl;have e1:=CC (hf.in_ 8 40 d2 rfl rfl);have e2:=CC (hf.in_ 10 42 d4 rfl rfl);obtain⟨B,hv,hb,-⟩:=hj.v10 d4 hi;have aS:L 12=false:=Bn fun h=>absurd (hi.symm.trans (aA 12 _ h rfl ⟨11,.data⟩ (by simp) rfl)) (by decide);have aF:L 14=false:=Bn fun h=>absurd (aS.symm.trans (aA 14 _ h rfl ⟨12,.data⟩ (by simp) rfl)) (by decide);rw[hv]at e2;have own:=(hj.v8 d2 hi).1;refine Dr _ _ 22 rfl wr.heap.size 3 (.int .i64 0) 1 8 Tryz.underlying22 Az rfl (by decide) (V 8) sl.length (Ap sl) e1 own _ 1 [.int .i64 (c:Int)] e2 (KQ hb) (by simp[Value.oneCell']) (by have:=bS.o;unfold maxLen;omega) (by have:=bS.o;omega) hj.ex.size ?_;intro v' w' aJ hg ha;exact hK _ _ (hj.set11 d5 d2 hi aS aF (Ex.grown hj.ex own (Nat.le_refl _) hg) hg (IB aJ))
      .have d5:L 5=true:=hd ⟨5,.data⟩ (by simp) rfl;have aT:L 11=true:=hd ⟨11,.data⟩ (by simp) rfl;have aF:L 14=false:=Bn fun h=>absurd (hi.symm.trans (aA 14 _ h rfl ⟨12,.data⟩ (by simp) rfl)) (by decide);have e1:=hf.in_ 5 37 d5 rfl rfl;have e2:=hf.in_ 11 43 aT rfl rfl;obtain⟨a5,c5,h5⟩:=Ad (hj.v5 d5 aF);obtain⟨cG,cF,aE⟩:=Ad (hj.v11 aT aF);rw[h5]at e1;rw[aE]at e2;clear hf aA hd;go_simp;exact hK _ _ (hj.set12 (by rw[h5,aE];simp))
      .have aF:L 14=false:=Bn fun h=>absurd (hi.symm.trans (aA 14 _ h rfl ⟨13,.data⟩ (by simp) rfl)) (by decide);clear hf aA hd;go_simp;exact hK _ _ ((hj.grow (AI w _)).set13 aF rfl hj.ex.size (D7 rfl))
      .have aY:L 12=true:=hd ⟨12,.data⟩ (by simp) rfl;have bQ:L 13=true:=hd ⟨13,.data⟩ (by simp) rfl;have d5:L 5=true:=aA 12 _ aY rfl ⟨5,.data⟩ (by simp) rfl;have aT:L 11=true:=aA 12 _ aY rfl ⟨11,.data⟩ (by simp) rfl;have d2:L 2=true:=aA 5 _ d5 rfl ⟨2,.data⟩ (by simp) rfl;have e1:=hf.in_ 13 9 bQ rfl rfl;have e2:=hf.in_ 12 44 aY rfl rfl;obtain⟨qb,bD,cA,bP⟩:=hj.v13 bQ hi;have o5:=hj.v5 d5 hi;have bM:=hj.v11 aT hi;have hQ:=Yk.of_set (by decide) o5 bM hj.ex cA bP;obtain⟨a5,c5,h5⟩:=Ad o5;obtain⟨cG,cF,aE⟩:=Ad bM;rw[bD]at e1;rw[hj.v12 aY]at e2;have bE:=hj.set14 (u:=undef) d5 aT hi d2 bD hQ;obtain⟨q0,q1,qf0,qf1⟩:=Nn bP;rw[show(tl ++ [(j:Int)]).length=tl.length+1 from by simp]at h5;rw[show(sl ++ [(c:Int)]).length=sl.length+1 from by simp]at aE;rw[h5,aE]at e2 bE;have HF:=Aa bE;clear hf aA hd hQ bE;go_simp;exact hK undef _ HF.o
     .intro L V w aR hj;obtain⟨qb,cD,hQ⟩:=hj.v14 (aR 14 (by decide));have HQ:=Aa hQ;clear hj aR hQ;simp only[Cm,Act.put,List.setIfInBounds_toArray,List.set_cons_zero,List.set_cons_succ];go_wp2_with fail
      go_meet
      exact⟨qb,_,_,cD,HQ⟩
    case rest=>
     obtain⟨qb,aL,aM,rfl,hq⟩:=hcut;have q0:=hq.o.c0;have q1:=hq.o.c1;have cH:=Aa (HH.o.ex _ _ _ aB.o hq.o.ex);have bV:=Aa (HK.o.trans (HH.o.keeps aB.o hq.o.ex));have aC:=Aa (HS.o _ wc j c aL aM cH.o hjn bJ.o cB aA (C7.fresh hq.o.t fun B hB=>HH.o.new aB.o hq.o.ex (hq.o.tb B hB)) (C7.fresh hq.o.s fun B hB=>HH.o.new aB.o hq.o.ex (hq.o.sb B hB)));have bK:=Aa (V7 (step:=step) (tl:=tl) (sl:=sl) (j:=j) (c:=c-1) bI.o);rw[show c-1+1=c from by omega]at bK;rw[<-bK.o]at aC;have aI:=Aa (fun (h:(Gr step tl sl j c s1).2≠0)=>by
      have:=S6 (step:=step) (q:=q) (tl:=tl) (sl:=sl) (s:=s) (n:=n) (c:=c) HE.o bJ.o hjn (by omega) (by rw[aK.o];exact h);rw[aK.o]at this;exact this)
     obtain⟨E,hE⟩:=nA ((Gr step tl sl j c s1).2);rw[hE]at aC aI;have bH:=Aa hE;clear hq aB HK aX aW bL b0 b1 bK hE;by_cases h0:E=0
     .have cC:(E !=0)=false:=by simp[h0]
      have bW:=Aa h0;clear h0 aI;go_wp2_with (refine aC.o.mono ?_;rintro e w6⟨rfl,aD,aQ⟩;have aG:=Aa aD;have aZ:=Aa (bV.o.trans aQ);clear aD aQ)
      go_roundw
      case rel=>first|exact⟨c+1,by omega,by omega,by go_num,Aa (by rw[show c+1-1=c from by omega,bH.o,bW.o]),Aa (by rw[show c+1-1=c from by omega];exact aG.o),aZ⟩|((repeat apply Exists.intro);exact⟨⟨c+1,by omega,by omega,by go_num,Aa (by rw[show c+1-1=c from by omega,bH.o,bW.o]),Aa (by rw[show c+1-1=c from by omega];exact aG.o),aZ⟩,rfl⟩)
      case measure=>simp[intOf];omega
     .have cC:(E !=0)=true:=by simpa using h0
      have HR:=Aa (aI.o h0);clear h0 aI;go_wp2_with (refine aC.o.mono ?_;rintro e w6⟨rfl,aD,aQ⟩;have aG:=Aa aD;have aZ:=Aa (bV.o.trans aQ);clear aD aQ)
      go_ret;exact⟨by rw[HR.o,bH.o];rfl,by rw[HR.o];exact aG.o,aH.o.trans aZ.o⟩
   .obtain rfl:c=q:=by omega
    have aU:=Aa (N9 (step:=step) (q:=c) (sl:=sl) (s:=s) HE.o bJ.o);rw[aK.o]at aU;go_wp2_with (go_at_call 54;refine aV.o.mono ?_;rintro e w5⟨rfl,rfl⟩)
    go_roundw
    case rel=>first|exact⟨j+1,by omega,by go_num,Aa (by rw[aU.o];exact bI.o),Aa (by rw[aU.o];exact aB.o),HK⟩|((repeat apply Exists.intro);exact⟨⟨j+1,by omega,by go_num,Aa (by rw[aU.o];exact bI.o),Aa (by rw[aU.o];exact aB.o),HK⟩,rfl⟩)
    case measure=>simp[intOf];omega):P:=h
theorem zao{P:Prop}(h:P:=by
 obtain rfl:j=n:=by omega
 have HE:=Aa he.o;have aB:=Aa BC.o;have HK:=Aa hk.o;clear he BC hk;go_wp2_with fail
 go_ret;exact⟨by rw[HE.o];rfl,aB.o,aH.o.trans HK.o⟩):P:=h
theorem za7{P:Prop}(h:P:=by
 obtain⟨b0,b1,eb,bY⟩:=AX w tv sv;obtain⟨BP,bF⟩:∃B,w.heap.size=B:=⟨_,rfl⟩;rw[bF]at b0 b1;have bG:=Aa (H.new hs eb (B:=BP) (by omega));have aH:=Aa (H.keeps hs eb);obtain⟨HT,cI,aK,HH,HC,HS,B0,B1⟩:=On (ht.keep aH.o) (bO.keep aH.o) (H.ex _ _ _ hs eb) H hC hS b0 b1;obtain⟨-,c4,-⟩:=hC _ _ aK.o;clear hC hS H hs ht bO eb bY b0 b1;go_enter Tryz.func181,Tryz.ntmps181
 go_wp2_with fail
 try simp only[bF]
 clear bF;generalize w.alloc (.cells #[tv,sv] 71)=w1 at *;have bU:=Aa (AO.refl DM w1);clear c4
 go_loopw [16] (fun j' wr=>∃j:Nat,j<=n/\j'= .int .i64 j/\Hia ((Es step q tl sl j s).2=0)/\Hia (St (Es step q tl sl j s).1 wr)/\Hia (AO DM w1 wr)) (fun j' _=>n-(intOf j').toNat)
 case atStart=>exact⟨0,by omega,rfl,Aa rfl,aK,bU⟩
 case round=>
  clear aK bU;obtain⟨j,hj,rfl,he,BC,hk⟩:=hrel;by_cases hjn:j<n
  .exact zaa
  .exact zao):P:=h
theorem TS{σ:Type}{St:σ->World->Prop}{DM:World->Nat->Prop}(H:Vz St DM)(step:σ->List Int->List Int->σ × Int)(w:World)(A b n q:Nat)(bD:1<=q)(hq:q<=256)(hn:n<=64)(p0 p1:Value)(tl sl:List Int)(tv sv:Value)
  (hC:∀s w1,St s w1->w1.cell? (A,0)=some (.pointer (some (b,0)))/\w1.cell? (A,4)=some (.int .i64 n)/\Calls Tryz.prog 54 #[.pointer (some (b,0))] w1 fun r w'=>r= .returned (.int .i64 (q:Int))/\w1=w')
  (hS:∀s w1 (j c:Nat) aL aM,St s w1->j<n->tl.contains (j:Int)=false->1<=c->c<q->C7 DM w1 aL (tl ++ [(j:Int)])->C7 DM w1 aM (sl ++ [(c:Int)])->Calls Tryz.prog 193 #[.agg #[aL,aM],p0,p1] w1 fun r w'=>r= .returned (.int .i64 (step s (tl ++ [(j:Int)]) (sl ++ [(c:Int)])).2)/\St (step s (tl ++ [(j:Int)]) (sl ++ [(c:Int)])).1 w'/\AO DM w1 w')
  (bX:tl.length<=64) (bZ:sl.length<=64) (s:σ) (hs:St s w) (ht:C7 DM w tv tl) (bO:C7 DM w sv sl):
  Calls Tryz.prog 181 #[.pointer (some (A,0)),.agg #[tv,sv],.func (.func 193) #[] #[p0,p1]] w fun r w'=>r= .returned (.int .i64 (Es step q tl sl n s).2)/\St (Es step q tl sl n s).1 w'/\AO DM w w':=by
 exact za7
theorem ext_fol{σ:Type}{St:σ->World->Prop}{DM:World->Nat->Prop}(H:Vz St DM)(step:σ->List Int->List Int->σ × Int)(w:World)(A b n q:Nat)(bD:1<=q)(hq:q<=256)(hn:n<=64)(p0 p1 p2 p3:Value)(tl sl:List Int)(tv sv:Value)
  (hC:∀s w1,St s w1->w1.cell? (A,0)=some (.pointer (some (b,0)))/\w1.cell? (A,4)=some (.int .i64 n)/\Calls Tryz.prog 54 #[.pointer (some (b,0))] w1 fun r w'=>r= .returned (.int .i64 (q:Int))/\w1=w')
  (hS:∀s w1 (j c:Nat) aL aM,St s w1->j<n->tl.contains (j:Int)=false->1<=c->c<q->C7 DM w1 aL (tl ++ [(j:Int)])->C7 DM w1 aM (sl ++ [(c:Int)])->Calls Tryz.prog 180 #[.agg #[aL,aM],p0,p1,p2,p3] w1 fun r w'=>r= .returned (.int .i64 (step s (tl ++ [(j:Int)]) (sl ++ [(c:Int)])).2)/\St (step s (tl ++ [(j:Int)]) (sl ++ [(c:Int)])).1 w'/\AO DM w1 w')
  (bX:tl.length<=64) (bZ:sl.length<=64) (s:σ) (hs:St s w) (ht:C7 DM w tv tl) (bO:C7 DM w sv sl):
  Calls Tryz.prog 181 #[.pointer (some (A,0)),.agg #[tv,sv],.func (.func 180) #[] #[p0,p1,p2,p3]] w fun r w'=>r= .returned (.int .i64 (Es step q tl sl n s).2)/\St (Es step q tl sl n s).1 w'/\AO DM w w':=by
 exact za7
end Go.Proofs.YtehieobniamagaaGreat
