/- Walks of the echelon's missing, the pair's sides, unit, the pair's witness. -/
import Derived.Test.YtehieobniamagaaGreatZa16
namespace Go.Proofs.YtehieobniamagaaGreat
open Go.RowKit
set_option linter.all false
set_option maxRecDepth 100000
set_option maxHeartbeats 4000000
section
variable {b p m x0:Nat} {ml:List Int}
theorem L7(w:World)(hg:AP w b p m ml x0)(B E t:Nat)(ht:t<=1000)(e:MW)(rv pv:Value)(hE:E4 w E b t e rv pv)(aB:∀i,i<e.n->e.pl i<t)(f:Nat->Int)(uv:Value)(hu:Aj w uv (il t f))(c0:w.cell? ⟨B,0,none⟩=some (.pointer (some ⟨E,0,none⟩))):
  Calls Tryz.prog 262 #[uv,.pointer (some ⟨B,0,none⟩)] w fun r w'=>r= .returned (.bool (decide (0<=RF t (e.red p m ml f))))/\Ex w w':=by
 have HR:=Aa (Jh w hg E t ht e rv pv hE aB f uv hu);obtain⟨z,hz⟩:=nA (RF t (e.red p m ml f));rw[hz]at HR ⊢;clear hg hE hu hz aB;go_enter Tryz.func262,Tryz.ntmps262
 go_wp2_with fail
 refine HR.o.mono ?_;rintro e' w1⟨v1,rfl,-,aA⟩;have HX:=Aa aA;clear aA;exact zcP
theorem Fn(w:World)(hg:AP w b p m ml x0)(E t:Nat)(ht:t<=1000)(e:MW)(rv pv:Value)(hE:E4 w E b t e rv pv)(aB:∀i,i<e.n->e.pl i<t)(R:Nat)(a:Nat->Nat->Int)(v:Value)(hv:BT w v (AL t R a)):
  Calls Tryz.prog 226 #[.pointer (some ⟨E,0,none⟩),v] w fun r w'=>r= .returned (.int .i64 (L8 p m ml t e a R))/\Ex w w':=by
 obtain⟨vals,hs,hr⟩:=hv;rw[B9]at hs;have ec:Ex w (w.alloc (.cells #[.pointer (some ⟨E,0,none⟩)] 259)):=(Ex.refl _).alloc _;have c0:(w.alloc (.cells #[.pointer (some ⟨E,0,none⟩)] 259)).cell? ⟨w.heap.size,0,none⟩=some (.pointer (some ⟨E,0,none⟩)):=ag;have aD:=Aa (Km (w.alloc (.cells #[.pointer (some ⟨E,0,none⟩)] 259)) (.pointer (some ⟨w.heap.size,0,none⟩)) v R vals (hs.ex ec) (fun i=>decide (0<=RF t (e.red p m ml (a i)))) (fun w1 i u h1 hu=>by
  have hi:i<R:=by
   have h2:=(List.getElem?_eq_some_iff.1 hu).1;have h3:=hs.1;omega
  have hx:=ec.trans h1;exact L7 w1 (hg.ex hx) w.heap.size E t ht e rv pv (hE.ex hx) aB (a i) u ((hr i _ u (FC hi) hu).ex hx) (h1.cell c0)))
 obtain⟨-,va,vc,rfl,-,-,-⟩:=hs;have aC:=Aa ec;clear hr hg hE aB c0 ec;go_enter Tryz.func226,Tryz.ntmps226
 go_wp2_with fail
 refine aD.o.mono ?_;rintro e' w1⟨rfl,aA⟩;have HX:=Aa aA;clear aA;go_wp2_with fail
 go_ret;exact⟨rfl,aC.o.trans HX.o⟩
end
theorem M8(w:World)(i n:Nat)(hi:i<n)(hn:n<=1000):
  Calls Tryz.prog 240 #[.int .i64 i,.int .i64 n] w fun r w'=>∃g,r= .returned (.slice (some ⟨g,0,none⟩) n n)/\AI w' w.heap.size 3 g n (iv (Ax (fun _=>0) i 1))/\Ex w w':=by
 obtain⟨B,hB⟩:=nA w.heap.size;have aA:=Aa hB;go_enter Tryz.func240,Tryz.ntmps240
 go_wp2_with (at_make;refine Aq _ rfl _ _ 22 rfl 3 (.int .i64 0) 8 Tryz.underlying22 Au rfl _ n rfl rfl rfl ac ai ?_)
 intro w3 hown hx3
 try simp only[hB]at hown ⊢
 have co:=hown.cell hi;have cf:=hown.frz i;have i1:(0:Int)<=(i:Int):=ac;have i2:(i:Int)<(n:Int):=ac;have HO:=Aa (show AI (w3.setCell ⟨B,i,none⟩ (.int .i64 1)) B 3 B n (iv (Ax (fun _=>(0:Int)) i 1)) from by rw[<-CN];exact hown.set i _);have HX:=Aa (show Ex w (w3.setCell ⟨B,i,none⟩ (.int .i64 1)) from hown.exSet ac hx3 i _);clear hown hx3 hB;go_wp2_with fail
 go_ret;exact⟨B,rfl,by rw[aA.o];exact HO.o,HX.o⟩
structure Kh(w:World)(A b n:Nat)(v1 v2:Value):Prop where
 c0:w.cell? ⟨A,0,none⟩=some (.pointer (some ⟨b,0,none⟩))
 c4:w.cell? ⟨A,4,none⟩=some (.int .i64 n)
 c5:w.cell? ⟨A,5,none⟩=some v1
 c10:w.cell? ⟨A,10,none⟩=some v2
theorem Kh.ex{w w':World}{A b n:Nat}{v1 v2:Value}(h:Kh w A b n v1 v2)(hx:Ex w w'):Kh w' A b n v1 v2:=⟨hx.cell h.c0,hx.cell h.c4,hx.cell h.c5,hx.cell h.c10⟩
theorem Jg(N k:Nat)(a:Nat->Nat->Int):AL N (k+1) a=AL N k a ++ [il N (a k)]:=by unfold AL;rw[List.range_succ,List.map_append];rfl
section
variable {b p m x0:Nat} {ml:List Int}
theorem br{P:Prop}(h:P:=by rw[List.getD_eq_getElem?_getD,List.getElem?_eq_getElem hi];rfl):P:=h
theorem Kx(w:World)(hg:AP w b p m ml x0)(A n:Nat)(hn:n<=64)(v1 v2:Value)(hP:Kh w A b n v1 v2)(l1 l2:List (List Int))(h1:BT w v1 l1)(h2:BT w v2 l2)(bA:∀r∈l1,r.length=n)(aZ:∀r∈l2,r.length=n)(bK:l1.length<=256)(bJ:l2.length<=256)
  (tl sl:List Int) (tv sv:Value) (ht:Aj w tv tl) (hs:Aj w sv sl) (bI:sl.length=tl.length) (bG:tl.length<=n) (aY:Bz tl n=true):
  Calls Tryz.prog 224 #[.pointer (some ⟨A,0,none⟩),.agg #[tv,sv]] w fun r w'=>∃u1 u2,r= .returned (.tuple #[u1,u2])/\BT w' u1 (AL tl.length l1.length fun i=>Ph p m ml sl (AQ l1 i))/\BT w' u2 (AL tl.length l2.length fun i=>OT tl (AQ l2 i))/\Ex w w':=by
 obtain⟨b0,b1,eb,bH⟩:=AH w tv sv;obtain⟨N,hN⟩:=nA tl.length;have aQ:=Aa (fun i (hi:i<l1.length)=>show l1[i]?=some (l1.getD i [])/\(l1.getD i []).length=n from by
  have h:l1[i]?=some (l1.getD i []):=br;exact⟨h,bA _ (List.mem_of_getElem? h)⟩)
 have aP:=Aa (fun i (hi:i<l2.length)=>show l2[i]?=some (l2.getD i [])/\(l2.getD i []).length=n from by
  have h:l2[i]?=some (l2.getD i []):=br;exact⟨h,aZ _ (List.mem_of_getElem? h)⟩)
 have bP:=Aa (fun (w1:World) (hw:Ex w w1) (x:List Int) (xv:Value) (hx:Aj w1 xv x) (hl:x.length=n)=>Ju w1 (hg.ex hw) A (hw.cell hP.c0) N ac tl sl x tv sv xv (ht.ex hw) (hs.ex hw) hx hN ac ac);have bO:=Aa (fun (w1:World) (hw:Ex w w1) (y:List Int) (yv:Value) (hy:Aj w1 yv y) (hl:y.length=n)=>Jf w1 A N ac tl y tv sv yv (ht.ex hw) hy hN (by rw[hl];exact aY));obtain⟨ra,rc,rfl,-,r2,r3⟩:=h1.open;obtain⟨sa,sc,rfl,-,s2,s3⟩:=h2.open;unfold maxLen at r2 s2;have R3:=Aa r3;have S3:=Aa s3;have p5:=eb.cell hP.c5;have aE:=eb.cell hP.c10;have aX:=Aa eb;obtain⟨F1,aV⟩:∃F,(fun i=>Ph p m ml sl (AQ l1 i))=F:=⟨_,rfl⟩;obtain⟨F2,aU⟩:∃F,(fun i=>OT tl (AQ l2 i))=F:=⟨_,rfl⟩;have bR:=Aa (fun i=>congrFun aV i);have bQ:=Aa (fun i=>congrFun aU i);rw[aV,aU,hN];obtain⟨R1,bC⟩:∃R,l1.length=R:=⟨_,rfl⟩;obtain⟨R2,bB⟩:∃R,l2.length=R:=⟨_,rfl⟩;rw[bC]at R3 aQ bK p5 ⊢;rw[bB]at S3 aP bJ aE ⊢;clear hg hP h1 h2 bA aZ ht hs r3 s3 aV aU aY eb bC bB hN bI bG;go_enter Tryz.func224,Tryz.ntmps224
 go_wp2_with fail
 obtain⟨B,hB⟩:=nA w.heap.size;rw[hB]at b0 b1
 try simp only[hB]
 clear hB bH;generalize w.alloc (.cells #[tv,sv] 71)=w1 at *;have B0:=Aa b0;have B1:=Aa b1;have bN:=Aa aE;clear p5 aE b0 b1
 go_loopw [4,16] (fun cv k' wr=>∃(k:Nat) (vals:List Value),k<=R1/\k'= .int .i64 k/\Hia (BA wr w1.heap.size cv (AL N k F1) vals)/\Hia (Ex w1 wr)) (fun _ k' _=>R1-(intOf k').toNat)
 case atStart=>exact⟨0, [],ac,rfl,Aa (BA.nil _ _),Aa (Ex.refl _)⟩
 case round=>
  obtain⟨k,vals,hk,rfl,hm,hx⟩:=hrel;obtain⟨ca,cc,bM⟩:=Ab hm.o.cvo;subst bM;by_cases hkR:k<R1
  .obtain⟨rb,ro,rfl,aI⟩:=R3.o ac;obtain⟨aL,aK⟩:=aQ.o k hkR;obtain⟨uv,aH,aG⟩:=aI k _ aL;have aB:=aX.o.trans hx.o;have cu:=aB.cell aH;have b0:=hx.o.cell B0.o;have b1:=hx.o.cell B1.o;have i1:(0:Int)<=(k:Int):=by omega
   have i2:(k:Int)<(R1:Int):=ac;have HC:=Aa (bP.o wr aB _ uv (aG.ex aB) aK);rw[show(Ph p m ml sl fun j=>(l1.getD k []).getD j 0)=F1 k from bR.o k]at HC;have HM:=Aa hm.o;have HX:=Aa hx.o;have aO:=Aa (B9 N k F1);clear aI aL aK aH aG aB hm hx;go_wp2_with (first
        | (go_at_call 228
           refine HC.o.mono ?_;rintro e w5⟨g5,rfl,aJ,aF⟩;have aC:=Aa aJ;have aN:=Aa aF;clear aJ aF;have aD:=Aa (HM.o.ex aN.o);have aM:=Aa (HX.o.trans aN.o);have HL:=Aa (show w5.ownsRow w1.heap.size 3 1 (.slice (some ⟨g5,0,none⟩) N N) (il N (F1 k)).length (Al (il N (F1 k))) from by
             rw[AR,CO];exact Bq aC.o (by have:=HX.o.size;omega))
           have aR:=Aa (show AJ (.slice (some ⟨g5,0,none⟩) N N) (.slice ca (AL N k F1).length cc) from by
             right;show some g5≠_
             intro e;have:=(HM.o.cvo.lt g5 e.symm).2;have:=aC.o.lt.1;omega)
           clear HM aC)
        | (at_builtin;refine Ak _ rfl _ _ 37 rfl w1.heap.size 22 (.slice none 0 0) 1 24 Tryz.underlying37 BB rfl ae _ (AL N k F1).length _ rfl aD.o.cvo [.slice (some ⟨g5,0,none⟩) N N] 22 _ rfl ag rfl aj (by have:=aO.o;unfold maxLen;omega) (by have:=aO.o;omega) aM.o.size ?_))
   intro v2 w6 aA;have HO:=Aa (aD.o.app HL.o aR.o aA);have HE:=Aa (aA.ex aM.o (Nat.le_refl _));obtain⟨va,vc,aT⟩:=Ab aA.own;subst aT;rw[<-Jg]at HO;clear aA HL aR aD;go_wp2_with fail
   go_roundw
   case rel=>first|exact⟨k+1,_,ac,by go_num,HO,HE⟩|((repeat apply Exists.intro);exact⟨⟨k+1,_,ac,by go_num,HO,HE⟩,rfl⟩)
   case measure=>simp[intOf];omega
  .obtain rfl:k=R1:=by omega
   have HM:=Aa hm.o;have HX:=Aa hx.o;have aE:=hx.o.cell bN.o;have bE:=Aa hm.o.msl;obtain⟨w8,aS⟩:∃w8,w8=wr:=⟨_,rfl⟩;rw[<-aS]at HM HX bE;have H8:=Aa aS;clear hm hx;go_wp2_with fail
   go_loopw [5,34] (fun cv k' wr=>∃(k:Nat) (vals:List Value),k<=R2/\k'= .int .i64 k/\Hia (BA wr w8.heap.size cv (AL N k F2) vals)/\Hia (Ex w8 wr)) (fun _ k' _=>R2-(intOf k').toNat)
   case atStart=>exact⟨0, [],ac,rfl,Aa (BA.nil _ _),Aa (by rw[H8.o];exact Ex.refl _)⟩
   case round=>
    clear aE aS;obtain⟨j,vals2,hj,rfl,hm,hx⟩:=hrel;obtain⟨da,dc,bL⟩:=Ab hm.o.cvo;subst bL;by_cases hjR:j<R2
    .obtain⟨rb,ro,rfl,aI⟩:=S3.o ac;obtain⟨aL,aK⟩:=aP.o j hjR;obtain⟨uv,aH,aG⟩:=aI j _ aL;have aB:=(aX.o.trans HX.o).trans hx.o;have cu:=aB.cell aH;have b0:=(HX.o.trans hx.o).cell B0.o;have b1:=(HX.o.trans hx.o).cell B1.o;have i1:(0:Int)<=(j:Int):=by omega
     have i2:(j:Int)<(R2:Int):=ac;have HC:=Aa (bO.o wr aB _ uv (aG.ex aB) aK);rw[show(OT tl fun bF=>(l2.getD j []).getD bF 0)=F2 j from bQ.o j]at HC;have aW:=Aa hm.o;have bD:=Aa hx.o;have aO:=Aa (B9 N j F2);clear aI aL aK aH aG aB hm hx;go_wp2_with (first
            | (go_at_call 227
               refine HC.o.mono ?_;rintro e w5⟨g5,rfl,aJ,aF⟩;have aC:=Aa aJ;have aN:=Aa aF;clear aJ aF;have aD:=Aa (aW.o.ex aN.o);have aM:=Aa (bD.o.trans aN.o);have HL:=Aa (show w5.ownsRow w8.heap.size 3 1 (.slice (some ⟨g5,0,none⟩) N N) (il N (F2 j)).length (Al (il N (F2 j))) from by
                 rw[AR,CO];exact Bq aC.o (by have:=bD.o.size;omega))
               have aR:=Aa (show AJ (.slice (some ⟨g5,0,none⟩) N N) (.slice da (AL N j F2).length dc) from by
                 right;show some g5≠_
                 intro e;have:=(aW.o.cvo.lt g5 e.symm).2;have:=aC.o.lt.1;omega)
               clear aW aC)
            | (at_builtin;refine Ak _ rfl _ _ 37 rfl w8.heap.size 22 (.slice none 0 0) 1 24 Tryz.underlying37 BB rfl ae _ (AL N j F2).length _ rfl aD.o.cvo [.slice (some ⟨g5,0,none⟩) N N] 22 _ rfl ag rfl aj (by have:=aO.o;unfold maxLen;omega) (by have:=aO.o;omega) aM.o.size ?_))
     intro v2 w6 aA;have HO:=Aa (aD.o.app HL.o aR.o aA);have HE:=Aa (aA.ex aM.o (Nat.le_refl _));obtain⟨va,vc,aT⟩:=Ab aA.own;subst aT;rw[<-Jg]at HO;clear aA HL aR aD;go_wp2_with fail
     go_roundw
     case rel=>first|exact⟨j+1,_,ac,by go_num,HO,HE⟩|((repeat apply Exists.intro);exact⟨⟨j+1,_,ac,by go_num,HO,HE⟩,rfl⟩)
     case measure=>simp[intOf];omega
    .obtain rfl:j=R2:=by omega
     go_wp2_with fail
     go_ret2;exact⟨_,_,rfl,bE.o.ex hx.o,hm.o.msl,(aX.o.trans HX.o).trans hx.o⟩
end
theorem GF{w:World}{base g n:Nat}{i:Nat}(h:AI w base 3 g n (iv (Ax (fun _=>0) i 1))):Aj w (.slice (some ⟨g,0,none⟩) n n) (P4 i n):=h.isl
section
variable {b p m x0:Nat} {ml:List Int}
theorem H7(w:World)(hg:AP w b p m ml x0)(aI:1<=x0)(aH:x0<p^m)(A n:Nat)(hn:n<=64)(v1 v2:Value)(hP:Kh w A b n v1 v2)(l1 l2:List (List Int))(h1:BT w v1 l1)(h2:BT w v2 l2)(bN:∀r∈l1,r.length=n)(bM:∀r∈l2,r.length=n)(bP:l1.length<=256)(bO:l2.length<=256)
  (tl sl:List Int) (tv sv:Value) (ht:Aj w tv tl) (hs:Aj w sv sl) (bK:sl.length=tl.length) (bJ:tl.length<=n) (bL:Bz tl n=true):
  Calls Tryz.prog 192 #[.pointer (some ⟨A,0,none⟩),.agg #[tv,sv]] w fun r w'=>∃mv,r= .returned (.tuple #[.int .i64 (FT p m ml l1 l2 tl sl).1,mv])/\Aj w' mv (I3 l1.length l2.length (FT p m ml l1 l2 tl sl))/\(∀B,mv.ownBlock=some B->w.heap.size<=B)/\Ex w w':=by
 obtain⟨b0,b1,eb,hsz⟩:=AH w tv sv;have aG:=Aa (Kx _ (hg.ex eb) A n hn v1 v2 (hP.ex eb) l1 l2 (h1.ex eb) (h2.ex eb) bN bM bP bO tl sl tv sv (ht.ex eb) (hs.ex eb) bK bJ bL);have HA:=Aa hP.c0;have HG:=Aa hg;obtain⟨W,hW⟩:=nA (FT p m ml l1 l2 tl sl);have aD:=hW;unfold FT at aD;rw[hW];obtain⟨N,hN⟩:=nA tl.length;rw[hN]at aG aD bJ;obtain⟨F1,bV⟩:∃F,(fun i=>Ph p m ml sl (AQ l1 i))=F:=⟨_,rfl⟩;obtain⟨F2,bU⟩:∃F,(fun i=>OT tl (AQ l2 i))=F:=⟨_,rfl⟩;rw[bV,bU]at aG aD;obtain⟨R1,bT⟩:∃R,l1.length=R:=⟨_,rfl⟩;obtain⟨R2,bS⟩:∃R,l2.length=R:=⟨_,rfl⟩;rw[bT]at aG aD bP ⊢;rw[bS]at aG aD bO ⊢;obtain⟨I1,aQ⟩:∃i,L8 p m ml N (G6 p m ml N F2 R2) F1 R1=i:=⟨_,rfl⟩;obtain⟨I2,aP⟩:∃i,L8 p m ml N (G6 p m ml N F1 R1) F2 R2=i:=⟨_,rfl⟩;have bF:=Aa (show I1<R1/\-1<=I1 from by rw[<-aQ];exact Ml _ _);have bE:=Aa (show I2<R2/\-1<=I2 from by rw[<-aP];exact Ml _ _);simp only[aQ,aP]at aD;have bD:=Aa (fun (w1:World) (hw:Ex w w1) (E:Nat) (rv pv:Value) (hE:E4 w1 E b N (G6 p m ml N F2 R2) rv pv) (v:Value) (hv:BT w1 v (AL N R1 F1))=>Fn w1 (hg.ex hw) E N ac _ rv pv hE (I7 N F2 R2) R1 F1 v hv);have bC:=Aa (fun (w1:World) (hw:Ex w w1) (E:Nat) (rv pv:Value) (hE:E4 w1 E b N (G6 p m ml N F1 R1) rv pv) (v:Value) (hv:BT w1 v (AL N R2 F2))=>Fn w1 (hg.ex hw) E N ac _ rv pv hE (I7 N F1 R1) R2 F2 v hv);rw[aQ]at bD;rw[aP]at bC;have aS:=Aa aD;have cC:=Aa eb;clear hg hP h1 h2 bN bM ht hs bV bU bL bT bS hN bK hW aD aQ aP eb;go_enter Tryz.func192,Tryz.ntmps192
 go_wp2_with fail
 refine aG.o.mono ?_;rintro e w1⟨u1,u2,rfl,aU,aT,bI⟩;have aZ:=Aa (cC.o.trans bI);have aE:=Aa aU;have aC:=Aa aT;obtain⟨ua,uc,rfl,-,ul,-⟩:=aU.open;obtain⟨va,vc,rfl,-,vl,-⟩:=aT.open;rw[B9]at aE aC ⊢;rw[B9];have aL:=Aa (I8 w1 (HG.o.ex aZ.o) aI aH A (aZ.o.cell HA.o) N R2 ac ac F2 _ aC.o);clear aU aT bI aG;go_wp2_with fail
 refine aL.o.mono ?_;rintro e w2⟨E1,rv1,pv1,rfl,bR,aO⟩;have bW:=Aa (aZ.o.trans aO);have aE:=Aa (aE.o.ex aO);have aC:=Aa (aC.o.ex aO);have aM:=Aa (bD.o w2 bW.o E1 rv1 pv1 bR _ aE.o);clear bR aO aL bD;go_wp2_with fail
 refine aM.o.mono ?_;rintro e w3⟨rfl,aN⟩;have aJ:=Aa (bW.o.trans aN);have aE:=Aa (aE.o.ex aN);have aC:=Aa (aC.o.ex aN);clear aN aM;by_cases hi1:0<=I1
 .have aA:=aS.o;rw[if_pos hi1]at aA;subst aA;obtain⟨i,rfl⟩:=Int.eq_ofNat_of_zero_le hi1;have bY:decide ((0:Int)<=(i:Int))=true:=by simp
  have aX:i<R1:=by have:=bF.o.1;omega
  have bA:=Aa (M8 w3 i R1 aX ac);clear hi1 aS;go_wp2_with fail
  refine bA.o.mono ?_;rintro e w4⟨g,rfl,aW,aF⟩;have cB:=Aa aW;have aR:=Aa (aJ.o.trans aF);have bB:=Aa (show w.heap.size<=g from Nat.le_trans aJ.o.size aW.lt.1);clear aW aF;go_wp2_with fail
  go_ret2;refine⟨_,rfl,?_,fun B hB=>?_,aR.o⟩
  .unfold I3;rw[if_pos rfl];exact GF cB.o
  .injection hB with hB;rw[<-hB];exact bB.o
 .have aA:=aS.o;rw[if_neg hi1]at aA;have bY:decide ((0:Int)<=I1)=false:=by simpa using hi1
  have aB:=Aa aA;have aK:=Aa (I8 w3 (HG.o.ex aJ.o) aI aH A (aJ.o.cell HA.o) N R1 ac ac F1 _ aE.o);clear hi1 aS aA;go_wp2_with fail
  refine aK.o.mono ?_;rintro e w4⟨E2,rv2,pv2,rfl,bQ,aF⟩;have aR:=Aa (aJ.o.trans aF);have aC:=Aa (aC.o.ex aF);have aM:=Aa (bC.o w4 aR.o E2 rv2 pv2 bQ _ aC.o);clear bQ aF aK bC;go_wp2_with fail
  refine aM.o.mono ?_;rintro e w5⟨rfl,bH⟩;have aY:=Aa (aR.o.trans bH);clear bH aM;by_cases hi2:0<=I2
  .have aA:=aB.o;rw[if_pos hi2]at aA;subst aA;obtain⟨i,rfl⟩:=Int.eq_ofNat_of_zero_le hi2;have bX:decide ((0:Int)<=(i:Int))=true:=by simp
   have aX:i<R2:=by have:=bE.o.1;omega
   have bA:=Aa (M8 w5 i R2 aX ac);clear hi2 aB;go_wp2_with fail
   refine bA.o.mono ?_;rintro e w6⟨g,rfl,aV,bG⟩;have cA:=Aa aV;have bZ:=Aa (aY.o.trans bG);have bB:=Aa (show w.heap.size<=g from Nat.le_trans aY.o.size aV.lt.1);clear aV bG;go_wp2_with fail
   go_ret2;refine⟨_,rfl,?_,fun B hB=>?_,bZ.o⟩
   .unfold I3;rw[if_neg (by show ¬((1:Int)=0);decide),if_pos rfl];exact GF cA.o
   .injection hB with hB;rw[<-hB];exact bB.o
  .have aA:=aB.o;rw[if_neg hi2]at aA;subst aA;have bX:decide ((0:Int)<=I2)=false:=by simpa using hi2
   clear hi2 aB;go_wp2_with fail
   go_ret2;exact⟨_,rfl,AF _,fun B hB=>by simp[Value.ownBlock]at hB,aY.o⟩
end
structure AC(DM:World->Nat->Prop)(w w':World):Prop where
 size:w.heap.size<=w'.heap.size
 blk:∀B,B<w.heap.size->¬DM w B->w'.heap[B]?=w.heap[B]?/\¬DM w' B
theorem AC.refl(DM:World->Nat->Prop)(w:World):AC DM w w:=⟨Nat.le_refl _,fun B _ h=>⟨rfl,h⟩⟩
theorem AC.trans{DM:World->Nat->Prop}{a b c:World}(h:AC DM a b)(k:AC DM b c):AC DM a c:=
 ⟨Nat.le_trans h.size k.size,fun B hB hn=>by
  have h1:=h.blk B hB hn;have h2:=k.blk B (Nat.lt_of_lt_of_le hB h.size) h1.2;exact⟨h2.1.trans h1.1,h2.2⟩⟩
theorem GQ{w w':World}{B o:Nat}{v:Value}(h:w'.heap[B]?=w.heap[B]?)(hc:w.cell? ⟨B,o,none⟩=some v):w'.cell? ⟨B,o,none⟩=some v:=by
 rw[<-hc];unfold World.cell?;rw[h]
theorem AC.cell{DM:World->Nat->Prop}{w w':World}(h:AC DM w w'){B o:Nat}{v:Value}(hn:¬DM w B)(hc:w.cell? ⟨B,o,none⟩=some v):w'.cell? ⟨B,o,none⟩=some v:=
 GQ (h.blk B (World.block_lt_of_cell? _ _ hc) hn).1 hc
def Co(DM:World->Nat->Prop)(w:World)(v:Value)(l:List Int):Prop:=Aj w v l/\(l≠ []->∀B,v.ownBlock=some B->¬DM w B)
theorem Co.keep{DM:World->Nat->Prop}{w w':World}{v:Value}{l:List Int}(h:Co DM w v l)(k:AC DM w w'):Co DM w' v l:=by
 obtain⟨h1,h2⟩:=h
 cases l with
 | nil=>
  obtain⟨g1,a,cap,g2,g3,g4,g5⟩:=h1;exact⟨⟨g1,a,cap,g2,g3,g4,fun hn=>absurd hn ag⟩,fun hn=>absurd rfl hn⟩
 | cons x l=>
  obtain⟨g1,a,cap,g2,g3,g4,g5⟩:=h1;obtain⟨b,o,rfl,g7⟩:=g5 ag;have hb:¬DM w b:=h2 ag b (by rw[g2];rfl);have aA:b<w.heap.size:=World.block_lt_of_cell? _ _ (g7 0 (.int .i64 x) (by simp[Al]));have hk:=k.blk b aA hb;refine⟨⟨g1,_,cap,g2,g3,g4,fun _=>⟨b,o,rfl,fun j u hu=>GQ hk.1 (g7 j u hu)⟩⟩,fun _ B hB=>?_⟩;rw[g2]at hB;injection hB with hB;rw[<-hB];exact hk.2
theorem Co.fresh{DM:World->Nat->Prop}{w:World}{v:Value}{l:List Int}(h:Aj w v l)(hB:∀B,v.ownBlock=some B->¬DM w B):Co DM w v l:=⟨h,fun _=>hB⟩
structure Se{σ:Type}(St:σ->World->Prop)(DM:World->Nat->Prop):Prop where
 ex:∀s w w',St s w->Ex w w'->St s w'
 lt:∀s w B,St s w->DM w B->B<w.heap.size
 dx:∀s w w' B,St s w->Ex w w'->DM w' B->DM w B
section
variable {σ:Type} {St:σ->World->Prop} {DM:World->Nat->Prop} {s:σ} {w w':World}
theorem Se.keeps(H:Se St DM)(hs:St s w)(hx:Ex w w'):AC DM w w':=
 ⟨hx.size,fun B hB hn=>⟨hx.block B hB,fun h=>hn (H.dx s w w' B hs hx h)⟩⟩
theorem Se.new(H:Se St DM)(hs:St s w)(hx:Ex w w'){B:Nat}(hB:w.heap.size<=B):¬DM w' B:=fun h=>by
 have:=H.lt s w B hs (H.dx s w w' B hs hx h);omega
end
section
variable {σ:Type} {step:σ->List Int->List Int->σ × Int} {tl sl:List Int} {j q:Nat} {s:σ}
theorem Nj{c:Nat}(h:(IC step tl sl j c s).2≠0):∀k,IC step tl sl j (c+k) s=IC step tl sl j c s
 | 0=>rfl
 | k+1=>by
  show(if (IC step tl sl j (c+k) s).2≠0 then IC step tl sl j (c+k) s else _)=_
  rw[Nj h k,if_pos h]
theorem Nh{j:Nat}(h:(Fb step q tl sl j s).2≠0):∀k,Fb step q tl sl (j+k) s=Fb step q tl sl j s
 | 0=>rfl
 | k+1=>by
  show(if (Fb step q tl sl (j+k) s).2≠0 then Fb step q tl sl (j+k) s else _)=_
  rw[Nh h k,if_pos h]
theorem SN{c:Nat}(h:(IC step tl sl j c s).2=0):IC step tl sl j (c+1) s=step (IC step tl sl j c s).1 (tl ++ [(j:Int)]) (sl ++ [((c+1:Nat):Int)]):=by
 show(if (IC step tl sl j c s).2≠0 then _ else _)=_
 rw[if_neg (by simp[h])]
theorem SJ{j:Nat}(h:(Fb step q tl sl j s).2=0)(hc:tl.contains (j:Int)=true):Fb step q tl sl (j+1) s=Fb step q tl sl j s:=by
 show(if (Fb step q tl sl j s).2≠0 then _ else if _ then _ else _)=_
 rw[if_neg (by simp[h]),if_pos hc]
theorem LD{j:Nat}(h:(Fb step q tl sl j s).2=0)(hc:tl.contains (j:Int)=false):Fb step q tl sl (j+1) s=IC step tl sl j (q-1) (Fb step q tl sl j s).1:=by
 show(if (Fb step q tl sl j s).2≠0 then _ else if _ then _ else _)=_
 rw[if_neg (by simp[h]),if_neg (by rw[hc];decide)]
theorem Qc{j n c:Nat}(h:(Fb step q tl sl j s).2=0)(hc:tl.contains (j:Int)=false)(hj:j<n)(hcq:c<=q-1)(he:(IC step tl sl j c (Fb step q tl sl j s).1).2≠0):
  Fb step q tl sl n s=IC step tl sl j c (Fb step q tl sl j s).1:=by
 have h1:=LD h hc;have h2:=Nj he (q-1-c);rw[show c+(q-1-c)=q-1 from ac]at h2;rw[h2]at h1;have h3:=Nh (step:=step) (q:=q) (tl:=tl) (sl:=sl) (s:=s) (j:=j+1) (by rw[h1];exact he) (n-(j+1));rw[show j+1+(n-(j+1))=n from ac,h1]at h3;exact h3
end
theorem EU(w:World)(l:List Int)(v:Value)(hl:Aj w v l)(hn2:l.length<=1000):
  Calls Tryz.prog 154 #[v] w fun r w'=>∃v',r= .returned v'/\w'.ownsRow w.heap.size 3 1 v' l.length (Al l)/\Ex w w':=by
 have HL:=Aa hl;obtain⟨a,cap,rfl,s1,s2,s3⟩:=hl.open;have aD:∀u∈Al l,u.oneCell'=true:=by
  exact zcK
 have aG:=Aa aD;clear hl aD
 cases a with
 | none=>
  have h0:l= []:=by
   exact zcd
  subst h0;have aA:=fun w'=>AD (P:=Tryz.prog) w' 22 3 none 0 cap Tryz.underlying22;simp only[Option.isNone]at aA;clear s1 s2 s3;go_enter Tryz.func154,Tryz.ntmps154
  go_wp2_with fail
  go_ret;exact⟨_,rfl,World.ownsRow_nil _ _ _ _,Ex.refl _⟩
 | some ad=>
  have aA:=fun w'=>AD (P:=Tryz.prog) w' 22 3 (some ad) l.length cap Tryz.underlying22;simp only[Option.isNone]at aA;clear s3;go_enter Tryz.func154,Tryz.ntmps154
  go_wp2_with (at_builtin;refine A8 _ rfl _ _ 22 rfl w.heap.size 3 (.int .i64 0) 1 8 Tryz.underlying22 Au rfl ae _ 0 [] rfl (Bn w 3) (.slice (some ad) l.length cap) l.length (Al l) rfl (HL.o.ex ((Ex.refl w).alloc _)) aG.o ai ac ag ?_)
  intro v1 w1 aB aE aF;have aC:Ex w w1:=Ex.grown ((Ex.refl w).alloc _) (Bn w 3) (Nat.le_refl _) aE;have HI:=Aa aB;have HX:=Aa aC;clear aB aE aF aC aA;go_wp2_with fail
  go_ret;exact⟨_,rfl,HI.o,HX.o⟩
end Go.Proofs.YtehieobniamagaaGreat
