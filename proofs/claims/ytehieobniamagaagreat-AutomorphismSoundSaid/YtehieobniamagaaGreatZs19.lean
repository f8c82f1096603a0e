/- Walks of the tower's insert and visit. -/
import Derived.Test.YtehieobniamagaaGreatZs18
namespace Go.Proofs.YtehieobniamagaaGreat
open Go.RowKit
set_option linter.all false
set_option maxRecDepth 100000
set_option maxHeartbeats 4000000
theorem appd_of{w w':World}{o:Obj}{base:Nat}{e:TypeId}{size:Nat}{v v':Value}{n:Nat}{xs news:List Value}(aB:w.ownsRow base e size v n xs)(aA:w'.ownsRow base e size v' (n+1) (xs++news))
  (hg:((w.alloc o).drew).grownBy w' v.ownBlock) (ha:v'.ownBlock=v.ownBlock∨v'.ownBlock=some ((w.alloc o).drew).heap.size):Bv w w' base e size v v' n xs news:=
 ⟨aA,⟨o,⟨hg.os,hg.tape,hg.output,hg.size,hg.block⟩⟩,by simpa using ha,aB⟩
def U7(w:World)(base n tb rb gb:Nat)(rr:Nat->Nat)(mb:List Nat)(t:Tw):Prop:=∃gv V,Sn w base n tb rb gb rr gv V mb t
def Hd(n:Nat)(t:Tw)(b:Nat):Nat:=(List.range n).countP fun x=>(t.R b x).isNone
def S7(n:Nat)(t:Tw)(b:Nat):Nat:=(n-b)*(n+1)+Hd n t b
theorem S6(n:Nat)(t:Tw)(b:Nat):Hd n t b<=n:=by
 unfold Hd;have:=List.countP_le_length (p:=fun x=>(t.R b x).isNone) (l:=List.range n);simpa using this
theorem GY{t t':Tw}(h:Sv t t')(b:Nat):∀n,Hd n t' b<=Hd n t b
 | 0=>Nat.le_refl _
 | n+1=>by
  have ih:=GY h b n;unfold Hd at *;rw[List.range_succ,List.countP_append,List.countP_append,List.countP_singleton,List.countP_singleton]
  cases h1:t.R b n with
  | none=>simp;split <;> omega
  | some r=>rw[h b n r h1];simp;exact ih
theorem PZ{n:Nat}{t t':Tw}(h:Sv t t')(b:Nat):S7 n t' b<=S7 n t b:=Nat.add_le_add_left (GY h b n) _
theorem PX{t:Tw}{b x:Nat}{q:Nat->Nat}(h:t.R b x=none):∀n,(x<n->Hd n (Ml t b x q) b+1=Hd n t b)/\(n<=x->Hd n (Ml t b x q) b=Hd n t b)
 | 0=>⟨fun h=>by omega,fun _=>rfl⟩
 | n+1=>by
  obtain⟨h1,h2⟩:=PX (q:=q) h n;unfold Hd at *;have aA:(Ml t b x q).R b n=if n=x then some q else t.R b n:=by
   show(if b=b/\n=x then some q else t.R b n)=_
   by_cases e:n=x <;> simp[e]
  rw[List.range_succ,List.countP_append,List.countP_append,List.countP_singleton,List.countP_singleton,aA];constructor
  .intro hx;by_cases e:n=x
   .rw[if_pos e];subst e;rw[h,h2 (Nat.le_refl _)];simp
   .rw[if_neg e];have:=h1 ac;omega
  .intro hx;have e:¬n=x:=by omega
   rw[if_neg e,h2 ac]
theorem Zg{n:Nat}{t:Tw}{b x:Nat}{q:Nat->Nat}(h:t.R b x=none)(hx:x<n):S7 n (Ml t b x q) b+1=S7 n t b:=by
 unfold S7;have:=(PX (q:=q) h n).1 hx;omega
theorem muT_up{n:Nat}{t:Tw}{b:Nat}(hb:b+1<n):S7 n t (b+1)+1<=S7 n t b:=by
 unfold S7;have h1:=S6 n t (b+1);rw[show n-b=n-(b+1)+1 by omega,Nat.succ_mul];omega
def PW(n:Nat)(t:Tw)(c:Nat):Nat:=((List.range n).map fun d=>if c<=d then Hd n t d else 0).sum
theorem FQ{f g:Nat->Nat}:∀l:List Nat,(∀d∈l,f d<=g d)->(l.map f).sum<=(l.map g).sum
 | [],_=>Nat.le_refl _
 | d :: l,h=>by
  have h1:=h d (List.mem_cons_self ..);have h2:=FQ l fun e he=>h e (List.mem_cons_of_mem _ he);simp only[List.map_cons,List.sum_cons];omega
theorem UD{n:Nat}{t t':Tw}(h:Sv t t')(c:Nat):PW n t' c<=PW n t c:=
 FQ _ fun d _=>by
  split
  .exact GY h d n
  .exact Nat.le_refl _
theorem Zd(n:Nat)(t:Tw)(c:Nat):PW n t c<=n*n:=by
 have h1:=FQ (f:=fun d=>if c<=d then Hd n t d else 0) (g:=fun _=>n) (List.range n) fun d _=>by
  split
  .exact S6 n t d
  .exact Nat.zero_le _
 have h2:((List.range n).map fun _=>n).sum=n*n:=by
  rw[List.map_const',List.sum_replicate_nat,List.length_range]
 unfold PW;omega
theorem Ku{f g:Nat->Nat}:∀l:List Nat,(∀d∈l,f d<=g d)->(l.map g).sum<=(l.map f).sum->∀d∈l,f d=g d
 | [],_,_,d,hd=>absurd hd (List.not_mem_nil)
 | e :: l,h,hs,d,hd=>by
  have h1:=h e (List.mem_cons_self ..);have h2:=FQ l fun e he=>h e (List.mem_cons_of_mem _ he);simp only[List.map_cons,List.sum_cons]at hs;rcases List.mem_cons.1 hd with h3|h3
  .subst h3;omega
  .exact Ku l (fun e he=>h e (List.mem_cons_of_mem _ he)) ac d h3
theorem Nm{p q:Nat->Bool}:∀l:List Nat,(∀x∈l,q x=true->p x=true)->l.countP p<=l.countP q->∀x∈l,p x=q x
 | [],_,_,x,hx=>absurd hx (List.not_mem_nil)
 | e :: l,h,hs,x,hx=>by
  have h2:l.countP q<=l.countP p:=List.countP_mono_left fun y hy=>h y (List.mem_cons_of_mem _ hy);have h1:=h e (List.mem_cons_self ..);rw[List.countP_cons,List.countP_cons]at hs;have aA:p e=q e/\l.countP p<=l.countP q:=by
   cases hp:p e <;> cases hq:q e <;> simp[hp,hq]at hs h1 ⊢ <;> omega
  rcases List.mem_cons.1 hx with h3|h3
  .subst h3;exact aA.1
  .exact Nm l (fun y hy=>h y (List.mem_cons_of_mem _ hy)) aA.2 x h3
theorem Zc{n:Nat}{t t':Tw}(hG:C7 n t)(aA:C7 n t')(h:Sv t t'){b:Nat}{p:Nat->Nat}(h1:¬Sf n t.R (n-b) b p)(h2:Sf n t'.R (n-b) b p):PW n t' b+1<=PW n t b:=by
 apply Classical.byContradiction;intro hn;refine h1 (Sf.congr (c:=b) (R:=t'.R) (fun c x hc=>?_) (Nat.le_refl _) h2);by_cases hcx:c<n/\x<n
 .have e1:=Ku (f:=fun d=>if b<=d then Hd n t' d else 0) (g:=fun d=>if b<=d then Hd n t d else 0) (List.range n) (fun d _=>by
   split
   .exact GY h d n
   .exact Nat.le_refl _) (by unfold PW at hn;omega) c (List.mem_range.2 hcx.1)
  simp only[if_pos hc]at e1;have e2:=Nm (p:=fun x=>(t.R c x).isNone) (q:=fun x=>(t'.R c x).isNone) (List.range n) (fun y _ hy=>by
   cases hr:t.R c y with
   | none=>rfl
   | some r=>rw[h c y r hr]at hy;cases hy) (by unfold Hd at e1;omega) x (List.mem_range.2 hcx.2)
  cases hr:t.R c x with
  | some r=>exact h c x r hr
  | none=>
   simp only[hr,Option.isNone]at e2
   cases hr':t'.R c x with
   | none=>rfl
   | some r=>rw[hr']at e2;cases e2
 .cases hr:t.R c x with
  | some r=>exact absurd ⟨(hG.rep _ _ _ hr).1,(hG.rep _ _ _ hr).2.1⟩ hcx
  | none=>
   cases hr':t'.R c x with
   | none=>rfl
   | some r=>exact absurd ⟨(aA.rep _ _ _ hr').1,(aA.rep _ _ _ hr').2.1⟩ hcx
def Q9(n:Nat)(t:Tw)(b:Nat):Prop:=∀c,b<=c->c<n->(t.g c).length+PW n t c<=n*n
theorem Q9.up{n:Nat}{t:Tw}{b c:Nat}(h:Q9 n t b)(hc:b<=c):Q9 n t c:=fun d hd=>h d ac
theorem Q9.mono{n:Nat}{t t':Tw}{b:Nat}(h:Q9 n t b)(hl:Sv t t')(hg:∀c,b<=c->t'.g c=t.g c):Q9 n t' b:=fun c hc aA=>by
 rw[hg c hc];have:=h c hc aA;have:=UD (n:=n) hl c;omega
def TV(base n tb rb gb:Nat)(rr:Nat->Nat)(m:Nat):Prop:=∀(w:World) (mb:List Nat) (t:Tw) (q:Nat->Nat) (u:Value) (b:Nat),S7 n t b<=m->b<n->U7 w base n tb rb gb rr mb t->C7 n t->(∀c,b+1<=c->c<n->DJ n t c)->Cx w mb n u q->Be n q->A5 b q->base<=w.heap.size->(t.g b).length<=n*n+1->Q9 n t (b+1)->
 Calls Tryz.prog 210 #[.pointer (some (tb,0)),u,b] w fun r w'=>(∃z,r= .returned z)/\∃aA t',U7 w' base n tb rb gb rr aA t'/\XQ n b q t t'/\Mx mb aA w w'/\Q9 n t' (b+1)
def XX(base n tb rb gb:Nat)(rr:Nat->Nat)(m:Nat):Prop:=∀(w:World) (mb:List Nat) (t:Tw) (p:Nat->Nat) (u:Value) (b:Nat),(b<n->S7 n t b<=m)->b<=n->U7 w base n tb rb gb rr mb t->C7 n t->(∀c,b<=c->c<n->DJ n t c)->Cx w mb n u p->Be n p->A5 b p->base<=w.heap.size->Q9 n t b->
 Calls Tryz.prog 174 #[.pointer (some (tb,0)),u,b] w fun r w'=>(∃z,r= .returned z)/\∃aA t',U7 w' base n tb rb gb rr aA t'/\Q6 n b p t t'/\Mx mb aA w w'/\Q9 n t' b
theorem L8.one{w:World}{mb:List Nat}{n:Nat}{o:Option (Nat->Nat)}{u:Value}(h:L8 w mb n o u):u.oneCell'=true:=by
 cases o with
 | none=>have h:u= .slice none 0 0:=h;rw[h];rfl
 | some r=>
  have h:Cx w mb n u r:=h;obtain⟨b,o,cap,rfl,_⟩:=h.at_;rfl
theorem Lk{base n tb rb gb:Nat}{rr:Nat->Nat}(bJ:1<=n)(hn:n<=64)(m:Nat)(hv:TV base n tb rb gb rr m):XX base n tb rb gb rr m:=by
 intro w mb t p u b bV hb aL hG hC hu hP hF cA cB;have HV:=Aa hv;have aZ:=Aa cB;have hnn:n*n<=4096:=Nat.mul_le_mul hn hn;obtain⟨gv,V,hM⟩:=aL;obtain⟨HM,HG,HC,HU,HP,HF,dE,bN⟩:=On hM hG hC hu hP hF bV (Ub w hM hG bJ hn u p b hb hu.sl hP);obtain⟨ub,uo,uc,rfl,_,_,_,_⟩:=hu.at_;obtain⟨E,hE⟩:=nA ((DL n t.R (n-b) b p).2);have HE:=Aa hE;have cL:=Aa (MR n t.R (n-b) b p);rw[hE]at bN cL;clear hv cB hM hG hC hu hP hF bV hE;by_cases hen:E=n
 .have cS:((E:Int)==(n:Int))=true:=by simp;omega
  have cR:(E==n)=true:=by simpa using hen
  have aN:=Aa (Q6.same HG.o HC.o ((Ri n t.R (n-b) b p).2 (by rw[HE.o];omega)));clear hen;go_enter Tryz.func174,Tryz.ntmps174
  go_wp2_with fail
  refine bN.o.mono ?_;rintro e w1⟨z,rfl,aH⟩;have c0:=aH.cell HM.o.c0;have bD:=Aa aH;clear aH;go_wp2_with fail
  ((try simp only[Exit.inBlock,Exit.then]);refine bodyPost_ret (results_none rfl _ _ _) rfl ?_)
  exact⟨⟨_,rfl⟩,mb,t,⟨gv,V,HM.o.ex bD.o⟩,aN.o,Mx.ofEx bD.o mb,aZ.o⟩
 .have aB:b<n:=by
   apply Classical.byContradiction;intro h;have h1:=cL.o;omega
  have cS:((E:Int)==(n:Int))=false:=aq;have cR:(E==n)=false:=by simpa using hen
  have dI:=Aa (show(t.g b).length<=4096 from by have:=aZ.o b (Nat.le_refl _) aB;omega);have dC:=Aa (show ¬Sf n t.R (n-b) b p from fun h=>hen (by have:=(Ri n t.R (n-b) b p).1 h;rw[HE.o]at this;omega));clear hen;go_enter Tryz.func174,Tryz.ntmps174
  go_wp2_with fail
  refine bN.o.mono ?_;rintro e w1⟨z,rfl,aH⟩;obtain⟨bD,HM,HU,dP⟩:=Eq aH (HM.o.ex aH) (HU.o.ex aH) (Nat.le_trans cA aH.size);clear aH;obtain⟨vals,bX,bW⟩:=HM.o.gro b aB;have bR:=Aa bX;have cK:=Aa bW;clear bX bW;have hgl:=dI.o;have c0:=HM.o.c0;have c2:=HM.o.c2;have c4:=HM.o.go.cell aB;have i1:(0:Int)<=(b:Int):=ac;have i2:(b:Int)<(n:Int):=ac;have EA:=(Ex.refl w1).alloc (.cells #[.slice (some ⟨ub,uo,none⟩) n uc] 22);have cV:=EA.cell c2;have cT:=EA.cell c4;have bQ:=Aa (show(gv b).ownBlock≠some gb from fun e=>(HM.o.gvm b _ aB e).2.1 rfl);have cI:=Aa (show some tb≠(gv b).ownBlock from fun e=>HM.o.tm (HM.o.gvm b tb aB e.symm).1);have cO:=Aa (show base<=((w1.alloc (.cells #[.slice (some ⟨ub,uo,none⟩) n uc] 22)).drew).heap.size from by have:=dP.o;simp;omega);go_upto_region 2 with fail
  go_cut [2] from 23 to 39 (fun s2 wx=>s2= .int .i64 b/\Hia (∃aK,U7 wx base n tb rb gb rr aK (Sk t b p)/\Mx mb aK w1 wx))
  case first=>
   go_region_law
   ((refine Co bp _ _ _ bp base 22 (.slice none 0 0) 1 24 Tryz.underlying37 BU rfl ae (gv b) (t.g b).length vals bp (Aj bR.o (((Ex.refl w1).alloc (.cells #[.slice (some ⟨ub,uo,none⟩) n uc] 22)).drew)) _ 1 [.slice (some ⟨ub,uo,none⟩) n uc] bp (Sl.own (Ft w1 (.slice (some ⟨ub,uo,none⟩) n uc) 22)) aj ai ac (cO.o) ?_;intro v8 w8 aD bY cC;have bH:=Aa (appd_of bR.o aD bY cC);have dN:=(bH.o.arr HM.o.go bQ.o).1.cell aB;have dM:=(bH.o.arr HM.o.go bQ.o).1.frz b;have cU:=bH.o.cell c2 cI.o;obtain⟨va,vc,cP⟩:=Ae aD;subst cP;clear aD bY cC))
   all_goals
   have bO:=Aa (show ∃aK,U7 (w8.setCell (gb,b) (.slice va ((t.g b).length+1) vc)) base n tb rb gb rr aK (Sk t b p)/\Mx mb aK w1 (w8.setCell (gb,b) (.slice va ((t.g b).length+1) vc)) from by
    obtain⟨aK,h1,h2⟩:=HM.o.addGen aB HU.o cK.o bH.o;exact⟨aK,⟨_,_,h1⟩,h2⟩)
   clear dN dM cU;go_wp2_with fail
   go_meet
   exact⟨rfl,bO⟩
  case rest=>
   obtain⟨rfl,aR⟩:=hcut;obtain⟨aM,⟨gv1,V1,cD⟩,aI⟩:=aR.o;have aJ:=Aa cD;have bF:=Aa aI;have cG:=Aa (HU.o.mx aI);clear aR cD aI c0 c2 c4 cV cT bR cK bQ cI cO HM HU EA;have c1:=aJ.o.c1;have c3:=aJ.o.ro b aB;have cM:=Aa (Sz wc n (V1 b) _ (aJ.o.row b aB).sl bJ ac (fun j hj=>(aJ.o.rep b j aB hj).one));have bG:=Aa (J8.start HG.o (fun c h1 h2=>HC.o c ac h2) HP.o HF.o);have dF:=Aa (show S7 n t b<=m from dE.o aB);have cN:=Aa (show Q9 n (Sk t b p) (b+1) from(aZ.o.up (by omega:b<=b+1)).mono (fun _ _ _ h=>h) fun c hc=>by
    show(if c=b then t.g c ++ [p] else t.g c)=t.g c
    rw[if_neg ac])
   go_wp2_with (go_at_call 209;refine cM.o.mono ?_;rintro e w9⟨g9,cap9,rfl,aE,bT⟩;have bP:=Aa aE;have aV:=Aa bT;clear aE bT)
   obtain⟨aY,aX,bE,cF,cH,aW⟩:=To (show ∀j,j<n->w9.cell? ⟨g9,j,none⟩=some (V1 b j) from fun j hj=>bP.o.cell hj) (show g9 ∉ aM from fun h=>by have:=aJ.o.low g9 h;have:=bP.o.lt.1;omega) (show ∀y,y<n->L8 w9 aM n (t.R b y) (V1 b y) from fun y hy=>(aJ.o.rep b y aB hy).mx (Mx.ofEx aV.o aM)) (cG.o.ex aV.o) (show U7 w9 base n tb rb gb rr aM (Sk t b p) from⟨_,_,aJ.o.ex aV.o⟩) ((Mx.ofEx bD.o mb).trans (bF.o.trans (Mx.ofEx aV.o aM)));clear c1 c3 cM bP aJ bF cG aV
   go_loopw [48,9] (fun x' r' wr=>∃(x:Nat) (aC:List Nat) (tc:Tw),x<=n/\x'= .int .i64 x/\Hia (U7 wr base n tb rb gb rr aC tc)/\Hia (J8 n b p t tc x)/\Hia (Mx mb aC w wr)/\Hia (∀j,j<n->wr.cell? ⟨g9,j,none⟩=some (V1 b j))/\Hia (g9 ∉ aC)/\Hia (∀y,y<n->L8 wr aC n (t.R b y) (V1 b y))/\Hia (Cx wr aC n (.slice (some ⟨ub,uo,none⟩) n uc) p)/\Hia (Q9 n tc (b+1))) (fun x' _ _=>n-(intOf x').toNat)
   case atStart=>exact⟨0,aM,Sk t b p,ac,rfl,cH,bG,aW,aY,aX,bE,cF,cN⟩
   case round=>
    clear cH bG aW aY aX bE cF cN;obtain⟨x,aC,tc,hx,rfl,aL,aF,aI,bC,bK,bB,bA,aT⟩:=hrel;by_cases hxn:x<n
    .have d1:=bC.o x hxn;have aA:=bB.o x hxn;have i3:(0:Int)<=(x:Int):=by omega
     have i4:(x:Int)<(n:Int):=ac
     cases hR:t.R b x with
     | none=>
      rw[hR]at aA;have aA:V1 b x= .slice none 0 0:=aA;rw[aA]at d1;have dK:=Aa (aF.o.skip hR);clear aA hR aF;go_wp2_with fail
      go_roundw
      case rel=>exact⟨x+1,aC,tc,ac,by go_num,aL,dK,aI,bC,bK,bB,bA,aT⟩
      case measure=>simp[intOf];omega
     | some r=>
      rw[hR]at aA;have aA:Cx wr aC n (V1 b x) r:=aA;obtain⟨vb,vo,vc,hV,_,_,_,_⟩:=aA.at_;obtain⟨_,_,bI,bU,cQ⟩:=HG.o.rep _ _ _ hR;have cJ:=Aa aA.sl;rw[hV]at d1 cJ;obtain⟨cZ,cW,dH,dA,bG,bF,aY,aX,bE,cX⟩:=Ha1 (Fl wr n r p _ _ cJ.o bA.o.sl ac bI.lt) (fun w2 (aO:Ex wr w2) z (hz:Cx w2 aC n z (Aq r p))=>HV.o w2 aC tc (Aq r p) z b (Nat.le_trans (PZ aF.o.le b) dF.o) aB (by obtain⟨gv',V',h⟩:=aL.o;exact⟨gv',V',h.ex aO⟩) aF.o.good aF.o.comp hz (bI.comp HP.o) (bU.comp HF.o) (Nat.le_trans cA (Nat.le_trans aI.o.size aO.size)) (by have h1:=aZ.o b (Nat.le_refl _) aB;rw[aF.o.gb,List.length_append];simp;omega) aT.o) (show ∀B∈aC,B<wr.heap.size from by obtain⟨gv',V',h⟩:=aL.o;exact h.low) hR aF.o aI.o bC.o bK.o bB.o bA.o;clear aA hR aF aI bC bK bB bA aT hV bI bU cQ aL;go_wp2_with (first|(go_at_call 108;refine cZ.o.mono ?_;rintro e w2⟨g2,rfl,aE,aO⟩;have dD:=Aa (Cx.new bJ aE dH.o);have cE:=Aa aO;clear aE aO)|(go_at_call 210;refine(cW.o _ cE.o _ dD.o).mono ?_;rintro e w3⟨⟨zz,rfl⟩,mb3,t3,aQ,aP,aS,aU⟩;have bS:=Aa aU;clear aU;have bM:=Aa aQ;have bL:=Aa aP;have aG:=Aa ((Mx.ofEx cE.o aC).trans aS);clear aQ aP aS))
      have dJ:=Aa (bG.o.step dA.o bL.o);have dO:=Aa (show ∀j,j<n->w3.cell? ⟨g9,j,none⟩=some (V1 b j) from fun j hj=>aG.o.cell (aY.o j hj) aX.o);have dL:=Aa (show g9 ∉ mb3 from fun h=>by
       rcases aG.o.mb g9 h with h1|h1
       .exact aX.o h1
       .have:=World.block_lt_of_cell? _ _ (aY.o 0 ac);dsimp only at this;omega)
      have dB:=Aa (show ∀y,y<n->L8 w3 mb3 n (t.R b y) (V1 b y) from fun y hy=>(bE.o y hy).mx aG.o);have cY:=Aa (cX.o.mx aG.o);have dG:=Aa (bF.o.trans aG.o);go_roundw
      case rel=>exact⟨x+1,mb3,t3,ac,by go_num,bM,dJ,dG,dO,dL,dB,cY,bS⟩
      case measure=>simp[intOf];omega
    .obtain rfl:x=n:=by omega
     have aN:=Aa (aF.o.fin aB HG.o HC.o HP.o HF.o (Nat.le_refl _));have dQ:=Aa (show Q9 x tc b from fun c hc bZ=>by
      by_cases e:c=b
      .subst e;have h1:=aZ.o c (Nat.le_refl _) bZ;have h2:=Zc HG.o aN.o.good aN.o.le dC.o aN.o.mem;rw[aF.o.gb,List.length_append];simp;omega
      .exact aT.o c ac bZ)
     clear aF aT;go_wp2_with fail
     ((try simp only[Exit.inBlock,Exit.then]);first|refine bodyPost_ret (results_none rfl _ _ _) rfl ?_|refine bodyPost_end (results_none rfl _ _ _) rfl ?_)
     exact⟨⟨_,rfl⟩,aC,tc,aL.o,aN.o,aI.o,dQ.o⟩
theorem Vm{base n tb rb gb:Nat}{rr:Nat->Nat}(cF:1<=n)(hn:n<=64)(m:Nat)(hv:TV base n tb rb gb rr m)(hi:XX base n tb rb gb rr m):TV base n tb rb gb rr (m+1):=by
 intro w mb t q u b cG aC aQ hG hC hu hP hF aJ bE bF;have hnn:n*n<=4096:=Nat.mul_le_mul hn hn;have HV:=Aa hv;have HI:=Aa hi;obtain⟨gv,V,hM⟩:=aQ;obtain⟨HM,HG,HC,HU,HP,HF,dE,cO⟩:=On hM hG hC hu hP hF bF bE;obtain⟨ub,uo,uc,rfl,_,_,_,bJ⟩:=hu.at_;have bC:=hP.lt b aC;have d1:=bJ b aC;have c1:=hM.c1;have c3:=hM.ro b aC;have d3:=(hM.row b aC).cell bC;have aA:=hM.rep b (q b) aC bC;have i1:(0:Int)<=(b:Int):=ac;have i2:(b:Int)<(n:Int):=ac;have i3:(0:Int)<=(q b:Int):=ac;have i4:(q b:Int)<(n:Int):=ac
 cases hR:t.R b (q b) with
 | some r=>
  rw[hR]at aA;have aA:Cx w mb n (V b (q b)) r:=aA;obtain⟨vb,vo,vc,hV,_,_,_,_⟩:=aA.at_;obtain⟨_,_,bB,cE,cD⟩:=hG.rep _ _ _ hR;have cM:=Aa aA.sl;rw[hV]at d3 cM;obtain⟨cZ,bR,bU,cN,cU⟩:=Of (GH w n r _ cM.o ac bB) (fun w1 (cP:Ex w w1) z hz=>Fl w1 n q (A8 n r) _ z (HU.o.sl.ex cP) hz ac hP.lt) hM.low (fun w2 (aD:Ex w w2) z (hz:Cx w2 mb n z (Aq q (A8 n r)))=>HI.o w2 mb t (Aq q (A8 n r)) z (b+1) (fun h=>by have:=muT_up (t:=t) h;omega) aC ⟨gv,V,HM.o.ex aD⟩ HG.o HC.o hz (hP.comp bB.inv) (hF.div bB cE cD) (Nat.le_trans aJ aD.size) dE.o) hR;have i5:IntKind.i64.wrap ((b:Int)+1)=(b:Int)+1:=IntWalk.i64_in _ ac;have aH:((b+1:Nat):Int)=(b:Int)+1:=by omega
  rw[aH]at cN;clear aA hR hV bB cE cD hG hC hu hP hF bF bE bJ hM hv hi aH cG;go_enter Tryz.func210,Tryz.ntmps210
  go_wp2_with (first|(go_at_call 109;refine cZ.o.mono ?_;rintro e w2⟨g2,rfl,aB,aD⟩;have dB:=Aa aB.li;have aM:=Aa aD;clear aB aD)|(go_at_call 108;refine(bR.o _ aM.o _ dB.o).mono ?_;rintro e w3⟨g3,rfl,aB,cA⟩;have dA:=Aa (Cx.new cF aB (fun B hB=>Nat.lt_of_lt_of_le (bU.o B hB) aM.o.size));have cJ:=Aa (aM.o.trans cA);clear aB cA)|(go_at_call 174;refine(cN.o _ cJ.o _ dA.o).mono ?_;rintro e w4⟨⟨zz,rfl⟩,mb4,t4,aO,aT,aR,aV⟩;have bP:=Aa aO;have bW:=Aa aT;have bT:=Aa ((Mx.ofEx cJ.o mb).trans aR);have bY:=Aa aV;clear aO aT aR aV))
  ((try simp only[Exit.inBlock,Exit.then]);first|refine bodyPost_ret (results_none rfl _ _ _) rfl ?_|refine bodyPost_end (results_none rfl _ _ _) rfl ?_)
  exact⟨⟨_,rfl⟩,mb4,t4,bP.o,bW.o.vis aC HG.o cU.o,bT.o,bY.o⟩
 | none=>
  rw[hR]at aA;have aA:V b (q b)= .slice none 0 0:=aA;rw[aA]at d3;have f3:=(hM.row b aC).frz (q b);obtain⟨cI,aI⟩:=hM.setRep aC bC HU.o;obtain⟨aZ,aL,cK,aX⟩:=Eq (show U7 (w.setCell (rr b,q b) (.slice (some ⟨ub,uo,none⟩) n uc)) base n tb rb gb rr mb (Ml t b (q b) q) from⟨_,_,cI⟩) aI (HU.o.mx aI) (OX.start aC hG hC hP hF hR);have bA:=Aa (bF.mono aX.o.le fun _ _=>rfl);have cX:=Aa (show S7 n (Ml t b (q b) q) b<=m from by have:=Zg (q:=q) hR bC;omega);have dD:=Aa aJ;clear aA hR hG hC hu hP hF bF bE bJ hM hv hi cG cI aI aJ;go_enter Tryz.func210,Tryz.ntmps210
  go_wp2_with fail
  have cL:=Aa (show base<=(w.setCell (rr b,q b) (.slice (some ⟨ub,uo,none⟩) n uc)).heap.size from Nat.le_trans dD.o aL.o.size);generalize w.setCell (rr b,q b) (.slice (some ⟨ub,uo,none⟩) n uc)=w1 at *;clear d1 c1 c3 d3 f3
  go_loopw [7] (fun k' wr=>∃(k:Nat) (aE:List Nat) (tc:Tw),k<=(t.g b).length/\k'= .int .i64 k/\Hia (U7 wr base n tb rb gb rr aE tc)/\Hia (OX n b q t tc k)/\Hia (Sv (Ml t b (q b) q) tc)/\Hia (Mx mb aE w wr)/\Hia (Cx wr aE n (.slice (some ⟨ub,uo,none⟩) n uc) q)/\Hia (Q9 n tc (b+1))/\Hia (base<=wr.heap.size)) (fun k' _=>(t.g b).length-(intOf k').toNat)
  case atStart=>exact⟨0,mb,_,ac,rfl,aZ,aX,Aa (fun _ _ _ h=>h),aL,cK,bA,cL⟩
  case round=>
   clear aZ aX aL cK bA cL;obtain⟨k,aE,tc,hk,rfl,aQ,aF,bL,bK,bH,bM,aJ⟩:=hrel;obtain⟨gv,V,hM⟩:=aQ.o;obtain⟨vals,aG,bD⟩:=hM.gro b aC;rw[aF.o.gb]at aG bD;have c2:=hM.c2;have c4:=hM.go.cell aC;have bE:=cO.o;by_cases hkn:k<(t.g b).length
   .obtain⟨s,hs⟩:∃s,(t.g b)[k]?=some s:=⟨_,List.getElem?_eq_getElem hkn⟩;obtain⟨v,bG⟩:∃v,vals[k]?=some v:=⟨_,List.getElem?_eq_getElem (by have:=aG.1;omega)⟩;have bI:=bD k s v hs bG;obtain⟨sb,so,sc,rfl,_,_,_,_⟩:=bI.at_;obtain⟨cR,gc,aU,_,cQ⟩:=Fs aG ac;unfold maxLen at cQ;rw[aU]at aG c4;have d5:wr.cell? (cR,k)=some (.slice (some (sb,so)) n sc):=by
     rw[World.ownsRow.cellAt aG k ac];exact bG
    have i5:(0:Int)<=(k:Int):=ac;have i6:(k:Int)<((t.g b).length:Int):=ac;obtain⟨cB,cC⟩:=HG.o.gen b s (List.mem_of_getElem? hs);obtain⟨bR,bU,cS,aX,HS,cY,cW,cT,bX⟩:=Ty (Fl wr n q s _ _ bH.o.sl bI.sl ac HP.o.lt) hM.low (fun w2 (aD:Ex wr w2) z (hz:Cx w2 aE n z (Aq q s))=>HV.o w2 aE tc (Aq q s) z b (Nat.le_trans (PZ bL.o b) cX.o) aC ⟨gv,V,hM.ex aD⟩ aF.o.good aF.o.comp hz (HP.o.comp cB) (HF.o.comp cC) (Nat.le_trans aJ.o aD.size) (by rw[aF.o.gb];exact cO.o) bM.o) aF.o hs bL.o bK.o bH.o aJ.o;clear aF bL bK bH bM aJ hs bG bI aG bD cB cC aQ hM aU;go_wp2_with (first|(go_at_call 108;refine bR.o.mono ?_;rintro e w2⟨g2,rfl,aB,aD⟩;have cV:=Aa (Cx.new cF aB bU.o);have aM:=Aa aD;clear aB aD)|(go_at_call 210;refine(cS.o _ aM.o _ cV.o).mono ?_;rintro e w3⟨⟨zz,rfl⟩,mb3,t3,aP,aN,aS,aW⟩;have bQ:=Aa aP;have aY:=Aa aN;have aK:=Aa ((Mx.ofEx aM.o aE).trans aS);have bZ:=Aa aW;clear aP aN aS aW))
    obtain⟨bN,bV,bS,bO,dF⟩:=Of (aX.o.step HS.o aY.o) (cY.o.trans aY.o.le) (cW.o.trans aK.o) (cT.o.mx aK.o) (Nat.le_trans bX.o aK.o.size);go_roundw
    case rel=>exact⟨k+1,mb3,t3,ac,by go_num,bQ,bN,bV,bS,bO,bZ,dF⟩
    case measure=>simp[intOf];omega
   .obtain rfl:k=(t.g b).length:=by omega
    obtain⟨ga,gc,cH⟩:=Ae aG;rw[cH]at c4;have dC:=Aa (aF.o.fin aC HP.o (Nat.le_refl _));clear aF aG bD cH hM;go_wp2_with fail
    ((try simp only[Exit.inBlock,Exit.then]);first|refine bodyPost_ret (results_none rfl _ _ _) rfl ?_|refine bodyPost_end (results_none rfl _ _ _) rfl ?_)
    exact⟨⟨_,rfl⟩,aE,tc,aQ.o,dC.o,bK.o,bM.o⟩
theorem NH{base n tb rb gb:Nat}{rr:Nat->Nat}(aA:1<=n)(hn:n<=64):∀m,TV base n tb rb gb rr m
 | 0=>fun w mb t q u b aB hb=>by
  have h1:1*(n+1)<=(n-b)*(n+1):=Nat.mul_le_mul_right _ ac;unfold S7 at aB;omega
 | m+1=>Vm aA hn m (NH aA hn m) (Lk aA hn m (NH aA hn m))
theorem Zv{base n tb rb gb:Nat}{rr:Nat->Nat}(aA:1<=n)(hn:n<=64)(m:Nat):XX base n tb rb gb rr m:=Lk aA hn m (NH aA hn m)
theorem RW:(Tryz.prog.info? 37).map (fun i=>(i.zero,i.size,i.bytes))=some (some (.slice none 0 0),1,24):=ah
structure NT(w0 wr:World)(n tb rb gb b:Nat)(rr:Nat->Nat)(V:Nat->Nat->Value):Prop where
 c0:wr.cell? (tb,0)=some (.int .i64 n)
 c1:wr.cell? (tb,1)=some (.slice (some (rb,0)) n n)
 c2:wr.cell? (tb,2)=some (.slice (some (gb,0)) n n)
 ro:AH wr w0.heap.size 37 rb n (fun c=>if c<b then .slice (some ⟨rr c,0,none⟩) n n else .slice none 0 0)
 row:∀c,c<b->AH wr w0.heap.size 22 (rr c) n (V c)
 nilv:∀c x,c<b->x<n->x≠c->V c x= .slice none 0 0
 idv:∀c,c<b->∃g,V c c= .slice (some ⟨g,0,none⟩) n n/\AH wr w0.heap.size 3 g n (iv fun i=>(Ek i:Int))/\g≠gb/\g≠rb/\∀d,d<b->g≠rr d
 go:AH wr w0.heap.size 37 gb n (fun _=> .slice none 0 0)
 d1:tb≠rb/\tb≠gb/\rb≠gb
 d2:∀c,c<b->rr c≠tb/\rr c≠rb/\rr c≠gb
 d3:∀c d,c<b->d<b->rr c=rr d->c=d
 ex:Ex w0 wr
theorem NT.next{w0 wr w2 w4:World}{n tb rb gb b rx gi:Nat}{rr:Nat->Nat}{V:Nat->Nat->Value}(h:NT w0 wr n tb rb gb b rr V)(hb:b<n)
  (aB:Ex wr w2) (hr:AH w2 wr.heap.size 22 rx n (fun _=> .slice none 0 0))
  (aA:Ex (w2.setCell (rb,b) (.slice (some (rx,0)) n n)) w4) (hi:AH w4 (w2.setCell (rb,b) (.slice (some (rx,0)) n n)).heap.size 3 gi n (iv fun i=>(Ek i:Int))):
  NT w0 (w4.setCell (rx,b) (.slice (some (gi,0)) n n)) n tb rb gb (b+1) (Az rr b rx) (fun c=>if c=b then Az (fun _=> .slice none 0 0) b (.slice (some (gi,0)) n n) else V c):=by
 have aG:(w2.setCell (rb,b) (.slice (some ⟨rx,0,none⟩) n n)).heap.size=w2.heap.size:=b8;have hrl:=hr.lt;have aL:=hi.lt;rw[aG]at aL;have hz2:=aB.size;have aJ:=h.ex.size;have aI:∀ {a:Addr} {u:Value},wr.cell? a=some u->a.block<wr.heap.size:=fun k=>World.block_lt_of_cell? _ _ k;have aK:=aI h.c0;have hrb:=h.ro.lt.2;have hgb:=h.go.lt.2;have aD:rx≠tb/\rx≠rb/\rx≠gb:=by dsimp only at aK;omega
 have aC:∀ {a:Addr} {u:Value},wr.cell? a=some u->a.block≠rb->(w4.setCell (rx,b) (.slice (some ⟨gi,0,none⟩) n n)).cell? a=some u:=fun {a u} k k2=>by
  have k3:=aI k;rw[World.cell?_setCell_other _ _ _ _ (by
    intro e;have:rx=a.block:=by rw[<-e]
    omega)]
  refine aA.cell ?_;rw[World.cell?_setCell_other _ _ _ _ (by intro e;exact k2 (by rw[<-e]))];exact aB.cell k
 have own:∀ {e:TypeId} {g m:Nat} {c:Nat->Value},AH wr w0.heap.size e g m c->g≠rb->AH (w4.setCell (rx,b) (.slice (some ⟨gi,0,none⟩) n n)) w0.heap.size e g m c:=fun {e g m c} k k2=>by
  have k3:=k.lt.2;exact(((k.ex aB).other (a:=⟨rb,b,none⟩) k2 _).ex aA).other (a:=⟨rx,b,none⟩) (by show g≠rx;omega) _
 have aE:AH w4 w0.heap.size 22 rx n (fun _=> .slice none 0 0):=((hr.other (a:=⟨rb,b,none⟩) aD.2.1 _).ex aA).mono aJ;have aM:Ex w0 w4:=((h.ex.trans aB).setCell (p:=⟨rb,b,none⟩) h.ro.lt.1 _).trans aA;refine⟨aC h.c0 h.d1.1,aC h.c1 h.d1.1,aC h.c2 h.d1.1,?_,fun c hc=>?_,fun c x hc hx aF=>?_,fun c hc=>?_,own h.go (Ne.symm h.d1.2.2),h.d1,fun c hc=>?_,fun c d hc hd e=>?_,aE.exSet (Nat.le_refl _) aM b _⟩
 .have k:=(((h.ro.ex aB).set b (.slice (some ⟨rx,0,none⟩) n n)).ex aA).other (a:=⟨rx,b,none⟩) (by show rb≠rx;exact Ne.symm aD.2.1) (.slice (some ⟨gi,0,none⟩) n n);refine k.congr fun j hj=>?_;unfold Az;dsimp only;by_cases e:j=b
  .subst e;rw[if_pos rfl,if_pos ac,if_pos rfl]
  .rw[if_neg e,if_neg e];by_cases e2:j<b
   .rw[if_pos e2,if_pos ac]
   .rw[if_neg e2,if_neg ac]
 .by_cases e:c=b
  .subst e;rw[Ab,if_pos rfl];exact aE.set c _
  .rw[Ad _ _ e,if_neg e];exact own (h.row c ac) (h.d2 c ac).2.1
 .show(if c=b then Az (fun _=> .slice none 0 0) b (.slice (some ⟨gi,0,none⟩) n n) else V c) x=_
  by_cases e:c=b
  .subst e;rw[if_pos rfl,Ad _ _ aF]
  .rw[if_neg e];exact h.nilv c x ac hx aF
 .show ∃g,(if c=b then Az (fun _=> .slice none 0 0) b (.slice (some ⟨gi,0,none⟩) n n) else V c) c=_/\_
  have aH:gi≠rx:=ac;by_cases e:c=b
  .subst e;rw[if_pos rfl,Ab];refine⟨gi,rfl,(hi.mono (by rw[aG];omega)).other (a:=⟨rx,c,none⟩) aH _,ac,ac,fun d hd=>?_⟩;unfold Az;split
   .exact aH
   .have:=(h.row d ac).lt.2;omega
  .rw[if_neg e];obtain⟨g,g1,g2,g3,g4,g5⟩:=h.idv c ac;refine⟨g,g1,own g2 g4,g3,g4,fun d hd=>?_⟩;unfold Az;split
   .have:=g2.lt.2;omega
   .exact g5 d ac
 .unfold Az;split
  .exact aD
  .exact h.d2 c ac
 .unfold Az at e;split at e <;> split at e
  .omega
  .have:=(h.row d ac).lt.2;omega
  .have:=(h.row c ac).lt.2;omega
  .exact h.d3 c d ac ac e
theorem NT.fin{w0 wr:World}{n tb rb gb:Nat}{rr:Nat->Nat}{V:Nat->Nat->Value}(hn:1<=n)(h:NT w0 wr n tb rb gb n rr V):∃mb,Sn wr w0.heap.size n tb rb gb rr (fun _=> .slice none 0 0) V mb (N9 n):=by
 have aA:∀B,B∈gb :: (List.range n).map rr↔B=gb∨∃c,c<n/\rr c=B:=fun B=>by
  rw[List.mem_cons,List.mem_map];simp only[List.mem_range]
 refine⟨gb :: (List.range n).map rr,h.c0,h.c1,h.c2,fun hm=>?_,fun b hb=>?_,fun hm=>?_,h.row,fun b x hb hx=>?_,h.go,fun b hb=>⟨[],World.ownsRow_nil _ _ _ _,fun i f u h1=>by simp[N9]at h1⟩,(aA gb).2 (.inl rfl),fun b hb=>(aA _).2 (.inr ⟨b,hb,rfl⟩),fun b B hb e=>(by cases e),fun b hb=>Ne.symm (h.d2 b hb).2.2,h.d3,fun b c B hb hc e=>(by cases e),fun B hB=>?_⟩
 .rcases (aA tb).1 hm with e|⟨c,hc,e⟩
  .exact h.d1.2.1 e
  .exact(h.d2 c hc).1 e
 .have:=h.ro.cell hb;rw[this,if_pos hb]
 .rcases (aA rb).1 hm with e|⟨c,hc,e⟩
  .exact h.d1.2.2 e
  .exact(h.d2 c hc).2.1 e
 .show L8 wr _ n (if b<n/\x=b then some Ek else none) (V b x)
  by_cases e:x=b
  .subst e;rw[if_pos ⟨hb,rfl⟩];obtain⟨g,g1,g2,g3,g4,g5⟩:=h.idv x hb;rw[g1];exact Cx.of g2.li hn fun B e=>by
    injection e with e;have e:g=B:=e;subst e;intro hm;rcases (aA g).1 hm with e|⟨c,hc,e⟩
    .exact g3 e
    .exact g5 c hc e.symm
  .rw[if_neg (fun h=>e h.2)];exact h.nilv b x hb hx e
 .rcases (aA B).1 hB with e|⟨c,hc,e⟩
  .subst e;exact h.go.lt
  .subst e;exact(h.row c hc).lt
theorem NT.start{w a c:World}{n rb gb:Nat}(aB:Ex w a)(aA:Ex a c)(hr:AH c w.heap.size 37 rb n (fun _=> .slice none 0 0))(hg:AH c w.heap.size 37 gb n (fun _=> .slice none 0 0))(aC:rb≠gb):
  NT w (c.alloc (.cells #[n,.slice (some (rb,0)) n n,.slice (some (gb,0)) n n] 243)) n c.heap.size rb gb 0 (fun _=>0) (fun _ _=> .slice none 0 0):=by
 have h1:=hr.lt.2;have h2:=hg.lt.2;refine⟨ag,ag,ag,(hr.alloc _).congr fun j hj=>by rw[if_neg ac],fun c hc=>ac,fun c x hc=>ac,fun c hc=>ac,hg.alloc _,⟨ac,ac,aC⟩,fun c hc=>ac,fun c d hc=>ac,(aB.trans aA).alloc _⟩
theorem N8(w:World)(n:Nat)(aK:1<=n)(hn:n<=64):
  Calls Tryz.prog 173 #[n] w fun r w'=>∃tb rb gb rr mb,r= .returned (.pointer (some ⟨tb,0,none⟩))/\U7 w' w.heap.size n tb rb gb rr mb (N9 n)/\Ex w w':=by
 go_enter Tryz.func173,Tryz.ntmps173
 go_upto_region 1 with fail
 go_cut [3] from 5 to 12 (fun s3 wx=>∃tb rb gb,s3= .pointer (some ⟨tb,0,none⟩)/\Hia (NT w wx n tb rb gb 0 (fun _=>0) (fun _ _=> .slice none 0 0)))
 case first=>
  have H0:Hia True:=trivial
  go_region_held3 (fun w'=>True) (exact trivial)
   ((refine Fd 241 37 (.slice none 0 0) 24 Tryz.underlying241 RW rfl n ac ai ?_;intro wm aA hx;(first|(clear H0;have O1:=Aa aA;have X1:=Aa hx;clear aA hx)|(have O2:=Aa aA;have X2:=Aa hx;clear aA hx));go_simp))
  all_goals
   have Y1:=((Ex.refl w).drew).trans X1.o;have L1:=O1.o.lt.2;have P1:=O1.o.ex X2.o;have P2:=O2.o.mono (Y1.size);go_wp2_with fail
   go_meet
   first
      | exact⟨_,_,_,rfl,Aa (NT.start Y1 X2.o P1 P2 (by show w.heap.size≠_;have:=Y1.size;have h9:w.heap.size<_:=L1;omega))⟩
      | exact⟨_,_,_,rfl,Aa (NT.start Y1 X2.o P2 P1 (by show _≠w.heap.size;have:=Y1.size;have h9:w.heap.size<_:=L1;omega))⟩
 case rest=>
  obtain⟨tb,rb,gb,rfl,aB⟩:=hcut;go_wp2_with fail
  go_loopw [13] (fun b' wr=>∃(b:Nat) (rr:Nat->Nat) (V:Nat->Nat->Value),b<=n/\b'= .int .i64 b/\Hia (NT w wr n tb rb gb b rr V)) (fun b' _=>n-(intOf b').toNat)
  case atStart=>exact⟨0,_,_,ac,rfl,aB⟩
  case round=>
   clear aB;obtain⟨b,rr,V,hb,rfl,aB⟩:=hrel;by_cases hbn:b<n
   .have c1:=aB.o.c1;have c3:wr.cell? (rb,b)=some (.slice none 0 0):=by rw[aB.o.ro.cell hbn,if_neg ac]
    have f3:=aB.o.ro.frz b;have i1:(0:Int)<=(b:Int):=ac;have i2:(b:Int)<(n:Int):=ac;have E0:Ex wr wr.drew:=(Ex.refl wr).drew;go_upto_region 5 with fail
    go_cut [4] from 16 to 24 (fun s4 wx=>s4= .int .i64 b/\Hia (∃rx w2,wx=w2.setCell (rb,b) (.slice (some ⟨rx,0,none⟩) n n)/\Ex wr w2/\AH w2 wr.heap.size 22 rx n (fun _=> .slice none 0 0)))
    case first=>
     go_region_with (refine Fd 37 22 (.slice none 0 0) 24 Tryz.underlying37 BU rfl n ac ai ?_;intro wm aA hx;have E1:=E0.trans hx;have aE:=Aa aA;have k1:=E1.cell c1;have k3:=E1.cell c3;have g3:=E1.frz c3 f3;clear aA;go_simp)
     all_goals
      go_wp2_with fail
      go_meet
      exact⟨rfl,Aa ⟨wr.heap.size,wm,rfl,E1,aE.o⟩⟩
    case rest=>
     obtain⟨rfl,aF⟩:=hcut;obtain⟨rx,w2,rfl,aC,hr⟩:=aF.o;have aL:=Aa aC;have HR:=Aa hr;have aM:=Aa aB.o;have hrx:=hr.lt;have aJ:rx≠rb:=by have:=aB.o.ro.lt.2;omega
     have c1:=aC.cell c1;have c6:(w2.setCell (rb,b) (.slice (some ⟨rx,0,none⟩) n n)).cell? (tb,1)=some (.slice (some (rb,0)) n n):=by
      rw[World.cell?_setCell_other _ _ _ _ (by intro e;exact aB.o.d1.1 (by injection e with e;exact e.symm))];exact c1
     have c7:(w2.setCell (rb,b) (.slice (some ⟨rx,0,none⟩) n n)).cell? (rb,b)=some (.slice (some (rx,0)) n n):=by
      rw[((aB.o.ro.ex aC).set b _).cell hbn,Ab]
     have aD:=hr.other (a:=⟨rb,b,none⟩) aJ (.slice (some ⟨rx,0,none⟩) n n);have c8:=aD.cell hbn;have f8:=aD.frz b;clear aF aC hr c1 c3 f3 E0;generalize hW3:w2.setCell (rb,b) (.slice (some ⟨rx,0,none⟩) n n)=w3 at *;have aG:=Aa hW3;have E0:Ex w3 w3.drew:=(Ex.refl w3).drew;have aN:=Aa (fun w4=>ID w4 n ac);clear hW3;go_wp2_with fail
     go_region_with (go_at_call 102;(with_reducible refine(aN.o _).mono ?_);rintro e wx1⟨gi,rfl,aA,aI⟩;have E1:=E0.trans aI;have aE:=Aa aA;have k6:=E1.cell c6;have k7:=E1.cell c7;have k8:=E1.cell c8;have g8:=E1.frz c8 f8;clear aA)
     all_goals
      have aH:=Aa (aM.o.next (gi:=gi) (w4:=wx1) hbn aL.o HR.o (by rw[aG.o];exact E1) (by rw[aG.o];exact aE.o));clear c6 c7 c8 f8 k6 k7 k8 g8 aD;go_wp2_with fail
      go_roundw
      case rel=>first|exact⟨b+1,_,_,ac,by go_num,aH⟩|((repeat apply Exists.intro);exact⟨⟨b+1,_,_,ac,by go_num,aH⟩,rfl⟩)
      case measure=>simp[intOf];omega
   .obtain rfl:b=n:=by omega
    have aO:=Aa (aB.o.fin aK);have HX:=Aa aB.o.ex;clear aB;go_wp2_with fail
    go_ret;obtain⟨mb,hm⟩:=aO.o;exact⟨tb,rb,gb,rr,mb,rfl,⟨_,_,hm⟩,HX.o⟩
theorem XA{n:Nat}{R:Nat->Nat->Option (Nat->Nat)}{k c:Nat}{p r:Nat->Nat}(h:R c (CZ (R c) p c n)=some r):TN n R (k+1) c p=TN n R k (c+1) (Aq r p):=by
 show TN n R k (c+1) (Aq ((R c (CZ (R c) p c n)).getD Ek) p)=_
 rw[h];rfl
theorem QQ{R:Nat->Option (Nat->Nat)}{p:Nat->Nat}{c n:Nat}(hc:c<n):∀x,x<=n->CZ R p c x<n
 | 0,_=>hc
 | x+1,h=>by
  unfold CZ;split
  .omega
  .exact QQ hc x (by omega)
theorem zbv{P:Prop}(h:P:=by
 go_wp2_with fail
 go_quiet (fail)
 go_wp2_with fail
 go_roundw
 case rel=>exact⟨x+1,_,by omega,by go_num,by rw[aE.o],by rw[<-aJ.o,World.drewN_drewN]⟩
 case measure=>simp[intOf];omega):P:=h
theorem zbr{P:Prop}(h:P:=by
 clear aA hR hV hlt;exact zbv):P:=h
theorem PS(w:World){base n tb rb gb:Nat}{rr:Nat->Nat}{gv:Nat->Value}{V:Nat->Nat->Value}{mb:List Nat}{t:Tw}(hm:Sn w base n tb rb gb rr gv V mb t)(hG:C7 n t)(hn1:1<=n)(hn:n<=64)
  (u:Value) (f:Nat->Nat) (b:Nat) (hb:b<n) (hu:Al w u (li n f)) (hP:Be n f):
  Calls Tryz.prog 211 #[.pointer (some (tb,0)),u,b] w fun r w'=>∃v,r= .returned v/\Al w' v (li n (TN n t.R (n-(b+1)) (b+1) f))/\(v=u∨∃g cap,v= .slice (some ⟨g,0,none⟩) n cap/\w.heap.size<=g)/\Ex w w':=by
 obtain⟨HM,HG,HU,HP⟩:=Eq hm hG hu hP;obtain⟨ua,uc,rfl,_,_,_⟩:=DU hu;obtain⟨E,hE⟩:=nA (TN n t.R (n-(b+1)) (b+1) f);have HE:=Aa hE;rw[hE];clear hm hG hu hP hE;go_enter Tryz.func211,Tryz.ntmps211
 go_wp2_with fail
 go_loopw [1,7] (fun p' c' wr=>∃(c:Nat) (h:Nat->Nat) (a:Option Addr) (cap:Nat),c<=n/\c'= .int .i64 c/\p'= .slice a n cap/\Hia (Al wr (.slice a n cap) (li n h))/\Hia (Be n h)/\Hia (TN n t.R (n-c) c h=E)/\Hia (Value.slice a n cap= .slice ua n uc∨∃g aI,Value.slice a n cap= .slice (some ⟨g,0,none⟩) n aI/\w.heap.size<=g)/\Hia (Ex w wr)) (fun _ c' _=>n-(intOf c').toNat)
 case atStart=>exact⟨b+1,f,ua,uc,ac,by go_num,rfl,HU,HP,HE,Aa (.inl rfl),Aa (Ex.refl _)⟩
 case round=>
  clear HU HP HE;obtain⟨c,h,a,cap,hc,rfl,rfl,hu,hp,he,aM,hx⟩:=hrel;have c0:=hx.o.cell HM.o.c0;have c1:=hx.o.cell HM.o.c1;by_cases hcn:c<n
  .obtain⟨pb,po,rfl,_,aL⟩:=Ew hu.o ac;have aS:=Aa aL;have d2:=hx.o.cell (HM.o.ro c hcn);have D2:=Aa d2;have C1:=Aa c1;have i1:(0:Int)<=(c:Int):=by omega
   have i2:(c:Int)<(n:Int):=ac;clear aL;go_wp2_with fail
   go_loopw [8,30] (fun m' x' w2=>∃(x q:Nat),x<=n/\x'= .int .i64 x/\m'= .int .i64 (CZ (t.R c) h c x:Int)/\w2=wr.drewN q) (fun _ x' _=>n-(intOf x').toNat)
   case atStart=>exact⟨0,0,ac,rfl,rfl,rfl⟩
   case round=>
    clear c0 c1 d2;obtain⟨x,q,aW,rfl,rfl,rfl⟩:=hrel;have aG:=Aa (QQ (R:=t.R c) (p:=h) hcn x aW);by_cases hxn:x<n
    .have EQ:=Aa ((Ex.refl wr).drewN q);have d3:=EQ.o.cell (hx.o.cell ((HM.o.row c hcn).cell hxn));have aA:=HM.o.rep c x hcn hxn;have aN:CZ (t.R c) h c (x+1)=if (t.R c x).isSome=true/\h x<h (CZ (t.R c) h c x) then x else CZ (t.R c) h c x:=rfl;have aC:=Aa aN;obtain⟨m,hm⟩:=nA (CZ (t.R c) h c x);rw[hm]at aG aC ⊢;have aF:m<n:=aG.o;have d4:=EQ.o.cell (aS.o x hxn);have d5:=EQ.o.cell (aS.o m aF);have i3:(0:Int)<=(x:Int):=by omega
     have i4:(x:Int)<(n:Int):=ac;have i5:(0:Int)<=(m:Int):=ac;have i6:(m:Int)<(n:Int):=ac;obtain⟨W,hW⟩:=nA (wr.drewN q);rw[hW]at d3 d4 d5 ⊢;have aJ:=Aa hW;clear aN hm hW
     cases hR:t.R c x with
     | none=>
      rw[hR]at aA aC;have aA:V c x= .slice none 0 0:=aA;rw[aA]at d3;have aE:=Aa (show CZ (t.R c) h c (x+1)=m from by rw[aC.o,if_neg ag]);clear aA hR;exact zbv
     | some r=>
      rw[hR]at aA aC;have aA:Cx w mb n (V c x) r:=aA;obtain⟨vb,vo,vc,hV,_,_,_,_⟩:=aA.at_;rw[hV]at d3;by_cases hlt:h x<h m
      .have aE:=Aa (show CZ (t.R c) h c (x+1)=x from by rw[aC.o,if_pos ⟨rfl,hlt⟩]);have b1:decide ((h x:Int)<(h m:Int))=true:=by simp;omega
       have b2:decide (h x<h m)=true:=by simpa using hlt
       exact zbr
      .have aE:=Aa (show CZ (t.R c) h c (x+1)=m from by rw[aC.o,if_neg (fun e=>hlt e.2)]);have b1:decide ((h x:Int)<(h m:Int))=false:=by simp;omega
       have b2:decide (h x<h m)=false:=by simpa using hlt
       exact zbr
    .obtain rfl:x=n:=by omega
     have aD:=HG.o.one c hcn;obtain⟨aO,_,_⟩:=GT (R:=t.R c) (p:=h) (c:=c) (by rw[aD];rfl) x;obtain⟨r,hr⟩:=Option.isSome_iff_exists.1 aO;obtain⟨m,hm⟩:=nA (CZ (t.R c) h c x);have aV:=Aa (show TN x t.R (x-(c+1)) (c+1) (Aq r h)=E from by
      rw[<-he.o,show x-c=x-(c+1)+1 by omega,XA hr])
     rw[hm]at hr aG ⊢;have aF:m<x:=aG.o;have aA:=HM.o.rep c m hcn aF;rw[hr]at aA;have aA:Cx w mb x (V c m) r:=aA;obtain⟨_,_,aH,_,_⟩:=HG.o.rep _ _ _ hr;obtain⟨vb,vo,vc,hV,_,_,_,_⟩:=aA.at_;have EQ:=Aa ((Ex.refl wr).drewN q);have d3:=EQ.o.cell (hx.o.cell ((HM.o.row c hcn).cell aF));have d4:=EQ.o.cell D2.o;have c1:=EQ.o.cell C1.o;rw[hV]at d3;have aR:=Aa (aA.ex (hx.o.trans EQ.o)).sl;rw[hV]at aR;have aY:=Aa (Fl (wr.drewN q) x r h _ _ aR.o (hu.o.ex EQ.o) ac aH.lt);have aQ:=Aa (aH.comp hp.o);have i5:(0:Int)<=(m:Int):=bf;have i6:(m:Int)<(x:Int):=ac;have aZ:=Aa (hx.o.trans EQ.o).size;clear aA hr hV aO aD aH he hm;go_wp2_with (go_at_call 108;refine aY.o.mono ?_;rintro e w3⟨g3,rfl,aB,aK⟩;have aT:=Aa aB.li;have aP:=Aa (hx.o.trans (EQ.o.trans aK));have aU:=Aa (Nat.le_trans aZ.o aB.lt.1);clear aB aK)
     go_roundw
     case rel=>first|exact⟨c+1,Aq r h,some ⟨g3,0,none⟩,x,ac,by go_num,rfl,aT,aQ,aV,Aa (.inr ⟨g3,x,rfl,aU.o⟩),aP⟩|((repeat apply Exists.intro);exact⟨⟨c+1,Aq r h,some ⟨g3,0,none⟩,x,ac,by go_num,rfl,aT,aQ,aV,Aa (.inr ⟨g3,x,rfl,aU.o⟩),aP⟩,rfl⟩)
     case measure=>simp[intOf];omega
  .obtain rfl:c=n:=by omega
   have bB:=Aa (show h=E from by rw[<-he.o,Nat.sub_self];rfl);have aX:=Aa hu.o;have bA:=Aa aM.o;clear he hu aM;go_wp2_with fail
   go_ret;refine⟨.slice a c cap,rfl,by rw[<-bB.o];exact aX.o,bA.o,hx.o⟩
theorem UP:(Tryz.prog.info? 90).map (fun i=>(i.zero,i.size,i.bytes))=some (some (.agg #[(0:Int),.slice none 0 0,.slice none 0 0]),3,56):=ah
def RQ:List Lv->List (Value × Value)->List Value
 | l :: L,o :: os=> .int .i64 l.pt :: o.1 :: o.2 :: RQ L os
 | _,_=> []
theorem Iz:∀(L:List Lv) (os:List (Value × Value)),os.length=L.length->(RQ L os).length=L.length*3
 | [], [],_=>rfl
 | l :: L,o :: os,h=>by
  have:=Iz L os ay;simp only[RQ,List.length_cons];omega
 | [],o :: os,h=>by simp at h
 | l :: L, [],h=>by simp at h
theorem Ke:∀(L:List Lv) (os:List (Value × Value)) (i:Nat) (l:Lv) (o:Value × Value),L[i]?=some l->os[i]?=some o->(RQ L os)[3*i]?=some (.int .i64 l.pt)/\(RQ L os)[3*i+1]?=some o.1/\(RQ L os)[3*i+2]?=some o.2
 | l' :: L,o' :: os,0,l,o,h,k=>by
  simp at h k;subst h k;exact⟨rfl,rfl,rfl⟩
 | l' :: L,o' :: os,i+1,l,o,h,k=>by
  have:=Ke L os i l o ay (by simpa using k);rw[show 3*(i+1)=3*i+3 by omega,show 3*i+3+1=3*i+1+3 by omega,show 3*i+3+2=3*i+2+3 by omega];simpa[RQ]using this
 | [],os,i,l,o,h,k=>by simp at h
 | l' :: L, [],i,l,o,h,k=>by simp at k
theorem Tc:∀(L:List Lv) (os:List (Value × Value)) (l:Lv) (o:Value × Value),os.length=L.length->RQ (L ++ [l]) (os ++ [o])=RQ L os ++ [.int .i64 l.pt,o.1,o.2]
 | [], [],l,o,_=>rfl
 | l' :: L,o' :: os,l,o,h=>by
  have:=Tc L os l o ay;simp only[List.cons_append,RQ,this]
 | [],o' :: os,l,o,h=>by simp at h
 | l' :: L, [],l,o,h=>by simp at h
def DX(w:World)(v:Value)(L:List Lv):Prop:=∃os:List (Value × Value),os.length=L.length/\Sl w v L.length 3 (RQ L os)/\∀(i:Nat) (l:Lv) (o:Value × Value),L[i]?=some l->os[i]?=some o->Al w o.1 l.orb/\BZ w o.2 l.reps
theorem zbT{P:Prop}(h:P:=by
 obtain⟨os,h1,h2,h3⟩:=h;exact⟨os,h1,h2.ex hx,fun i l o a b=>⟨(h3 i l o a b).1.ex hx,(h3 i l o a b).2.ex hx⟩⟩):P:=h
theorem DX.ex{w w':World}{v:Value}{L:List Lv}(h:DX w v L)(hx:Ex w w'):DX w' v L:=by
 exact zbT
theorem DX.nil(w:World):DX w (.slice none 0 0) []:=⟨[],rfl,Sl.nil w 3,fun i l o h=>by simp at h⟩
theorem zco{P:Prop}(h:P:=by
 obtain⟨k1,k2⟩:=h7 i l _ hl ho;exact⟨_,_,h9 _ _ g1,h9 _ _ g2,h9 _ _ g3,k1,k2⟩):P:=h
theorem DX.open{w:World}{v:Value}{L:List Lv}(h:DX w v L):∃a cap,v= .slice a L.length cap/\L.length<=cap/\cap<=maxLen/\
  (0<L.length->∃b o,a=some ⟨b,o,none⟩/\∀(i:Nat) (l:Lv),L[i]?=some l->∃u r,w.cell? ⟨b,o+3*i,none⟩=some (.int .i64 l.pt)/\w.cell? ⟨b,o+(3*i+1),none⟩=some u/\w.cell? ⟨b,o+(3*i+2),none⟩=some r/\Al w u l.orb/\BZ w r l.reps):=by
 obtain⟨os,h1,⟨h2,a,cap,h3,h4,h5,h6⟩,h7⟩:=h;refine⟨a,cap,h3,h4,h5,fun hn=>?_⟩;obtain⟨b,o,h8,h9⟩:=h6 hn;refine⟨b,o,h8,fun i l hl=>?_⟩;have hi:=(List.getElem?_eq_some_iff.1 hl).1;have ho:os[i]?=some (os[i]'ac):=List.getElem?_eq_getElem _;obtain⟨g1,g2,g3⟩:=Ke L os i l _ hl ho;exact zco
theorem Mx.cons{mb aA:List Nat}{w w':World}(h:Mx mb aA w w')(q:Nat):Mx (q :: mb) (q :: aA) w w':=
 ⟨h.os,h.tape,h.output,h.size,fun i hi hn=>h.block i hi (fun hm=>hn (List.mem_cons_of_mem _ hm)),fun B hB=>by
  rcases List.mem_cons.1 hB with e|e
  .exact .inl (by rw[e];exact List.mem_cons_self ..)
  .rcases h.mb B e with k|k
   .exact .inl (List.mem_cons_of_mem _ k)
   .exact .inr k⟩
structure SI(w:World)(mb:List Nat)(v:Value)(l:List Int):Prop where
 sl:Al w v l
 off:0<l.length->∀B,v.ownBlock=some B->B ∉ mb/\B<w.heap.size
theorem Sl.mx{mb aA:List Nat}{w w':World}(hx:Mx mb aA w w'){v:Value}{n size:Nat}{xs:List Value}(h:Sl w v n size xs)(ho:0<n->∀B,v.ownBlock=some B->B ∉ mb):Sl w' v n size xs:=by
 obtain⟨h1,a,cap,rfl,h3,h4,h5⟩:=h;refine⟨h1,a,cap,rfl,h3,h4,fun hn=>?_⟩;obtain⟨b,o,rfl,h6⟩:=h5 hn;exact⟨b,o,rfl,fun j u hu=>hx.cell (h6 j u hu) (ho hn b rfl)⟩
theorem SI.mx{mb aA:List Nat}{w w':World}{v:Value}{l:List Int}(h:SI w mb v l)(hx:Mx mb aA w w'):SI w' aA v l:=
 ⟨Sl.mx hx h.sl fun hn B e=>(h.off hn B e).1,fun hn B e=>by
  obtain⟨h1,h2⟩:=h.off hn B e;exact⟨fun hb=>by
   rcases hx.mb B hb with h3|h3
   .exact h1 h3
   .omega,Nat.lt_of_lt_of_le h2 hx.size⟩⟩
structure SM(w:World)(mb:List Nat)(v:Value)(rows:List (List Int))(vals:List Value):Prop where
 sl:Sl w v rows.length 1 vals
 off:0<rows.length->∀B,v.ownBlock=some B->B ∉ mb/\B<w.heap.size
 row:∀(i:Nat) (r:List Int) (u:Value),rows[i]?=some r->vals[i]?=some u->SI w mb u r
theorem SM.mx{mb aA:List Nat}{w w':World}{v:Value}{rows:List (List Int)}{vals:List Value}(h:SM w mb v rows vals)(hx:Mx mb aA w w'):SM w' aA v rows vals:=
 ⟨Sl.mx hx h.sl fun hn B e=>(h.off hn B e).1,fun hn B e=>by
  obtain⟨h1,h2⟩:=h.off hn B e;exact⟨fun hb=>by
   rcases hx.mb B hb with h3|h3
   .exact h1 h3
   .omega,Nat.lt_of_lt_of_le h2 hx.size⟩,fun i r u a b=>(h.row i r u a b).mx hx⟩
theorem SM.msl{w:World}{mb:List Nat}{v:Value}{rows:List (List Int)}{vals:List Value}(h:SM w mb v rows vals):BZ w v rows:=⟨vals,h.sl,fun i r u a b=>(h.row i r u a b).sl⟩
structure X8(w:World)(base q:Nat)(mb:List Nat)(lv:Value)(L:List Lv)(os:List (Value × Value)):Prop where
 own:w.ownsRow base 90 3 lv L.length (RQ L os)
 len:os.length=L.length
 lev:∀(i:Nat) (l:Lv) (o:Value × Value),L[i]?=some l->os[i]?=some o->SI w (q :: mb) o.1 l.orb/\∃vals,SM w (q :: mb) o.2 l.reps vals
 blk:∀B,lv.ownBlock=some B->B∈mb
theorem X8.ex{w w':World}{base q:Nat}{mb:List Nat}{lv:Value}{L:List Lv}{os:List (Value × Value)}(h:X8 w base q mb lv L os)(hx:Ex w w'):X8 w' base q mb lv L os:=
 ⟨Aj h.own hx,h.len,fun i l o a b=>⟨(h.lev i l o a b).1.mx (Mx.ofEx hx (q :: mb)),by obtain⟨vals,h2⟩:=(h.lev i l o a b).2;exact⟨vals,h2.mx (Mx.ofEx hx (q :: mb))⟩⟩,h.blk⟩
theorem X8.nil(w:World)(base q:Nat)(mb:List Nat):X8 w base q mb (.slice none 0 0) [] []:=
 ⟨World.ownsRow_nil _ _ _ _,rfl,fun i l o h=>by simp at h,fun B h=>by cases h⟩
theorem X8.mx{w w':World}{base q:Nat}{mb aA:List Nat}{lv:Value}{L:List Lv}{os:List (Value × Value)}(h:X8 w base q mb lv L os)(hx:Mx mb aA w w')(ho:w'.ownsRow base 90 3 lv L.length (RQ L os))(hb:∀B,lv.ownBlock=some B->B∈aA):X8 w' base q aA lv L os:=
 ⟨ho,h.len,fun i l o a b=>⟨(h.lev i l o a b).1.mx (hx.cons q),by obtain⟨vals,h2⟩:=(h.lev i l o a b).2;exact⟨vals,h2.mx (hx.cons q)⟩⟩,hb⟩
end Go.Proofs.YtehieobniamagaaGreat
