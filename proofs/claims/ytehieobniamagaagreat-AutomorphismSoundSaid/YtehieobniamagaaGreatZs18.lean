/- The walk of codewrightref10.Check. -/
import Derived.Lib.SmallJoins
import Derived.Deep.Matrix
import Derived.Deep.Slices
import Derived.OpenShut
import Derived.ProofKit
import Derived.ChangeOld
import Derived.Test.YtehieobniamagaaGreatZs17
namespace Go.Proofs.YtehieobniamagaaGreat
open Go.RowKit
set_option linter.all false
set_option maxRecDepth 100000
set_option maxHeartbeats 4000000
theorem Z1{p m:Int}{ml:List Int}{aA:Int}{rows:List (List Int)}{e:Int}(h:Me p m ml aA rows e):DI p m ml aA rows=e:=by
 unfold DI;rcases h with⟨pn,mn,rfl,rfl,h3,h4⟩|⟨h1,h2⟩
 .rw[if_neg (fun h=>h ((Cm _ _ _).2 h3)),h4];rfl
 .rw[if_pos (fun h=>h1 ((Cm _ _ _).1 h)),h2]
theorem Pv{N:Nat}{rows:List (List Int)}(h:∀r∈rows,r.length=N):Aw N rows.length (Ak rows)=rows:=by
 apply List.ext_getElem?;intro i;by_cases hi:i<rows.length
 .rw[Dq hi,List.getElem?_eq_getElem hi,VG (List.getElem?_eq_getElem hi) (h _ (List.getElem_mem hi))]
 .rw[List.getElem?_eq_none (by rw[AZ];omega),List.getElem?_eq_none ac]
theorem Uh{p m N:Nat}{rows:List (List Int)}(h:∀r∈rows,r.length=N/\Cc (p^m) r=0):QZ p m rows.length N (Ak rows):=fun i hi j hj=>by
 have aA:rows[i]?=some rows[i]:=List.getElem?_eq_getElem hi;obtain⟨h1,h2⟩:=h _ (List.getElem_mem hi);have e:Ak rows i j=rows[i].getD j 0:=by unfold Ak;rw[List.getD_eq_getElem?_getD (l:=rows),aA];rfl
 rw[e];exact zbX
theorem zbw{P:Prop}(h:P:=by
 clear hLR aF;go_wp2_with (go_at_call 27;refine aJ.o.mono ?_;rintro e w4⟨rfl,n3,aM⟩;subst aM)
 have aQ:=Aa (aR.o.drewN n3);go_wp2_with fail
 go_ret;exact⟨⟨_,rfl,aD.o⟩,aQ.o⟩):P:=h
theorem Ry(p m:Int)(ml:List Int)(mv:Value)(w:World)(aG:Al w mv ml)(aA:Int)(rows:List (List Int))(v:Value)(hv:BZ w v rows):
  Calls Tryz.prog 88 #[.agg #[p,m,mv],.agg #[aA,v]] w fun r w'=>(∃e:Int,r= .returned (.int .i64 e)/\Mt p m ml aA rows e)/\Ex w w':=by
 obtain⟨g0,g1,g2,e0,aP⟩:=AA w p m mv;have aV:=Aa (fun (w':World) (h:Ex w w')=>Us p m ml mv w' (aG.ex h) aA rows v (hv.ex h));have aZ:=Aa aG;have HV:=Aa hv;obtain⟨za,zc,rfl,z1,z2,z3⟩:=hv.open;clear z1 z3;unfold maxLen at z2;obtain⟨ma,mc,rfl,-,m2,-⟩:=aG.open;unfold maxLen at m2;obtain⟨xb,aY⟩:=nA w.heap.size;rw[aY]at g0 g1 g2 aP;clear aG hv;go_enter Tryz.func88,Tryz.ntmps88
 go_wp2_with fail
 generalize w.alloc (.cells #[p,m,.slice ma ml.length mc] 24)=wA at *;obtain⟨a0,a1,ea⟩:=CM wA aA (.slice za rows.length zc);rw[aP]at a0 a1;generalize wA.alloc (.cells #[aA,.slice za rows.length zc] 137)=wB at *;obtain⟨A0,A1,G0,G1,G2,HE⟩:=To a0 a1 (ea.cell g0) (ea.cell g1) (ea.cell g2) (e0.trans ea);clear g0 g1 g2 a0 a1 e0 ea aP;refine(aV.o wB HE.o).mono ?_;rintro e w2⟨e,rfl,hc,aC⟩;obtain⟨aI,A0,A1,G0,G1,G2⟩:=To (HE.o.trans aC) (aC.cell A0.o) (aC.cell A1.o) (aC.cell G0.o) (aC.cell G1.o) (aC.cell G2.o);clear aC HE aV;have aE:=Z1 hc;by_cases he:e=0
 .subst he;rcases hc with⟨pn,mn,rfl,rfl,hfb,hmk⟩|⟨_,h⟩
  .obtain⟨s1,s2,s3,s4⟩:=EF hmk.symm;obtain⟨N,rfl⟩:∃N:Nat,aA=N:=⟨aA.toNat,ac⟩;have aB:∀r∈rows,r.length=N/\Cc (pn^mn) r=0:=fun r hr=>by obtain⟨h1,h2⟩:=s4 r hr;exact⟨ac,h2⟩
   have aN:Ha pn mn ml/\Hf pn mn (lw ml):=by
    obtain⟨aW,aX,e1,e2,h3,h4,h5⟩:=hfb;obtain rfl:aW=pn:=ac;obtain rfl:aX=mn:=ac;exact⟨h3,h5⟩
   have aU:=Aa (Rz (mv:= .slice ma ml.length mc) w2 aN.1 aN.2 (aZ.o.ex aI.o) N rows.length ac s3 (Ak rows) (Uh aB) _ (by rw[Pv fun r hr=>(aB r hr).1];exact HV.o.ex aI.o));have aK:=Aa (fun piv a' e (aH:H7 pn mn ml N rows.length (Ak rows) a' piv) (h:e=if Aw N piv.length a'=rows then 0 else 5)=>show Mt pn mn ml N rows e from .inr ⟨aE,pn,mn,N,piv,a',rfl,rfl,rfl,hfb,hmk.symm,aH,h⟩);have c0:=A0.o;have c1:=A1.o;have c2:=G0.o;have c3:=G1.o;have c4:=G2.o;clear aE hfb hmk s1 s2 s3 s4 aB aN;go_wp2_with fail
   refine aU.o.mono ?_;rintro e w3⟨piv,pv,rv,a',rfl,aH,aO,aT,aL⟩;have aR:=Aa (aI.o.trans aL);have c1:=aL.cell A1.o;obtain⟨L,hL⟩:=nA (Aw N piv.length a');have aJ:=Aa (Dz w3 L rows _ _ (by rw[<-hL];exact aO) (HV.o.ex aR.o));have aF:=Aa (fun e=>aK.o piv a' e aH);rw[hL]at aF;obtain⟨ra,rc,aS,-,r2,-⟩:=aO.open;rw[hL]at aS;subst aS;obtain⟨pa,pc,rfl,-,p2,-⟩:=aT.open;clear aH aO aT aL hL r2 p2 aU aK;by_cases hLR:L=rows
   .rw[decide_eq_true hLR]at aJ;have aD:=Aa (aF.o 0 (by rw[if_pos hLR]));exact zbw
   .rw[decide_eq_false hLR]at aJ;have aD:=Aa (aF.o 5 (by rw[if_neg hLR]));exact zbw
  .exact absurd h ae
 .have kb:(e !=0)=true:=by simpa using he
  have aK:=Aa (show Mt p m ml aA rows e from .inl ⟨by rw[aE];exact he,aE.symm⟩);clear hc aE;go_wp2_with fail
  go_ret;exact⟨⟨_,rfl,aK.o⟩,aI.o⟩
def CL(l:List Int):Nat->Nat:=fun i=>if i<l.length then(l.getD i 0).toNat else i
theorem GO{n:Nat}{f:Nat->Nat}(hf:Be n f):CL (li n f)=f:=funext fun i=>by
 unfold CL;rw[Ch];by_cases hi:i<n
 .rw[if_pos hi,List.getD_eq_getElem?_getD,Dl hi];rfl
 .rw[if_neg hi,hf.off i ac]
theorem Zh(w:World):BZ w (.slice none 0 0) []:=⟨[],Sl.nil w 1,fun i r u h=>by simp at h⟩
theorem Ew{w:World}{a:Option Addr}{n cap:Nat}{f:Nat->Nat}(h:Al w (.slice a n cap) (li n f))(hn:0<n):∃b o,a=some ⟨b,o,none⟩/\b<w.heap.size/\∀j,j<n->w.cell? ⟨b,o+j,none⟩=some (.int .i64 (f j:Int)):=by
 obtain⟨a',cap',e,_,_,h2⟩:=DU h;injection e with e1 e2 e3;subst e1;obtain⟨b,o,h3,h4⟩:=h2 hn;exact⟨b,o,h3,World.block_lt_of_cell? _ _ (h4 0 hn),h4⟩
structure Cr(w0 wr:World)(base g n:Nat)(sf:Nat->Bool)(cyv:Value)(cyc:List Int)(cv:Value)(M:List (List Int))(vals:List Value):Prop where
 sn:AH wr w0.heap.size 4 g n (bv sf)
 cy:wr.ownsRow base 3 1 cyv cyc.length (Ao cyc)
 m:BD wr base cv M vals
 ap1:AR cyv cv
 ap2:∀u∈vals,AR u cyv
 gb:g<base
 ex:Ex w0 wr
 wb:base<=wr.heap.size
section
variable {w0 wr:World} {base g n:Nat} {sf:Nat->Bool} {cyv:Value} {cyc:List Int} {cv:Value} {M:List (List Int)} {vals:List Value}
theorem Cr.later(h:Cr w0 wr base g n sf cyv cyc cv M vals){w':World}(hx:Ex wr w'):Cr w0 w' base g n sf cyv cyc cv M vals:=
 ⟨h.sn.ex hx,Aj h.cy hx,h.m.ex hx,h.ap1,h.ap2,h.gb,h.ex.trans hx,Nat.le_trans h.wb hx.size⟩
theorem Cr.congr(h:Cr w0 wr base g n sf cyv cyc cv M vals){sf':Nat->Bool}(hc:∀x,x<n->sf x=sf' x):Cr w0 wr base g n sf' cyv cyc cv M vals:=
 ⟨h.sn.bcongr hc,h.cy,h.m,h.ap1,h.ap2,h.gb,h.ex,h.wb⟩
theorem Cr.mark(h:Cr w0 wr base g n sf cyv cyc cv M vals)(x:Nat):Cr w0 (wr.setCell (g,x) (.bool true)) base g n (Az sf x true) cyv cyc cv M vals:=
 ⟨by rw[<-Se];exact h.sn.set x _,Ac h.cy (fun e=>by have:=(h.cy.lt _ e).1;have:=h.gb;dsimp only at *;omega) _,h.m.setNe h.gb _,h.ap1,h.ap2,h.gb,h.sn.exSet (Nat.le_refl _) h.ex x _,by have:=h.wb;simpa[World.setCell]using this⟩
theorem Cr.app(h:Cr w0 wr base g n sf cyv cyc cv M vals){x:Int}{w':World}{v':Value}(ha:Bv wr w' base 3 1 cyv v' cyc.length (Ao cyc) [.int .i64 x]):Cr w0 w' base g n sf v' (cyc ++ [x]) cv M vals:=by
 have aC:cyv.ownBlock≠some g:=fun e=>by have:=(h.cy.lt _ e).1;have:=h.gb;omega
 have aA:=ha.row h.m.cvo h.ap1.symm;have hn:=h.m.len;have aB:∀u∈vals,∃L:List Int,wr.ownsRow base 3 1 u L.length (Ao L):=fun u hu=>by
  obtain⟨i,hi,e⟩:=List.getElem_of_mem hu;exact⟨_,h.m.row i (M[i]'ac) u (List.getElem?_eq_getElem _) au⟩
 refine⟨(ha.arr h.sn aC).1,?_,⟨aA.1,fun i r u h1 h2=>(ha.row (h.m.row i r u h1 h2) (h.ap2 u (List.mem_of_getElem? h2))).1,h.m.apart⟩,aA.2.symm,fun u hu=>?_,h.gb,ha.ex h.ex (by have:=h.gb;have:=h.sn.lt.1;omega),by have:=ha.grow;have:=h.wb;omega⟩
 .have:=ha.own;rw[List.length_append];simpa[Ao]using this
 .obtain⟨L,hL⟩:=aB u hu;exact(ha.row hL (h.ap2 u hu)).2
theorem Cr.push(h:Cr w0 wr base g n sf cyv cyc cv M vals){w':World}{v':Value}(ha:Bv wr w' base 22 1 cv v' M.length vals [cyv]):Cr w0 w' base g n sf (.slice none 0 0) [] v' (M ++ [cyc]) (vals ++ [cyv]):=by
 have aA:cv.ownBlock≠some g:=fun e=>by have:=(h.m.cvo.lt _ e).1;have:=h.gb;omega
 refine⟨(ha.arr h.sn aA).1,World.ownsRow_nil _ _ _ _,h.m.app h.cy h.ap1 ha,AR.nil _,fun u _=>?_,h.gb,ha.ex h.ex (by have:=h.gb;have:=h.sn.lt.1;omega),by have:=ha.grow;have:=h.wb;omega⟩;exact(AR.nil u).symm
theorem Cr.start{w1:World}{n:Nat}(h:AH w1 w0.heap.size 4 w0.heap.size n (fun _=> .bool false))(hx:Ex w0 w1){sf:Nat->Bool}(hs:∀x,x<n->sf x=false):Cr w0 w1 (w0.heap.size+1) w0.heap.size n sf (.slice none 0 0) [] (.slice none 0 0) [] []:=
 ⟨h.congr fun j hj=>by show _=Value.bool (sf j);rw[hs j hj],World.ownsRow_nil _ _ _ _,BD.nil _ _,AR.nil _,fun u h'=>absurd h' (List.not_mem_nil),ac,hx,by have:=h.lt.2;omega⟩
end
theorem Sz(w:World)(n:Nat)(c:Nat->Value)(v:Value)(hv:Sl w v n 1 (vs n c))(hn:1<=n)(hn2:n<=1000)(h1:∀j,j<n->(c j).oneCell'=true):
  Calls Tryz.prog 209 #[v] w fun r w'=>∃g cap,r= .returned (.slice (some ⟨g,0,none⟩) n cap)/\A9 w' w.heap.size 22 g n cap c/\Ex w w':=by
 have HV:=Aa hv;obtain⟨_,a,cap,rfl,s1,s2,s3⟩:=hv;obtain⟨b,o,rfl,_⟩:=s3 ac;have aC:=fun w'=>AP (P:=Tryz.prog) w' 37 22 (some ⟨b,o,none⟩) n cap Tryz.underlying37;simp only[Option.isNone]at aC;have aG:=Aa (show ∀u∈vs n c,u.oneCell'=true from by
  intro u hu;unfold vs at hu;obtain⟨j,hj,rfl⟩:=List.mem_map.1 hu;exact h1 j (List.mem_range.1 hj))
 clear s3 h1;go_enter Tryz.func209,Tryz.ntmps209
 go_wp2_with (at_builtin;refine Bl _ rfl _ _ 37 rfl w.heap.size 22 (.slice none 0 0) 1 24 Tryz.underlying37 BU rfl ae _ 0 [] rfl (Bw w 22) (.slice (some ⟨b,o,none⟩) n cap) n (vs n c) rfl (HV.o.ex ((Ex.refl w).alloc _)) aG.o ai ac ag ?_)
 intro v1 w1 aA aE aF;have aD:Ex w w1:=Ex.grown ((Ex.refl w).alloc _) (Bw w 22) (Nat.le_refl _) aE
 try simp only[List.nil_append,Nat.zero_add]at aA
 obtain⟨g,c2,rfl,aB⟩:=Kd aA hn;have HO:=Aa aB;have HX:=Aa aD;clear aB aA aE aF aD aC
 try simp only[Nat.zero_add]
 go_wp2_with fail
 go_ret;exact⟨g,c2,rfl,HO.o,HX.o⟩
theorem Ub(w:World){base n tb rb gb:Nat}{rr:Nat->Nat}{gv:Nat->Value}{V:Nat->Nat->Value}{mb:List Nat}{t:Tw}(hm:Sn w base n tb rb gb rr gv V mb t)(hG:C7 n t)(hn1:1<=n)(hn:n<=64)
  (u:Value) (f:Nat->Nat) (b:Nat) (hb:b<=n) (hu:Al w u (li n f)) (hP:Be n f):
  Calls Tryz.prog 208 #[.pointer (some (tb,0)),u,b] w fun r w'=>∃v,r= .returned (.tuple #[v,((DL n t.R (n-b) b f).2:Int)])/\Ex w w':=by
 obtain⟨HM,HG,HU,HP⟩:=Eq hm hG hu hP;obtain⟨ua,uc,rfl,_,_,_⟩:=DU hu;obtain⟨E,hE⟩:=nA (DL n t.R (n-b) b f);have HE:=Aa hE;rw[hE];have aL:∀(a:Option Addr) (m cap:Nat) w',(binOp .eql 22 (.slice a m cap) (.slice none 0 0)).run Tryz.prog w'= .ok (.bool a.isNone) w':=fun a m cap w'=>AP (P:=Tryz.prog) w' 22 3 a m cap Tryz.underlying22;have aE:=Aa aL;clear hm hG hu hP hE aL;go_enter Tryz.func208,Tryz.ntmps208
 go_wp2_with fail
 go_loopw [1,2] (fun p' b' wr=>∃(c:Nat) (h:Nat->Nat) (a:Option Addr) (cap:Nat),c<=n/\b'= .int .i64 c/\p'= .slice a n cap/\Hia (Al wr (.slice a n cap) (li n h))/\Hia (Be n h)/\Hia (DL n t.R (n-c) c h=E)/\Hia (Ex w wr)) (fun _ b' _=>n-(intOf b').toNat)
 case atStart=>exact⟨b,f,ua,uc,hb,rfl,rfl,HU,HP,HE,Aa (Ex.refl _)⟩
 case round=>
  clear HU HP HE;obtain⟨c,h,a,cap,hc,rfl,rfl,hu,hp,he,hx⟩:=hrel;have c0:=hx.o.cell HM.o.c0;have c1:=hx.o.cell HM.o.c1;by_cases hcn:c<n
  .obtain⟨pb,po,rfl,_,aH⟩:=Ew hu.o ac;have aK:=hp.o.lt c hcn;have d1:=aH c hcn;have d2:=hx.o.cell (HM.o.ro c hcn);have d3:=hx.o.cell ((HM.o.row c hcn).cell aK);have aA:=HM.o.rep c (h c) hcn aK;have i1:(0:Int)<=(c:Int):=by omega
   have i2:(c:Int)<(n:Int):=ac;have i3:(0:Int)<=(h c:Int):=ac;have i4:(h c:Int)<(n:Int):=ac
   cases hR:t.R c (h c) with
   | none=>
    rw[hR]at aA;have aA:V c (h c)= .slice none 0 0:=aA;rw[aA]at d3;have aD:=Aa (show E=(h,c) from by
     rw[<-he.o,show n-c=n-c-1+1 by omega];unfold DL;rw[hR])
    have aC:=aE.o none 0 0;simp only[Option.isNone]at aC;clear aH aA hR he hp;go_wp2_with fail
    go_quiet (fail)
    go_wp2_with fail
    go_ret2;refine⟨.slice (some ⟨pb,po,none⟩) n cap,?_,hx.o.drewN _⟩;rw[aD.o];rfl
   | some r=>
    rw[hR]at aA;have aA:Cx w mb n (V c (h c)) r:=aA;obtain⟨_,_,aG,aT,aS⟩:=HG.o.rep _ _ _ hR;obtain⟨vb,vo,vc,hV,_,_,_,_⟩:=(aA.ex hx.o).at_;have aQ:=Aa (aA.ex hx.o).sl;rw[hV]at d3 aQ;have aD:=Aa (show DL n t.R (n-(c+1)) (c+1) (Aq h (A8 n r))=E from by
     rw[<-he.o,show n-c=n-(c+1)+1 by omega]
     conv=>rhs;unfold DL
     rw[hR])
    have aC:=aE.o (some ⟨vb,vo,none⟩) n vc;simp only[Option.isNone]at aC;have aV:=Aa aG;have aP:=Aa (hp.o.comp aG.inv);have aW:=Aa (fun w1 (aF:Ex wr w1)=>GH w1 n r _ (aQ.o.ex aF) ac aV.o);have aU:=Aa (fun w1 (aF:Ex wr w1) z hz=>Fl w1 n h (A8 n r) _ z (hu.o.ex aF) hz ac hp.o.lt);clear aH aA hR he aG aT aS hV;go_wp2_with fail
    go_quiet (fail)
    have aM:=Aa ((Ex.refl wr).drewN nq);go_wp2_with (first|(go_at_call 109;refine(aW.o _ aM.o).mono ?_;rintro e w2⟨g2,rfl,aB,aJ⟩;have aX:=Aa aB.li;have aO:=Aa (aM.o.trans aJ);clear aB aJ)|(go_at_call 108;refine(aU.o _ aO.o _ aX.o).mono ?_;rintro e w3⟨g3,rfl,aB,aI⟩;have aR:=Aa aB.li;have aN:=Aa (hx.o.trans (aO.o.trans aI));clear aB aI))
    go_roundw
    case rel=>first|exact⟨c+1,Aq h (A8 n r),some ⟨g3,0,none⟩,n,ac,by go_num,rfl,aR,aP,aD,aN⟩|((repeat apply Exists.intro);exact⟨⟨c+1,Aq h (A8 n r),some ⟨g3,0,none⟩,n,ac,by go_num,rfl,aR,aP,aD,aN⟩,rfl⟩)
    case measure=>simp[intOf];omega
  .obtain rfl:c=n:=by omega
   have aD:=Aa (show E.2=c from by
    rw[<-he.o,Nat.sub_self];rfl)
   clear he hp;go_wp2_with fail
   go_quiet (fail)
   go_wp2_with fail
   go_ret2;refine⟨.slice a c cap,?_,hx.o.drewN _⟩;rw[aD.o];rfl
def Sp:Prop:=∀(w:World) (base:Nat) (v:Value) (l:List Int),w.ownsRow base 3 1 v l.length (Ao l)->1<=l.length->l.length<=1000->
 Calls Tryz.prog 125 #[v] w fun r w'=>r= .returned (.tuple #[])/\w'.ownsRow base 3 1 v l.length (Ao (l.mergeSort fun x y=>decide (x<=y)))/\w.grownBy w' v.ownBlock
theorem K3{w:World}{base aA:Nat}{e:TypeId}{size:Nat}{v:Value}{n:Nat}{xs:List Value}(h:w.ownsRow base e size v n xs)(hb:aA<=base):w.ownsRow aA e size v n xs:=by
 exact zcb
section
variable {w0 wr:World} {base g n:Nat} {sf:Nat->Bool} {cyv:Value} {cyc:List Int} {cv:Value} {M:List (List Int)} {vals:List Value}
theorem Cr.lit(h:Cr w0 wr base g n sf cyv cyc cv M vals)(x:Int):Cr w0 (wr.alloc (.cells #[x] 3)) base g n sf (.slice (some (wr.heap.size,0)) 1 1) [x] cv M vals:=by
 have hx:Ex wr (wr.alloc (.cells #[x] 3)):=(Ex.refl _).alloc _;have h2:=h.later hx;refine⟨h2.sn,?_,h2.m,?_,fun u hu=>?_,h2.gb,h2.ex,h2.wb⟩
 .have:=Ft wr (.int .i64 x) 3;exact K3 this h.wb
 .right;intro e;have:=(h.m.cvo.lt wr.heap.size e.symm).2;omega
 .unfold AR
  cases e:u.ownBlock with
  | none=>exact .inl rfl
  | some b=>
   right;intro e2;injection e2 with e2;have e2:b=wr.heap.size:=e2;have hn:=h.m.len;obtain⟨i,hi,ei⟩:=List.getElem_of_mem hu;have:=((h.m.row i (M[i]'ac) u (List.getElem?_eq_getElem _) (by rw[List.getElem?_eq_getElem hi,ei])).lt b e).2;omega
theorem Cr.turn(h:Cr w0 wr base g n sf cyv cyc cv M vals){w':World}{l:List Int}(hl:l.length=cyc.length)(ho:w'.ownsRow base 3 1 cyv cyc.length (Ao l))(hg:wr.grownBy w' cyv.ownBlock):Cr w0 w' base g n sf cyv l cv M vals:=by
 have aA:cyv.ownBlock≠some g:=fun e=>by have:=(h.cy.lt _ e).1;have:=h.gb;omega
 refine⟨h.sn.kept hg (.inr fun e=>aA e.symm),by rw[hl];exact ho,⟨h.m.cvo.kept hg h.ap1.symm,fun i r u h1 h2=>(h.m.row i r u h1 h2).kept hg (h.ap2 u (List.mem_of_getElem? h2)),h.m.apart⟩,h.ap1,h.ap2,h.gb,Ex.grown h.ex h.cy (by have:=h.gb;have:=h.sn.lt.1;omega) hg,Nat.le_trans h.wb hg.size⟩
end
def CN(q:List Nat):List Int:=q.map fun (x:Nat)=>(x:Int)
theorem Ck(q:List Nat):(CN q).length=q.length:=by unfold CN;simp
theorem Tm{q:List Nat}{k x:Nat}(h:q[k]?=some x):(CN q)[k]?=some (x:Int):=by unfold CN;rw[List.getElem?_map,h];rfl
theorem Tn(q:List Nat)(x:Nat):CN (q ++ [x])=CN q ++ [(x:Int)]:=by unfold CN;simp
theorem zbQ{P:Prop}(h:P:=by
 unfold CN;rw[List.mem_map];exact⟨fun h=>⟨x,h,rfl⟩,fun ⟨y,hy,e⟩=>by
   have:y=x:=by omega
   subst this;exact hy⟩):P:=h
theorem Vt{n:Nat}{S:List (Nat->Nat)}(hS:∀s∈S,Be n s){i:Nat}(hi:i<n){q:List Nat}(aB:q.Nodup)(hq:∀y,y∈q↔Eg S i y):(CN q).mergeSort (fun x y=>decide (x<=y))=RJ n S i:=by
 have hp:((CN q).mergeSort fun x y=>decide (x<=y)).Perm (CN q):=List.mergeSort_perm _ _;have hs:((CN q).mergeSort fun x y=>decide (x<=y)).Pairwise fun x y=>decide (x<=y)=true:=List.pairwise_mergeSort (fun a b c h1 h2=>by simp at *;omega) (fun a b=>by simp;omega) _;have aA:((CN q).mergeSort fun x y=>decide (x<=y)).Nodup:=hp.nodup_iff.2 (by
  unfold CN;rw[List.nodup_iff_pairwise_ne]at aB ⊢;exact List.pairwise_map.2 (aB.imp fun {a b} h e=>h ac))
 generalize (CN q).mergeSort (fun x y=>decide (x<=y))=m at *;obtain⟨r,hr⟩:∃r:List Nat,m=CN r:=by
  refine⟨m.map Int.toNat,?_⟩;unfold CN;rw[List.map_map];have:∀x∈m,((fun (x:Nat)=>(x:Int)) ∘ Int.toNat) x=x:=fun x hx=>by
   obtain⟨y,_,rfl⟩:=List.mem_map.1 (hp.mem_iff.1 hx);rfl
  rw[List.map_congr_left this,List.map_id']
 subst hr;unfold RJ;show CN r=CN _
 congr 1
 refine QR ?_ (V8 n S i) fun x=>?_
 .have h1:(CN r).Pairwise (fun x y=>decide (x<=y)=true/\x≠y):=hs.and (List.nodup_iff_pairwise_ne.1 aA);unfold CN at h1;rw[List.pairwise_map]at h1;exact h1.imp fun {a b} h=>by have:=of_decide_eq_true h.1;have:=h.2;omega
 .rw[Wp];have h2:x∈r↔(x:Int)∈CN r:=by
   exact zbQ
  have h3:x∈q↔(x:Int)∈CN q:=by
   exact zbQ
  rw[h2,hp.mem_iff,<-h3,hq];exact⟨fun h=>⟨h.lt hS hi,h⟩,fun h=>h.2⟩
open Classical in
noncomputable def CD (S:List (Nat->Nat)) (i:Nat) (q:List Nat):Nat->Bool:=fun x=>decide (Ge S i x∨x∈q)
open Classical in
theorem I5 (S:List (Nat->Nat)) (i x:Nat):CD S i [] x=decide (Ge S i x):=by unfold CD;simp
open Classical in
theorem MV (S:List (Nat->Nat)) (i:Nat) (q:List Nat) (x:Nat):Az (CD S i q) x true=CD S i (q ++ [x]):=by
 funext y;unfold Az CD;by_cases h:y=x
 .subst h;simp
 .simp[h]
open Classical in
theorem Ug {n:Nat} {S:List (Nat->Nat)} (hS:∀s∈S,Be n s) {i:Nat} {q:List Nat} (hq:∀y,y∈q↔Eg S i y) (x:Nat):CD S i q x=CD S (i+1) [] x:=by
 unfold CD;rw[Bool.eq_iff_iff];simp only[decide_eq_true_eq,List.not_mem_nil,or_false];rw[KL hS,hq]
open Classical in
theorem VD {n:Nat} {S:List (Nat->Nat)} (hS:∀s∈S,Be n s) {i:Nat} (h:¬O0 S i) (x:Nat):CD S i [] x=CD S (i+1) [] x:=by
 unfold CD;rw[Bool.eq_iff_iff];simp only[decide_eq_true_eq,List.not_mem_nil,or_false];exact(VC hS h).symm
noncomputable def Iv(n:Int)(rows:List (List Int)):List (List Int) × Int:=if Es n rows≠0 then([],Es n rows) else(Dv n.toNat (rows.map CL) n.toNat,0)
def OrbR(n:Int)(rows:List (List Int))(r:Ending)(w':World):Prop:=∃v,r= .returned (.tuple #[v,.int .i64 (Iv n rows).2])/\BZ w' v (Iv n rows).1
theorem N7{n:Int}{rows k:List (List Int)}{e:Int}{v:Value}{w':World}(h:Iv n rows=(k,e))(hv:BZ w' v k):OrbR n rows (.returned (.tuple #[v,e])) w':=⟨v,by rw[h],by rw[h];exact hv⟩
theorem Ep{N:Nat}{S:List (Nat->Nat)}(hS:∀s∈S,Be N s):(S.map (li N)).map CL=S:=by
 rw[List.map_map];have:∀s∈S,(CL ∘ li N) s=s:=fun s hs=>GO (hS s hs);rw[List.map_congr_left this,List.map_id']
theorem zcq{P:Prop}(h:P:=by
 rw[BC.o.sn.cell bG];show some (Value.bool (CD S i q (s x)))=_
 unfold CD;simp[hm]):P:=h
theorem Sq(bQ:Sp)(w:World)(n:Int)(rows:List (List Int))(v:Value)(hv:BZ w v rows)(hrl:rows.length<=1000):
  Calls Tryz.prog 65 #[n,v] w fun r w'=>OrbR n rows r w'/\Ex w w':=by
 have HV:=Aa hv;have HG:=Aa (GM w n rows v hv);obtain⟨a,cap,rfl,_,s2,_⟩:=hv.open;unfold maxLen at s2;obtain⟨e,he⟩:=nA (Es n rows);rw[he]at HG;clear hv;by_cases h0:e=0
 .subst h0;obtain⟨N,rfl,hN1,bS,S,aP,hS⟩:=Kl he;obtain⟨HP,HS,bU,HN⟩:=Eq (show Iv N rows=(Dv N S N,0) from by unfold Iv;rw[he,if_neg ae,aP,Ep hS];rfl) hS aP bS;have bJ:S.length=rows.length:=by rw[aP];simp
  have bN:=Aa bJ;clear he hS aP bJ;go_enter Tryz.func65,Tryz.ntmps65
  go_wp2_with (first|(go_at_call 124;refine HG.o.mono ?_;rintro e w1⟨rfl,aJ⟩;have aQ:=Aa aJ;clear aJ)|(at_make;refine Au _ rfl _ _ 168 rfl 4 (.bool false) 1 Tryz.underlying168 Ll rfl _ N rfl rfl rfl ac ai ?_))
  intro w3 aC bE;have aE:=Aa (Cr.start aC bE (sf:=CD S 0 []) fun x _=>by
   rw[I5];simp[Ge])
  clear aC bE;obtain⟨g,hg⟩:=nA w1.heap.size
  try simp only[hg]at aE ⊢
  clear hg;go_wp2_with fail
  go_loopw [24,8,10] (fun i' bT aO wr=>∃(i:Nat) (vals:List Value),i<=N/\i'= .int .i64 i/\Hia (Cr w1 wr (g+1) g N (CD S i []) (.slice none 0 0) [] bT (Dv N S i) vals)) (fun i' _ _ _=>N-(intOf i').toNat)
  case atStart=>exact⟨0,_,ac,rfl,aE⟩
  case round=>
   clear aE;obtain⟨i,vals,hi,rfl,BC⟩:=hrel;obtain⟨bL,bK,bR⟩:=Ae BC.o.m.cvo;subst bR;have cB:=Aa (Uv N S i);by_cases hin:i<N
   .have i1:(0:Int)<=(i:Int):=by omega
    have i2:(i:Int)<(N:Int):=ac;have c2:=BC.o.sn.frz i;by_cases hl:O0 S i
    .have c1:wr.cell? (g,i)=some (.bool false):=by
      rw[BC.o.sn.cell hin];show some (Value.bool (CD S i [] i))=_
      rw[I5];have:¬Ge S i i:=fun h=>Hq.1 h hl;simp[this]
     have HL:=Aa hl;have bF:(wr.setCell (g,i) (.bool true)).heap.size=wr.heap.size:=b8;have bB:=Aa (((BC.o.mark i).congr (sf':=CD S i [i]) fun x _=>by rw[MV];rfl).lit (i:Int));rw[bF]at bB;have aN:=Aa (EV.start N S i);clear BC hl bF;go_wp2_with fail
     generalize (wr.setCell (g,i) (.bool true)).alloc (.cells #[(i:Int)] 3)=wm at *
     go_loopg [10,11] N (fun gk aO k' wr=>∃(q:List Nat) (k:Nat),k<=(CN q).length/\N-k<=gk/\k'= .int .i64 k/\Hia (Cr w1 wr (g+1) g N (CD S i q) aO (CN q) (.slice bL (Dv N S i).length bK) (Dv N S i) vals)/\Hia (EV N S i q k 0))
     case atStart=>exact⟨[i],0,ac,ac,rfl,bB,aN⟩
     case round=>
      clear bB aN c1 c2;obtain⟨q,k,hk,aV,rfl,BC,aA⟩:=hrel;have aK:=aA.o.len HS.o hin;rw[<-Ck]at aK;obtain⟨aH,bH⟩:=aK;by_cases aF:k<(CN q).length
      .have bO:=Aa (show k<N from ac);have cA:=Aa aV;have b1:decide ((k:Int)<((CN q).length:Int))=true:=by simp;omega
       obtain⟨ob,oc,aL,aG,aB⟩:=Fs BC.o.cy aH;subst aL;unfold maxLen at aB;clear aG aB;go_wp2_with fail
       go_loopw [10,44] (fun aO g' wr=>∃(q:List Nat) (t:Nat),t<=rows.length/\g'= .int .i64 t/\k<q.length/\Hia (Cr w1 wr (g+1) g N (CD S i q) aO (CN q) (.slice bL (Dv N S i).length bK) (Dv N S i) vals)/\Hia (EV N S i q k t)) (fun _ g' _=>rows.length-(intOf g').toNat)
       case atStart=>exact⟨q,0,ac,rfl,by rw[<-Ck];exact aF,BC,aA⟩
       case round=>
        clear BC aA aF hk aV aH bH b1;obtain⟨q,t,ht,rfl,aF,BC,aA⟩:=hrel;have aK:=aA.o.len HS.o hin;rw[<-Ck]at aK;obtain⟨aH,bH⟩:=aK;obtain⟨ob,oc,aL,aG,aB⟩:=Fs BC.o.cy aH;subst aL;unfold maxLen at aB;by_cases htr:t<rows.length
        .obtain⟨s,hs⟩:∃s,S[t]?=some s:=⟨_,List.getElem?_eq_getElem (by rw[bN.o];exact htr)⟩;obtain⟨x,hx⟩:∃x,q[k]?=some x:=⟨_,List.getElem?_eq_getElem aF⟩;have aT:rows[t]?=some (li N s):=by rw[bU.o,List.getElem?_map,hs];rfl
         have aS:=HS.o s (List.mem_of_getElem? hs);have bD:=aA.o.lt HS.o hin x (List.mem_of_getElem? hx);have bG:=aS.lt x bD;obtain⟨_,_,e1,_,_,h3⟩:=(HV.o.ex (aQ.o.trans BC.o.ex)).open;injection e1 with e1 e2 e3;subst e1 e3;obtain⟨zb,zo,rfl,aR⟩:=h3 ac;obtain⟨u,d1,hu⟩:=aR t _ aT;obtain⟨ua,uc,rfl,_,_,_⟩:=DU hu;obtain⟨pb,po,rfl,_,aU⟩:=Ew hu ac;have d2:=aU x bD;have d3:wr.cell? (ob,k)=some (.int .i64 (x:Int)):=by
          rw[World.ownsRow.cellAt BC.o.cy k (by rw[Ck];omega)];exact Qg (Tm hx)
         have d4:=BC.o.sn.frz (s x);have i3:(0:Int)<=(t:Int):=ac;have i4:(t:Int)<(rows.length:Int):=ac;have i5:(0:Int)<=(k:Int):=ac;have i6:(k:Int)<((CN q).length:Int):=by rw[Ck];omega
         have i7:(0:Int)<=(x:Int):=ac;have i8:(x:Int)<(N:Int):=ac;have i9:(0:Int)<=(s x:Int):=ac;have i10:(s x:Int)<(N:Int):=ac;have aM:=aA;by_cases hm:Ge S i (s x)∨s x∈q
         .have d5:wr.cell? (g,s x)=some (.bool true):=by
           exact zcq
          have aI:=Aa (aA.o.hit hx hs (aA.o.seen HL.o hx hs hm));have aE:=Aa BC.o;clear BC aA aM hm aR h3 hu aU hs hx aT aS;go_wp2_with fail
          go_roundw
          case rel=>exact⟨q,t+1,ac,by go_num,aF,aE,aI⟩
          case measure=>simp[intOf];omega
         .have d5:wr.cell? (g,s x)=some (.bool false):=by
           exact zcq
          have aI:=Aa (aA.o.new hx hs (fun h=>hm (.inr h)));have bA:=Aa ((BC.o.mark (s x)).congr (sf':=CD S i (q ++ [s x])) fun y _=>by rw[MV]);have aW:=Aa bA.o.wb;have cC:=Aa (Tn q (s x));clear BC aA aM hm aR h3 hu aU hs hx aT aS;generalize hWW:wr.setCell (g,s x) (.bool true)=wm at *;go_wp2_with (at_builtin;refine Am _ rfl _ _ 22 rfl (g+1) 3 (.int .i64 0) 1 8 Tryz.underlying22 AC rfl ae _ (CN q).length _ rfl bA.o.cy [.int .i64 (s x:Int)] 3 _ rfl ag rfl aj ai ac aW.o ?_)
          intro oy2 w4 aD;have aZ:=Aa (bA.o.app aD);rw[<-cC.o]at aZ;clear aD;go_wp2_with fail
          go_roundw
          case rel=>first|exact⟨q ++ [s x],t+1,ac,by go_num,by rw[List.length_append];omega,aZ,aI⟩|((repeat apply Exists.intro);exact⟨⟨q ++ [s x],t+1,ac,by go_num,by rw[List.length_append];omega,aZ,aI⟩,rfl⟩)
          case measure=>simp[intOf];omega
        .obtain rfl:t=rows.length:=by omega
         have aI:=Aa (aA.o.next (by rw[bN.o];exact Nat.le_refl _));have aE:=Aa BC.o;have bZ:=Aa aF;have hk64:k<=64:=by have:=bO.o;have:=HN.o;omega
         clear BC aA aF;go_wp2_with fail
         go_roundg (N-(k+1))
         case rel=>exact⟨q,k+1,by rw[Ck];have:=bZ.o;omega,ac,by go_num,aE,aI⟩
         case measure=>have:=bO.o;have:=cA.o;omega
      .obtain rfl:k=(CN q).length:=by omega
       have bP:=Aa (fun y=>aA.o.fin (by rw[Ck];exact Nat.le_refl _) y);have bV:=Aa (Vt HS.o hin aA.o.nd bP.o);have bM:=Aa (BC.o.congr (sf':=CD S (i+1) []) fun x _=>Ug HS.o bP.o x);have aE:=Aa (bQ wr (g+1) _ (CN q) bM.o.cy aH ac);obtain⟨ob,oc,aL,aG,aB⟩:=Fs BC.o.cy aH;subst aL;unfold maxLen at aB;have bC:=Aa ((K5 N S i).1 HL.o);have bY:=Aa (show((CN q).mergeSort fun x y=>decide (x<=y)).length=(CN q).length from List.length_mergeSort _);have hml:(Dv N S i).length<=64:=by have:=cB.o;have:=HN.o;omega
       clear BC aA aF hk aV;go_wp2_with (first|(go_at_call 125;refine aE.o.mono ?_;rintro e w5⟨rfl,aC,bI⟩;have aY:=Aa (bM.o.turn bY.o aC bI);have aW:=Aa aY.o.wb;clear aC bI)|(at_builtin;refine Am _ rfl _ _ 37 rfl (g+1) 22 (.slice none 0 0) 1 24 Tryz.underlying37 BU rfl ae _ (Dv N S i).length _ rfl aY.o.m.cvo [.slice (some ⟨ob,0,none⟩) (CN q).length oc] 22 _ rfl ag rfl aj ai ac aW.o ?_))
       intro cv2 w6 aD;have aX:=Aa (aY.o.push aD);rw[bV.o,<-bC.o]at aX;clear aD;go_wp2_with fail
       go_roundw
       case rel=>first|exact⟨i+1,_,ac,by go_num,aX⟩|((repeat apply Exists.intro);exact⟨⟨i+1,_,ac,by go_num,aX⟩,rfl⟩)
       case measure=>simp[intOf];omega
    .have c1:wr.cell? (g,i)=some (.bool true):=by
      rw[BC.o.sn.cell hin];show some (Value.bool (CD S i [] i))=_
      rw[I5];have:Ge S i i:=Hq.2 hl;simp[this]
     have bW:=Aa (BC.o.congr fun x hx=>VD HS.o hl x);have bC:=Aa ((K5 N S i).2 hl);clear BC hl;go_wp2_with fail
     go_roundw
     case rel=>exact⟨i+1,vals,ac,by go_num,by rw[bC.o];exact bW⟩
     case measure=>simp[intOf];omega
   .obtain rfl:i=N:=by omega
    have bX:=Aa (BC.o.m.msl);have HX:=Aa (aQ.o.trans BC.o.ex);clear BC;go_wp2_with fail
    go_ret2;exact⟨N7 HP.o bX.o,HX.o⟩
 .have HP:=Aa (show Iv n rows=([],e) from by unfold Iv;rw[he,if_pos h0]);have hb:(e !=0)=true:=by simpa using h0
  clear h0 he;go_enter Tryz.func65,Tryz.ntmps65
  go_wp2_with (go_at_call 124;refine HG.o.mono ?_;rintro e w1⟨rfl,aJ⟩;have aQ:=Aa aJ;clear aJ)
  go_ret2;exact⟨N7 HP.o (Zh _),aQ.o⟩
section
open Go.RowKit Go.ChangeShapes Go.WideShapes Go.ChangeAt
section
variable {H:Type} {enc:TypeId × Value->H} {W:World} {held:Bool}
theorem Fn{x:Addr}{w:World}{u:Value}(h:w.cell? x=some u)(hu:(∃k n,u= .int k n)∨∃a l c,u= .slice a l c):x=⟨x.block,x.off,none⟩:=by
 have hs:x.spot=none:=by
  rcases hs:x.spot with _|s
  .rfl
  .exfalso;simp only[World.cell?,hs]at h;split at h
   .rcases hu with⟨k,n,rfl⟩|⟨a,l,c,rfl⟩ <;> simp at h
   .simp at h
 cases x;simp_all
theorem IR(b o j:Nat):(⟨b,o,none⟩:Addr).add j=⟨b,o+j,none⟩:=db
theorem Nc{w:World}{a:Option Addr}{len cap:Nat}{zs:List Int}(h1:len<=cap)(h2:cap<=maxLen)(h3:zs.length=cap)(h4:a=none->cap=0)(h5:∀x,a=some x->∀i,i<cap->w.cell? (x.add i)=some (.int .i64 (zs.getD i 0))):
  Al w (.slice a len cap) (zs.take len):=by
 have hl:(zs.take len).length=len:=bn;unfold Al;rw[hl];refine⟨by rw[Bc];omega,a,cap,rfl,h1,h2,fun hn=>?_⟩;rcases a with _|x
 .have:=h4 rfl;omega
 .have h0:=h5 x rfl 0 ac;have hx:=Fn h0 (.inl ⟨_,_,rfl⟩);have aA:(x.add 0)=x:=by simp[Addr.add]
  rw[aA]at hx;refine⟨x.block,x.off,congrArg some hx,fun j u hu=>?_⟩;simp only[Ao,List.getElem?_map,List.getElem?_take]at hu;split at hu
  .have h6:=h5 x rfl j ac;rw[hx,IR]at h6;rw[h6];obtain⟨y,hy,rfl⟩:=Option.map_eq_some_iff.1 hu;rw[List.getD_eq_getElem?_getD,hy];rfl
  .cases hu
theorem GG{aA:Nat}{v:Value}{y:DataW H × List MemPlace}(h:DataW.trod enc Tryz.prog W 0 (fun _=>true) held aA 22 [v]=some y):∃l,Al W v l:=by
 rcases open_ints Tryz.underlying22 Tryz.underlying3 ah h with⟨hcs,_⟩|⟨x,l,c,zs,hcs,_,hl,hm,hz,_,hcell,hwz⟩
 .simp at hcs;subst hcs;exact⟨[],Sl.nil W 1⟩
 .simp at hcs;subst hcs;simp only[if_true]at hz;exact⟨_,Nc hl hm hz (fun h=>by cases h) (fun x' hx i hi=>by injection hx with hx;subst hx;exact hcell i ac)⟩
theorem P0{aA:Nat}{v:Value}{y:DataW H × List MemPlace}(h:DataW.trod enc Tryz.prog W 0 (fun _=>true) held aA 37 [v]=some y):∃rows,BZ W v rows:=by
 rcases Go.Deep.open_int_rows Tryz.underlying37 Tryz.underlying22 Tryz.underlying3 ah ah h with⟨hcs,_⟩|⟨x,len,cap,A,L,C,Z,hcs,_,hl,hm,_,hr⟩
 .simp at hcs;subst hcs;exact⟨[], [],Sl.nil W 1,fun i r u hr=>by simp at hr⟩
 .simp at hcs;subst hcs;refine⟨(List.range len).map fun r=>(Z r).take (L r),(List.range len).map fun r=> .slice (A r) (L r) (C r),?_,fun i r u h1 h2=>?_⟩
  .refine⟨ag,some x,cap,ag,by simpa using hl,hm,fun hn=>?_⟩;simp at hn;have h0:=(hr 0 ac).1;have hx:=Fn h0 (.inr ⟨_,_,_,rfl⟩);have aB:(x.add 0)=x:=by simp[Addr.add]
   rw[aB]at hx;refine⟨x.block,x.off,congrArg some hx,fun j u hu=>?_⟩;simp only[List.getElem?_map]at hu;obtain⟨k,hk,rfl⟩:=Option.map_eq_some_iff.1 hu;have hj:j<len:=by have:=(List.getElem?_eq_some_iff.1 hk).1;simpa using this
   have e:k=j:=by simp[hj]at hk;exact hk.symm
   subst e;have:=(hr k ac).1;rw[hx,IR]at this;exact this
  .have hi:i<len:=by have:=(List.getElem?_eq_some_iff.1 h1).1;simpa using this
   simp[hi]at h1 h2;subst h1 h2;obtain⟨_,a1,a2,a3,_,a4,a5⟩:=hr i ac;exact Nc a1 a2 a3 a4 (fun x' hx j hj=>(a5 x' hx).2 j hj)
theorem TS:Tryz.prog.cellsOf 3=1:=ah
theorem XI:Tryz.prog.cellsOf 22=1:=ah
theorem c_rows:Tryz.prog.cellsOf 37=1:=ah
theorem c_fld:Tryz.prog.cellsOf 24=3:=ah
theorem c_mon:Tryz.prog.cellsOf 26=3:=ah
theorem UT{aA:Nat}{c0 c1 c2:Value}{y:DataW H × List MemPlace}(h:DataW.trod enc Tryz.prog W 0 (fun _=>true) held aA 24 [c0,c1,c2]=some y):
  ∃(P M:Int) (ml:List Int),c0= .int .i64 P/\c1= .int .i64 M/\Al W c2 ml:=by
 obtain⟨xs,k,_,_,_,aB,hf⟩:=DataW.trod_struct Tryz.underlying24 h;have g0:=hf 0 _ rfl;have g1:=hf 1 _ rfl;have g2:=hf 2 _ rfl
 match xs,aB with
 | [y0,y1,y2],_=>
  simp[TS,XI]at g0 g1 g2;obtain⟨P,e0,_,_⟩:=DataW.trod_int Tryz.underlying3 g0;obtain⟨M,e1,_,_⟩:=DataW.trod_int Tryz.underlying3 g1;obtain⟨l,hl⟩:=GG g2;simp at e0 e1;exact⟨P,M,l,e0,e1,hl⟩
theorem UG{aA:Nat}{c0 c1 c2:Value}{y:DataW H × List MemPlace}(h:DataW.trod enc Tryz.prog W 0 (fun _=>true) held aA 26 [c0,c1,c2]=some y):
  ∃(pl sl:List Int) (fr:Int),Al W c0 pl/\Al W c1 sl/\c2= .int .i64 fr:=by
 obtain⟨xs,k,_,_,_,aB,hf⟩:=DataW.trod_struct Tryz.underlying26 h;have g0:=hf 0 _ rfl;have g1:=hf 1 _ rfl;have g2:=hf 2 _ rfl
 match xs,aB with
 | [y0,y1,y2],_=>
  simp[TS,XI]at g0 g1 g2;obtain⟨P,e0,_,_⟩:=DataW.trod_int Tryz.underlying3 g2;obtain⟨l,hl⟩:=GG g0;obtain⟨l',aC⟩:=GG g1;simp at e0;exact⟨l,l',P,hl,aC,e0⟩
theorem Hw{r:Reach}{b0:Nat}{t:TypeId}{fs:Array Field}{v:Value}(ht:Tryz.prog.underlying t=some (.struct fs))(h:Value.okWide Tryz.prog W r b0 t v):∃cs,v= .agg cs/\cs.size=Tryz.prog.cellsOf t:=by
 simp only[Value.okWide,ht]at h;obtain⟨cs,h1,h2,_⟩:=h;exact⟨cs,h1,h2⟩
theorem Wb{r:Reach}{b0:Nat}{v:Value}{d:DataW H}{p:List MemPlace}(hv:Value.okWide Tryz.prog W r b0 26 v)(h:DataW.Trod enc Tryz.prog W 0 (fun _=>true) held 26 v d p):
  ∃(pv sv:Value) (pl sl:List Int) (fr:Int),v= .agg #[pv,sv,fr]/\Al W pv pl/\Al W sv sl:=by
 obtain⟨cs,rfl,aA⟩:=Hw Tryz.underlying26 hv;obtain⟨c0,c1,c2,rfl⟩:=Go.Joins.array3 (aA.trans c_mon);obtain⟨fuel,hf⟩:=h;obtain⟨pl,sl,fr,h1,h2,rfl⟩:=UG (by simpa[Value.cells]using hf);exact⟨_,_,pl,sl,fr,rfl,h1,h2⟩
theorem array5{α:Type}{cs:Array α}(h:cs.size=5):∃c0 c1 c2 c3 c4,cs= #[c0,c1,c2,c3,c4]:=by
 obtain⟨l⟩:=cs
 match l,h with
 | [c0,c1,c2,c3,c4],_=>exact⟨c0,c1,c2,c3,c4,rfl⟩
end
end
end Go.Proofs.YtehieobniamagaaGreat
