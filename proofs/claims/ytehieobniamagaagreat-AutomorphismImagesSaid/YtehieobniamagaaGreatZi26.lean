/- Walk of automorphism.Map. -/
import Derived.Test.YtehieobniamagaaGreatZi25
namespace Go.Proofs.YtehieobniamagaaGreat
open Nat renaming le_trans→μ,le_refl→ζ
open List renaming getElem_of_mem→χ,getElem?_eq_getElem→γ,mem_of_getElem?→ι,length_append→ν,not_mem_nil→γx,getElem?_map→ϖ,nodup_iff_pairwise_ne→δt,pairwise_map→ηn,map_map→ηx,map_congr_left→γl,map_id'→ξi
open Go.RowKit
set_option linter.all false
set_option maxRecDepth 100000
set_option maxHeartbeats 8000000
def mpE(p m:Int)(ml:List Int)(n:Int)(P:List Int):Int:=
 if Cm p m ml≠0 then 1 else if n<1∨64<n then 4 else if 64<n.toNat*(p.toNat^m.toNat-1) then 8 else if Ch P≠0 then Ch P else if P.length≠n.toNat*(p.toNat^m.toNat-1) then 10 else if Vp p.toNat m.toNat ml n.toNat P=false then 5 else 0
def mpM(p m:Int)(ml:List Int)(n:Int)(P:List Int):C7:=if mpE p m ml n P=0 then⟨il n.toNat (FG (p.toNat^m.toNat-1) P),il n.toNat (Ge (p.toNat^m.toNat-1) P),0⟩ else⟨[], [],0⟩
theorem WD{P:List Int}(h:Ch P=0):∀x∈P,0<=x/\x<(P.length:Int):=by
 intro x hx;unfold Ch at h;split at h
 .cases h
 .split at h
  .cases h
  .rename_i h1;have h3:¬(x<0∨(P.length:Int)<=x):=fun h2=>h1 ⟨x,hx,h2⟩;omega
theorem K9{M:C7}{e e':Int}{w':World}(h1:M=⟨[], [],0⟩)(h2:e=e'):MoR M e (.returned (.tuple #[.agg #[(),(),Ω],e'])) w':=by subst h1 h2;exact⟨_,_,rfl,Bd _,Bd _⟩
theorem zbm{P:Prop}(h:P:=by
 clear HG;go_wp2_with fail
 exact bodyPost_ret (v:= .tuple #[.agg #[(),(),Ω],(4:Int)]) (by simp[results,Tryz.results17,go_sem,q0,q1,q2]) rfl ⟨K9 (aC.o 4 (by decide) HR.o) HR.o,Co (HE.o.trans aB.o) aA.o _ _ _⟩):P:=h
theorem ax{P:Prop}(h:P:=by simp[results,Tryz.results17,go_sem,q0,q1,q2]):P:=h
theorem Map_any(w:World)(p m:Int)(ml:List Int)(mv:Value)(aR:Ak w mv ml)(n:Int)(hn:-9223372036854775808<=n/\n<=9223372036854775807)(P:List Int)(pv:Value)(hp:Ak w pv P):
  Calls Tryz.prog 17 #[.agg #[p,m,mv],n,pv] w fun r w'=>MoR (mpM p m ml n P) (mpE p m ml n P) r w'/\Ex w w':=by
 obtain⟨a0,a1,a2,ea⟩:=H6 w p m mv;obtain⟨BX,aG⟩:∃B,w.heap.size=B:=⟨_,rfl⟩;have bI:(w.alloc (.cells #[p,m,mv] 24)).heap.size=BX+1:=by simp[aG]
 have bq:=BxM.new (w.alloc (.cells #[p,m,mv] 24));rw[bI]at bq;have eb:=(Ex.refl (w.alloc (.cells #[p,m,mv] 24))).alloc (.cells #[(),(),Ω] 26);replace a0:=eb.cell a0;replace a1:=eb.cell a1;replace a2:=eb.cell a2;have HE:=Aa (ea.trans eb);have bY:=Aa (aR.ex HE.o);have HP:=Aa (hp.ex HE.o);obtain⟨ma,mc,rfl,_,_,_⟩:=aR.open;obtain⟨pa,pc,rfl,_,z2,_⟩:=hp.open;unfold maxLen at z2;rw[aG]at a0 a1 a2;have aA:Hia (w.heap.size<=BX+1):=Aa (ac);have bU:=Aa (show((w.alloc (.cells #[p,m,(ma,ml.length,mc)] 24)).alloc (.cells #[(),(),Ω] 26)).heap.size=BX+1+1 from by simp[aG]);have BQ:=Aa bq;obtain⟨ME,aM⟩:∃x,mpE p m ml n P=x:=⟨_,rfl⟩;obtain⟨MM,aS⟩:∃x,mpM p m ml n P=x:=⟨_,rfl⟩;have aK:=Aa aM;have aY:Hia (MM=if ME=0 then⟨il n.toNat (FG (p.toNat^m.toNat-1) P),il n.toNat (Ge (p.toNat^m.toNat-1) P),0⟩ else⟨[], [],0⟩):=Aa (by rw[<-aS,<-aM];rfl);have aC:Hia (∀e,e≠0->ME=e->MM=⟨[], [],0⟩):=Aa (fun e h1 h2=>by rw[aY.o,if_neg (by rw[h2];exact h1)]);rw[aM,aS];clear aM aS aR hp ea eb bq bI;go_enter Tryz.func17,Tryz.ntmps17
 go_upto_region 1 with fail
 try simp only[aG]
 clear aG;generalize (w.alloc (.cells #[p,m,(ma,ml.length,mc)] 24)).alloc (.cells #[(),(),Ω] 26)=w1 at *;have bM:=Aa (FV p m ml _ w1 bY.o);go_wp2_with fail
 refine bM.o.mono ?_;rintro e w2⟨bR,aL⟩;obtain⟨q0,q1,q2,aQ,aP,aO⟩:=BQ.o.ex aL;have aB:=Aa aL;rcases bR with⟨pn,mn,x0,gb,rfl,rfl,rfl,hg,x1,x2⟩|⟨hbad,rfl⟩
 rotate_left
 .have HR:Hia (ME=1):=Aa (by rw[<-aK.o];unfold mpE;rw[if_pos (fun h=>hbad ((BU p m ml).1 h))]);clear aL hbad;go_wp2_with fail
  exact bodyPost_ret (v:= .tuple #[.agg #[(),(),Ω],(1:Int)]) ax rfl ⟨K9 (aC.o 1 ae HR.o) HR.o,Co (HE.o.trans aB.o) aA.o _ _ _⟩
 .have aZ:=Aa (show Cm (pn:Int) mn ml=0 from(BU _ _ _).2 ⟨pn,mn,rfl,rfl,hg.sh,hg.pr,hg.isF x1 x2⟩);have HG:=Aa hg;have bC:2<=pn^mn:=μ hg.sh.p2 (Nat.le_self_pow (by have:=hg.sh.m1;omega) pn);have bB:=hg.sh.q;have aV:=Aa (show 2<=pn^mn/\pn^mn<=256 from⟨bC,bB⟩);clear hg x1 x2 aL bM bC bB;by_cases hn1:n<1
  .have HR:Hia (ME=4):=Aa (by rw[<-aK.o];unfold mpE;rw[if_neg (by rw[aZ.o];decide),if_pos (.inl hn1)]);exact zbm
  by_cases hn64:64<n
  .have HR:Hia (ME=4):=Aa (by rw[<-aK.o];unfold mpE;rw[if_neg (by rw[aZ.o];decide),if_pos (.inr hn64)]);exact zbm
  obtain⟨N,rfl⟩:∃N:Nat,n=N:=⟨n.toNat,ac⟩;have HN:Hia (1<=N/\N<=64):=Aa (ac);have aJ:Hia (ME=if 64<N*(pn^mn-1) then 8 else if Ch P≠0 then Ch P else if P.length≠N*(pn^mn-1) then 10 else if Vp pn mn ml N P=false then 5 else 0):=Aa (by
   rw[<-aK.o];unfold mpE;rw[if_neg (by rw[aZ.o];decide),if_neg ac];rfl)
  have bN:Hia (MM=if ME=0 then⟨il N (FG (pn^mn-1) P),il N (Ge (pn^mn-1) P),0⟩ else⟨[], [],0⟩):=Aa (aY.o);clear aY aK;obtain⟨q,hq⟩:=nA (pn^mn);have aW:=Aa (Cv w2 HG.o);have aD:=Aa (Hu w2 N (pn^mn) HN.o.2 (by have:=aV.o;omega) aV.o.2);have aN:=Aa (fun (w5:World) (h5:Ex w2 w5) (h1:N*(pn^mn-1)<=64) (h2:P.length=N*(pn^mn-1)) (h3:Ch P=0)=>Qu w5 (HG.o.ex h5) N HN.o.1 HN.o.2 P _ (HP.o.ex (aB.o.trans h5)) h1 h2 (WD h3));rw[hq]at aJ bN aW aD aN aV;obtain⟨D,hD⟩:=nA (N*(q-1));rw[hD]at aJ aD aN;clear hq hD;by_cases h8:64<D
  .rw[if_pos h8,if_pos h8]at aD;have HR:Hia (ME=8):=Aa (by rw[aJ.o,if_pos h8]);clear h8;go_wp2_with (first|(go_at_call 54;refine aW.o.mono ?_;rintro e w5⟨rfl,rfl⟩)|(go_at_call 53;refine aD.o.mono ?_;rintro e w5⟨rfl,rfl⟩))
   exact bodyPost_ret (v:= .tuple #[.agg #[(),(),Ω],(8:Int)]) ax rfl ⟨K9 (aC.o 8 ae HR.o) HR.o,Co (HE.o.trans aB.o) aA.o _ _ _⟩
  rw[if_neg h8,if_neg h8]at aD;have bX:=Aa h8;have aI:Hia (ME=if Ch P≠0 then Ch P else if P.length≠D then 10 else if Vp pn mn ml N P=false then 5 else 0):=Aa (by rw[aJ.o,if_neg h8]);have bP:=Aa (NG w2 P _ (HP.o.ex aB.o));obtain⟨K,hK⟩:=nA (Ch P);have HK:=Aa hK;rw[hK]at bP aI;clear h8 aJ hK;go_wp2_with (first|(go_at_call 54;refine aW.o.mono ?_;rintro e w5⟨rfl,rfl⟩)|(go_at_call 53;refine aD.o.mono ?_;rintro e w5⟨rfl,rfl⟩))
  refine bP.o.mono ?_;rintro e w3⟨rfl,aE⟩;have aH:=Aa (aB.o.trans aE);obtain⟨q0,q1,q2,aQ,aP,aO⟩:=BQ.o.ex aH.o;by_cases h0:K=0
  rotate_left
  .have hb:(K==0)=false:=by simpa using h0
   have hb2:(K !=0)=true:=by simpa using h0
   have HR:Hia (ME=K):=Aa (by rw[aI.o,if_pos h0]);have bV:=Aa (aC.o K h0 HR.o);clear h0 aE;go_wp2_with fail
   exact bodyPost_ret (v:= .tuple #[.agg #[(),(),Ω],K]) ax rfl ⟨K9 bV.o HR.o,Co (HE.o.trans aH.o) aA.o _ _ _⟩
  subst h0;by_cases hl:P.length=D
  rotate_left
  .have hb:((P.length:Int) !=(D:Int))=true:=by simp;omega
   have HR:Hia (ME=10):=Aa (by rw[aI.o,if_neg ag,if_pos hl]);clear hl aE;go_wp2_with fail
   exact bodyPost_ret (v:= .tuple #[.agg #[(),(),Ω],(10:Int)]) ax rfl ⟨K9 (aC.o 10 ae HR.o) HR.o,Co (HE.o.trans aH.o) aA.o _ _ _⟩
  have hb:((P.length:Int) !=(D:Int))=false:=aq;have bO:=Aa (aN.o w3 aE (by have:=bX.o;omega) hl HK.o);have aU:Hia (ME=if Vp pn mn ml N P=false then 5 else 0):=Aa (by rw[aI.o,if_neg ag,if_neg (by rw[hl];simp)]);obtain⟨BE,bH⟩:∃b,Vp pn mn ml N P=b:=⟨_,rfl⟩;rw[bH]at bO aU;clear hl aE aI bH aN;go_wp2_with fail
  refine bO.o.mono ?_;rintro e w4⟨u,v,rfl,hu,hv,⟨bE,bD⟩,bA⟩;obtain⟨bQ,bJ,bL,bK⟩:=Of (show BX+1<w3.heap.size from by have:=aH.o.size;have:=bU.o;omega) (aH.o.trans bA) bE bD;clear bE bD;obtain⟨q0,q1,q2,aQ,aP,aO⟩:=BQ.o.ex bJ.o;have HU:=Aa hu;have HV:=Aa hv;obtain⟨ua,uc,rfl,_,_,_⟩:=hu.open;obtain⟨va,vc,rfl,_,_,_⟩:=hv.open;obtain⟨TB,aF⟩:∃x,w4.heap.size=x:=⟨_,rfl⟩;obtain⟨LU,bG⟩:∃x,(il N (FG (q-1) P)).length=x:=⟨_,rfl⟩;obtain⟨LV,bF⟩:∃x,(il N (Ge (q-1) P)).length=x:=⟨_,rfl⟩;rw[bG]at HU bL ⊢;rw[bF]at HV bK ⊢;obtain⟨t0,t1,t2,et⟩:=BA w4 (.slice ua LU uc) (.slice va LV vc) 0;rw[aF]at t0 t1 t2;have aT:=Aa (bJ.o.trans et);obtain⟨q0,q1,q2,aQ,aP,aO⟩:=BQ.o.ex aT.o;have bT:=Aa (HU.o.ex et);have bS:=Aa (HV.o.ex et);have HTB:=Aa aF;clear hu hv bA bG bF et
  cases BE with
  | false=>
   have HR:Hia (ME=5):=Aa (by rw[aU.o];rfl);go_wp2_with fail
   try simp only[aF]
   exact bodyPost_ret (v:= .tuple #[.agg #[(),(),Ω],(5:Int)]) ax rfl ⟨K9 (aC.o 5 ae HR.o) HR.o,Co (HE.o.trans aT.o) aA.o _ _ _⟩
  | true=>
   have HR:Hia (ME=0):=Aa (by rw[aU.o];rfl);have HM:Hia (MM=⟨il N (FG (q-1) P),il N (Ge (q-1) P),0⟩):=Aa (by rw[bN.o,if_pos HR.o]);go_upto_region 14 with fail
   try simp only[aF]
   clear aF;generalize w4.alloc (.cells #[(ua,LU,uc),(va,LV,vc),Ω] 26)=w5 at *;go_wp2_with fail
   have bW:=HR.o;have aX:=HM.o;subst bW;subst aX;exact bodyPost_ret (v:= .tuple #[.agg #[(ua,LU,uc),(va,LV,vc),Ω],Ω]) ax rfl ⟨⟨_,_,rfl,Fj bT.o (fun X e=>by have:=bL.o X e;have:=bQ.o;omega) _ _ _,Fj bS.o (fun X e=>by have:=bK.o X e;have:=bQ.o;omega) _ _ _⟩,Co (HE.o.trans aT.o) aA.o _ _ _⟩
def Dr(l:List Int):Nat->Nat:=fun i=>if i<l.length then(l.getD i 0).toNat else i
theorem Lq{n:Nat}{f:Nat->Nat}(hf:Bo n f):Dr (li n f)=f:=funext fun i=>by
 unfold Dr;rw[Fb];by_cases hi:i<n
 .rw[if_pos hi,List.getD_eq_getElem?_getD,DU hi];rfl
 .rw[if_neg hi,hf.off i ac]
theorem ZM(w:World):B6 w (.slice none 0 0) []:=⟨[],Sl.nil w 1,fun i r u h=>by simp at h⟩
theorem Ft{w:World}{a:Option Addr}{n cap:Nat}{f:Nat->Nat}(h:Ak w (.slice a n cap) (li n f))(hn:0<n):∃b o,a=some ⟨b,o,none⟩/\b<w.heap.size/\∀j,j<n->w.cell? ⟨b,o+j,none⟩=some (.int .i64 (f j:Int)):=by
 obtain⟨a',cap',e,_,_,h2⟩:=Fd h;injection e with e1 e2 e3;subst e1;obtain⟨b,o,h3,h4⟩:=h2 hn;exact⟨b,o,h3,World.block_lt_of_cell? _ _ (h4 0 hn),h4⟩
structure Cu(w0 wr:World)(base g n:Nat)(sf:Nat->Bool)(cyv:Value)(cyc:List Int)(cv:Value)(M:List (List Int))(vals:List Value):Prop where
 sn:AJ wr w0.heap.size 4 g n (bv sf)
 cy:wr.ownsRow base 3 1 cyv cyc.length (Aj cyc)
 m:BI wr base cv M vals
 ap1:AD cyv cv
 ap2:∀u∈vals,AD u cyv
 gb:g<base
 ex:Ex w0 wr
 wb:base<=wr.heap.size
section
variable {w0 wr:World} {base g n:Nat} {sf:Nat->Bool} {cyv:Value} {cyc:List Int} {cv:Value} {M:List (List Int)} {vals:List Value}
theorem Cu.later(h:Cu w0 wr base g n sf cyv cyc cv M vals){w':World}(hx:Ex wr w'):Cu w0 w' base g n sf cyv cyc cv M vals:=
 ⟨h.sn.ex hx,Ag h.cy hx,h.m.ex hx,h.ap1,h.ap2,h.gb,h.ex.trans hx,μ h.wb hx.size⟩
theorem Cu.congr(h:Cu w0 wr base g n sf cyv cyc cv M vals){sf':Nat->Bool}(hc:∀x,x<n->sf x=sf' x):Cu w0 wr base g n sf' cyv cyc cv M vals:=
 ⟨h.sn.bcongr hc,h.cy,h.m,h.ap1,h.ap2,h.gb,h.ex,h.wb⟩
theorem Cu.mark(h:Cu w0 wr base g n sf cyv cyc cv M vals)(x:Nat):Cu w0 (wr.setCell (g,x) (.bool true)) base g n (Ay sf x true) cyv cyc cv M vals:=
 ⟨by rw[<-SA];exact h.sn.set x _,Ae h.cy (fun e=>by have:=(h.cy.lt _ e).1;have:=h.gb;dsimp only at *;omega) _,h.m.setNe h.gb _,h.ap1,h.ap2,h.gb,h.sn.exSet (ζ _) h.ex x _,by have:=h.wb;simpa[World.setCell]using this⟩
theorem Cu.app(h:Cu w0 wr base g n sf cyv cyc cv M vals){x:Int}{w':World}{v':Value}(ha:Bz wr w' base 3 1 cyv v' cyc.length (Aj cyc) [.int .i64 x]):Cu w0 w' base g n sf v' (cyc ++ [x]) cv M vals:=by
 have aC:cyv.ownBlock≠some g:=fun e=>by have:=(h.cy.lt _ e).1;have:=h.gb;omega
 have aA:=ha.row h.m.cvo h.ap1.symm;have hn:=h.m.len;have aB:∀u∈vals,∃L:List Int,wr.ownsRow base 3 1 u L.length (Aj L):=fun u hu=>by
  obtain⟨i,hi,e⟩:=χ hu;exact⟨_,h.m.row i (M[i]'ac) u (γ _) au⟩
 refine⟨(ha.arr h.sn aC).1,?_,⟨aA.1,fun i r u h1 h2=>(ha.row (h.m.row i r u h1 h2) (h.ap2 u (ι h2))).1,h.m.apart⟩,aA.2.symm,fun u hu=>?_,h.gb,ha.ex h.ex (by have:=h.gb;have:=h.sn.lt.1;omega),by have:=ha.grow;have:=h.wb;omega⟩
 .have:=ha.own;rw[ν];simpa[Aj]using this
 .obtain⟨L,hL⟩:=aB u hu;exact(ha.row hL (h.ap2 u hu)).2
theorem Cu.push(h:Cu w0 wr base g n sf cyv cyc cv M vals){w':World}{v':Value}(ha:Bz wr w' base 22 1 cv v' M.length vals [cyv]):Cu w0 w' base g n sf (.slice none 0 0) [] v' (M ++ [cyc]) (vals ++ [cyv]):=by
 have aA:cv.ownBlock≠some g:=fun e=>by have:=(h.m.cvo.lt _ e).1;have:=h.gb;omega
 refine⟨(ha.arr h.sn aA).1,World.ownsRow_nil _ _ _ _,h.m.app h.cy h.ap1 ha,AD.nil _,fun u _=>?_,h.gb,ha.ex h.ex (by have:=h.gb;have:=h.sn.lt.1;omega),by have:=ha.grow;have:=h.wb;omega⟩;exact(AD.nil u).symm
theorem Cu.start{w1:World}{n:Nat}(h:AJ w1 w0.heap.size 4 w0.heap.size n (fun _=> .bool false))(hx:Ex w0 w1){sf:Nat->Bool}(hs:∀x,x<n->sf x=false):Cu w0 w1 (w0.heap.size+1) w0.heap.size n sf (.slice none 0 0) [] (.slice none 0 0) [] []:=
 ⟨h.congr fun j hj=>by show _=Value.bool (sf j);rw[hs j hj],World.ownsRow_nil _ _ _ _,BI.nil _ _,AD.nil _,fun u h'=>absurd h' (γx),ac,hx,by have:=h.lt.2;omega⟩
end
def SJ:Prop:=∀(w:World) (base:Nat) (v:Value) (l:List Int),w.ownsRow base 3 1 v l.length (Aj l)->1<=l.length->l.length<=1000->
 Calls Tryz.prog 125 #[v] w fun r w'=>r= .returned (.tuple #[])/\w'.ownsRow base 3 1 v l.length (Aj (l.mergeSort fun x y=>decide (x<=y)))/\w.grownBy w' v.ownBlock
theorem KX{w:World}{base aA:Nat}{e:TypeId}{size:Nat}{v:Value}{n:Nat}{xs:List Value}(h:w.ownsRow base e size v n xs)(hb:aA<=base):w.ownsRow aA e size v n xs:=by
 exact zce
section
variable {w0 wr:World} {base g n:Nat} {sf:Nat->Bool} {cyv:Value} {cyc:List Int} {cv:Value} {M:List (List Int)} {vals:List Value}
theorem Cu.lit(h:Cu w0 wr base g n sf cyv cyc cv M vals)(x:Int):Cu w0 (wr.alloc (.cells #[x] 3)) base g n sf (.slice (some (wr.heap.size,0)) 1 1) [x] cv M vals:=by
 have hx:Ex wr (wr.alloc (.cells #[x] 3)):=(Ex.refl _).alloc _;have h2:=h.later hx;refine⟨h2.sn,?_,h2.m,?_,fun u hu=>?_,h2.gb,h2.ex,h2.wb⟩
 .have:=Ee wr (.int .i64 x) 3;exact KX this h.wb
 .right;intro e;have:=(h.m.cvo.lt wr.heap.size e.symm).2;omega
 .unfold AD
  cases e:u.ownBlock with
  | none=>exact .inl rfl
  | some b=>
   right;intro e2;injection e2 with e2;have e2:b=wr.heap.size:=e2;have hn:=h.m.len;obtain⟨i,hi,ei⟩:=χ hu;have:=((h.m.row i (M[i]'ac) u (γ _) (by rw[γ hi,ei])).lt b e).2;omega
theorem Cu.turn(h:Cu w0 wr base g n sf cyv cyc cv M vals){w':World}{l:List Int}(hl:l.length=cyc.length)(ho:w'.ownsRow base 3 1 cyv cyc.length (Aj l))(hg:wr.grownBy w' cyv.ownBlock):Cu w0 w' base g n sf cyv l cv M vals:=by
 have aA:cyv.ownBlock≠some g:=fun e=>by have:=(h.cy.lt _ e).1;have:=h.gb;omega
 refine⟨h.sn.kept hg (.inr fun e=>aA e.symm),by rw[hl];exact ho,⟨h.m.cvo.kept hg h.ap1.symm,fun i r u h1 h2=>(h.m.row i r u h1 h2).kept hg (h.ap2 u (ι h2)),h.m.apart⟩,h.ap1,h.ap2,h.gb,Ex.grown h.ex h.cy (by have:=h.gb;have:=h.sn.lt.1;omega) hg,μ h.wb hg.size⟩
end
def DN(q:List Nat):List Int:=q.map fun (x:Nat)=>(x:Int)
theorem Cz(q:List Nat):(DN q).length=q.length:=by unfold DN;simp
theorem Z6{q:List Nat}{k x:Nat}(h:q[k]?=some x):(DN q)[k]?=some (x:Int):=by unfold DN;rw[ϖ,h];rfl
theorem TK(q:List Nat)(x:Nat):DN (q ++ [x])=DN q ++ [(x:Int)]:=by unfold DN;simp
theorem zbT{P:Prop}(h:P:=by
 unfold DN;rw[List.mem_map];exact⟨fun h=>⟨x,h,rfl⟩,fun ⟨y,hy,e⟩=>by
   have:y=x:=by omega
   subst this;exact hy⟩):P:=h
theorem V8{n:Nat}{S:List (Nat->Nat)}(hS:∀s∈S,Bo n s){i:Nat}(hi:i<n){q:List Nat}(aB:q.Nodup)(hq:∀y,y∈q↔Ei S i y):(DN q).mergeSort (fun x y=>decide (x<=y))=RP n S i:=by
 have hp:((DN q).mergeSort fun x y=>decide (x<=y)).Perm (DN q):=List.mergeSort_perm _ _;have hs:((DN q).mergeSort fun x y=>decide (x<=y)).Pairwise fun x y=>decide (x<=y)=true:=List.pairwise_mergeSort (fun a b c h1 h2=>by simp at *;omega) (fun a b=>by simp;omega) _;have aA:((DN q).mergeSort fun x y=>decide (x<=y)).Nodup:=hp.nodup_iff.2 (by
  unfold DN;rw[δt]at aB ⊢;exact ηn.2 (aB.imp fun {a b} h e=>h ac))
 generalize (DN q).mergeSort (fun x y=>decide (x<=y))=m at *;obtain⟨r,hr⟩:∃r:List Nat,m=DN r:=by
  refine⟨m.map Int.toNat,?_⟩;unfold DN;rw[ηx];have:∀x∈m,((fun (x:Nat)=>(x:Int)) ∘ Int.toNat) x=x:=fun x hx=>by
   obtain⟨y,_,rfl⟩:=List.mem_map.1 (hp.mem_iff.1 hx);rfl
  rw[γl this,ξi]
 subst hr;unfold RP;show DN r=DN _
 congr 1
 refine QZ ?_ (WH n S i) fun x=>?_
 .have h1:(DN r).Pairwise (fun x y=>decide (x<=y)=true/\x≠y):=hs.and (δt.1 aA);unfold DN at h1;rw[ηn]at h1;exact h1.imp fun {a b} h=>by have:=of_decide_eq_true h.1;have:=h.2;omega
 .rw[WW];have h2:x∈r↔(x:Int)∈DN r:=by
   exact zbT
  have h3:x∈q↔(x:Int)∈DN q:=by
   exact zbT
  rw[h2,hp.mem_iff,<-h3,hq];exact⟨fun h=>⟨h.lt hS hi,h⟩,fun h=>h.2⟩
open Classical in
noncomputable def CI (S:List (Nat->Nat)) (i:Nat) (q:List Nat):Nat->Bool:=fun x=>decide (F8 S i x∨x∈q)
open Classical in
theorem IW (S:List (Nat->Nat)) (i x:Nat):CI S i [] x=decide (F8 S i x):=by unfold CI;simp
open Classical in
theorem MY (S:List (Nat->Nat)) (i:Nat) (q:List Nat) (x:Nat):Ay (CI S i q) x true=CI S i (q ++ [x]):=by
 funext y;unfold Ay CI;by_cases h:y=x
 .subst h;simp
 .simp[h]
open Classical in
theorem UI {n:Nat} {S:List (Nat->Nat)} (hS:∀s∈S,Bo n s) {i:Nat} {q:List Nat} (hq:∀y,y∈q↔Ei S i y) (x:Nat):CI S i q x=CI S (i+1) [] x:=by
 unfold CI;rw[Bool.eq_iff_iff];simp only[decide_eq_true_eq,γx,or_false];rw[KC hS,hq]
open Classical in
theorem Wh {n:Nat} {S:List (Nat->Nat)} (hS:∀s∈S,Bo n s) {i:Nat} (h:¬Pc S i) (x:Nat):CI S i [] x=CI S (i+1) [] x:=by
 unfold CI;rw[Bool.eq_iff_iff];simp only[decide_eq_true_eq,γx,or_false];exact(Wg hS h).symm
noncomputable def Io(n:Int)(rows:List (List Int)):List (List Int) × Int:=if Es n rows≠0 then([],Es n rows) else(DA n.toNat (rows.map Dr) n.toNat,0)
def OrbR(n:Int)(rows:List (List Int))(r:Ending)(w':World):Prop:=∃v,r= .returned (.tuple #[v,.int .i64 (Io n rows).2])/\B6 w' v (Io n rows).1
theorem Oc{n:Int}{rows k:List (List Int)}{e:Int}{v:Value}{w':World}(h:Io n rows=(k,e))(hv:B6 w' v k):OrbR n rows (.returned (.tuple #[v,e])) w':=⟨v,by rw[h],by rw[h];exact hv⟩
theorem Ir{N:Nat}{S:List (Nat->Nat)}(hS:∀s∈S,Bo N s):(S.map (li N)).map Dr=S:=by
 rw[ηx];have:∀s∈S,(Dr ∘ li N) s=s:=fun s hs=>Lq (hS s hs);rw[γl this,ξi]
theorem zct{P:Prop}(h:P:=by
 rw[BF.o.sn.cell bE];show some (Value.bool (CI S i q (s x)))=_
 unfold CI;simp[hm]):P:=h
theorem cd{P:Prop}(h:P:=by simp[World.setCell]):P:=h
theorem SN(bQ:SJ)(w:World)(n:Int)(rows:List (List Int))(v:Value)(hv:B6 w v rows)(hrl:rows.length<=1000):
  Calls Tryz.prog 65 #[n,v] w fun r w'=>OrbR n rows r w'/\Ex w w':=by
 have HV:=Aa hv;have HG:=Aa (Gv w n rows v hv);obtain⟨a,cap,rfl,_,s2,_⟩:=hv.open;unfold maxLen at s2;obtain⟨e,he⟩:=nA (Es n rows);rw[he]at HG;clear hv;by_cases h0:e=0
 .subst h0;obtain⟨N,rfl,hN1,bS,S,aP,hS⟩:=Kh he;obtain⟨HP,HS,bU,HN⟩:=Of (show Io N rows=(DA N S N,0) from by unfold Io;rw[he,if_neg ae,aP,Ir hS];rfl) hS aP bS;have bH:S.length=rows.length:=by rw[aP];simp
  have bL:=Aa bH;clear he hS aP bH;go_enter Tryz.func65,Tryz.ntmps65
  go_wp2_with (first|(go_at_call 124;refine HG.o.mono ?_;rintro e w1⟨rfl,aI⟩;have aQ:=Aa aI;clear aI)|(at_make;refine Ar _ rfl _ _ 168 rfl 4 (.bool false) 1 Tryz.underlying168 Lj rfl _ N rfl rfl rfl ac ai ?_))
  intro w3 aC bC;have aE:=Aa (Cu.start aC bC (sf:=CI S 0 []) fun x _=>by
   rw[IW];simp[F8])
  clear aC bC;obtain⟨g,hg⟩:=nA w1.heap.size
  try simp only[hg]at aE ⊢
  clear hg;go_wp2_with fail
  go_loopw [24,8,10] (fun i' bT aO wr=>∃(i:Nat) (vals:List Value),i<=N/\i'= .int .i64 i/\Hia (Cu w1 wr (g+1) g N (CI S i []) (.slice none 0 0) [] bT (DA N S i) vals)) (fun i' _ _ _=>N-(intOf i').toNat)
  case atStart=>exact⟨0,_,ac,rfl,aE⟩
  case round=>
   clear aE;obtain⟨i,vals,hi,rfl,BF⟩:=hrel;obtain⟨bJ,bI,bR⟩:=Ad BF.o.m.cvo;subst bR;have cB:=Aa (UY N S i);by_cases hin:i<N
   .have i1:(0:Int)<=(i:Int):=by omega
    have i2:(i:Int)<(N:Int):=ac;have c2:=BF.o.sn.frz i;by_cases hl:Pc S i
    .have c1:wr.cell? (g,i)=some (.bool false):=by
      rw[BF.o.sn.cell hin];show some (Value.bool (CI S i [] i))=_
      rw[IW];have:¬F8 S i i:=fun h=>Ho.1 h hl;simp[this]
     have HL:=Aa hl;have bD:(wr.setCell (g,i) (.bool true)).heap.size=wr.heap.size:=cd;have aZ:=Aa (((BF.o.mark i).congr (sf':=CI S i [i]) fun x _=>by rw[MY];rfl).lit (i:Int));rw[bD]at aZ;have aM:=Aa (EP.start N S i);clear BF hl bD;go_wp2_with fail
     generalize (wr.setCell (g,i) (.bool true)).alloc (.cells #[(i:Int)] 3)=wm at *
     go_loopg [10,11] N (fun gk aO k' wr=>∃(q:List Nat) (k:Nat),k<=(DN q).length/\N-k<=gk/\k'= .int .i64 k/\Hia (Cu w1 wr (g+1) g N (CI S i q) aO (DN q) (.slice bJ (DA N S i).length bI) (DA N S i) vals)/\Hia (EP N S i q k 0))
     case atStart=>exact⟨[i],0,ac,ac,rfl,aZ,aM⟩
     case round=>
      clear aZ aM c1 c2;obtain⟨q,k,hk,aV,rfl,BF,aA⟩:=hrel;have aJ:=aA.o.len HS.o hin;rw[<-Cz]at aJ;obtain⟨aH,bF⟩:=aJ;by_cases aF:k<(DN q).length
      .have bO:Hia (k<N):=Aa (ac);have cA:=Aa aV;have b1:decide ((k:Int)<((DN q).length:Int))=true:=by simp;omega
       obtain⟨ob,oc,aK,aG,aB⟩:=Dz BF.o.cy aH;subst aK;unfold maxLen at aB;clear aG aB;go_wp2_with fail
       go_loopw [10,44] (fun aO g' wr=>∃(q:List Nat) (t:Nat),t<=rows.length/\g'= .int .i64 t/\k<q.length/\Hia (Cu w1 wr (g+1) g N (CI S i q) aO (DN q) (.slice bJ (DA N S i).length bI) (DA N S i) vals)/\Hia (EP N S i q k t)) (fun _ g' _=>rows.length-(intOf g').toNat)
       case atStart=>exact⟨q,0,ac,rfl,by rw[<-Cz];exact aF,BF,aA⟩
       case round=>
        clear BF aA aF hk aV aH bF b1;obtain⟨q,t,ht,rfl,aF,BF,aA⟩:=hrel;have aJ:=aA.o.len HS.o hin;rw[<-Cz]at aJ;obtain⟨aH,bF⟩:=aJ;obtain⟨ob,oc,aK,aG,aB⟩:=Dz BF.o.cy aH;subst aK;unfold maxLen at aB;by_cases htr:t<rows.length
        .obtain⟨s,hs⟩:∃s,S[t]?=some s:=⟨_,γ (by rw[bL.o];exact htr)⟩;obtain⟨x,hx⟩:∃x,q[k]?=some x:=⟨_,γ aF⟩;have aT:rows[t]?=some (li N s):=by rw[bU.o,ϖ,hs];rfl
         have aS:=HS.o s (ι hs);have bB:=aA.o.lt HS.o hin x (ι hx);have bE:=aS.lt x bB;obtain⟨_,_,e1,_,_,h3⟩:=(HV.o.ex (aQ.o.trans BF.o.ex)).open;injection e1 with e1 e2 e3;subst e1 e3;obtain⟨zb,zo,rfl,aR⟩:=h3 ac;obtain⟨u,d1,hu⟩:=aR t _ aT;obtain⟨ua,uc,rfl,_,_,_⟩:=Fd hu;obtain⟨pb,po,rfl,_,aU⟩:=Ft hu ac;have d2:=aU x bB;have d3:wr.cell? (ob,k)=some (.int .i64 (x:Int)):=by
          rw[World.ownsRow.cellAt BF.o.cy k (by rw[Cz];omega)];exact Qm (Z6 hx)
         have d4:=BF.o.sn.frz (s x);have i3:(0:Int)<=(t:Int):=ac;have i4:(t:Int)<(rows.length:Int):=ac;have i5:(0:Int)<=(k:Int):=ac;have i6:(k:Int)<((DN q).length:Int):=by rw[Cz];omega
         have i7:(0:Int)<=(x:Int):=ac;have i8:(x:Int)<(N:Int):=ac;have i9:(0:Int)<=(s x:Int):=ac;have i10:(s x:Int)<(N:Int):=ac;have aL:=aA;by_cases hm:F8 S i (s x)∨s x∈q
         .have d5:wr.cell? (g,s x)=some (.bool true):=by
           exact zct
          have aN:=Aa (aA.o.hit hx hs (aA.o.seen HL.o hx hs hm));have aE:=Aa BF.o;clear BF aA aL hm aR h3 hu aU hs hx aT aS;go_wp2_with fail
          go_roundw
          case rel=>exact⟨q,t+1,ac,by go_num,aF,aE,aN⟩
          case measure=>exact Ωm
         .have d5:wr.cell? (g,s x)=some (.bool false):=by
           exact zct
          have aN:=Aa (aA.o.new hx hs (fun h=>hm (.inr h)));have aY:=Aa ((BF.o.mark (s x)).congr (sf':=CI S i (q ++ [s x])) fun y _=>by rw[MY]);have aW:=Aa aY.o.wb;have cC:=Aa (TK q (s x));clear BF aA aL hm aR h3 hu aU hs hx aT aS;generalize hWW:wr.setCell (g,s x) (.bool true)=wm at *;go_wp2_with (at_builtin;refine Al _ rfl _ _ 22 rfl (g+1) 3 (.int .i64 0) 1 8 Tryz.underlying22 Az rfl ae _ (DN q).length _ rfl aY.o.cy [.int .i64 (s x:Int)] 3 _ rfl ag rfl aj ai ac aW.o ?_)
          intro oy2 w4 aD;have bN:=Aa (aY.o.app aD);rw[<-cC.o]at bN;clear aD;go_wp2_with fail
          go_roundw
          case rel=>exact⟨q ++ [s x],t+1,ac,by go_num,by rw[ν];omega,bN,aN⟩
          case measure=>exact Ωm
        .obtain rfl:t=rows.length:=by omega
         have aN:=Aa (aA.o.next (by rw[bL.o];exact ζ _));have aE:=Aa BF.o;have bZ:=Aa aF;have hk64:k<=64:=by have:=bO.o;have:=HN.o;omega
         clear BF aA aF;go_wp2_with fail
         go_roundg (N-(k+1))
         case rel=>exact⟨q,k+1,by rw[Cz];have:=bZ.o;omega,ac,by go_num,aE,aN⟩
         case measure=>have:=bO.o;have:=cA.o;omega
      .obtain rfl:k=(DN q).length:=by omega
       have bP:=Aa (fun y=>aA.o.fin (by rw[Cz];exact ζ _) y);have bV:=Aa (V8 HS.o hin aA.o.nd bP.o);have bK:=Aa (BF.o.congr (sf':=CI S (i+1) []) fun x _=>UI HS.o bP.o x);have aE:=Aa (bQ wr (g+1) _ (DN q) bK.o.cy aH ac);obtain⟨ob,oc,aK,aG,aB⟩:=Dz BF.o.cy aH;subst aK;unfold maxLen at aB;have bA:=Aa ((K3 N S i).1 HL.o);have bY:=Aa (show((DN q).mergeSort fun x y=>decide (x<=y)).length=(DN q).length from List.length_mergeSort _);have hml:(DA N S i).length<=64:=by have:=cB.o;have:=HN.o;omega
       clear BF aA aF hk aV;go_wp2_with (first|(go_at_call 125;refine aE.o.mono ?_;rintro e w5⟨rfl,aC,bG⟩;have aX:=Aa (bK.o.turn bY.o aC bG);have aW:=Aa aX.o.wb;clear aC bG)|(at_builtin;refine Al _ rfl _ _ 37 rfl (g+1) 22 (.slice none 0 0) 1 24 Tryz.underlying37 BZ rfl ae _ (DA N S i).length _ rfl aX.o.m.cvo [.slice (some ⟨ob,0,none⟩) (DN q).length oc] 22 _ rfl ag rfl aj ai ac aW.o ?_))
       intro cv2 w6 aD;have bM:=Aa (aX.o.push aD);rw[bV.o,<-bA.o]at bM;clear aD;go_wp2_with fail
       go_roundw
       case rel=>exact⟨i+1,_,ac,by go_num,bM⟩
       case measure=>exact Ωm
    .have c1:wr.cell? (g,i)=some (.bool true):=by
      rw[BF.o.sn.cell hin];show some (Value.bool (CI S i [] i))=_
      rw[IW];have:F8 S i i:=Ho.2 hl;simp[this]
     have bW:=Aa (BF.o.congr fun x hx=>Wh HS.o hl x);have bA:=Aa ((K3 N S i).2 hl);clear BF hl;go_wp2_with fail
     go_roundw
     case rel=>exact⟨i+1,vals,ac,by go_num,by rw[bA.o];exact bW⟩
     case measure=>exact Ωm
   .obtain rfl:i=N:=by omega
    have bX:=Aa (BF.o.m.msl);have HX:=Aa (aQ.o.trans BF.o.ex);clear BF;go_wp2_with fail
    go_ret2;exact⟨Oc HP.o bX.o,HX.o⟩
 .have HP:Hia (Io n rows=([],e)):=Aa (by unfold Io;rw[he,if_pos h0]);have hb:(e !=0)=true:=by simpa using h0
  clear h0 he;go_enter Tryz.func65,Tryz.ntmps65
  go_wp2_with (go_at_call 124;refine HG.o.mono ?_;rintro e w1⟨rfl,aI⟩;have aQ:=Aa aI;clear aI)
  go_ret2;exact⟨Oc HP.o (ZM _),aQ.o⟩
def EW(n:Nat)(f g:Nat->Nat):Prop:=(∀i,i<n->f i=g i)∨∃i,i<n/\(∀j,j<i->f j=g j)/\f i<g i
theorem EW.antisymm{n:Nat}{f g:Nat->Nat}(hf:Bo n f)(hg:Bo n g)(h:EW n f g)(k:EW n g f):f=g:=by
 rcases h with h|⟨i,hi,h1,h2⟩
 .exact Iv hf hg h
 .rcases k with k|⟨j,hj,k1,k2⟩
  .have:=k i hi;omega
  .rcases Nat.lt_trichotomy i j with e|e|e
   .have:=k1 i e;omega
   .subst e;omega
   .have:=h1 j e;omega
def C9(R:Nat->Option (Nat->Nat))(p:Nat->Nat)(c:Nat):Nat->Nat
 | 0=>c
 | x+1=>if (R x).isSome=true/\p x<p (C9 R p c x) then x else C9 R p c x
theorem GG{R:Nat->Option (Nat->Nat)}{p:Nat->Nat}{c:Nat}(hc:(R c).isSome=true):∀x,(R (C9 R p c x)).isSome=true/\(∀y,y<x->(R y).isSome=true->p (C9 R p c x)<=p y)/\p (C9 R p c x)<=p c
 | 0=>⟨hc,fun y h=>by omega,ζ _⟩
 | x+1=>by
  obtain⟨h1,h2,h3⟩:=GG (p:=p) hc x;unfold C9;split
  .rename_i h;refine⟨h.1,fun y hy hr=>?_,ac⟩;by_cases e:y=x
   .subst e;exact ζ _
   .have:=h2 y ac hr;omega
  .rename_i h;refine⟨h1,fun y hy hr=>?_,h3⟩;by_cases e:y=x
   .subst e;apply Classical.byContradiction;intro hn;exact h ⟨hr,ac⟩
   .exact h2 y ac hr
def Ug(n:Nat)(R:Nat->Nat->Option (Nat->Nat)):Nat->Nat->(Nat->Nat)->(Nat->Nat)
 | 0,_,p=>p
 | k+1,c,p=>Ug n R k (c+1) (Ap ((R c (C9 (R c) p c n)).getD Ep) p)
theorem QS{n:Nat}{t:Tw}(hG:Db n t):∀k c p,c+k=n->Bo n p->
  (∃h,Bo n h/\AU c h/\Sf n t.R k c h/\Ug n t.R k c p=Ap h p)/\∀h,Bo n h->AU c h->Sf n t.R k c h->EW n (Ug n t.R k c p) (Ap h p)
 | 0,c,p,hc,hp=>by
  refine⟨⟨Ep,Fe n,Hz _,trivial,rfl⟩,fun h hP hF _=> .inl fun i hi=>?_⟩;have:h=Ep:=AU.all hP (by
    have:c=n:=ac;subst this;exact hF)
  subst this;rfl
 | k+1,c,p,hc,hp=>by
  have aF:=hG.one c ac;obtain⟨aL,aK,_⟩:=GG (R:=t.R c) (p:=p) (c:=c) (by rw[aF];rfl) n;obtain⟨r,hr⟩:=Option.isSome_iff_exists.1 aL;obtain⟨_,hbn,aB,aE,aD⟩:=hG.rep _ _ _ hr;obtain⟨⟨h0,aN,aH,aM,aG⟩,hL⟩:=QS hG k (c+1) (Ap r p) ac (aB.comp hp);have he:Ug n t.R (k+1) c p=Ug n t.R k (c+1) (Ap r p):=by
   show Ug n t.R k (c+1) (Ap ((t.R c (C9 (t.R c) p c n)).getD Ep) p)=_
   rw[hr];rfl
  rw[he];have aC:∀i,i<c->h0 i=i:=fun i hi=>aH i ac;refine⟨⟨Ap h0 r,aN.comp aB,fun i hi=>?_,⟨r,?_,?_⟩,?_⟩,fun h hP hF hS=>?_⟩
  .show r (h0 i)=i
   rw[aC i hi,aE i hi]
  .show t.R c (r (h0 c))=some r
   rw[aH c ac,aD];exact hr
  .rw[ET,aB.then_inv];exact aM
  .rw[aG];rfl
  .obtain⟨s,aA,aJ⟩:=hS;obtain⟨_,aI,hsP,hsF,hsb⟩:=hG.rep _ _ _ aA;have hle:=aK (h c) aI (by rw[aA];rfl);by_cases e:p (C9 (t.R c) p c n)=p (h c)
   .have e2:=hp.inj _ _ e;rw[<-e2,hr]at aA;injection aA with aA;subst aA;have:=hL (Ap h (A8 n r)) (hP.comp aB.inv) (hF.div aB aE (by rw[aD,e2])) aJ
    rwa[<-ET,aB.cancel]at this
   .right;refine⟨c,ac,fun j hj=>?_,?_⟩
    .rw[aG];show p (r (h0 j))=p (h j)
     rw[aC j hj,aE j hj,hF j hj]
    .rw[aG];show p (r (h0 c))<p (h c)
     rw[aH c ac,aD];omega
structure DX(n:Nat)(S:List (Nat->Nat))(b x:Nat)(f:Nat->Nat):Prop where
 gn:Gn S f
 fix:AU b f
 at_:f b=x
 le:∀g,Gn S g->AU b g->g b=x->EW n f g
theorem DX.uniq{n:Nat}{S:List (Nat->Nat)}(hS:∀s∈S,Bo n s){b x:Nat}{f g:Nat->Nat}(hf:DX n S b x f)(hg:DX n S b x g):f=g:=
 EW.antisymm (hf.gn.isP hS) (hg.gn.isP hS) (hf.le g hg.gn hg.fix hg.at_) (hg.le f hf.gn hf.fix hf.at_)
theorem IR.canon{n k:Nat}{S:List (Nat->Nat)}{t:Tw}(hn:1<=n)(hS:∀s∈S,Bo n s)(h:IR n S t k)(hk:S.length<=k){b x:Nat}(hb:b<n){r:Nat->Nat}(hr:t.R b x=some r):DX n S b x (Ug n t.R (n-(b+1)) (b+1) r):=by
 obtain⟨_,_,aA,aF,aD⟩:=h.good.rep _ _ _ hr;obtain⟨⟨h0,aJ,aC,aI,aB⟩,hL⟩:=QS h.good (n-(b+1)) (b+1) r ac aA;have aK:=(h.grp hn hS hk ac aJ aC).1 aI;have aE:Gn S r:=h.snd.1 b x r (Nat.zero_le _) hr;refine⟨by rw[aB];exact aK.mul aE,fun i hi=>?_,?_,fun g hg hF aH=>?_⟩
 .rw[aB];show r (h0 i)=i
  rw[aC i ac,aF i hi]
 .rw[aB];show r (h0 b)=x
  rw[aC b ac,aD]
 .have aG:=hg.isP hS;have h1:AU (b+1) (Ap g (A8 n r)):=hF.div aA aF (by rw[aD,aH]);have h2:=(h.grp hn hS hk ac (aG.comp aA.inv) h1).2 (hg.mul (aE.inv hS));have:=hL _ (aG.comp aA.inv) h1 h2
  rwa[aA.cancel]at this
open Classical in
noncomputable def De (n:Nat) (S:List (Nat->Nat)) (b x:Nat):Nat->Nat:=if h:∃f,DX n S b x f then Classical.choose h else Ep
open Classical in
theorem Ka {n:Nat} {S:List (Nat->Nat)} (hS:∀s∈S,Bo n s) {b x:Nat} {f:Nat->Nat} (h:DX n S b x f):De n S b x=f:=by
 have he:∃f,DX n S b x f:=⟨f,h⟩;unfold De;rw[dif_pos he];exact DX.uniq hS (Classical.choose_spec he) h
structure Lv where
 pt:Int
 orb:List Int
 reps:List (List Int)
end Go.Proofs.YtehieobniamagaaGreat
