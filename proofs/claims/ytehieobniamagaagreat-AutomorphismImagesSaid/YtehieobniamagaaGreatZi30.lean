/- Plain: the points of a map tell the map. -/
import Derived.Test.YtehieobniamagaaGreatZi29
namespace Go.Proofs.YtehieobniamagaaGreat
open List renaming getD_eq_getElem?_getD→δ,getElem?_eq_getElem→γ,getElem?_eq_none→ϛ,getElem?_map→ϖ,mem_of_getElem?→ι,mem_map→ψ,length_map→Ϛ,getElem_mem→Ϙ,length_pos_iff→γy,getElem?_append_left→ο,getElem?_append_right→τ,mem_range→κ
open Nat renaming mul_comm→γq,le_refl→ζ,le_of_eq→δw,le_trans→μ,lt_of_lt_of_le→Δ
open Go.World renaming cell?_setCell_other→ό,block_lt_of_cell?→η,cell?_setCell_same→φ
open Go.RowKit
set_option linter.all false
set_option maxRecDepth 100000
set_option maxHeartbeats 8000000
section
variable {p m N:Nat} {ml pl sl:List Int}
theorem WM(h:Bv p m ml pl sl 0 N){i:Nat}(hi:i<N):∃z:Nat,sl.getD i 0=z/\1<=z/\z<p^m/\(J8 p m ml pl sl).getD (i*(p^m-1)) 0=((BJ pl i*(p^m-1)+z:Nat):Int)-1:=by
 obtain⟨z,hz,h1,h2⟩:=h.sc i hi;refine⟨z,hz,h1,h2,?_⟩;have hQ:0<p^m-1:=ac;have aA:i*(p^m-1)<N*(p^m-1):=(Nat.mul_lt_mul_right hQ).2 hi;unfold J8;rw[h.pll,δ,AT aA];show Pi p m ml pl sl (i*(p^m-1))=_
 unfold Pi;rw[Nat.mul_div_cancel _ hQ,Nat.mul_mod_left,hz,AE h2,Nat.zero_add,BD h.hp h.hm h2]
theorem Tj(h:Bv p m ml pl sl 0 N):il N (FG (p^m-1) (J8 p m ml pl sl))=il N (fun i=>(BJ pl i:Int))/\il N (Ge (p^m-1) (J8 p m ml pl sl))=il N (fun i=>sl.getD i 0):=by
 constructor
 .refine Fw fun i hi=>?_;obtain⟨z,hz,h1,h2,h3⟩:=WM h hi;unfold FG;rw[h3];have:((BJ pl i*(p^m-1)+z:Nat):Int)-1=((BJ pl i*(p^m-1)+(z-1):Nat):Int):=by omega
  rw[this,<-Int.natCast_ediv,γq,Nat.mul_add_div ac,Nat.div_eq_of_lt ac,Nat.add_zero]
 .refine Fw fun i hi=>?_;obtain⟨z,hz,h1,h2,h3⟩:=WM h hi;unfold Ge;rw[h3,hz];have:((BJ pl i*(p^m-1)+z:Nat):Int)-1=((BJ pl i*(p^m-1)+(z-1):Nat):Int):=by omega
  rw[this,<-Int.natCast_emod,γq,Nat.mul_add_mod,Nat.mod_eq_of_lt ac];omega
theorem U2(h:Bv p m ml pl sl 0 N){k:Nat}(hk:k<N*(p^m-1)):∃z:Nat,1<=z/\z<p^m/\z=Am p m (lw ml) (Av (p^m) (sl.getD (k/(p^m-1)) 0)) (k%(p^m-1)+1)/\k/(p^m-1)<N/\BJ pl (k/(p^m-1))<N/\Pi p m ml pl sl k=((BJ pl (k/(p^m-1))*(p^m-1)+(z-1):Nat):Int):=by
 have hQ:0<p^m-1:=by
  apply Nat.pos_of_ne_zero;intro e;rw[e,Nat.mul_zero]at hk;omega
 have hi:k/(p^m-1)<N:=Nat.div_lt_of_lt_mul (by rw[γq];exact hk);obtain⟨s,hs,h1,h2⟩:=h.sc _ hi;have hr:=Nat.mod_lt k hQ;have aB:=h.hF.ne_zero h.hp h.hm h1 h2 (show 1<=k%(p^m-1)+1 by omega) (show k%(p^m-1)+1<p^m by omega);have aA:=A7 (p:=p) (m:=m) (low:=lw ml) (by have:=h.hp;omega) s (k%(p^m-1)+1);refine⟨Am p m (lw ml) s (k%(p^m-1)+1),aB,aA,by rw[hs,AE h2],hi,h.inj.1 _ hi,?_⟩;unfold Pi;rw[hs,AE h2];omega
theorem Sc{l:List Int}{N:Nat}(h:l.length=N){f:Nat->Int}(hf:∀i,i<N->f i=l.getD i 0):il N f=l:=by
 subst h;refine List.ext_getElem? fun i=>?_;by_cases hi:i<l.length
 .rw[AT hi,hf i hi,δ,γ hi];rfl
 .rw[ϛ (by rw[Ao];omega),ϛ ac]
end
structure Chn where
 deg:Int
 lev:List Lv
noncomputable def Dg(n:Int)(rows:List (List Int)):Chn × Int:=if Es n rows≠0 then(⟨0, []⟩,Es n rows) else(⟨n,Ck n.toNat (rows.map Dr) n.toNat⟩,0)
def BldR(n:Int)(rows:List (List Int))(r:Ending)(w':World):Prop:=∃v,r= .returned (.tuple #[.agg #[.int .i64 (Dg n rows).1.deg,v],.int .i64 (Dg n rows).2])/\ER w' v (Dg n rows).1.lev
theorem Kk{n:Int}{rows:List (List Int)}{d:Int}{L:List Lv}{e:Int}{v:Value}{w':World}(h:Dg n rows=(⟨d,L⟩,e))(hv:ER w' v L):BldR n rows (.returned (.tuple #[.agg #[d,v],e])) w':=⟨v,by rw[h],by rw[h];exact hv⟩
theorem zcN{P:Prop}(h:P:=by
 apply Classical.byContradiction;intro hn;have:n=0:=by omega
 subst this;omega):P:=h
theorem Tl{w:World}{q:Nat}{z:Int}(h0:w.cell? (q,0)=some (.int .i64 z))(h1:w.cell? (q,1)=some (.slice none 0 0))(h2:∀j,2<=j->w.cell? ⟨q,j,none⟩=none){v:Value}{n size:Nat}{xs:List Value}(h:Sl w v n size xs)(hl:2<=xs.length)(hx:xs[0]?≠some (.int .i64 z)∨xs[1]?≠some (.slice none 0 0)):v.ownBlock≠some q:=by
 intro e;obtain⟨k1,a,cap,rfl,_,_,k5⟩:=h;have hn:0<n:=by
  exact zcN
 obtain⟨b,o,rfl,k6⟩:=k5 hn;injection e with e;have e:b=q:=e;subst e;have x0:=k6 0 _ (γ ac);have x1:=k6 1 _ (γ ac);have ho:o=0:=by
  apply Classical.byContradiction;intro ho;have:=h2 (o+1) ac;rw[x1]at this;cases this
 subst ho;rw[h0]at x0;rw[h1]at x1;injection x0 with x0;injection x1 with x1;rcases hx with hx|hx
 .exact hx (by rw[γ ac,<-x0])
 .exact hx (by rw[γ ac,<-x1])
theorem Sl.set2{w:World}{v:Value}{n size:Nat}{xs:List Value}(h:Sl w v n size xs){q:Nat}(hq:v.ownBlock≠some q)(u u':Value):Sl ((w.setCell (q,0) u).setCell (q,1) u') v n size xs:=by
 obtain⟨k1,a,cap,rfl,k3,k4,k5⟩:=h;refine⟨k1,a,cap,rfl,k3,k4,fun hn=>?_⟩;obtain⟨b,o,rfl,k6⟩:=k5 hn;have hb:q≠b:=fun e=>hq (by rw[e];rfl);refine⟨b,o,rfl,fun j x hx=>?_⟩;rw[ό _ _ _ _ (by intro e;injection e with e;exact hb e),ό _ _ _ _ (by intro e;injection e with e;exact hb e)];exact k6 j x hx
theorem ER.set2{w:World}{q:Nat}{z:Int}(h0:w.cell? (q,0)=some (.int .i64 z))(h1:w.cell? (q,1)=some (.slice none 0 0))(h2:∀j,2<=j->w.cell? ⟨q,j,none⟩=none){v:Value}{L:List Lv}(h:ER w v L)
  (hL:∀l∈L,2<=l.orb.length/\2<=l.reps.length/\∀r∈l.reps,2<=r.length) (u u':Value):ER ((w.setCell (q,0) u).setCell (q,1) u') v L:=by
 obtain⟨os,k1,k2,k3⟩:=h;have aA:∀ {y:Value} {l:List Int},Ak w y l->2<=l.length->Ak ((w.setCell (q,0) u).setCell (q,1) u') y l:=fun {y l} hy hl=>
  Sl.set2 hy (Tl h0 h1 h2 hy (by rw[Be];exact hl) (.inr (by
   unfold Aj;rw[ϖ]
   cases l[1]? with
   | none=>simp
   | some x=>simp))) u u'
 refine⟨os,k1,?_,fun i l o a c=>?_⟩
 .by_cases hn:0<L.length
  .refine Sl.set2 k2 (fun e=>?_) u u';obtain⟨m1,a,cap,rfl,_,_,m5⟩:=k2;obtain⟨b,o,rfl,m6⟩:=m5 hn;injection e with e;have e:b=q:=e;subst e;have hl3:=Oi L os k1;have:=m6 2 _ (γ ac);rw[h2 (o+2) ac]at this;cases this
  .obtain⟨m1,a,cap,rfl,m3,m4,m5⟩:=k2;exact⟨m1,a,cap,rfl,m3,m4,fun h=>absurd h hn⟩
 .obtain⟨g1,vals,g2,g3⟩:=k3 i l o a c;obtain⟨b1,b2,b3⟩:=hL l (ι a);refine⟨aA g1 b1,vals,?_,fun j r y hr hy=>aA (g3 j r y hr hy) (b3 r (ι hr))⟩;have hvl:vals.length=l.reps.length:=by have:=g2.1;omega
  refine Sl.set2 g2 (Tl h0 h1 h2 g2 ac (.inl fun e=>?_)) u u';have aB:l.reps[0]?=some (l.reps[0]'ac):=γ _;obtain⟨_,_,e2,_⟩:=(g3 0 _ _ aB e).open;cases e2
theorem QV{n:Nat}{S:List (Nat->Nat)}{m:Nat}{l:Lv}(h:l∈Ck n S m):2<=l.orb.length/\2<=l.reps.length/\∀r∈l.reps,2<=r.length:=by
 unfold Ck at h;obtain⟨h1,h2⟩:=List.mem_filter.1 h;obtain⟨b,_,rfl⟩:=ψ.1 h1;have h2:1<(DN (Bf S b n)).length:=of_decide_eq_true h2;rw[Cz]at h2;have h3:=Fn S b n;refine⟨by show 2<=(DN (Bf S b n)).length;rw[Cz];omega,by show 2<=(Eb n S b n).length;unfold Eb;rw[Ϛ];omega,fun r hr=>?_⟩;have hr:r∈Eb n S b n:=hr;unfold Eb at hr;obtain⟨x,_,rfl⟩:=ψ.1 hr;rw[Fb];omega
theorem ZJ(n:Nat):Rj n (Og n) 0:=fun c _ _=>by
 have:=ZI n (Og n) c;show 0+_<=_
 omega
theorem NH(w:World)(n:Int)(rows:List (List Int))(v:Value)(hv:B6 w v rows)(hrl:rows.length<=1000):
  Calls Tryz.prog 123 #[n,v] w fun r w'=>BldR n rows r w'/\Ex w w':=by
 have ea:Ex w (w.alloc (.cells #[Ω,()] 43)):=(Ex.refl _).alloc _;have q0:(w.alloc (.cells #[Ω,()] 43)).cell? (w.heap.size,0)=some (.int .i64 0):=ag;have q1:(w.alloc (.cells #[Ω,()] 43)).cell? (w.heap.size,1)=some (.slice none 0 0):=ag;have q2:∀j,2<=j->(w.alloc (.cells #[Ω,()] 43)).cell? ⟨w.heap.size,j,none⟩=none:=fun j hj=>by
  obtain⟨i,rfl⟩:∃i,j=i+2:=⟨j-2,ac⟩;simp
 have aE:(w.alloc (.cells #[Ω,()] 43)).frozen? (w.heap.size,0)=false:=ag;have aD:(w.alloc (.cells #[Ω,()] 43)).frozen? (w.heap.size,1)=false:=ag;have HV:=Aa hv;have HG:=Aa (fun w1 (h:Ex w w1)=>Gv w1 n rows v (hv.ex h));obtain⟨a,cap,rfl,_,s2,_⟩:=hv.open;unfold maxLen at s2;obtain⟨e,he⟩:=nA (Es n rows);rw[he]at HG;clear hv;go_enter Tryz.func123,Tryz.ntmps123
 go_wp2_with fail
 obtain⟨q,hq⟩:=nA w.heap.size;rw[hq]at q0 q1 aE aD q2
 try simp only[hq]
 have HQ:=Aa hq;have aP:=Aa ea;clear hq;generalize w.alloc (.cells #[Ω,()] 43)=wR at *;refine(HG.o wR ea).mono ?_;rintro e' w1⟨rfl,aC⟩;have aO:=Aa aC;have aB:=η _ _ q0;have Q2:Hia (∀j,2<=j->w1.cell? ⟨q,j,none⟩=none):=Aa (fun j hj=>(Below.cell aC (show(⟨q,j,none⟩:Addr).block<wR.heap.size from aB)).trans (q2 j hj));have aX:=aC.frz q0 aE;have aW:=aC.frz q1 aD;have q0:=aC.cell q0;have q1:=aC.cell q1;clear aC aE aD ea HG q2 aB;by_cases h0:e=0
 .subst h0;obtain⟨N,rfl,aN,aS,S,aM,hS⟩:=Kh he;have HP:Hia (Dg N rows=(⟨N,Ck N S N⟩,0)):=Aa (by unfold Dg;rw[he,if_neg ae,aM,Ir hS];rfl);have HS:=Aa hS;have bQ:=Aa aM;have bC:S.length=rows.length:=by rw[aM];simp
  obtain⟨bG,bT,Q0,Q1,bM,bL⟩:=Ty bC (Oe w1 N aN aS) q0 q1 aX aW;clear he hS aM bC q0 q1 aX aW;go_wp2_with (go_at_call 173;refine bT.o.mono ?_;rintro e w2⟨tb,rb,gb,rr,mb,rfl,aA,aZ⟩;have bF:=Aa aA;have bE:=Aa aZ;clear aA aZ)
  have bI:=Aa (IR.start (n:=N) (S:=S));have bH:=Aa (ZJ N)
  go_loopw [21] (fun k' wr=>∃(k:Nat) (aH:List Nat) (tc:Tw),k<=rows.length/\k'= .int .i64 k/\Hia (VE wr w1.heap.size N tb rb gb rr aH tc)/\Hia (IR N S tc k)/\Hia (Rj N tc 0)/\Hia (Ex w1 wr)) (fun k' _=>rows.length-(intOf k').toNat)
  case atStart=>exact⟨0,mb,Og N,ac,rfl,bF,bI,bH,bE⟩
  case round=>
   clear bF bI bH bE;obtain⟨k,aH,tc,hk,rfl,aA,aG,aR,hx⟩:=hrel;by_cases hkn:k<rows.length
   .obtain⟨s,hs⟩:∃s,S[k]?=some s:=⟨_,γ (by rw[bG.o];exact hkn)⟩;have bB:rows[k]?=some (li N s):=by rw[bQ.o,ϖ,hs];rfl
    have bA:=HS.o s (ι hs);obtain⟨_,_,e1,_,_,h3⟩:=HV.o.open;injection e1 with e1 e2 e3;subst e1 e3;obtain⟨zb,zo,rfl,aY⟩:=h3 ac;obtain⟨u,d1,hu⟩:=aY k _ bB;have bJ:=Aa (aP.o.trans (aO.o.trans hx.o));have d1:=bJ.o.cell d1;obtain⟨ua,uc,rfl,_,_,_⟩:=Fd hu;obtain⟨pb,po,rfl,hpb,_⟩:=Ft hu ac;have bS:=Aa (CC.of (mb:=aH) (hu.ex bJ.o) aN fun B eB hm=>by
     injection eB with eB;have eB:pb=B:=eB;subst eB;obtain⟨gv,V,hM⟩:=aA.o;have h5:=(hM.lo pb hm).1;have h6:=(aP.o.trans aO.o).size;omega)
    have i1:(0:Int)<=(k:Int):=ac;have i2:(k:Int)<(rows.length:Int):=ac;obtain⟨bX,bV,cA,bR⟩:=Of (ZZ (base:=w1.heap.size) (tb:=tb) (rb:=rb) (gb:=gb) (rr:=rr) aN aS (Tp N tc 0) wr aH tc s _ 0 (fun _=>ζ _) (Nat.zero_le _) aA.o aG.o.good (fun c _ hc=>aG.o.comp c hc) bS.o bA (fun i hi=>ac) hx.o.size aR.o) (show ∀B∈aH,w1.heap.size<=B from by obtain⟨gv,V,hM⟩:=aA.o;exact fun B hB=>(hM.lo B hB).1) aG.o hs;clear hs bB bA h3 aY hu aA aG aR;go_wp2_with (go_at_call 174;refine bX.o.mono ?_;rintro e w3⟨⟨zz,rfl⟩,mb3,t3,aI,aK,aJ,aL⟩;have aT:=Aa aI;have aU:=Aa aK;have bP:=Aa (aJ.ex hx.o bV.o);have aV:=Aa aL;clear aI aK aJ aL)
    have cB:=Aa (cA.o.step HS.o bR.o aU.o);go_roundw
    case rel=>exact⟨k+1,mb3,t3,ac,by go_num,aT,cB,aV,bP⟩
    case measure=>exact Ωm
   .obtain rfl:k=rows.length:=by omega
    have bZ:=Aa (VB wr aA.o aG.o (by rw[bG.o];exact ζ _) HS.o aN aS);have q0:=hx.o.cell Q0.o;have q1:=hx.o.cell Q1.o;have aE:=hx.o.frz Q0.o bM.o;have aD:=hx.o.frz Q1.o bL.o;have bN:=Aa hx.o;clear aA aG aR hx;go_wp2_with (go_at_call 175;refine bZ.o.mono ?_;rintro e w4⟨lv,rfl,aQ,aF⟩;obtain⟨la,lc,bK,_,_,_⟩:=aQ.open;subst bK;have aE:=aF.frz q0 aE;have aD:=aF.frz q1 aD;have q0:=aF.cell q0;have q1:=aF.cell q1;have bU:=Aa aQ;have bO:=Aa aF;clear aQ aF)
    have bD:=Aa (bN.o.trans bO.o);have bY:=Aa (aP.o.trans (aO.o.trans bD.o));have aB:=η _ _ Q0.o;have bW:=Aa (bU.o.set2 q0 q1 (fun j hj=>(Below.cell bD.o (show(⟨q,j,none⟩:Addr).block<w1.heap.size from aB)).trans (Q2.o j hj)) (fun l hl=>QV hl) (.int .i64 N) (.slice la (Ck N S N).length lc));exact bodyPost_ret (v:= .tuple #[.agg #[N,.slice la (Ck N S N).length lc],Ω]) (by simp[results,Tryz.results123,go_sem,q0,q1]) rfl ⟨Kk HP.o bW.o,(bY.o.setCell (p:=⟨q,0,none⟩) (δw HQ.o) _).setCell (p:=⟨q,1,none⟩) (δw HQ.o) _⟩
 .have HP:Hia (Dg n rows=(⟨0, []⟩,e)):=Aa (by unfold Dg;rw[he,if_pos h0]);have hb:(e !=0)=true:=by simpa using h0
  clear h0 he;go_wp2_with fail
  exact bodyPost_ret (v:= .tuple #[.agg #[Ω,()],e]) (by simp[results,Tryz.results123,go_sem,q0,q1]) rfl ⟨Kk HP.o (ER.nil _),((aP.o.trans aO.o).setCell (p:=⟨q,0,none⟩) (δw HQ.o) _).setCell (p:=⟨q,1,none⟩) (δw HQ.o) _⟩
def Er(p m:Nat)(ml:List Int)(Ms:List C7):List (List Int):=Ms.map fun M=>J8 p m ml M.perm M.scale
def Pa(N:Nat)(M:C7):Prop:=M.perm.length=N/\M.scale.length=N/\BW M.perm N=true
theorem LZ{n:Int}{rows:List (List Int)}{l:Lv}(h:l∈(Dg n rows).1.lev):2<=l.orb.length/\2<=l.reps.length/\∀r∈l.reps,2<=r.length:=by
 unfold Dg at h;split at h
 .cases h
 .exact QV h
theorem boxCn(w:World):(w.alloc (.cells #[Ω,()] 43)).cell? (w.heap.size,0)=some (.int .i64 0)/\(w.alloc (.cells #[Ω,()] 43)).cell? (w.heap.size,1)=some (.slice none 0 0)/\
  (∀j,2<=j->(w.alloc (.cells #[Ω,()] 43)).cell? ⟨w.heap.size,j,none⟩=none)/\(w.alloc (.cells #[Ω,()] 43)).frozen? (w.heap.size,0)=false/\(w.alloc (.cells #[Ω,()] 43)).frozen? (w.heap.size,1)=false:=
 ⟨ag,ag,fun j hj=>by
  obtain⟨i,rfl⟩:∃i,j=i+2:=⟨j-2,ac⟩;simp,ag,ag⟩
structure BxN(w:World)(b:Nat):Prop where
 c0:w.cell? (b,0)=some (.int .i64 0)
 c1:w.cell? (b,1)=some (.slice none 0 0)
 c2:∀j,2<=j->w.cell? ⟨b,j,none⟩=none
 f0:w.frozen? (b,0)=false
 f1:w.frozen? (b,1)=false
theorem BxN.new(w:World):BxN (w.alloc (.cells #[Ω,()] 43)) w.heap.size:=by
 obtain⟨a,b,c,d,e⟩:=boxCn w;exact⟨a,b,c,d,e⟩
theorem BxN.ex{w w':World}{b:Nat}(h:BxN w b)(hx:Ex w w'):BxN w' b:=⟨hx.cell h.c0,hx.cell h.c1,fun j hj=>(Below.cell hx (show(⟨b,j,none⟩:Addr).block<w.heap.size from(η _ (⟨b,0,none⟩:Addr) h.c0:b<w.heap.size))).trans (h.c2 j hj),hx.frz h.c0 h.f0,hx.frz h.c1 h.f1⟩
theorem J3{w0 w:World}{q:Nat}(hx:Ex w0 w)(hq:w0.heap.size<=q)(u v:Value):Ex w0 ((w.setCell (q,0) u).setCell (q,1) v):=(hx.setCell (p:=⟨q,0,none⟩) hq _).setCell (p:=⟨q,1,none⟩) hq _
section
variable {b p m x0:Nat} {ml:List Int}
theorem JN(w:World)(hg:Bh w b p m ml x0)(N:Nat)(hN:N<=64)(hd:N*(p^m-1)<=64)(Ms:List C7)(mv:Value)(hM:Pb w mv Ms)(aF:∀M∈Ms,Pa N M)(aG:Ms.length<=1000):
  Calls Tryz.prog 64 #[(b,0),N,mv] w fun r w'=>BldR ((N*(p^m-1):Nat):Int) (Er p m ml Ms) r w'/\Ex w w':=by
 have bI:=Aa (BxN.new w);have aU:=Aa (fun (w1:World) (h:Ex w w1) (M:C7) (hM:M∈Ms) (u v:Value) (hu:Ak w1 u M.perm) (hv:Ak w1 v M.scale)=>RS w1 (hg.ex h) N hN M.perm M.scale u v hu hv (aF M hM).1 (aF M hM).2.1 (aF M hM).2.2 hd M.frob);have bK:2<=p^m:=μ hg.sh.p2 (Nat.le_self_pow (by have:=hg.sh.m1;omega) p);have bJ:=hg.sh.q;have bC:=Aa (fun w1 (h:Ex w w1)=>Cv w1 (hg.ex h));have bW:=Aa (fun (M:C7) (hM:M∈Ms)=>(show J8 p m ml M.perm M.scale=il (N*(p^m-1)) (Pi p m ml M.perm M.scale) from by unfold J8;rw[(aF M hM).1]));obtain⟨GL,aM⟩:∃g,Er p m ml Ms=g:=⟨_,rfl⟩;have aW:Hia (∀k (M:C7),Ms[k]?=some M->GL.take (k+1)=GL.take k ++ [il (N*(p^m-1)) (Pi p m ml M.perm M.scale)]):=Aa (fun k M h=>by
  rw[<-aM,<-bW.o M (ι h)];exact Ew (by unfold Er;rw[ϖ,h];rfl))
 have aV:Hia (GL.length=Ms.length):=Aa (by rw[<-aM];unfold Er;rw[Ϛ]);rw[aM];have HM:=Aa hM;obtain⟨q,hq⟩:=nA (p^m);rw[hq]at bC aU aW bK bJ hd ⊢;obtain⟨D,hD⟩:=nA (N*(q-1));have kD:(N:Int)*((q:Int)-1)=(D:Int):=by rw[<-hD,Int.natCast_mul,Int.natCast_sub ac];rfl
 rw[hD]at aU aW hd ⊢;obtain⟨ma,mc,rfl,z1,z2,m3⟩:=hM.open;unfold maxLen at z2;have M3:=Aa m3;obtain⟨LM,aS⟩:∃n,Ms.length=n:=⟨_,rfl⟩;rw[aS]at HM M3 aV z1 aG ⊢;have bS:=Aa aS;have bV:=Aa kD;clear hg hM aF m3 aS aM hD hq kD;go_enter Tryz.func64,Tryz.ntmps64
 go_upto_region 1 with fail
 obtain⟨RB,aL⟩:∃x,w.heap.size=x:=⟨_,rfl⟩;rw[aL]at bI;have aT:=Aa (show Ex w (w.alloc (.cells #[Ω,()] 43)) from(Ex.refl w).alloc _)
 try simp only[aL]
 have bQ:=Aa aL;clear aL;generalize w.alloc (.cells #[Ω,()] 43)=w1 at *;have bB:=Aa (BI.nil w1 w1.heap.size);go_wp2_with fail
 go_loopw [8,13] (fun gv k' wr=>∃(k:Nat) (vals:List Value),k<=LM/\k'= .int .i64 k/\Hia (BI wr w1.heap.size gv (GL.take k) vals)/\Hia (Ex w1 wr)) (fun _ k' _=>LM-(intOf k').toNat)
 case atStart=>exact⟨0, [],ac,rfl,bB,Ex.refl _⟩
 case round=>
  clear bB;obtain⟨k,vals,hk,rfl,hr,hx⟩:=hrel;obtain⟨ga,gc,rfl⟩:=Ad hr.o.cvo;by_cases hkl:k<LM
  .obtain⟨mb,mo,rfl,aX⟩:=M3.o ac;obtain⟨M,hM⟩:∃M,Ms[k]?=some M:=⟨_,γ (by rw[bS.o];exact hkl)⟩;obtain⟨u,r,d0,d1,d2,hu,aQ⟩:=aX k M hM;obtain⟨ua,uc,rfl,-,-,-⟩:=hu.open;obtain⟨ra,rc,rfl,-,-,-⟩:=aQ.open;have aE:=Aa (aT.o.trans hx.o);replace d0:=aE.o.cell d0;replace d1:=aE.o.cell d1;replace d2:=aE.o.cell d2;rw[show mo+3*k=mo+k*3 from ac]at d0;rw[show mo+(3*k+1)=mo+k*3+1 from ac]at d1;rw[show mo+(3*k+2)=mo+k*3+2 from ac]at d2;have HU:=Aa (hu.ex aE.o);have bA:=Aa (aQ.ex aE.o);obtain⟨LP,aZ⟩:∃x,M.perm.length=x:=⟨_,rfl⟩;obtain⟨LS,aY⟩:∃x,M.scale.length=x:=⟨_,rfl⟩;rw[aZ]at d0 HU;rw[aY]at d1 bA;have HR:=Aa hr.o;have HX:=Aa hx.o;have bE:=Aa hM;have i1:(0:Int)<=(k:Int):=by omega
   have i2:(k:Int)<(LM:Int):=ac;have bG:=Aa hkl;obtain⟨TB,aK⟩:∃x,wr.heap.size=x:=⟨_,rfl⟩;obtain⟨t0,t1,t2,et⟩:=BA wr (.slice ua LP uc) (.slice ra LS rc) M.frob;rw[aK]at t0 t1 t2;have aD:=Aa et;clear hr hx hM hu aQ aX hkl aZ aY et;go_upto_region 5 with fail
   try simp only[aK]
   have HTB:=Aa aK;clear aK d0 d1 d2 i1 i2;generalize wr.alloc (.cells #[(ua,LP,uc),(ra,LS,rc),.int .i64 M.frob] 26)=w5 at *;have aO:=Aa (aU.o w5 (aE.o.trans aD.o) M (ι bE.o) _ _ (HU.o.ex aD.o) (bA.o.ex aD.o));go_wp2_with fail
   refine aO.o.mono ?_;rintro e w6⟨v6,rfl,aR,aB⟩;have bD:=Aa aR;obtain⟨va,vc,rfl⟩:=Ad aR;have aC:=Aa (aD.o.trans aB);obtain⟨LG,aA⟩:∃x,(GL.take k).length=x:=⟨_,rfl⟩;have bT:=Aa aA;have bF:Hia (LG<=1000):=Aa (by rw[<-aA,List.length_take];omega);rw[aA]at HR ⊢;have bR:Hia (w6.ownsRow w1.heap.size 22 1 (.slice ga LG gc) LG vals):=Aa (by have:=(HR.o.ex aC.o).cvo;rwa[aA]at this);have bP:=Aa (HX.o.trans aC.o).size;have hkb:k<=1000:=by omega
   clear aR aB t0 t1 t2 aO aA;go_wp2_with (at_builtin;refine Al _ rfl _ _ 37 rfl w1.heap.size 22 (.slice none 0 0) 1 24 Tryz.underlying37 BZ rfl ae _ LG vals rfl bR.o [.slice va D vc] 22 _ rfl ag rfl aj (by have:=bF.o;unfold maxLen;omega) (by have:=bF.o;omega) bP.o ?_)
   intro v8 w8 aJ;have aH:Bz w6 w8 w1.heap.size 22 1 (.slice ga LG gc) v8 (GL.take k).length vals [.slice va D vc]:=by rw[bT.o];exact aJ
   have HN:=Aa ((HR.o.ex aC.o).app (L:=il D (Pi p m ml M.perm M.scale)) (by rw[Ao,Cy];exact Cx bD.o (μ HX.o.size aD.o.size)) (BO (fun X e=>μ aD.o.size (bD.o.lt X e).1) (fun X e=>(HR.o.cvo.lt X e).2)) aH);rw[<-aW.o k M bE.o]at HN;have bM:=Aa (aJ.ex (HX.o.trans aC.o) (ζ _));obtain⟨ga8,gc8,rfl⟩:=Ad aJ.own;clear aJ aH;go_wp2_with fail
   go_roundw
   case rel=>exact⟨k+1,_,by have:=bG.o;omega,by go_num,HN,bM⟩
   case measure=>have:=bG.o;simp[intOf];omega
  .obtain rfl:LM=k:=by omega
   have bO:Hia (GL.take LM=GL):=Aa (List.take_of_length_le (by rw[aV.o];exact ζ _));rw[bO.o]at hr ⊢;obtain⟨HX,HMS,bH,aO⟩:=Of hx.o hr.o.msl (NH wr (D:Int) GL _ hr.o.msl (by rw[aV.o];exact aG)) (bC.o wr (aT.o.trans hx.o));have k3:=bV.o;obtain⟨BS,aN⟩:∃x,Dg (D:Int) GL=x:=⟨_,rfl⟩;have bX:=Aa aN;obtain⟨⟨bd,bl⟩,be⟩:=BS;have aI:Hia (Calls Tryz.prog 123 #[(D:Int),(ga,GL.length,gc)] wr fun r w'=>(∃v,r= .returned (.tuple #[.agg #[bd,v],be])/\ER w' v bl)/\Ex wr w'):=Aa (bH.o.mono (by
    rintro r w'⟨⟨v,h1,h2⟩,h3⟩;rw[aN]at h1 h2;exact⟨⟨v,h1,h2⟩,h3⟩))
   have bY:Hia (∀l∈bl,2<=l.orb.length/\2<=l.reps.length/\∀r∈l.reps,2<=r.length):=Aa (fun l hl=>LZ (n:=(D:Int)) (rows:=GL) (by rw[aN];exact hl));obtain⟨LG,aA⟩:∃x,GL.length=x:=⟨_,rfl⟩;rw[aA]at aI ⊢;have HQ:=Aa (bI.o.ex hx.o);clear hr hx bH aN aA;go_wp2_with (first|(go_at_call 54;refine aO.o.mono ?_;rintro e w5⟨rfl,rfl⟩)|(go_at_call 123;refine aI.o.mono ?_;rintro e w6⟨⟨v6,rfl,aP⟩,aB⟩;obtain⟨la,lc,bL,_,_,_⟩:=aP.open;subst bL;obtain⟨q0,q1,q2,qf0,qf1⟩:=HQ.o.ex aB;have bN:=Aa aP;have aC:=Aa aB;clear aP aB))
   have bU:=Aa (bN.o.set2 q0 q1 q2 bY.o (.int .i64 bd) (.slice la bl.length lc));exact bodyPost_ret (v:= .tuple #[.agg #[bd,.slice la bl.length lc],be]) (by simp[results,Tryz.results64,go_sem,q0,q1]) rfl ⟨Kk bX.o bU.o,J3 (aT.o.trans (HX.o.trans aC.o)) (δw bQ.o) _ _⟩
end
def AG(c:AX):List Cd:=Dw c.n.toNat (c.p.toNat^c.m.toNat)
def Ff(c:AX):Nat:=c.n.toNat*(c.p.toNat^c.m.toNat-1)
theorem PF{c:AX}{gs:List Cd}(h:NZ c gs=none):YE c gs=0:=by unfold YE;rw[h]
theorem rnE_ne{c:AX}{gs:List Cd}(h:NZ c gs≠none):YE c gs≠0:=by
 unfold YE
 cases hb:NZ c gs with
 | none=>exact absurd hb h
 | some g=>
  unfold NZ at hb;have:=List.find?_some hb;intro e;have e2:gE c g=0:=e;simp[e2]at this
def JV(c:AX)(e0:Int):Int:=if IS c e0≠0 then IS c e0 else YE c (AG c)
def GrO(c:AX)(r:Ending)(w':World):Prop:=∃e0:Int,Bw c.p c.m c.ml c.n c.rows e0/\
 ((JV c e0≠0/\r= .returned (.tuple #[.agg #[Ω,()],.int .i64 (JV c e0)]))∨(JV c e0=0/\BldR (Ff c:Int) (Er c.p.toNat c.m.toNat c.ml (Di c (AG c))) r w'))
def RnO(b0:Nat)(c:AX)(r:Ending)(w':World):Prop:=∃e0:Int,Bw c.p c.m c.ml c.n c.rows e0/\
 ((JV c e0≠0/\r= .returned (.tuple #[.pointer none,(),(),.int .i64 (JV c e0)]))∨
 (JV c e0=0/\NZ c (AG c)=none/\∃(pn mn N b x0:Nat) (mv nv:Value),c.p=pn/\c.m=mn/\c.n=N/\1<=N/\N<=64/\N*(pn^mn-1)<=64/\r= .returned (.tuple #[(b,0),mv,nv,Ω])/\
   Bh w' b pn mn c.ml x0/\1<=x0/\x0<pn^mn/\Pb w' mv (Di c (AG c))/\YK b0 w' nv (JH c (AG c))))
theorem Rt{b0:Nat}{c:AX}{r:Ending}{w':World}(h:RunO b0 c r w'):RnO b0 c r w':=by
 obtain⟨e0,h1,h2|⟨h2,h3,h4⟩|⟨h2,h3,h4⟩⟩:=h
 .have:JV c e0=IS c e0:=by unfold JV;rw[if_pos h2.1]
  exact⟨e0,h1,.inl ⟨by rw[this];exact h2.1,by rw[this];exact h2.2⟩⟩
 .have:JV c e0=YE c (AG c):=by unfold JV;rw[if_neg (by rw[h2];simp)]
  exact⟨e0,h1,.inl ⟨by rw[this];exact rnE_ne h3,by rw[this];exact h4⟩⟩
 .have:JV c e0=0:=by unfold JV;rw[if_neg (by rw[h2];simp)];exact PF h3
  exact⟨e0,h1,.inr ⟨this,h3,h4⟩⟩
theorem GH(w:World)(c:AX)(m1 v1:Value)(hc:c.at w m1 v1)(aC:(Di c (AG c)).length<=1000)(aO:∀M∈Di c (AG c),Pa c.n.toNat M):
  Calls Tryz.prog 22 #[c.arg m1 v1] w fun r w'=>GrO c r w'/\Ex w w':=by
 obtain⟨c0,c1,c2,c3,c4⟩:=C8 w c m1 v1;have aJ:=AF w (c.obj m1 v1);obtain⟨x1,y1,aN,-,z1,-⟩:=hc.g.open;obtain⟨x3,y3,aM,-,z3,-⟩:=hc.m.open;unfold maxLen at z1 z3;obtain⟨B,hB⟩:=nA w.heap.size;have aW:(w.alloc (c.obj m1 v1)).heap.size=B+1:=by simp[hB]
 have aF:=BxN.new (w.alloc (c.obj m1 v1));have aB:Ex (w.alloc (c.obj m1 v1)) ((w.alloc (c.obj m1 v1)).alloc (.cells #[Ω,()] 43)):=(Ex.refl _).alloc _;have aD:=Aa (IY ((w.alloc (c.obj m1 v1)).alloc (.cells #[Ω,()] 43)) c m1 v1 (hc.ex (aJ.trans aB)));rw[aW]at aF;rw[hB]at c0 c1 c2 c3 c4;replace c0:=aB.cell c0;replace c1:=aB.cell c1;replace c2:=aB.cell c2;replace c3:=aB.cell c3;replace c4:=aB.cell c4;have aG:=Aa (aJ.trans aB);have aH:=Aa aF;obtain⟨C,hC⟩:∃C:AX,C=c:=⟨_,rfl⟩;have bN:=Aa hC;have aY:Hia (∀r w',GrO C r w'->GrO c r w'):=Aa (fun r w' h=>by rw[<-hC];exact h);rw[<-hC]at aC aO;obtain⟨cp,cm,bG,cn,bF⟩:=c;unfold AX.arg at aD ⊢;unfold AX.obj at aG aD aH c0 c1 c2 c3 c4;dsimp only at aG aD aH c0 c1 c2 c3 c4 aN aM ⊢;rw[aN,aM]at aG aD aH c0 c1 c2 c3 c4 ⊢;rw[<-hC]at aD;have bL:=Aa aC;have bK:=Aa aO;clear hc aJ hC aN aM aB aF aW aC aO;have aZ:Hia (w.heap.size<=B+1):=Aa (ac);go_enter Tryz.func22,Tryz.ntmps22
 go_upto_region 1 with fail
 try simp only[hB]
 clear hB;generalize (w.alloc (.cells #[cp,cm,(x3,bG.length,y3),cn,(x1,bF.length,y1)] 39)).alloc (.cells #[Ω,()] 43)=w1 at *;go_wp2_with fail
 refine aD.o.mono ?_;rintro e w2⟨aE,aA⟩;have aR:=Aa aA;obtain⟨e0,aX,ho⟩:=Rt aE;have bC:=Aa aX;replace c0:=aA.cell c0;replace c1:=aA.cell c1;replace c2:=aA.cell c2;replace c3:=aA.cell c3;replace c4:=aA.cell c4;obtain⟨q0,q1,q2,aV,aU⟩:=aH.o.ex aA;obtain⟨GE,aQ⟩:∃x,JV C e0=x:=⟨_,rfl⟩;rw[aQ]at ho;have aS:=Aa aQ;clear aE aA aX aD aQ;rcases ho with⟨h0,rfl⟩|⟨h0,aF,pn,mn,N,b,x0,mv,nv,hp,hm,hn,hN1,hN64,hD,rfl,hg,hx1,aA,hms,hns⟩
 .have hb:(GE !=0)=true:=by simpa using h0
  have H0:=Aa h0;clear h0;go_wp2_with fail
  exact bodyPost_ret (v:= .tuple #[.agg #[Ω,()],GE]) (by simp[results,Tryz.results22,go_sem,q0,q1]) rfl ⟨aY.o _ _ ⟨e0,bC.o,.inl ⟨by rw[aS.o];exact H0.o,by rw[aS.o]⟩⟩,J3 (aG.o.trans aR.o) aZ.o _ _⟩
 .subst h0;have bE:cn=(N:Int):=by have:=bN.o;rw[this]at hn;exact hn
  subst bE;have bB:Hia (Ff C=N*(pn^mn-1)/\Er C.p.toNat C.m.toNat C.ml (Di C (AG C))=Er pn mn C.ml (Di C (AG C))):=Aa (by unfold Ff;rw[hp,hm,hn];exact⟨rfl,rfl⟩);have bJ:Hia (C.n.toNat=N):=Aa (by rw[hn];rfl);have bA:=Aa (JN w2 hg N hN64 hD (Di C (AG C)) mv hms (fun M hM=>by have:=bK.o M hM;rwa[bJ.o]at this) bL.o);obtain⟨ma,mc,rfl,-,-,-⟩:=hms.open;obtain⟨na,nc,rfl,-,-,-⟩:=hns.open;obtain⟨BS,aI⟩:∃x,Dg ((N*(pn^mn-1):Nat):Int) (Er pn mn C.ml (Di C (AG C)))=x:=⟨_,rfl⟩;have bO:=Aa aI;obtain⟨⟨bd,bl⟩,be⟩:=BS;obtain⟨LM,aP⟩:∃x,(Di C (AG C)).length=x:=⟨_,rfl⟩;have aT:Hia (Calls Tryz.prog 64 #[(b,0),(N:Int),(ma,LM,mc)] w2 fun r w'=>(∃v,r= .returned (.tuple #[.agg #[bd,v],be])/\ER w' v bl)/\Ex w2 w'):=Aa (by
   rw[<-aP];exact bA.o.mono (by
    rintro r w'⟨⟨v,h1,h2⟩,h3⟩;rw[aI]at h1 h2;exact⟨⟨v,h1,h2⟩,h3⟩))
  have bP:Hia (∀l∈bl,2<=l.orb.length/\2<=l.reps.length/\∀r∈l.reps,2<=r.length):=Aa (fun l hl=>LZ (n:=((N*(pn^mn-1):Nat):Int)) (rows:=Er pn mn C.ml (Di C (AG C))) (by rw[aI];exact hl));rw[aP];clear aF hp hm hn hN1 hN64 hD hg hx1 aA hms hns aI aP bA;go_wp2_with (go_at_call 64;refine aT.o.mono ?_;rintro e w6⟨⟨v6,rfl,aL⟩,aK⟩;obtain⟨la,lc,bD,_,_,_⟩:=aL.open;subst bD;clear q0 q1 q2 aV aU;obtain⟨q0,q1,q2,aV,aU⟩:=aH.o.ex (aR.o.trans aK);have bI:=Aa aL;have bH:=Aa aK;clear aL aK)
  have bM:=Aa (bI.o.set2 q0 q1 q2 bP.o (.int .i64 bd) (.slice la bl.length lc));exact bodyPost_ret (v:= .tuple #[.agg #[bd,.slice la bl.length lc],be]) (by simp[results,Tryz.results22,go_sem,q0,q1]) rfl ⟨aY.o _ _ ⟨e0,bC.o,.inr ⟨aS.o,by rw[bB.o.1,bB.o.2];exact Kk bO.o bM.o⟩⟩,J3 (aG.o.trans (aR.o.trans bH.o)) aZ.o _ _⟩
def Dc(Q:Nat->Prop)(w w':World):Prop:=∀X,¬Q X->X<w.heap.size->w'.heap[X]?=w.heap[X]?
theorem Dc.refl(Q:Nat->Prop)(w:World):Dc Q w w:=fun _ _ _=>rfl
theorem Dc.ex{Q:Nat->Prop}{w w':World}(h:Ex w w'):Dc Q w w':=fun X _ hX=>h.block X hX
theorem Dc.trans{Q:Nat->Prop}{a b c:World}(h:Dc Q a b)(k:Dc Q b c)(hs:a.heap.size<=b.heap.size):Dc Q a c:=fun X hq hX=>(k X hq (Δ hX hs)).trans (h X hq hX)
theorem Dc.mono{Q Q':Nat->Prop}{a b:World}(h:Dc Q a b)(hq:∀X,X<a.heap.size->Q X->Q' X):Dc Q' a b:=fun X hn hX=>h X (fun hx=>hn (hq X hX hx)) hX
theorem Dc.set{Q:Nat->Prop}{a b:World}(h:Dc Q a b){p:Addr}(hp:Q p.block)(u:Value):Dc Q a (b.setCell p u):=fun X hn hX=>by
 rw[<-h X hn hX];exact Below.heap_setCell _ _ _ _ (fun e=>hn (by rw[e];exact hp))
theorem Dc.appd{w w':World}{base:Nat}{e:TypeId}{size n:Nat}{v v':Value}{xs news:List Value}(h:Bz w w' base e size v v' n xs news):Dc (fun X=>v.ownBlock=some X) w w':=fun X hn hX=>by
 obtain⟨o,hg⟩:=h.gr;rw[hg.block X aq (fun e=>hn e.symm)];exact Below.heap_alloc _ _ _ hX
theorem Dc.cell{Q:Nat->Prop}{w w':World}(h:Dc Q w w'){p:Addr}{u:Value}(hc:w.cell? p=some u)(hq:¬Q p.block):w'.cell? p=some u:=by
 rw[World.cell?_of_block (w:=w) (w':=w') (h _ hq (η _ _ hc))];exact hc
theorem Sl.offQ{Q:Nat->Prop}{w w':World}{v:Value}{n size:Nat}{xs:List Value}(h:Sl w v n size xs)(hv:0<n->∀q,Q q->v.ownBlock≠some q)(hw:Dc Q w w'):Sl w' v n size xs:=by
 obtain⟨k1,a,cap,rfl,k3,k4,k5⟩:=h;refine⟨k1,a,cap,rfl,k3,k4,fun hn=>?_⟩;obtain⟨b,o,rfl,k6⟩:=k5 hn;exact⟨b,o,rfl,fun j x hx=>hw.cell (k6 j x hx) (fun hq=>hv hn b hq rfl)⟩
structure YM(w:World)(q:Nat):Prop where
 c0:w.cell? (q,0)=some (.int .i64 0)
 c1:w.cell? (q,1)=some (.slice none 0 0)
 c2:w.cell? (q,2)=some (.slice none 0 0)
 c3:∀j,3<=j->w.cell? ⟨q,j,none⟩=none
 f0:w.frozen? (q,0)=false
 f1:w.frozen? (q,1)=false
 f2:w.frozen? (q,2)=false
theorem YM.new(w:World):YM (w.alloc (.cells #[Ω,(),()] 53)) w.heap.size:=
 ⟨ag,ag,ag,fun j hj=>by
  obtain⟨i,rfl⟩:∃i,j=i+3:=⟨j-3,ac⟩;simp,ag,ag,ag⟩
theorem YM.ex{w w':World}{b:Nat}(h:YM w b)(hx:Ex w w'):YM w' b:=
 ⟨hx.cell h.c0,hx.cell h.c1,hx.cell h.c2,fun j hj=>(Below.cell hx (show(⟨b,j,none⟩:Addr).block<w.heap.size from(η _ (⟨b,0,none⟩:Addr) h.c0:b<w.heap.size))).trans (h.c3 j hj),hx.frz h.c0 h.f0,hx.frz h.c1 h.f1,hx.frz h.c2 h.f2⟩
theorem K5{w:World}{q:Nat}(hb:YM w q){v:Value}{n size:Nat}{xs:List Value}(h:Sl w v n size xs)(hl:2<=xs.length)(hx:xs[1]?≠some (.slice none 0 0)):v.ownBlock≠some q:=by
 intro e;obtain⟨k1,a,cap,rfl,_,_,k5⟩:=h;have hn:0<n:=by
  exact zcN
 obtain⟨b,o,rfl,k6⟩:=k5 hn;injection e with e;have e:b=q:=e;subst e;have x1:=k6 1 _ (γ ac);have h1:xs[1]?=some (xs[1]'ac):=γ _;rcases o with _ | _|o
 .rw[show(0:Nat)+1=1 from rfl,hb.c1]at x1;injection x1 with x1;exact hx (by rw[h1,<-x1])
 .rw[show(0:Nat)+1+1=2 from rfl,hb.c2]at x1;injection x1 with x1;exact hx (by rw[h1,<-x1])
 .rw[hb.c3 (o+1+1+1) ac]at x1;cases x1
theorem ER.offQ{Q:Nat->Prop}{w:World}(hQ:∀q,Q q->YM w q){v:Value}{L:List Lv}(h:ER w v L)(hL:∀l∈L,2<=l.orb.length/\2<=l.reps.length/\∀r∈l.reps,2<=r.length){w':World}(hw:Dc Q w w'):ER w' v L:=by
 obtain⟨os,k1,k2,k3⟩:=h;have aA:∀ {y:Value} {l:List Int},Ak w y l->2<=l.length->Ak w' y l:=fun {y l} hy hl=>
  Sl.offQ hy (fun _ q hq=>K5 (hQ q hq) hy (by rw[Be];exact hl) (by
   unfold Aj;rw[ϖ]
   cases l[1]? with
   | none=>simp
   | some x=>simp)) hw
 refine⟨os,k1,?_,fun i l o a c=>?_⟩
 .refine Sl.offQ k2 (fun hn q hq=>?_) hw;have hl3:=Oi L os k1;refine K5 (hQ q hq) k2 ac (fun e=>?_);have aC:L[0]?=some (L[0]'hn):=γ _;have aB:os[0]?=some (os[0]'ac):=γ _;obtain⟨-,g1,-⟩:=Oj L os 0 _ _ aC aB;rw[show 3*0+1=1 from rfl,e]at g1;injection g1 with g1;obtain⟨b1,-,-⟩:=hL _ (Ϙ hn);obtain⟨-,a,cap,ha,-⟩:=(k3 0 _ _ aC aB).1;rw[<-g1]at ha;injection ha with _ ha;omega
 .obtain⟨g1,vals,g2,g3⟩:=k3 i l o a c;obtain⟨b1,b2,b3⟩:=hL l (ι a);refine⟨aA g1 b1,vals,?_,fun j r y hr hy=>aA (g3 j r y hr hy) (b3 r (ι hr))⟩;have hvl:vals.length=l.reps.length:=by have:=g2.1;omega
  refine Sl.offQ g2 (fun hn q hq=>K5 (hQ q hq) g2 ac (fun e=>?_)) hw;have aD:l.reps[1]?=some (l.reps[1]'ac):=γ _;obtain⟨-,a2,c2,h2,-⟩:=g3 1 _ _ aD e;injection h2 with _ h2;have:=b3 _ (Ϙ (show 1<l.reps.length by omega));omega
structure GZ where
 i:Int
 j:Int
 a:Int
 pf:List Rf
def OO:List GZ->List Value->List Value
 | x :: xs,v :: vs=> .int .i64 x.i :: .int .i64 x.j :: .int .i64 x.a :: v :: OO xs vs
 | _,_=> []
theorem T4:∀(L:List GZ) (os:List Value) (i:Nat) (l:GZ) (o:Value),L[i]?=some l->os[i]?=some o->(OO L os)[4*i]?=some (.int .i64 l.i)/\(OO L os)[4*i+1]?=some (.int .i64 l.j)/\(OO L os)[4*i+2]?=some (.int .i64 l.a)/\(OO L os)[4*i+3]?=some o
 | l' :: L,o' :: os,0,l,o,h,k=>by
  simp at h k;subst h k;exact⟨rfl,rfl,rfl,rfl⟩
 | l' :: L,o' :: os,i+1,l,o,h,k=>by
  have:=T4 L os i l o ay (by simpa using k);rw[show 4*(i+1)=4*i+4 by omega,show 4*i+4+1=4*i+1+4 by omega,show 4*i+4+2=4*i+2+4 by omega,show 4*i+4+3=4*i+3+4 by omega];simpa[OO]using this
 | [],os,i,l,o,h,k=>by simp at h
 | l' :: L, [],i,l,o,h,k=>by simp at k
theorem T5:∀(L:List GZ) (os:List Value) (l:GZ) (o:Value),os.length=L.length->OO (L ++ [l]) (os ++ [o])=OO L os ++ [.int .i64 l.i,.int .i64 l.j,.int .i64 l.a,o]
 | [], [],l,o,_=>rfl
 | l' :: L,o' :: os,l,o,h=>by
  have:=T5 L os l o ay;simp only[List.cons_append,OO,this]
 | [],o' :: os,l,o,h=>by simp at h
 | l' :: L, [],l,o,h=>by simp at h
def Mh(w:World)(v:Value)(xs:List GZ):Prop:=∃evs:List Value,evs.length=xs.length/\Sl w v xs.length 4 (OO xs evs)/\∀(i:Nat) (x:GZ) (ev:Value),xs[i]?=some x->evs[i]?=some ev->Yt w ev x.pf
theorem Mh.ex{w w':World}{v:Value}{L:List GZ}(h:Mh w v L)(hx:Ex w w'):Mh w' v L:=by
 obtain⟨os,h1,h2,h3⟩:=h;exact⟨os,h1,h2.ex hx,fun i l o a b=>(h3 i l o a b).ex hx⟩
theorem Mh.open{w:World}{v:Value}{L:List GZ}(h:Mh w v L):∃a cap,v= .slice a L.length cap/\L.length<=cap/\cap<=maxLen/\
  (0<L.length->∃b o,a=some ⟨b,o,none⟩/\∀(i:Nat) (l:GZ),L[i]?=some l->∃u,w.cell? ⟨b,o+4*i,none⟩=some (.int .i64 l.i)/\w.cell? ⟨b,o+(4*i+1),none⟩=some (.int .i64 l.j)/\w.cell? ⟨b,o+(4*i+2),none⟩=some (.int .i64 l.a)/\w.cell? ⟨b,o+(4*i+3),none⟩=some u/\Yt w u l.pf):=by
 obtain⟨os,h1,⟨h2,a,cap,h3,h4,h5,h6⟩,h7⟩:=h;refine⟨a,cap,h3,h4,h5,fun hn=>?_⟩;obtain⟨b,o,h8,h9⟩:=h6 hn;refine⟨b,o,h8,fun i l hl=>?_⟩;have hi:=(List.getElem?_eq_some_iff.1 hl).1;have ho:os[i]?=some (os[i]'ac):=γ _;obtain⟨g1,g2,g3,g4⟩:=T4 L os i l _ hl ho;exact⟨_,h9 _ _ g1,h9 _ _ g2,h9 _ _ g3,h9 _ _ g4,h7 i l _ hl ho⟩
def Mv(FB:Nat->Prop)(w:World)(v:Value)(es:List Rf):Prop:=∃mvs:List Value,mvs.length=es.length/\Sl w v es.length 4 (PM es mvs)/\(∀(i:Nat) (e:Rf) (mv:Value),es[i]?=some e->mvs[i]?=some mv->Ak w mv e.msg/\(e.msg≠ []->∀X,mv.ownBlock=some X->¬FB X))/\(es≠ []->∀X,v.ownBlock=some X->¬FB X)
theorem Rd.g{FB:Nat->Prop}{w:World}{v:Value}{es:List Rf}(h:Rd FB w v es):Mv FB w v es:=by
 obtain⟨m,h1,h2,h3,h4⟩:=h;exact⟨m,h1,h2,h3,fun _=>h4⟩
theorem Mv.rsl{FB:Nat->Prop}{w:World}{v:Value}{es:List Rf}(h:Mv FB w v es):Yt w v es:=by
 obtain⟨m,h1,h2,h3,_⟩:=h;exact⟨m,h1,h2,fun i e mv a b=>(h3 i e mv a b).1⟩
theorem Sl.blk{w:World}{v:Value}{n size:Nat}{xs:List Value}(h:Sl w v n size xs)(hn:0<xs.length){X:Nat}(hX:v.ownBlock=some X):X<w.heap.size:=by
 obtain⟨k1,a,cap,rfl,_,_,k5⟩:=h;have aA:0<n:=by
  apply Classical.byContradiction;intro h0;have:n=0:=ac;subst this;omega
 obtain⟨b,o,rfl,k6⟩:=k5 aA;injection hX with hX;have hX:b=X:=hX;subst hX;exact(η _ _ (k6 0 _ (γ hn)):b<w.heap.size)
theorem Mv.off{FB FB':Nat->Prop}{w w':World}{v:Value}{es:List Rf}(h:Mv FB w v es)(hw:Dc FB w w')(hf:∀X,X<w.heap.size->FB' X->FB X):Mv FB' w' v es:=by
 obtain⟨m,h1,h2,h3,h4⟩:=h;have h2l:=Tg es m h1;refine⟨m,h1,Sl.offQ h2 (fun hn q hq e=>h4 (by intro e2;subst e2;simp at hn) q e hq) hw,fun i e mv a b=>?_,fun aA X hX hF=>?_⟩
 .obtain⟨g1,g2⟩:=h3 i e mv a b;refine⟨Sl.offQ g1 (fun hn q hq e2=>g2 (by intro e3;rw[e3]at hn;simp at hn) q e2 hq) hw,fun aA X hX hF=>?_⟩;exact g2 aA X hX (hf X (Sl.blk g1 (by rw[Be];exact γy.2 aA) hX) hF)
 .exact h4 aA X hX (hf X (Sl.blk h2 (by have:=γy.2 aA;omega) hX) hF)
def Vs(c:AX)(g:Cd):GZ:=⟨g.i,g.j,g.a,I4 0 (gF c g)⟩
def Jm(c:AX)(gs:List Cd):List GZ:=gs.map (Vs c)
theorem Z1:(Tryz.prog.info? 96).map (fun i=>(i.zero,i.size,i.bytes))=some (some (.agg #[Ω,Ω,Ω,()]),4,48):=ah
structure Uy(w6 wr:World)(OB RB:Nat)(d:Int)(lv rv:Value)(xs:List GZ)(evs:List Value):Prop where
 off:Dc (fun X=>X=OB) w6 wr
 size:w6.heap.size<=wr.heap.size
 ob:OB<w6.heap.size
 rb:RB<w6.heap.size
 b0:wr.cell? (OB,0)=some (.int .i64 d)
 b1:wr.cell? (OB,1)=some lv
 b2:wr.cell? (OB,2)=some rv
 f2:wr.frozen? (OB,2)=false
 own:wr.ownsRow w6.heap.size 96 4 rv xs.length (OO xs evs)
 len:evs.length=xs.length
 at_:∀(i:Nat) (x:GZ) (ev:Value),xs[i]?=some x->evs[i]?=some ev->Mv (fun X=>X=OB∨X=RB∨rv.ownBlock=some X) wr ev x.pf
section
variable {w6 wr w':World} {OB RB:Nat} {d:Int} {lv rv v' ev:Value} {xs:List GZ} {evs:List Value}
theorem Uy.later(h:Uy w6 wr OB RB d lv rv xs evs)(hx:Ex wr w'):Uy w6 w' OB RB d lv rv xs evs:=
 ⟨h.off.trans (.ex hx) h.size,μ h.size hx.size,h.ob,h.rb,hx.cell h.b0,hx.cell h.b1,hx.cell h.b2,hx.frz h.b2 h.f2,Ag h.own hx,h.len,fun i x e a b=>(h.at_ i x e a b).off (.ex hx) fun X _ hX=>hX⟩
theorem Uy.no(h:Uy w6 wr OB RB d lv rv xs evs):some OB≠rv.ownBlock/\some RB≠rv.ownBlock:=⟨fun e=>by have:=(h.own.lt OB e.symm).1;have:=h.ob;omega,fun e=>by have:=(h.own.lt RB e.symm).1;have:=h.rb;omega⟩
theorem Uy.app(h:Uy w6 wr OB RB d lv rv xs evs){x:GZ}(he:Mv (fun X=>X=OB∨X=RB∨rv.ownBlock=some X) wr ev x.pf)
  (ha:Bz wr w' w6.heap.size 96 4 rv v' xs.length (OO xs evs) [.int .i64 x.i,.int .i64 x.j,.int .i64 x.a,ev]):w'.cell? (OB,2)=some rv/\w'.frozen? (OB,2)=false/\Uy w6 (w'.setCell (OB,2) v') OB RB d lv v' (xs ++ [x]) (evs ++ [ev]):=by
 have aD:=ha.cell h.b2 h.no.1;have aC:=Dc.appd ha;have hsz:=ha.grow;have aB:∀X,v'.ownBlock=some X->rv.ownBlock=some X∨wr.heap.size<=X:=fun X hX=>by
  rcases ha.at_ with h1|h1
  .left;rw[<-h1];exact hX
  .right;rw[h1]at hX;injection hX with hX;omega
 have aE:v'.ownBlock≠some OB:=fun e=>by
  rcases aB OB e with h1|h1
  .exact h.no.1 h1.symm
  .have:=h.ob;have:=h.size;omega
 have aA:∀ {e:Value} {es:List Rf},Mv (fun X=>X=OB∨X=RB∨rv.ownBlock=some X) wr e es->Mv (fun X=>X=OB∨X=RB∨v'.ownBlock=some X) (w'.setCell (OB,2) v') e es:=fun {e es} hr=>
  hr.off ((aC.mono fun X _ hX=> .inr (.inr hX)).set (p:=⟨OB,2,none⟩) (.inl rfl) _) fun X hX hF=>by
   rcases hF with hF|hF|hF
   .exact .inl hF
   .exact .inr (.inl hF)
   .rcases aB X hF with h1|h1
    .exact .inr (.inr h1)
    .omega
 refine⟨aD,ha.frz h.b2 h.f2 h.no.1,?_,?_,h.ob,h.rb,?_,?_,φ _ _ _ aD,?_,?_,by simp[h.len],fun i y e a b=>?_⟩
 .refine Dc.set (Q:=fun X=>X=OB) ?_ (p:=⟨OB,2,none⟩) rfl _;intro X hn hX;rw[aC X (fun e=>by have:=(h.own.lt X e).1;omega) (Δ hX h.size)];exact h.off X hn hX
 .have:=h.size;simp;omega
 .rw[Af ae];exact ha.cell h.b0 h.no.1
 .rw[Af ae];exact ha.cell h.b1 h.no.1
 .rw[AC];exact ha.frz h.b2 h.f2 h.no.1
 .have:=Ae (a:=⟨OB,2,none⟩) ha.own aE v';rw[T5 xs evs x ev h.len,List.length_append];exact this
 .by_cases hi:i<xs.length
  .rw[ο hi]at a;rw[ο ba]at b;exact aA (h.at_ i y e a b)
  .have aF:i=xs.length:=by
    exact zc8
   subst aF;rw[τ (ζ _)]at a;rw[τ dn,h.len]at b;simp at a b;subst a b;exact aA he
end
theorem Uy.start{w4:World}{OB RB:Nat}{d:Int}{lv:Value}(ho:YM w4 OB)(hr:RB<w4.heap.size):Uy w4 ((w4.setCell (OB,0) (.int .i64 d)).setCell (OB,1) lv) OB RB d lv (.slice none 0 0) [] []:=
 ⟨Dc.set (Q:=fun X=>X=OB) (Dc.set (Q:=fun X=>X=OB) (Dc.refl _ _) (p:=⟨OB,0,none⟩) rfl _) (p:=⟨OB,1,none⟩) rfl _,ag,(η _ (⟨OB,0,none⟩:Addr) ho.c0:OB<w4.heap.size),hr,
  by rw[Af ae];exact φ _ _ _ ho.c0,φ _ _ _ ((Af ae).trans ho.c1),by rw[Af ae,Af ae];exact ho.c2,by rw[AC,AC];exact ho.f2,
  World.ownsRow_nil _ _ _ _,rfl,fun i x e h=>by simp at h⟩
theorem KB{w:World}{q:Nat}(u v z:Value):Dc (fun X=>X=q) w (((w.setCell (q,0) u).setCell (q,1) v).setCell (q,2) z):=
 Dc.set (Q:=fun X=>X=q) (Dc.set (Q:=fun X=>X=q) (Dc.set (Q:=fun X=>X=q) (Dc.refl _ _) (p:=⟨q,0,none⟩) rfl _) (p:=⟨q,1,none⟩) rfl _) (p:=⟨q,2,none⟩) rfl _
theorem Uy.fin{w6 wr:World}{OB RB:Nat}{d:Int}{lv rv:Value}{xs:List GZ}{evs:List Value}(h:Uy w6 wr OB RB d lv rv xs evs)(u v z:Value):Mh (((wr.setCell (RB,0) u).setCell (RB,1) v).setCell (RB,2) z) rv xs:=
 ⟨evs,h.len,Sl.offQ (Q:=fun X=>X=RB) (Sl.own h.own) (fun _ q hq e=>by subst hq;exact h.no.2 e.symm) (KB u v z),fun i x e a b=>
  ((h.at_ i x e a b).off (FB':=fun _=>False) ((KB u v z).mono fun X _ hX=> .inr (.inl hX)) fun X _ hX=>hX.elim).rsl⟩
def Gr:List Int->List Int->Bool
 | x :: l,y :: k=>if x=y then Gr l k else decide (x<y)
 | _,_=>false
theorem Nc:∀ {l k:List Int} {i:Nat} {x y:Int},l[i]?=some x->k[i]?=some y->x≠y->(∀j,j<i->l[j]?=k[j]?)->Gr l k=decide (x<y)
 | x' :: l,y' :: k,0,x,y,h1,h2,hne,_=>by
  simp at h1 h2;subst h1 h2;unfold Gr;rw[if_neg hne]
 | x' :: l,y' :: k,i+1,x,y,h1,h2,hne,ha=>by
  have h0:=ha 0 ac;simp at h0;subst h0;unfold Gr;rw[if_pos rfl];exact Nc (i:=i) dd (by simpa using h2) hne fun j hj=>by
   have:=ha (j+1) ac;simpa using this
 | [],k,i,x,y,h1,_,_,_=>by simp at h1
 | x' :: l, [],i,x,y,_,h2,_,_=>by simp at h2
theorem Lc:∀ {l k:List Int},(∀j,j<l.length->l[j]?=k[j]?)->Gr l k=false
 | [],k,_=>by unfold Gr;rfl
 | x :: l, [],h=>by
  have:=h 0 ag;simp at this
 | x :: l,y :: k,h=>by
  have h0:=h 0 ag;simp at h0;subst h0;unfold Gr;rw[if_pos rfl];exact Lc fun j hj=>by
   have:=h (j+1) (by simpa using hj);simpa using this
def fixB(b:Nat)(f:Nat->Nat):Bool:=(List.range b).all fun i=>f i==i
theorem XH(b:Nat)(f:Nat->Nat):fixB b f=true↔AU b f:=by
 unfold fixB AU;rw[List.all_eq_true];exact⟨fun h i hi=>by simpa using h i (κ.2 hi),fun h i hi=>by simpa using h i (κ.1 hi)⟩
section
variable {w0 w w':World} {v v' mv:Value} {L:List Nd} {mvs:List Value} {x:Nd}
end
structure NxR(w2 wr:World)(xv:Value)(xs:List (List Int × List Int))(cs:List (Value × Value))(lv:Value):Prop where
 len:cs.length=xs.length
 own:wr.ownsRow w2.heap.size 71 2 xv xs.length (cs.flatMap fun c=> [c.1,c.2])
 at_:∀(i:Nat) (x:List Int × List Int) (c:Value × Value),xs[i]?=some x->cs[i]?=some c->wr.ownsRow w2.heap.size 3 1 c.1 x.1.length (Aj x.1)/\wr.ownsRow w2.heap.size 3 1 c.2 x.2.length (Aj x.2)/\AD c.1 lv/\AD c.2 lv
 ap:AD xv lv
section
variable {w w2 wr w':World} {xv lv lv':Value} {xs:List (List Int × List Int)} {cs:List (Value × Value)}
theorem NxR.of(h:SL w2 wr xv xs cs)(hl:∀B,lv.ownBlock=some B->B<w2.heap.size):NxR w2 wr xv xs cs lv:=
 ⟨h.len,h.own,fun i x c a b=>⟨(h.at_ i x c a b).1.1,(h.at_ i x c a b).2.1,BO (fun B hB=>((h.at_ i x c a b).1.1.lt B hB).1) hl,BO (fun B hB=>((h.at_ i x c a b).2.1.lt B hB).1) hl⟩,BO (fun B hB=>(h.own.lt B hB).1) hl⟩
theorem NxR.kept(h:NxR w2 wr xv xs cs lv)(hg:wr.grownBy w' lv.ownBlock)(aB:lv'.ownBlock=lv.ownBlock∨∀B,lv'.ownBlock=some B->wr.heap.size<=B):NxR w2 w' xv xs cs lv':=by
 have aA:∀ {e:TypeId} {s n:Nat} {c:Value} {ys:List Value},wr.ownsRow w2.heap.size e s c n ys->AD c lv->AD c lv':=fun {e s n c ys} ho ha=>by
  rcases aB with h1|h1
  .unfold AD at *;rw[h1];exact ha
  .exact(BO h1 fun B hB=>(ho.lt B hB).2).symm
 exact⟨h.len,h.own.kept hg h.ap,fun i x c a b=>by
  obtain⟨p1,p2,p3,p4⟩:=h.at_ i x c a b;exact⟨p1.kept hg p3,p2.kept hg p4,aA p1 p3,aA p2 p4⟩,aA h.own h.ap⟩
end
section
variable {w0 w wa w' w'':World} {lv v qt qs:Value} {R:(Nat × List Nd) × Int} {e:Int}
end
end Go.Proofs.YtehieobniamagaaGreat
