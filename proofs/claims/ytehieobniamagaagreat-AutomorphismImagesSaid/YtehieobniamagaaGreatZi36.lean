/- Plain: the examples of chapter 32, computed. -/
import Derived.Test.YtehieobniamagaaGreatZi35
namespace Go.Proofs.YtehieobniamagaaGreat
open List renaming getD_eq_getElem?_getD→δ,getElem?_eq_getElem→γ,mem_map→ψ,range→ξ,all_eq_true→υ,filter_congr→ηr,length_map→Ϛ,mem_range→κ,mem_flatMap→γr,length_append→ν
open Nat renaming le_refl→ζ,succ_mul→ζg,mul_le_mul_right→γz,mul_le_mul→γo,le_trans→μ,le_of_lt→κh,add_zero→δp,zero_add→ύ
open Int renaming toNat_natCast→ώ
open Go.RowKit
set_option linter.all false
set_option maxRecDepth 100000
set_option maxHeartbeats 8000000
section
variable {n:Nat} {T gens:List (List Int)}
def tabA(T:List (List Int))(i:Nat):Nat->Nat:=Dr (T.getD i [])
theorem Xy(hg:∀f,Gn (gens.map Dr) f↔∃r∈T,Dr r=f)(hl:∀r∈T,Ch r=0/\r.length=n)(hs:∀a,a<T.length->∀b,b<T.length->a<b->Gr (T.getD a []) (T.getD b [])=true):Pe n T.length (gens.map Dr) (tabA T):=by
 have hm:∀i,i<T.length->T.getD i []∈T:=fun i hi=>by
  rw[δ,γ hi];exact List.getElem_mem hi
 refine⟨fun f=>?_,fun a b aA hb=>?_⟩
 .rw[hg];constructor
  .rintro⟨r,hr,rfl⟩;obtain⟨i,hi,e⟩:=List.getElem_of_mem hr;exact⟨i,hi,by unfold tabA;rw[δ,γ hi];exact congrArg Dr e⟩
  .rintro⟨i,hi,rfl⟩;exact⟨T.getD i [],hm i hi,rfl⟩
 .have ha:a<T.length:=by omega
  have e1:=Ol (hl _ (hm a ha)).1;have e2:=Ol (hl _ (hm b hb)).1;rw[(hl _ (hm a ha)).2]at e1;rw[(hl _ (hm b hb)).2]at e2;refine W6.1 ?_;show Gr (li n (Dr (T.getD a []))) (li n (Dr (T.getD b [])))=true
  rw[e1,e2];exact hs a ha b hb aA
theorem TG(h:∀r∈gens,Ch r=0/\r.length=n):∀s∈gens.map Dr,Bo n s:=fun s hs=>by
 obtain⟨r,hr,rfl⟩:=ψ.1 hs;have:=Ow (h r hr).1
 rwa[(h r hr).2]at this
theorem Uo{C:List Lv}(hg:∀f,Gn (gens.map Dr) f↔∃r∈T,Dr r=f)(hl:∀r∈T,Ch r=0/\r.length=n)(hs:∀a,a<T.length->∀b,b<T.length->a<b->Gr (T.getD a []) (T.getD b [])=true)(h2:∀r∈gens,Ch r=0/\r.length=n)(hk:Es n gens=0)(hc:chnA n T.length (tabA T) n=C):Dg n gens=(⟨n,C⟩,0):=by
 unfold Dg;rw[hk,if_neg ag];show(Chn.mk n (Ck n (gens.map Dr) n),(0:Int))=_
 rw[chnA_eq (Xy hg hl hs) (TG h2),hc]
theorem Uh{C:List Lv}(h2:∀r∈gens,Ch r=0/\r.length=n)(h1:1<=n)(aA:n<=64)(hk:Es n gens=0)(h:Dg n gens=(⟨n,C⟩,0)):Bq n C=0:=by
 have h3:=Ui (n:=n) h1 aA (TG h2) (GP n (gens.map Dr));unfold Dg at h;rw[hk,if_neg ag]at h;injection h with h _;injection h with _ h;rw[<-h];show Bq n (Ck n (gens.map Dr) n)=0
 rw[EH];exact h3
open Classical in
theorem ZE {O:List (List Int)} (hg:∀f,Gn (gens.map Dr) f↔∃r∈T,Dr r=f) (hk:Es n gens=0) (hO:((ξ n).filter fun i=>T.all (fun r=>decide (i<=Dr r i))).map (fun i=>((ξ n).filter fun y=>T.any (fun r=>Dr r i==y)).map fun (y:Nat)=>(y:Int))=O):Io n gens=(O,0):=by
 have hr:∀ {i y:Nat},Ei (gens.map Dr) i y↔T.any (fun r=>Dr r i==y)=true:=fun {i y}=>by
  rw[List.any_eq_true];constructor
  .rintro⟨f,hf,e⟩;obtain⟨r,hr,rfl⟩:=(hg f).1 hf;exact⟨r,hr,by simpa using e⟩
  .rintro⟨r,hr,e⟩;exact⟨Dr r,(hg _).2 ⟨r,hr,rfl⟩,by simpa using e⟩
 have hL:∀ {i:Nat},Pc (gens.map Dr) i↔T.all (fun r=>decide (i<=Dr r i))=true:=fun {i}=>by
  rw[υ];constructor
  .intro h r hr;exact decide_eq_true (h _ ⟨Dr r,(hg _).2 ⟨r,hr,rfl⟩,rfl⟩)
  .rintro h y⟨f,hf,rfl⟩;obtain⟨r,hr,rfl⟩:=(hg f).1 hf;exact of_decide_eq_true (h r hr)
 have h2:∀i,RP n (gens.map Dr) i=((ξ n).filter fun y=>T.any (fun r=>Dr r i==y)).map fun (y:Nat)=>(y:Int):=fun i=>by
  unfold RP WI
  congr 1
  apply ηr;intro y _;rw[Bool.eq_iff_iff,decide_eq_true_eq];exact hr
 have h3:DA n (gens.map Dr) n=O:=by
  rw[<-hO];unfold DA;rw[show RP n (gens.map Dr)=_ from funext h2]
  congr 1
  apply ηr;intro i _;rw[Bool.eq_iff_iff,decide_eq_true_eq];exact hL
 unfold Io;rw[hk,if_neg ag];show(DA n (gens.map Dr) n,(0:Int))=_
 rw[h3]
end
def eT:AX:=⟨3,1, [],2, [[1,2]]⟩
theorem e31:FD 3 1 []:=⟨3,1,rfl,rfl,⟨ac,ac,ac,ae,rfl,by intro x hx;cases hx⟩,ae,(GW (p:=3) (m:=1) (ml:= []) ⟨ac,ac,ac,ae,rfl,by intro x hx;cases hx⟩ ae).2 (.inl rfl)⟩
theorem eT_pv:PV 3 1 1 2 (An [[1,2]]) [0] 1:=Wz ac ae rfl ae
theorem eT_cod{e:Int}(h:Bw 3 1 [] 2 [[1,2]] e):e=0:=QQ (p:=3) (m:=1) (N:=2) e31 ak ak ak rfl eT_pv ac h
theorem eC_cod0:Bw 2 1 [] 3 [[1,1,0]] 0:=
 .inr (.inr ⟨ak,ak,.inr ⟨ak,2,1,3, [0],An [[1,1,0]],rfl,rfl,rfl,e21,ak,IC XY ac rfl,ak⟩⟩)
def cG:List (List Int):= [[0,1,2], [1,0,2], [0,1,2], [0,1,2]]
def cT:List (List Int):= [[0,1,2], [1,0,2]]
def cL:List Lv:= [⟨0, [0,1], [[0,1,2], [1,0,2]]⟩]
def tG:List (List Int):= [[0,1,2,3], [1,0,3,2], [2,3,0,1], [3,2,1,0], [0,1,2,3]]
def tT:List (List Int):= [[0,1,2,3], [1,0,3,2], [2,3,0,1], [3,2,1,0]]
def tL:List Lv:= [⟨0, [0,1,2,3], [[0,1,2,3], [1,0,3,2], [2,3,0,1], [3,2,1,0]]⟩]
theorem e_pts:ptE 3 1 [] [1,0] [2,1] 0=0/\ptL 3 1 [] [1,0] [2,1] 0= [3,2,0,1]:=ak
theorem e_map:mpE 3 1 [] 2 [3,2,0,1]=0/\(mpM 3 1 [] 2 [3,2,0,1]).perm= [1,0]/\(mpM 3 1 [] 2 [3,2,0,1]).scale= [2,1]/\(mpM 3 1 [] 2 [3,2,0,1]).frob=0:=ak
theorem X8:JV eC 0=0:=ak
theorem eT_gr:JV eT 0=0:=ak
theorem X9:Er 2 1 [] (Di eC (AG eC))=cG:=ak
theorem XX:Er 3 1 [] (Di eT (AG eT))=tG:=ak
theorem eC_prm:PU (Di eC (AG eC))=cG:=ak
theorem Te{c:AX}{G:List (List Int)}{p m:Nat}{ml:List Int}(h:Er p m ml (Di c (AG c))=G):(Di c (AG c)).length=G.length:=by
 rw[<-h];unfold Er;rw[Ϛ]
theorem Sr:(Di eC (AG eC)).length<=1000:=by rw[Te X9];decide
theorem eT_len:(Di eT (AG eT)).length<=1000:=by rw[Te XX];decide
def mvB(N:Nat)(M:C7):Bool:=decide (M.perm.length=N)&&(decide (M.scale.length=N)&&BW M.perm N)
theorem WQ{N:Nat}{Ms:List C7}(h:Ms.all (mvB N)=true):∀M∈Ms,Pa N M:=fun M hM=>by
 have:=υ.1 h M hM;unfold mvB at this;simp only[Bool.and_eq_true,decide_eq_true_eq]at this;exact this
theorem eC_mv:∀M∈Di eC (AG eC),Pa eC.n.toNat M:=WQ ak
theorem eT_mv:∀M∈Di eT (AG eT),Pa eT.n.toNat M:=WQ ak
theorem cG_gn(f:Nat->Nat):Gn (cG.map Dr) f↔∃r∈cT,Dr r=f:=Ni (n:=3) [[], [1]] ae ae ac ac ae ae ae ae f
theorem tG_gn(f:Nat->Nat):Gn (tG.map Dr) f↔∃r∈tT,Dr r=f:=Ni (n:=4) [[], [1], [2], [3]] ae ae ac ac ae ae ae ae f
theorem Yk:Dg 3 cG=(⟨3,cL⟩,0):=Uo (n:=3) cG_gn ae ae ae ae ah
theorem V6:Dg 4 tG=(⟨4,tL⟩,0):=Uo (n:=4) tG_gn ae ae ae ae ah
theorem cL_chk:Bq 3 cL=0:=Uh (n:=3) (gens:=cG) ae ac ac ae Yk
theorem tL_chk:Bq 4 tL=0:=Uh (n:=4) (gens:=tG) ae ac ac ae V6
theorem tL_siz:EN tL=4:=ae
theorem cL_siz:EN cL=2:=ae
theorem cG_orb:Io 3 cG=([[0,1], [2]],0):=ZE (n:=3) cG_gn ae ak
def eX:List GZ:=Jm eC (JH eC (AG eC))
def exT(x:GZ):Int × Int:=(x.i,x.j)
theorem eX_ij:eX.map exT= [(0,2),(1,2)]:=ak
theorem eX_rf:∀g∈JH eC (AG eC),I5 0 (gF eC g)=0:=fun g hg=>by
 have h:(JH eC (AG eC)).all (fun g=>I5 0 (gF eC g)==0)=true:=ak;simpa using υ.1 h g hg
theorem OP:eX.length=2:=by have:=congrArg List.length eX_ij;rw[Ϛ]at this;exact this
theorem eN_len:(JH eC (AG eC)).length<=1000:=by
 have:=OP;unfold eX Jm at this;rw[Ϛ]at this;omega
theorem eX_exk:Lw eC 2 cL (AG eC) eX=true:=ak
theorem XZ{P:List Int}(h1:Vp 2 1 [] 3 P=true)(h2:Ef 2 1 [] 3 (Hw 2 1 3 P) (Hv 2 1 3 P) 0=0)(h3:Fv 2 1 [] (Hw 2 1 3 P) (Hv 2 1 3 P) 0 3 [[1,1,0]] 1= [[1,1,0]]):Gd 2 1 [] 3 [[1,1,0]] P=true:=by
 refine P7.2 ⟨h1,h2, [0],An [[1,1,0]],?_,ak⟩;rw[show([[1,1,0]]:List (List Int)).length=1 from rfl,h3];exact IC XY ac rfl
theorem zaX{P:Prop}(h:P:=by
 exact XZ (by decide +kernel) (by decide +kernel) (by decide +kernel)):P:=h
theorem cL_meb:WX eC cL=true:=by
 rw[P8];intro l hl r hr;simp only[cL,List.mem_singleton]at hl;subst hl;simp only[List.mem_cons,List.not_mem_nil,or_false]at hr;rcases hr with rfl|rfl
 .exact zaX
 .exact zaX
theorem cL_acc:YC eC 3 cL eX:=⟨cL_chk,ak,cL_meb,eX_exk⟩
theorem eC_opE:IS eC 0=0:=ak
theorem Ss:L3 eC=(⟨3,cL⟩,0):=by
 have h:L3 eC=Dg 3 (Er 2 1 [] (Di eC (AG eC))):=rfl;rw[h,X9,Yk]
theorem eC_cz:YJ eC 0=0:=by unfold YJ;rw[X8,if_neg ag,Ss]
structure El(p m:Nat)(ml:List Int)(N:Nat)(l:List (List Int)):Prop where
 co:Bw p m ml N l 0
 hd:N*(p^m-1)<=64
 sm:VF N (p^m)
 hq:p^m<=16
section
variable {p m N:Nat} {ml:List Int} {l:List (List Int)}
theorem El.two(h:El p m ml N l):Ha p m ml N/\VN p m ml N l l/\Gg p m ml/\l.length<=256:=by
 obtain⟨p1,m1,N1,g1,g2,g3,aA,hI,n1,aC,aB,q2⟩:=IE h.co;obtain rfl:p=p1:=ac;obtain rfl:m=m1:=ac;obtain rfl:N=N1:=ac;exact⟨⟨aA.p2,aA.m1,hI,n1,aC⟩,⟨aA.p2,aA.m1,hI,q2,q2⟩,aA,aB⟩
theorem El.n7(h:El p m ml N l):N<=7:=by
 have:=h.two.1.n2;apply Classical.byContradiction;intro h7;rcases h.sm.1 (.inr ac) with h|h <;> omega
theorem gol_vld{q:Nat}{g:Cd}(h:EL N q g):Q5 q N g.tl g.sl where
 len:=by rw[AP,BL]
 rng:=fun i hi=>by
  rw[AP]at hi;rw[CY g ac];have:=h.ij;have:=h.j;split <;> omega
 inj:=fun i j hi hj e=>by
  rw[AP]at hi;rw[CY g ac,CY g ac]at e;have:=h.ij;split at e <;> split at e <;> omega
 sc:=fun i hi=>by
  rw[AP]at hi;have:=h.a1;have:=h.a;exact⟨if i<g.i then 1 else g.a,Fx g ac,by split <;> omega,by split <;> omega⟩
def Pf(g:Cd)(pl sl:List Int):Prop:=pl.take (g.i+1)=g.tl/\sl.take (g.i+1)=g.sl
theorem Qp{g:Cd}{pl sl:List Int}(h1:g.i<pl.length)(h2:g.i<sl.length):Pf g pl sl↔(∀k,k<g.i->pl.getD k 0=(k:Int)/\sl.getD k 0=1)/\pl.getD g.i 0=(g.j:Int)/\sl.getD g.i 0=(g.a:Int):=by
 constructor
 .rintro⟨e1,e2⟩;have k1:∀k,k<=g.i->pl.getD k 0=g.tl.getD k 0:=fun k hk=>by rw[<-e1];exact(Cp ac).symm
  have k2:∀k,k<=g.i->sl.getD k 0=g.sl.getD k 0:=fun k hk=>by rw[<-e2];exact(Cp ac).symm
  refine⟨fun k hk=>⟨?_,?_⟩,?_,?_⟩
  .rw[k1 k ac,CY g ac,if_pos hk]
  .rw[k2 k ac,Fx g ac,if_pos hk];rfl
  .rw[k1 _ (ζ _),CY g (ζ _),if_neg ac]
  .rw[k2 _ (ζ _),Fx g (ζ _),if_neg ac]
 .rintro⟨h,e1,e2⟩;constructor
  .have:=Ii (pl:=pl) (tl:=g.tl) (by rw[AP];omega) fun i hi=>by
    rw[AP]at hi;rw[CY g ac];by_cases e:i<g.i
    .rw[if_pos e];exact(h i e).1
    .obtain rfl:i=g.i:=by omega
     rw[if_neg e];exact e1
   rwa[AP]at this
  .have:=Ii (pl:=sl) (tl:=g.sl) (by rw[BL];omega) fun i hi=>by
    rw[BL]at hi;rw[Fx g ac];by_cases e:i<g.i
    .rw[if_pos e];exact(h i e).2
    .obtain rfl:i=g.i:=by omega
     rw[if_neg e];exact e2
   rwa[BL]at this
theorem El.srch(h:El p m ml N l){g:Cd}(hg:EL N (p^m) g):
  ((gF ⟨p,m,ml,N,l⟩ g).2=18/\AW p m ml N l l (gM ⟨p,m,ml,N,l⟩ g).perm (gM ⟨p,m,ml,N,l⟩ g).scale/\Pf g (gM ⟨p,m,ml,N,l⟩ g).perm (gM ⟨p,m,ml,N,l⟩ g).scale/\
   ∀pl sl,AW p m ml N l l pl sl->Pf g pl sl->NC N (Cs (gF ⟨p,m,ml,N,l⟩ g).1.2) pl sl/\(gM ⟨p,m,ml,N,l⟩ g).perm=(Cs (gF ⟨p,m,ml,N,l⟩ g).1.2).tl/\(gM ⟨p,m,ml,N,l⟩ g).scale=(Cs (gF ⟨p,m,ml,N,l⟩ g).1.2).sc)∨
  ((gF ⟨p,m,ml,N,l⟩ g).2=0/\∀pl sl,AW p m ml N l l pl sl->¬Pf g pl sl):=by
 obtain⟨hP,hW,hsh,k256⟩:=h.two;have hn7:=h.n7;have hv:=gol_vld hg;have hB:Pj (N*(p^m-1)) N<=65536:=by
  refine UF N ac (p^m) (by have:=h.hq;omega) ?_;have:=h.sm.2 (by have:=hP.n1;omega) ac N ag;simpa using this
 have hlt:g.tl.length<=N:=by rw[AP];have:=hg.ij;have:=hg.j;omega
 have aB:=S7 hW (N-g.tl.length) g.tl g.sl (0, []) hv ac (by have:=WN (N*(p^m-1)) (show N-g.tl.length<=N by omega);show 0+_<=_;omega);have hS:gF ⟨p,m,ml,N,l⟩ g=Mj p m ml l l N (N-g.tl.length) (0, []) g.tl g.sl:=by
  unfold gF Gw;simp only[ώ]
 rw[<-hS]at aB;have hM:(gF ⟨p,m,ml,N,l⟩ g).2=18->gM ⟨p,m,ml,N,l⟩ g=⟨(Cs (gF ⟨p,m,ml,N,l⟩ g).1.2).tl,(Cs (gF ⟨p,m,ml,N,l⟩ g).1.2).sc,0⟩:=fun e=>by
  unfold gM Jk;rw[if_neg ag,if_pos e]
 have aA:∀pl sl,AW p m ml N l l pl sl->Pf g pl sl->(gF ⟨p,m,ml,N,l⟩ g).2=18/\NC N (Cs (gF ⟨p,m,ml,N,l⟩ g).1.2) pl sl:=fun pl sl hT hG=>
  aB.fnd pl sl hT (by rw[AP];exact hG.1) (by rw[AP];exact hG.2)
 rcases aB.res with h0|⟨h18,hfd⟩
 .right;refine⟨h0,fun pl sl hT hG=>?_⟩;have:=(aA pl sl hT hG).1;rw[h0]at this;cases this
 .left;refine⟨h18,?_,?_,fun pl sl hT hG=>⟨(aA pl sl hT hG).2,by rw[hM h18],by rw[hM h18]⟩⟩
  .rw[hM h18];exact hfd.takes hP.hp
  .rw[hM h18];have h1:=hfd.t;have h2:=hfd.s;rw[AP]at h1 h2;exact⟨h1,h2⟩
theorem TP{c:AX}{g:Cd}:((gF c g).2=18->gE c g=0)/\((gF c g).2=0->gE c g=11):=by
 unfold gE JW;constructor
 .intro e;rw[if_neg ag,if_pos e]
 .intro e;rw[if_neg ag,if_neg (by rw[e];decide),if_pos e]
theorem El.gE01(h:El p m ml N l){g:Cd}(hg:EL N (p^m) g):gE ⟨p,m,ml,N,l⟩ g=0∨gE ⟨p,m,ml,N,l⟩ g=11:=by
 rcases h.srch hg with⟨e,_⟩|⟨e,_⟩
 .exact .inl (TP.1 e)
 .exact .inr (TP.2 e)
theorem El.hit(h:El p m ml N l){g:Cd}(hg:EL N (p^m) g)(he:gE ⟨p,m,ml,N,l⟩ g=0):AW p m ml N l l (gM ⟨p,m,ml,N,l⟩ g).perm (gM ⟨p,m,ml,N,l⟩ g).scale/\Pf g (gM ⟨p,m,ml,N,l⟩ g).perm (gM ⟨p,m,ml,N,l⟩ g).scale:=by
 rcases h.srch hg with⟨e,h1,h2,_⟩|⟨e,_⟩
 .exact⟨h1,h2⟩
 .rw[TP.2 e]at he;cases he
theorem El.some(h:El p m ml N l){g:Cd}(hg:EL N (p^m) g){pl sl:List Int}(hT:AW p m ml N l l pl sl)(hG:Pf g pl sl):gE ⟨p,m,ml,N,l⟩ g=0:=by
 rcases h.srch hg with⟨e,_⟩|⟨e,h1⟩
 .exact TP.1 e
 .exact absurd hG (h1 pl sl hT)
theorem gA_mem{i j c:Nat}{g:Cd}:g∈gA i j c↔g.i=i/\g.j=j/\1<=g.a/\g.a<=c:=by
 unfold gA;rw[ψ];constructor
 .rintro⟨a,ha,rfl⟩;rw[κ]at ha;exact⟨rfl,rfl,by show 1<=a+1;omega,by show a+1<=c;omega⟩
 .rintro⟨h1,h2,h3,h4⟩;refine⟨g.a-1,by rw[κ];omega,?_⟩;obtain⟨gi,gj,ga⟩:=g;dsimp only at h1 h2 h3 h4 ⊢;subst h1 h2;rw[show ga-1+1=ga from ac]
theorem Lo{n q:Nat}{g:Cd}:g∈Dw n q↔EL n q g:=by
 refine⟨Ix,fun h=>?_⟩;unfold Dw gI;refine γr.2 ⟨g.i,by rw[κ];have:=h.ij;have:=h.j;omega,?_⟩;unfold gJ;refine γr.2 ⟨g.j-g.i,by rw[κ];have:=h.ij;have:=h.j;omega,?_⟩;exact gA_mem.2 ⟨rfl,by have:=h.ij;omega,h.a1,by have:=h.a;omega⟩
theorem TN(q i:Nat):∀k,(gJ q i k).length=k*(q-1)
 | 0=>by unfold gJ;simp
 | k+1=>by rw[OF,ν,Si,TN q i k,ζg]
theorem TO(n q:Nat):∀k,(gI n q k).length<=k*(n*(q-1))
 | 0=>by unfold gI;simp
 | k+1=>by
  rw[OG,ν,TN,ζg];have:=TO n q k;have:=γz (q-1) (show n-k<=n by omega);omega
theorem El.gol_len(h:El p m ml N l):(Dw N (p^m)).length<=448:=by
 have h1:=TO N (p^m) N;have h2:=γo h.n7 h.hd;unfold Dw;omega
theorem Iy:AG ⟨p,m,ml,N,l⟩=Dw N (p^m):=by
 unfold AG;simp only[ώ]
theorem El.len(h:El p m ml N l):(Di ⟨p,m,ml,N,l⟩ (AG ⟨p,m,ml,N,l⟩)).length<=448:=by
 unfold Di;rw[Ϛ,Iy];exact μ (List.length_filter_le _ _) h.gol_len
theorem Td{c:AX}{gs:List Cd}{M:C7}:M∈Di c gs↔∃g∈gs,gE c g=0/\gM c g=M:=by
 unfold Di;simp only[ψ,List.mem_filter,beq_iff_eq];exact⟨fun ⟨g,⟨h1,h2⟩,h3⟩=>⟨g,h1,h2,h3⟩,fun ⟨g,h1,h2,h3⟩=>⟨g,⟨h1,h2⟩,h3⟩⟩
theorem El.tak(h:El p m ml N l){M:C7}(hM:M∈Di ⟨p,m,ml,N,l⟩ (AG ⟨p,m,ml,N,l⟩)):AW p m ml N l l M.perm M.scale:=by
 obtain⟨g,hg,he,rfl⟩:=Td.1 hM;rw[Iy]at hg;exact(h.hit (Lo.1 hg) he).1
theorem AW.mv{l1 l2:List (List Int)}{M:C7}(h:AW p m ml N l1 l2 M.perm M.scale):Pa N M:=by
 refine⟨h.pll,h.sll,?_⟩;have:=h.rng N
 rwa[List.take_of_length_le (by rw[h.pll];exact ζ _)]at this
theorem El.mv(h:El p m ml N l):∀M∈Di ⟨p,m,ml,N,l⟩ (AG ⟨p,m,ml,N,l⟩),Pa (⟨p,m,ml,N,l⟩:AX).n.toNat M:=fun M hM=>(h.tak hM).mv
theorem El.rnB(h:El p m ml N l):NZ ⟨p,m,ml,N,l⟩ (AG ⟨p,m,ml,N,l⟩)=none:=by
 unfold Go.Proofs.YtehieobniamagaaGreat.NZ;rw[List.find?_eq_none];intro g hg;rw[Iy]at hg;rcases h.gE01 (Lo.1 hg) with e|e <;> rw[e] <;> decide
theorem El.opE(h:El p m ml N l):IS ⟨p,m,ml,N,l⟩ 0=0:=by
 unfold Go.Proofs.YtehieobniamagaaGreat.IS;simp only[ώ];rw[if_neg ag,if_neg (by have:=h.hd;omega)]
theorem El.grE(h:El p m ml N l):JV ⟨p,m,ml,N,l⟩ 0=0:=by
 unfold Go.Proofs.YtehieobniamagaaGreat.JV;rw[if_neg (by rw[h.opE];simp),PF h.rnB]
def Qv(p m:Nat)(ml:List Int)(N:Nat)(l:List (List Int)):List (Nat->Nat):=(Di ⟨p,m,ml,N,l⟩ (AG ⟨p,m,ml,N,l⟩)).map fun M=>G6 p m ml M.perm M.scale
theorem El.fnd_isP(h:El p m ml N l):∀s∈Qv p m ml N l,Bo (N*(p^m-1)) s:=fun s hs=>by
 obtain⟨M,hM,rfl⟩:=ψ.1 hs;exact DZ ((h.tak hM).mon h.two.1)
theorem El.genL(h:El p m ml N l):Er p m ml (Di ⟨p,m,ml,N,l⟩ (AG ⟨p,m,ml,N,l⟩))=(Qv p m ml N l).map (li (N*(p^m-1))):=by
 unfold Go.Proofs.YtehieobniamagaaGreat.Er Qv;rw[List.map_map];refine List.map_congr_left fun M hM=>?_;exact(RI ((h.tak hM).mon h.two.1)).symm
theorem YO(hW:Ha p m ml N){l1 l2:List (List Int)}{pl sl:List Int}(hT:AW p m ml N l1 l2 pl sl){i:Nat}(hi:i<N)(hx:AU (i*(p^m-1)) (G6 p m ml pl sl)):∃g,EL N (p^m) g/\g.i=i/\Pf g pl sl/\G6 p m ml pl sl (i*(p^m-1))=g.j*(p^m-1)+(g.a-1):=by
 have hM:=hT.mon hW;have aA:=(Ik hM hT.nn (κh hi)).1 hx;obtain⟨z,hz,z1,z2⟩:=hT.sc i hi;have hQ:0<p^m-1:=ac;obtain⟨z',aB,_,_,h3,h4,h5⟩:=DS hM hi hQ;have aD:z'=z:=by rw[hz]at aB;exact_mod_cast aB.symm
 subst aD;rw[δp,ύ,BD hM.hp hM.hm z2]at h5;have hnn:=hT.nn i hi;have aC:=hT.inj.lt i hi;have aE:i<=BJ pl i:=by
  apply Classical.byContradiction;intro hlt2;have e:=(aA (BJ pl i) ac).1;have e2:BJ pl (BJ pl i)=BJ pl i:=by
   show(pl.getD (BJ pl i) 0).toNat=_
   rw[e];simp
  have:=hT.inj.inj _ _ aC hi e2;omega
 refine⟨⟨i,BJ pl i,z'⟩,⟨aE,aC,z1,z2⟩,rfl,(Qp (by rw[hT.pll];exact hi) (by rw[hT.sll];exact hi)).2 ⟨aA,?_,hz⟩,h5⟩;show pl.getD i 0=((BJ pl i:Nat):Int)
 unfold BJ;omega
theorem gol_pt(hW:Ha p m ml N){l1 l2:List (List Int)}{pl sl:List Int}(hT:AW p m ml N l1 l2 pl sl){g:Cd}(hg:EL N (p^m) g)(hG:Pf g pl sl):AU (g.i*(p^m-1)) (G6 p m ml pl sl)/\G6 p m ml pl sl (g.i*(p^m-1))=g.j*(p^m-1)+(g.a-1):=by
 have hi:g.i<N:=by have:=hg.ij;have:=hg.j;omega
 have hM:=hT.mon hW;obtain⟨h1,h2,h3⟩:=(Qp (by rw[hT.pll];exact hi) (by rw[hT.sll];exact hi)).1 hG;refine⟨(Ik hM hT.nn (κh hi)).2 h1,?_⟩;have hQ:0<p^m-1:=by have:=hg.a1;have:=hg.a;omega
 obtain⟨z,hz,z1,z2,k3,k4,k5⟩:=DS hM hi hQ;have aA:z=g.a:=by rw[h3]at hz;exact_mod_cast hz.symm
 subst aA;rw[δp,ύ,BD hM.hp hM.hm z2]at k5;rw[k5];unfold BJ;rw[h2];simp
theorem El.gen(h:El p m ml N l)(f:Nat->Nat):Gn (Qv p m ml N l) f↔Gf p m ml N l l f:=by
 obtain⟨hP,hW,hsh,k256⟩:=h.two;refine Rm (n:=N*(p^m-1)) (N:=N) (Q:=p^m-1) rfl (Gf.grp hP l) (fun i f hi hf hx he=>hf.fx hP hi hx he) (fun s hs=>?_) (fun i f hi hf hx=>?_) f
 .obtain⟨M,hM,rfl⟩:=ψ.1 hs;exact⟨_,_,h.tak hM,rfl⟩
 .obtain⟨pl,sl,hT,rfl⟩:=hf;obtain⟨g,hg,rfl,hG,aA⟩:=YO hP hT hi hx;have he:=h.some hg hT hG;obtain⟨aB,aC⟩:=h.hit hg he;obtain⟨k1,k2⟩:=gol_pt hP aB hg aC;exact⟨_,.of (ψ.2 ⟨_,Td.2 ⟨g,by rw[Iy];exact Lo.2 hg,he,rfl⟩,rfl⟩),k1,by rw[k2,aA]⟩
theorem El.d1(h:El p m ml N l):1<=N*(p^m-1):=by
 have hP:=h.two.1;have:=BC hP.hp hP.hm;exact Nat.mul_pos (by have:=hP.n1;omega) ac
theorem bldS_li{n:Nat}{S:List (Nat->Nat)}(h1:1<=n)(h2:n<=64)(hS:∀s∈S,Bo n s):Dg n (S.map (li n))=(⟨n,Ck n S n⟩,0):=by
 unfold Dg;rw[TL h1 h2 hS,if_neg ae,Ir hS];rfl
noncomputable def Jq(p m:Nat)(ml:List Int)(N:Nat)(l:List (List Int)):List Lv:=Ck (N*(p^m-1)) (Qv p m ml N l) (N*(p^m-1))
theorem El.bld(h:El p m ml N l):L3 ⟨p,m,ml,N,l⟩=(⟨((N*(p^m-1):Nat):Int),Jq p m ml N l⟩,0):=by
 unfold L3 Ff;simp only[ώ];rw[h.genL,bldS_li h.d1 h.hd h.fnd_isP];rfl
end
theorem XA(n:Nat)(S:List (Nat->Nat)):(Bn (Ck n S n)).length<=n*n:=by
 rw[EH,Ji,Ϛ];unfold Cj;have aA:∀bs:List Nat,(bs.flatMap fun b=>(Bf S b n).map (De n S b)).length<=bs.length*n:=by
  intro bs
  induction bs with
  | nil=>simp
  | cons b bs ih=>
   rw[List.flatMap_cons,ν,Ϛ,List.length_cons,Nat.add_mul,Nat.one_mul];have:=Fn S b n;omega
 refine μ (aA _) (γz n ?_);exact zbP
theorem Yi{n:Nat}{S:List (Nat->Nat)}(h1:1<=n)(h2:n<=64)(hS:∀s∈S,Bo n s):Bq n (Ck n S n)=0:=by
 rw[EH];exact Ui h1 h2 hS (GP n S)
section
variable {p m N:Nat} {ml:List Int} {l l1 l2:List (List Int)}
end
def Smp(c:AX)(k:Nat):Prop:=Bw c.p c.m c.ml c.n c.rows 0->Ff c<=64->Ff c<=k/\VF c.n (c.p.toNat^c.m.toNat)
open Classical in
noncomputable def smB (c:AX) (k:Nat):Bool:=decide (QA 0 c.rows 80=true/\Smp c k)
theorem S8{c:AX}{k:Nat}:smB c k=true↔QA 0 c.rows 80=true/\Smp c k:=by
 unfold smB;simp only[decide_eq_true_eq]
theorem Sz{P:Program}{f:FuncId}{aA:Array Value}{w:World}{R:Ending->World->Prop}(h:Calls P f aA w R):∃e w',R e w':=by
 obtain⟨e,w',_,h1,_⟩:=h [];exact⟨e,w',h1⟩
theorem codO_ex{w:World}{c:AX}{m1 v1:Value}(hc:c.at w m1 v1):∃e0,Bw c.p c.m c.ml c.n c.rows e0/\∀w',Ex w w'->Calls Tryz.prog 37 #[c.arg m1 v1] w' fun r w''=>r= .returned (.int .i64 e0)/\Ex w' w'':=by
 obtain⟨_,_,⟨e0,_,h0⟩,_⟩:=Sz (Hs w c.p c.m c.ml m1 hc.m c.n c.rows v1 hc.g);refine⟨e0,h0,fun w' hx=>(Hs w' c.p c.m c.ml m1 (hc.ex hx).m c.n c.rows v1 (hc.ex hx).g).mono ?_⟩;rintro r w''⟨⟨e,rfl,h⟩,h2⟩;obtain rfl:=B3 h h0;exact⟨rfl,h2⟩
theorem zcD{P:Prop}(h:P:=by
 go_wp2_with fail
 go_ret;exact⟨Aq HR.o,HX.o.trans (aB.o.trans aC.o)⟩):P:=h
theorem N5(w:World)(c:AX)(m1 v1:Value)(hc:c.at w m1 v1)(k:Nat)(hk:k<=64):
  Calls Tryz.prog 21 #[c.arg m1 v1,(k:Int)] w fun r w'=>r= .returned (.bool (smB c k))/\Ex w w':=by
 obtain⟨c0,c1,c2,c3,c4⟩:=C8 w c m1 v1;obtain⟨HX,aI,aR,aG,aH,HS⟩:=Ty (AF w (c.obj m1 v1)) (fun (w':World) (h:Ex w w')=>Rz w' c.p c.m m1 c.n c.rows v1 (hc.ex h).g 80 ac ac) (fun (w':World) (h:Ex w w')=>Hs w' c.p c.m c.ml m1 (hc.ex h).m c.n c.rows v1 (hc.ex h).g) (fun (w':World) (h:Ex w w')=>Rx w' c m1 v1 (hc.ex h)) (fun w'=>Dp c.p c.m m1 w') (show ∀b:Bool,(b=true↔QA 0 c.rows 80=true/\(Bw c.p c.m c.ml c.n c.rows 0->Ff c<=64->Ff c<=k/\VF c.n (c.p.toNat^c.m.toNat)))->b=smB c k from fun b h=>Bool.eq_iff_iff.2 (h.trans S8.symm));obtain⟨SB,hS⟩:∃S,smB c k=S:=⟨_,rfl⟩;rw[hS]at HS ⊢;have aD:Hia (Ff c=c.n.toNat*(c.p.toNat^c.m.toNat-1)):=Aa (rfl);obtain⟨DG,aP⟩:∃D,Ff c=D:=⟨_,rfl⟩;rw[aP]at HS aD;obtain⟨x1,y1,rfl,-,z1,-⟩:=hc.g.open;obtain⟨x3,y3,rfl,-,z3,-⟩:=hc.m.open;obtain⟨p,m,ml,n,rows⟩:=c;obtain⟨B,hB⟩:=nA w.heap.size;rw[hB]at c0 c1 c2 c3 c4;dsimp only[AX.arg,AX.obj]at *;have hk2:(k:Int)<=64:=bz;clear hc hS z1 z3 aP;obtain⟨FW,aO⟩:∃b,QA 0 rows 80=b:=⟨_,rfl⟩;rw[aO]at aI HS;clear aO;go_enter Tryz.func21,Tryz.ntmps21
 go_upto_region 1 with fail
 try simp only[hB]
 clear hB;generalize w.alloc (.cells #[p,m,(x3,ml.length,y3),n,(x1,rows.length,y1)] 39)=w1 at *;have aE:=Aa (fun w' (h:Ex w1 w')=>(⟨h.cell c0,h.cell c1,h.cell c2,h.cell c3,h.cell c4⟩:w'.cell? (B,0)=some (.int .i64 p)/\w'.cell? (B,1)=some (.int .i64 m)/\w'.cell? (B,2)=some (.slice x3 ml.length y3)/\w'.cell? (B,3)=some (.int .i64 n)/\w'.cell? (B,4)=some (.slice x1 rows.length y1)));go_wp2_with fail
 refine(aI.o w1 HX.o).mono ?_;rintro e w2⟨rfl,aM⟩;have aF:=Aa aM;clear c0 c1 c2 c3 c4 aM
 cases FW with
 | false=>
  have HR:=Aa (HS.o false ⟨fun h=>az,fun h=>(by cases h.1)⟩);go_wp2_with fail
  go_ret;exact⟨Aq HR.o,HX.o.trans aF.o⟩
 | true=>
  replace HS:=Aa (fun (b:Bool) (h:b=true↔(Bw p m ml n rows 0->DG<=64->DG<=k/\VF n (p.toNat^m.toNat)))=>HS.o b (h.trans ⟨fun h=>⟨rfl,h⟩,fun h=>h.2⟩));obtain⟨c0,c1,c2,c3,c4⟩:=aE.o w2 aF.o;go_wp2_with fail
  refine(aR.o w2 (HX.o.trans aF.o)).mono ?_;rintro e w3⟨⟨E,rfl,ho⟩,aL⟩;have aB:=Aa (aF.o.trans aL);have HO:=Aa ho;clear c0 c1 c2 c3 c4 aL ho;by_cases h0:E=0
  rotate_left
  .have hb:(E !=0)=true:=by simpa using h0
   have HR:=Aa (HS.o true ⟨fun _ h=>absurd (B3 HO.o h) h0,fun _=>rfl⟩);clear h0;go_wp2_with fail
   go_ret;exact⟨Aq HR.o,HX.o.trans aB.o⟩
  subst h0;obtain⟨pn,mn,N,rfl,rfl,rfl,hf,hI,aW,aN,hr,aT⟩:=IE HO.o;have aQ:=Aa HO.o;have Dy:=KZ hf;rw[Dy]at aH aG;rw[ώ]at aG;simp only[ώ]at aD HS;have aV:2<=pn^mn:=μ hf.p2 (Nat.le_self_pow (by have:=hf.m1;omega) pn);have aU:=hf.q;obtain⟨q,hq⟩:=nA (pn^mn);rw[hq]at aH aG aD HS aV aU;have hDb:DG<=20000:=by rw[aD.o];exact μ (γo aN (show q-1<=255 by omega)) ac
  have k1:(N:Int)*((q:Int)-1)=(DG:Int):=by rw[aD.o,Int.natCast_mul,Int.natCast_sub ac];rfl
  have k2:(N:Int)<=64:=ac;have k3:(q:Int)<=256:=ac;have k4:(1:Int)<=(q:Int):=ac;have W1:Hia (IntKind.i64.wrap ((q:Int)-1)=(q:Int)-1):=Aa (IntWalk.i64_in _ ac);have W2:Hia (IntKind.i64.wrap ((N:Int)*((q:Int)-1))=(DG:Int)):=Aa (by rw[k1];exact IntWalk.i64_in _ ac);have aA:=Aa (fun (w':World) (h:Ex w3 w')=>aE.o w' (aB.o.trans h));have G0:Ex w3 w3.drew:=(Ex.refl w3).drew;clear hf hI Dy hq HO aT hr aR aI aW aN;go_wp2_with fail
  go_upto_region 5 with fail
  go_region_held3 (fun w'=>w'.cell? (B,0)=some (.int .i64 pn)/\w'.cell? (B,1)=some (.int .i64 mn)/\w'.cell? (B,2)=some (.slice x3 ml.length y3)/\w'.cell? (B,3)=some (.int .i64 N)/\w'.cell? (B,4)=some (.slice x1 rows.length y1))
   (first|with_reducible exact aA.o _ X5|with_reducible exact aA.o _ G0)
   (first|(go_at_call 14;(with_reducible refine(aH.o _).mono ?_);rintro e w5⟨rfl,aK⟩;have X5:=G0.trans aK;have aC:=Aa X5;clear aK))
  all_goals
   simp only[W1.o,W2.o];by_cases h1:64<DG
   .have j1:(64:Int)<(DG:Int):=by omega
    have j2:decide ((64:Int)<(DG:Int))=true:=decide_eq_true j1;have HR:=Aa (HS.o true ⟨fun _ _ h=>absurd h ac,fun _=>rfl⟩);clear h1;exact zcD
   .have j1:¬(64:Int)<(DG:Int):=by omega
    have j2:decide ((64:Int)<(DG:Int))=false:=decide_eq_false j1;have aS:Hia (DG<=64):=Aa (ac);clear h1;by_cases h2:DG<=k
    .have j3:(DG:Int)<=(k:Int):=by omega
     have j4:decide ((DG:Int)<=(k:Int))=true:=decide_eq_true j3;have H2:=Aa h2;have aY:=Aa (aG.o _ (HX.o.trans (aB.o.trans aC.o)));obtain⟨c0,c1,c2,c3,c4⟩:=aA.o _ aC.o;clear h2;go_wp2_with fail
     refine aY.o.mono ?_;rintro e w9⟨⟨b,rfl,hb⟩,aJ⟩;have HR:=Aa (HS.o b ⟨fun h _ _=>⟨H2.o,hb.1 h⟩,fun h=>hb.2 (h aQ.o aS.o).2⟩);have aX:=Aa aJ;clear hb aJ c0 c1 c2 c3 c4;go_wp2_with fail
     go_ret;exact⟨Aq HR.o,HX.o.trans (aB.o.trans (aC.o.trans aX.o))⟩
    .have j3:¬(DG:Int)<=(k:Int):=by omega
     have j4:decide ((DG:Int)<=(k:Int))=false:=decide_eq_false j3;have HR:=Aa (HS.o false ⟨fun h=>az,fun h=>absurd (h aQ.o aS.o).1 h2⟩);clear h2;exact zcD
end Go.Proofs.YtehieobniamagaaGreat
