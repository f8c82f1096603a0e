/- Examples of chapter 32. -/
import Derived.Test.YtehieobniamagaaGreatZs28
namespace Go.Proofs.YtehieobniamagaaGreat
open Go.RowKit
set_option linter.all false
set_option maxRecDepth 100000
set_option maxHeartbeats 16000000
section
variable {n:Nat} {T gens:List (List Int)}
def tabA(T:List (List Int))(i:Nat):Nat->Nat:=CL (T.getD i [])
theorem WY(hg:∀f,Gn (gens.map CL) f↔∃r∈T,CL r=f)(hl:∀r∈T,BR r=0/\r.length=n)(hs:∀a,a<T.length->∀b,b<T.length->a<b->Gz (T.getD a []) (T.getD b [])=true):O4 n T.length (gens.map CL) (tabA T):=by
 have hm:∀i,i<T.length->T.getD i []∈T:=fun i hi=>by
  rw[List.getD_eq_getElem?_getD,List.getElem?_eq_getElem hi];exact List.getElem_mem hi
 refine⟨fun f=>?_,fun a b aA hb=>?_⟩
 .rw[hg];constructor
  .rintro⟨r,hr,rfl⟩;obtain⟨i,hi,e⟩:=List.getElem_of_mem hr;exact⟨i,hi,by unfold tabA;rw[List.getD_eq_getElem?_getD,List.getElem?_eq_getElem hi];exact congrArg CL e⟩
  .rintro⟨i,hi,rfl⟩;exact⟨T.getD i [],hm i hi,rfl⟩
 .have ha:a<T.length:=by omega
  have e1:=Od (hl _ (hm a ha)).1;have e2:=Od (hl _ (hm b hb)).1;rw[(hl _ (hm a ha)).2]at e1;rw[(hl _ (hm b hb)).2]at e2;refine Wx.1 ?_;show Gz (li n (CL (T.getD a []))) (li n (CL (T.getD b [])))=true
  rw[e1,e2];exact hs a ha b hb aA
theorem Ti(h:∀r∈gens,BR r=0/\r.length=n):∀s∈gens.map CL,Be n s:=fun s hs=>by
 obtain⟨r,hr,rfl⟩:=List.mem_map.1 hs;have:=Ol (h r hr).1
 rwa[(h r hr).2]at this
theorem TT{C:List Lv}(hg:∀f,Gn (gens.map CL) f↔∃r∈T,CL r=f)(hl:∀r∈T,BR r=0/\r.length=n)(hs:∀a,a<T.length->∀b,b<T.length->a<b->Gz (T.getD a []) (T.getD b [])=true)(h2:∀r∈gens,BR r=0/\r.length=n)(hk:Es n gens=0)(hc:chnA n T.length (tabA T) n=C):Dd n gens=(⟨n,C⟩,0):=by
 unfold Dd;rw[hk,if_neg ag];show(Chn.mk n (Cd n (gens.map CL) n),(0:Int))=_
 rw[ZY (WY hg hl hs) (Ti h2),hc]
theorem TO{C:List Lv}(h2:∀r∈gens,BR r=0/\r.length=n)(h1:1<=n)(aA:n<=64)(hk:Es n gens=0)(h:Dd n gens=(⟨n,C⟩,0)):Bf n C=0:=by
 have h3:=TP (n:=n) h1 aA (Ti h2) (Ik n (gens.map CL));unfold Dd at h;rw[hk,if_neg ag]at h;injection h with h _;injection h with _ h;rw[<-h];show Bf n (Cd n (gens.map CL) n)=0
 rw[EJ];exact h3
open Classical in
theorem Y9 {O:List (List Int)} (hg:∀f,Gn (gens.map CL) f↔∃r∈T,CL r=f) (hk:Es n gens=0) (hO:((List.range n).filter fun i=>T.all (fun r=>decide (i<=CL r i))).map (fun i=>((List.range n).filter fun y=>T.any (fun r=>CL r i==y)).map fun (y:Nat)=>(y:Int))=O):Iv n gens=(O,0):=by
 have hr:∀ {i y:Nat},Eg (gens.map CL) i y↔T.any (fun r=>CL r i==y)=true:=fun {i y}=>by
  rw[List.any_eq_true];constructor
  .rintro⟨f,hf,e⟩;obtain⟨r,hr,rfl⟩:=(hg f).1 hf;exact⟨r,hr,by simpa using e⟩
  .rintro⟨r,hr,e⟩;exact⟨CL r,(hg _).2 ⟨r,hr,rfl⟩,by simpa using e⟩
 have hL:∀ {i:Nat},O0 (gens.map CL) i↔T.all (fun r=>decide (i<=CL r i))=true:=fun {i}=>by
  rw[List.all_eq_true];constructor
  .intro h r hr;exact decide_eq_true (h _ ⟨CL r,(hg _).2 ⟨r,hr,rfl⟩,rfl⟩)
  .rintro h y⟨f,hf,rfl⟩;obtain⟨r,hr,rfl⟩:=(hg f).1 hf;exact of_decide_eq_true (h r hr)
 have h2:∀i,RJ n (gens.map CL) i=((List.range n).filter fun y=>T.any (fun r=>CL r i==y)).map fun (y:Nat)=>(y:Int):=fun i=>by
  unfold RJ V9
  congr 1
  apply List.filter_congr;intro y _;rw[Bool.eq_iff_iff,decide_eq_true_eq];exact hr
 have h3:Dv n (gens.map CL) n=O:=by
  rw[<-hO];unfold Dv;rw[show RJ n (gens.map CL)=_ from funext h2]
  congr 1
  apply List.filter_congr;intro i _;rw[Bool.eq_iff_iff,decide_eq_true_eq];exact hL
 unfold Iv;rw[hk,if_neg ag];show(Dv n (gens.map CL) n,(0:Int))=_
 rw[h3]
end
def eT:AT:=⟨3,1, [],2, [[1,2]]⟩
theorem e31:Ga 3 1 []:=⟨3,1,rfl,rfl,⟨ac,ac,ac,ae,rfl,by intro x hx;cases hx⟩,ae,(G7 (p:=3) (m:=1) (ml:= []) ⟨ac,ac,ac,ae,rfl,by intro x hx;cases hx⟩ ae).2 (.inl rfl)⟩
theorem eT_pv:PV 3 1 1 2 (Ak [[1,2]]) [0] 1:=VX ac ae rfl ae
theorem eT_cod{e:Int}(h:BI 3 1 [] 2 [[1,2]] e):e=0:=QH (p:=3) (m:=1) (N:=2) e31 ak ak ak rfl eT_pv ac h
theorem eC_cod0:BI 2 1 [] 3 [[1,1,0]] 0:=
 .inr (.inr ⟨ak,ak,.inr ⟨ak,2,1,3, [0],Ak [[1,1,0]],rfl,rfl,rfl,e21,ak,Lz Xs ac rfl,ak⟩⟩)
def cG:List (List Int):= [[0,1,2], [1,0,2], [0,1,2], [0,1,2]]
def cT:List (List Int):= [[0,1,2], [1,0,2]]
def cL:List Lv:= [⟨0, [0,1], [[0,1,2], [1,0,2]]⟩]
def tG:List (List Int):= [[0,1,2,3], [1,0,3,2], [2,3,0,1], [3,2,1,0], [0,1,2,3]]
def tT:List (List Int):= [[0,1,2,3], [1,0,3,2], [2,3,0,1], [3,2,1,0]]
def tL:List Lv:= [⟨0, [0,1,2,3], [[0,1,2,3], [1,0,3,2], [2,3,0,1], [3,2,1,0]]⟩]
theorem e_pts:VZ 3 1 [] [1,0] [2,1] 0=0/\ptL 3 1 [] [1,0] [2,1] 0= [3,2,0,1]:=ak
theorem e_map:mpE 3 1 [] 2 [3,2,0,1]=0/\(mpM 3 1 [] 2 [3,2,0,1]).perm= [1,0]/\(mpM 3 1 [] 2 [3,2,0,1]).scale= [2,1]/\(mpM 3 1 [] 2 [3,2,0,1]).frob=0:=ak
theorem Xu:J4 eC 0=0:=ak
theorem eT_gr:J4 eT 0=0:=ak
theorem Xv:Er 2 1 [] (C9 eC (AD eC))=cG:=ak
theorem Xr:Er 3 1 [] (C9 eT (AD eT))=tG:=ak
theorem eC_prm:PR (C9 eC (AD eC))=cG:=ak
theorem SV{c:AT}{G:List (List Int)}{p m:Nat}{ml:List Int}(h:Er p m ml (C9 c (AD c))=G):(C9 c (AD c)).length=G.length:=by
 rw[<-h];unfold Er;rw[List.length_map]
theorem R9:(C9 eC (AD eC)).length<=1000:=by rw[SV Xv];decide
theorem eT_len:(C9 eT (AD eT)).length<=1000:=by rw[SV Xr];decide
def mvB(N:Nat)(M:CW):Bool:=decide (M.perm.length=N)&&(decide (M.scale.length=N)&&BB M.perm N)
theorem Wk{N:Nat}{Ms:List CW}(h:Ms.all (mvB N)=true):∀M∈Ms,My N M:=fun M hM=>by
 have:=List.all_eq_true.1 h M hM;unfold mvB at this;simp only[Bool.and_eq_true,decide_eq_true_eq]at this;exact this
theorem eC_mv:∀M∈C9 eC (AD eC),My eC.n.toNat M:=Wk ak
theorem eT_mv:∀M∈C9 eT (AD eT),My eT.n.toNat M:=Wk ak
theorem cG_gn(f:Nat->Nat):Gn (cG.map CL) f↔∃r∈cT,CL r=f:=Nf (n:=3) [[], [1]] ae ae ac ac ae ae ae ae f
theorem tG_gn(f:Nat->Nat):Gn (tG.map CL) f↔∃r∈tT,CL r=f:=Nf (n:=4) [[], [1], [2], [3]] ae ae ac ac ae ae ae ae f
theorem XJ:Dd 3 cG=(⟨3,cL⟩,0):=TT (n:=3) cG_gn ae ae ae ae ah
theorem Vr:Dd 4 tG=(⟨4,tL⟩,0):=TT (n:=4) tG_gn ae ae ae ae ah
theorem cL_chk:Bf 3 cL=0:=TO (n:=3) (gens:=cG) ae ac ac ae XJ
theorem tL_chk:Bf 4 tL=0:=TO (n:=4) (gens:=tG) ae ac ac ae Vr
theorem tL_siz:I4 tL=4:=ae
theorem cL_siz:I4 cL=2:=ae
theorem cG_orb:Iv 3 cG=([[0,1], [2]],0):=Y9 (n:=3) cG_gn ae ak
def eX:List EW:=Jt eC (JO eC (AD eC))
def exT(x:EW):Int × Int:=(x.i,x.j)
theorem eX_ij:eX.map exT= [(0,2),(1,2)]:=ak
theorem eX_rf:∀g∈JO eC (AD eC),Jb 0 (gF eC g)=0:=fun g hg=>by
 have h:(JO eC (AD eC)).all (fun g=>Jb 0 (gF eC g)==0)=true:=ak;simpa using List.all_eq_true.1 h g hg
theorem OH:eX.length=2:=by have:=congrArg List.length eX_ij;rw[List.length_map]at this;exact this
theorem eN_len:(JO eC (AD eC)).length<=1000:=by
 have:=OH;unfold eX Jt at this;rw[List.length_map]at this;omega
theorem eX_exk:Js eC 2 cL (AD eC) eX=true:=ak
theorem Xt{P:List Int}(h1:US 2 1 [] 3 P=true)(h2:CI 2 1 [] 3 (Gy 2 1 3 P) (Gx 2 1 3 P) 0=0)(h3:E6 2 1 [] (Gy 2 1 3 P) (Gx 2 1 3 P) 0 3 [[1,1,0]] 1= [[1,1,0]]):FU 2 1 [] 3 [[1,1,0]] P=true:=by
 refine Lb.2 ⟨h1,h2, [0],Ak [[1,1,0]],?_,ak⟩;rw[show([[1,1,0]]:List (List Int)).length=1 from rfl,h3];exact Lz Xs ac rfl
theorem zaS{P:Prop}(h:P:=by
 exact Xt (by decide +kernel) (by decide +kernel) (by decide +kernel)):P:=h
theorem cL_meb:Wq eC cL=true:=by
 rw[Lc];intro l hl r hr;simp only[cL,List.mem_singleton]at hl;subst hl;simp only[List.mem_cons,List.not_mem_nil,or_false]at hr;rcases hr with rfl|rfl
 .exact zaS
 .exact zaS
theorem cL_acc:Q8 eC 3 cL eX:=⟨cL_chk,ak,cL_meb,eX_exk⟩
theorem eC_opE:Iw eC 0=0:=ak
theorem Sa:L3 eC=(⟨3,cL⟩,0):=by
 have h:L3 eC=Dd 3 (Er 2 1 [] (C9 eC (AD eC))):=rfl;rw[h,Xv,XJ]
theorem eC_cz:Ye eC 0=0:=by unfold Ye;rw[Xu,if_neg ag,Sa]
theorem Kj(w:World)(l:List Int)(cs:Array Value)(t:TypeId)(h:(Ao l).toArray=cs){B n:Nat}(hB:w.heap.size=B)(hn:l.length=n)(hl:l.length<=1000):Al (w.alloc (.cells cs t)) (.slice (some (B,0)) n n) l:=by
 subst hB hn;subst h;exact WJ w l t hl
theorem Zi(w:World)(rows:List (List Int))(us:List Value)(cs:Array Value)(t:TypeId)(hc:us.toArray=cs)(hl:us.length=rows.length)(h:∀(i:Nat) (r:List Int) (u:Value),rows[i]?=some r->us[i]?=some u->Al w u r){B n:Nat}(hB:w.heap.size=B)(hn:rows.length=n)(hl2:rows.length<=1000):
  BZ (w.alloc (.cells cs t)) (.slice (some (B,0)) n n) rows:=by
 subst hB hn hc;refine⟨us,⟨by rw[hl,Nat.mul_one],some ⟨w.heap.size,0,none⟩,rows.length,rfl,Nat.le_refl _,by unfold maxLen;omega,fun _=>⟨_,0,rfl,fun j u hu=>?_⟩⟩,fun i r u a b=>(h i r u a b).ex (AI _ _)⟩;rw[Nat.zero_add];simpa using hu
theorem rows1{w:World}{l1:List Int}{u1:Value}(h1:Al w u1 l1):∀(i:Nat) (r:List Int) (u:Value), [l1][i]?=some r-> [u1][i]?=some u->Al w u r:=fun i r u a b=>by
 match i,a,b with
 | 0,a,b=>simp at a b;subst a b;exact h1
 | i+1,a,b=>simp at a
theorem rows2{w:World}{l1 l2:List Int}{u1 u2:Value}(h1:Al w u1 l1)(h2:Al w u2 l2):∀(i:Nat) (r:List Int) (u:Value), [l1,l2][i]?=some r-> [u1,u2][i]?=some u->Al w u r:=fun i r u a b=>by
 match i,a,b with
 | 0,a,b=>simp at a b;subst a b;exact h1
 | 1,a,b=>simp at a b;subst a b;exact h2
 | i+2,a,b=>simp at a
def Gg(w:World)(b:Nat)(vs:List Value):Prop:=∀i v,vs[i]?=some v->w.cell? ⟨b,i,none⟩=some v
theorem Gg.ex{w w':World}{b:Nat}{vs:List Value}(h:Gg w b vs)(hx:Ex w w'):Gg w' b vs:=fun i v a=>hx.cell (h i v a)
theorem k_pts(w:World)(pv sv:Value)(hp:Al w pv [1,0])(hs:Al w sv [2,1]):
  Calls Tryz.prog 15 #[.agg #[(3:Int),(1:Int),.slice none 0 0],.agg #[pv,sv,(0:Int)]] w fun r w'=>∃a c,r= .returned (.tuple #[.slice a 4 c,(0:Int)])/\Al w' (.slice a 4 c) [3,2,0,1]/\Ex w w':=
 (Ma w 3 1 [] _ (A7 w) _ _ pv sv hp hs 0).mono fun r w' ⟨⟨v,h1,h2⟩,hx⟩=>by
  rw[e_pts.1]at h1;rw[e_pts.2]at h2;obtain⟨a,c,rfl,_⟩:=h2.open;exact⟨a,c,h1,h2,hx⟩
theorem Zr(w:World)(pv:Value)(hp:Al w pv [3,2,0,1]):
  Calls Tryz.prog 17 #[.agg #[(3:Int),(1:Int),.slice none 0 0],(2:Int),pv] w fun r w'=>∃a c b d,r= .returned (.tuple #[.agg #[.slice a 2 c,.slice b 2 d,(0:Int)],(0:Int)])/\Al w' (.slice a 2 c) [1,0]/\Al w' (.slice b 2 d) [2,1]/\Ex w w':=
 (Map_any w 3 1 [] _ (A7 w) 2 ac _ pv hp).mono fun r w' ⟨⟨u,v,h1,hu,hv⟩,hx⟩=>by
  obtain⟨q1,q2,q3,q4⟩:=e_map;rw[q1,q4]at h1;rw[q2]at hu;rw[q3]at hv;obtain⟨a,c,rfl,_⟩:=hu.open;obtain⟨b,d,rfl,_⟩:=hv.open;exact⟨a,c,b,d,h1,hu,hv,hx⟩
theorem zcW{P:Prop}(h:P:=by
 rw[hb]at h3 h4;obtain⟨a,c,rfl,_⟩:=h4.open;exact⟨a,c,h3,h4,hx⟩):P:=h
theorem k_grp(w:World)(v1:Value)(h1:BZ w v1 [[1,1,0]]):
  Calls Tryz.prog 22 #[.agg #[(2:Int),(1:Int),.slice none 0 0,(3:Int),v1]] w fun r w'=>∃a c,r= .returned (.tuple #[.agg #[(3:Int),.slice a 1 c],(0:Int)])/\DX w' (.slice a 1 c) cL/\Ex w w':=
 (JY w eC _ v1 ⟨A7 w,h1⟩ R9 eC_mv).mono fun r w' ⟨⟨e0,ho,h⟩,hx⟩=>by
  obtain rfl:=OI ho;rcases h with⟨h,_⟩|⟨_,v,h3,h4⟩
  .exact absurd Xu h
  .have hb:Dd (El eC:Int) (Er eC.p.toNat eC.m.toNat eC.ml (C9 eC (AD eC)))=(⟨3,cL⟩,0):=Sa;exact zcW
theorem k_grpT(w:World)(v1:Value)(h1:BZ w v1 [[1,2]]):
  Calls Tryz.prog 22 #[.agg #[(3:Int),(1:Int),.slice none 0 0,(2:Int),v1]] w fun r w'=>∃a c,r= .returned (.tuple #[.agg #[(4:Int),.slice a 1 c],(0:Int)])/\DX w' (.slice a 1 c) tL/\Ex w w':=
 (JY w eT _ v1 ⟨A7 w,h1⟩ eT_len eT_mv).mono fun r w' ⟨⟨e0,ho,h⟩,hx⟩=>by
  obtain rfl:=eT_cod ho;rcases h with⟨h,_⟩|⟨_,v,h3,h4⟩
  .exact absurd eT_gr h
  .have hb:Dd (El eT:Int) (Er eT.p.toNat eT.m.toNat eT.ml (C9 eT (AD eT)))=(⟨4,tL⟩,0):=by
    have h:Dd (El eT:Int) (Er eT.p.toNat eT.m.toNat eT.ml (C9 eT (AD eT)))=Dd 4 (Er 3 1 [] (C9 eT (AD eT))):=rfl;rw[h,Xr,Vr]
   exact zcW
theorem k_pos(w:World)(v1:Value)(h1:BZ w v1 [[1,1,0]]):
  Calls Tryz.prog 24 #[.agg #[(2:Int),(1:Int),.slice none 0 0,(3:Int),v1]] w fun r w'=>∃a c,r= .returned (.tuple #[.slice a 2 c,(0:Int)])/\BZ w' (.slice a 2 c) [[0,1], [2]]/\Ex w w':=
 (Mw sortOK w eC _ v1 ⟨A7 w,h1⟩ R9).mono fun r w' ⟨⟨e0,ho,h⟩,hx⟩=>by
  obtain rfl:=OI ho;rcases h with⟨h,_⟩|⟨_,v,h3,h4⟩
  .exact absurd Xu h
  .have hb:Iv eC.n (PR (C9 eC (AD eC)))=([[0,1], [2]],0):=by
    have h:Iv eC.n (PR (C9 eC (AD eC)))=Iv 3 (PR (C9 eC (AD eC))):=rfl;rw[h,eC_prm,cG_orb]
   exact zcW
theorem k_cer(w:World)(v1:Value)(h1:BZ w v1 [[1,1,0]]):
  Calls Tryz.prog 32 #[.agg #[(2:Int),(1:Int),.slice none 0 0,(3:Int),v1]] w fun r w'=>∃a c b d,r= .returned (.tuple #[.agg #[(3:Int),.slice a 1 c,.slice b 2 d],(0:Int)])/\DX w' (.slice a 1 c) cL/\IY w' (.slice b 2 d) eX/\Ex w w':=
 (MO w eC _ v1 ⟨A7 w,h1⟩ R9 eN_len eC_mv eX_rf).mono fun r w' ⟨⟨e0,ho,h⟩,hx⟩=>by
  obtain rfl:=OI ho;rcases h with⟨h,_⟩|⟨_,v,v',h3,h4,h5⟩
  .exact absurd eC_cz h
  .rw[Sa]at h3 h4;have h6:IY w' v' eX:=h5;obtain⟨a,c,rfl,_⟩:=h4.open;obtain⟨b,d,rfl,_⟩:=h6.open;rw[OH]at h3 h6;exact⟨a,c,b,d,h3,h4,h6,hx⟩
theorem Zs(w:World)(v1 lv rv:Value)(h1:BZ w v1 [[1,1,0]])(hl:DX w lv cL)(hr:IY w rv eX):
  Calls Tryz.prog 29 #[.agg #[(2:Int),(1:Int),.slice none 0 0,(3:Int),v1],.agg #[(3:Int),lv,rv]] w fun r w'=>∃a n c,r= .returned (.tuple #[.slice a n c,(0:Int)])/\IW w' (.slice a n c) 2/\Ex w w':=
 (JZ w eC _ v1 ⟨A7 w,h1⟩ 3 cL lv hl ae eX rv hr).mono fun r w' ⟨⟨e0,ho,h⟩,hx⟩=>by
  obtain rfl:=OI ho;rcases h with⟨h,_⟩|⟨_,h,_⟩|⟨_,_,v,h3,h4⟩
  .exact absurd eC_opE h
  .exact absurd cL_acc h
  .rw[cL_siz]at h4;have h5:=h4;obtain⟨n,f,g1,g2,g3⟩:=h4;obtain⟨a,c,rfl,_⟩:=NL.open g3;exact⟨a,_,c,h3,h5,hx⟩
theorem k_sizT(w:World)(v:Value)(hv:DX w v tL):Calls Tryz.prog 35 #[.agg #[(4:Int),v]] w fun r w'=>∃a n c,r= .returned (.tuple #[.slice a n c,(0:Int)])/\IW w' (.slice a n c) 4/\Ex w w':=
 (QX w 4 tL v hv ae).mono fun r w' ⟨h1,h3⟩=>by
  rcases h1 with h1|⟨_,u,h1,h2⟩
  .exact absurd tL_chk h1.1
  .rw[tL_siz]at h2;have h5:=h2;obtain⟨n,f,g1,g2,g3⟩:=h2;obtain⟨a,c,rfl,_⟩:=NL.open g3;exact⟨a,_,c,h1,h5,h3⟩
theorem Qe(w:World)(v u:Value)(hv:DX w v cL)(hu:DX w u cL):Calls Tryz.prog 26 #[.agg #[(3:Int),v],.agg #[(3:Int),u]] w fun r w'=>r= .returned (.bool true)/\Ex w w':=
 (Rs w 3 3 cL cL v u hv hu).mono fun r w' ⟨⟨b,h1,h2⟩,h3⟩=>by
  rw[h2.2 ⟨rfl,rfl⟩]at h1;exact⟨h1,h3⟩
theorem WH(w:World)(x:Nat)(hx:x<=64)(v u:Value)(hv:IW w v x)(hu:IW w u x):Calls Tryz.prog 50 #[v,u] w fun r w'=>r= .returned (.int .i64 0)/\Ex w w':=
 (VV w x x v u hv hu (GW ac) (GW ac)).mono fun r w' ⟨⟨z,h1,h2⟩,h3⟩=>by
  rw[h2.2 rfl]at h1;exact⟨h1,by rw[h3];exact Ex.refl _⟩
theorem zcy{P:Prop}(h:P:=by
 rw[decide_eq_true rfl]at h1;exact⟨h1,by rw[h3];exact(Ex.refl w).drewN n⟩):P:=h
theorem k_ints(w:World)(v u:Value)(l:List Int)(hv:Al w v l)(hu:Al w u l):Calls Tryz.prog 19 #[v,u] w fun r w'=>r= .returned (.bool true)/\Ex w w':=
 (DA w l l v u hv hu).mono fun r w' ⟨h1,n,h3⟩=>by
  exact zcy
theorem k_rows(w:World)(v u:Value)(l:List (List Int))(hv:BZ w v l)(hu:BZ w u l):Calls Tryz.prog 27 #[v,u] w fun r w'=>r= .returned (.bool true)/\Ex w w':=
 (Dz w l l v u hv hu).mono fun r w' ⟨h1,n,h3⟩=>by
  exact zcy
theorem k_map(w:World)(pl sl:List Int)(pv sv qv tv:Value)(hp:Al w pv pl)(hs:Al w sv sl)(hq:Al w qv pl)(ht:Al w tv sl):
  Calls Tryz.prog 20 #[.agg #[pv,sv,(0:Int)],.agg #[qv,tv,(0:Int)]] w fun r w'=>r= .returned (.bool true)/\Ex w w':=
 (QY w pl sl pl sl pv sv qv tv hp hs hq ht 0 0).mono fun r w' ⟨h,hx⟩=>by
  rw[decide_eq_true ⟨rfl,rfl,rfl⟩]at h;exact⟨h,hx⟩
theorem S5(w:World)(x:Nat)(hx1:1<=x)(hx2:x<=64):IW (w.alloc (.cells #[.int .u32 x] 91)) (.slice (some (w.heap.size,0)) 1 1) x:=
 ⟨1,fun _=>x,⟨fun _ _=>by show x<4294967296;omega,fun _ _=>by show x≠0;omega⟩,by show 0+x*1=x;omega,NL.mk (Nat.le_refl _) ai fun _=>⟨_,0,rfl,fun j hj=>by
  obtain rfl:j=0:=ac;simp⟩⟩
theorem eX_at:(∃x,eX[0]?=some x/\x.i=0/\x.j=2)/\∃x,eX[1]?=some x/\x.i=1/\x.j=2:=by
 have h:=eX_ij;have hl:=OH;constructor
 .refine⟨eX[0]'ac,List.getElem?_eq_getElem _,?_⟩;have:=congrArg (fun l=>l[0]?) h;simp only[List.getElem?_map,List.getElem?_eq_getElem (show 0<eX.length by omega)]at this;simpa[exT]using this
 .refine⟨eX[1]'ac,List.getElem?_eq_getElem _,?_⟩;have:=congrArg (fun l=>l[1]?) h;simp only[List.getElem?_map,List.getElem?_eq_getElem (show 1<eX.length by omega)]at this;simpa[exT]using this
theorem esl_eX{w:World}{a:Option Addr}{c:Nat}(h:IY w (.slice a 2 c) eX):∃X o,a=some ⟨X,o,none⟩/\w.cell? ⟨X,o,none⟩=some (.int .i64 0)/\w.cell? ⟨X,o+1,none⟩=some (.int .i64 2)/\w.cell? ⟨X,o+4,none⟩=some (.int .i64 1)/\w.cell? ⟨X,o+4+1,none⟩=some (.int .i64 2):=by
 obtain⟨a',c',e,_,_,h3⟩:=h.open;injection e with e1 _ _;subst e1;obtain⟨X,o,rfl,h4⟩:=h3 (by rw[OH];omega);obtain⟨⟨x,x1,x2,x3⟩,⟨y,y1,y2,y3⟩⟩:=eX_at
 obtain⟨_,f1,f2,_⟩:=h4 0 x x1;obtain⟨_,g1,g2,_⟩:=h4 1 y y1;rw[x2]at f1;rw[x3]at f2;rw[y2]at g1;rw[y3]at g2;exact⟨X,o,rfl,f1,f2,g1,g2⟩
def wL:World->List Obj->World
 | w, []=>w
 | w,o :: l=>wL (w.alloc o) l
theorem NG:∀(l:List Obj) {w W:World} {B:Nat},wL w l=W->w.heap.size=B->Ex w W/\∀(j:Nat) (o:Obj),l[j]?=some o->W.heap[B+j]?=some o
 | [],w,W,B,h,hB=>⟨h ▸ Ex.refl w,fun j o hj=>by simp at hj⟩
 | o :: l,w,W,B,h,hB=>by
  obtain⟨h1,h2⟩:=NG l (w:=w.alloc o) h (B:=B+1) (by simp[hB]);refine⟨(AI w o).trans h1,fun j o' hj=>?_⟩
  cases j with
  | zero=>simp at hj;subst hj;exact Kk h1 (D6 hB)
  | succ j=>have:=h2 j o' (by simpa using hj);rwa[show B+(j+1)=B+1+j from ac]
theorem TR{W:World}{b:Nat}{t:TypeId}{xs:List Value}(h:W.heap[b]?=some (.cells xs.toArray t)){j:Nat}{u:Value}(hu:xs[j]?=some u):W.cell? (b,j)=some u:=by
 unfold World.cell?;simp[h];simpa using hu
theorem Jv{W:World}{b:Nat}{t:TypeId}{xs:List Value}(h:W.heap[b]?=some (.cells xs.toArray t)):Gg W b xs:=fun i v a=>TR h a
theorem Jw{w:World}{B:Nat}(cs:Array Value)(t:TypeId)(hB:w.heap.size=B):Gg (w.alloc (.cells cs t)) B cs.toList:=Jv (t:=t) (D6 hB)
theorem Vv{W:World}{b:Nat}{t:TypeId}(xs:List Value){n size:Nat}(h:W.heap[b]?=some (.cells xs.toArray t))(hx:xs.length=n*size)(hn:n<=1000):Sl W (.slice (some (b,0)) n n) n size xs:=
 ⟨hx,some ⟨b,0,none⟩,n,rfl,Nat.le_refl _,by unfold maxLen;omega,fun _=>⟨b,0,rfl,fun j u hu=>by rw[Nat.zero_add];exact TR h hu⟩⟩
theorem Hx{W:World}{b:Nat}{t:TypeId}(l:List Int)(h:W.heap[b]?=some (.cells (Ao l).toArray t))(hl:l.length<=1000:=by decide):Al W (.slice (some ⟨b,0,none⟩) l.length l.length) l:=Vv _ h (by simp[Ao]) hl
theorem RN{W:World}{b:Nat}{t:TypeId}(rows:List (List Int)){us:List Value}(h:W.heap[b]?=some (.cells us.toArray t))(hr:∀(i:Nat) (r:List Int) (u:Value),rows[i]?=some r->us[i]?=some u->Al W u r)(hu:us.length=rows.length:=by rfl)(hl:rows.length<=1000:=by decide):BZ W (.slice (some ⟨b,0,none⟩) rows.length rows.length) rows:=
 ⟨us,Vv _ h ac hl,hr⟩
theorem lsl_of{W:World}{b:Nat}{t:TypeId}(l1:Lv){u1 r1:Value}(h:W.heap[b]?=some (.cells #[l1.pt,u1,r1] t))(h1:Al W u1 l1.orb)(h2:BZ W r1 l1.reps):DX W (.slice (some (b,0)) 1 1) [l1]:=
 ⟨[(u1,r1)],rfl,Vv _ h rfl ae,fun i l o a b=>by
  match i,a,b with
  | 0,a,b=>simp at a b;subst a b;exact⟨h1,h2⟩
  | i+1,a,b=>simp at a⟩
theorem Gg.o2{w:World}{b:Nat}{x y:Value}(h:Gg w b [x,y]):w.cell? (b,0)=some x/\w.cell? (b,1)=some y:=⟨h 0 _ rfl,h 1 _ rfl⟩
theorem Gg.o3{w:World}{b:Nat}{x y z:Value}(h:Gg w b [x,y,z]):w.cell? (b,0)=some x/\w.cell? (b,1)=some y/\w.cell? (b,2)=some z:=⟨h 0 _ rfl,h 1 _ rfl,h 2 _ rfl⟩
theorem Gg.o5{w:World}{b:Nat}{x y z u v:Value}(h:Gg w b [x,y,z,u,v]):w.cell? (b,0)=some x/\w.cell? (b,1)=some y/\w.cell? (b,2)=some z/\w.cell? (b,3)=some u/\w.cell? (b,4)=some v:=⟨h 0 _ rfl,h 1 _ rfl,h 2 _ rfl,h 3 _ rfl,h 4 _ rfl⟩
def Per(w:World)(P:World->Prop):Prop:=∀w',Ex w w'->P w'
theorem Jx{w w':World}{P:World->Prop}(h:Hia (Per w P))(hx:Ex w w'):Hia (Per w' P):=fun v hv=>h v (hx.trans hv)
theorem S4{w:World}{P Q:World->Prop}(h:Hia (Per w P))(hq:∀v,Ex w v->Q v):Hia (Per w fun v=>Q v/\P v):=fun v hv=>⟨hq v hv,h v hv⟩
theorem Si{w w':World}{P Q:World->Prop}(h:Hia (Per w P))(hx:Ex w w')(hq:∀v,Ex w' v->Q v):Hia (Per w' fun v=>Q v/\P v):=S4 (Jx h hx) hq
theorem at_{w:World}{P:World->Prop}(h:Hia (Per w P)):P w:=h w (Ex.refl w)
theorem U6(w:World):Calls Tryz.prog 13 #[] w fun r w'=>r= .returned (.bool true)/\Ex w w':=by
 have A:Hia (Per w fun v=>Ex w v):=fun v h=>h;go_enter Tryz.func13,Tryz.ntmps13
 go_upto_region 5 with fail
 generalize hW:World.alloc _ _=W;obtain⟨B,hB⟩:=nA w.heap.size;simp only[hB,Nat.add_assoc,Nat.reduceAdd]at hW ⊢;obtain⟨ew,H⟩:=NG [_,_,_,_,_,_,_,_,_,_] hW hB;clear hW hB;have i1:=Hx [1,1,0] (H 1 _ rfl);have i2:=RN [[1,1,0]] (H 2 _ rfl) (rows1 i1);have i4:=Hx [1,2] (H 4 _ rfl);have i5:=RN [[1,2]] (H 5 _ rfl) (rows1 i4);have i7:=Hx [1,0] (H 7 _ rfl);have i8:=Hx [2,1] (H 8 _ rfl);replace A:=Jx A ew;replace A:=S4 A fun _ h=>i2.ex h;replace A:=S4 A fun _ h=>i5.ex h;replace A:=S4 A fun _ h=>i7.ex h;replace A:=S4 A fun _ h=>i8.ex h;replace A:=S4 A fun _ h=>(Jv (b:=B) (H 0 _ rfl)).ex h;replace A:=S4 A fun _ h=>(Jv (H 3 _ rfl)).ex h;replace A:=S4 A fun _ h=>(Jv (H 6 _ rfl)).ex h;replace A:=S4 A fun _ h=>(Jv (H 9 _ rfl)).ex h;clear ew H i1 i2 i4 i5 i7 i8;obtain⟨aS,aR,aQ⟩:=(at_ A).2.2.2.1.o3;obtain⟨aN,aM,aL⟩:=(at_ A).1.o3;go_wp2_with fail
 refine(k_pts _ _ _ (at_ A).2.2.2.2.2.1 (at_ A).2.2.2.2.1).mono ?_;rintro e w1⟨pa,pc,rfl,hp,bV⟩;clear aS aR aQ aN aM aL;replace A:=Si A bV fun _ h=>hp.ex h;clear bV hp;obtain⟨aS,aR,aQ⟩:=(at_ A).2.2.2.2.1.o3;go_wp2_with fail
 refine(Zr _ _ (Kj _ [3,2,0,1] _ _ rfl rfl rfl ae)).mono ?_;rintro e w2⟨ma,mc,sa,sc,rfl,hm,hs,aX⟩;replace aX:=(AI _ _).trans aX;clear aS aR aQ;replace A:=Si A aX fun _ h=>hm.ex h;replace A:=S4 A fun _ h=>hs.ex h;clear aX hm hs;obtain⟨C1,bB⟩:∃B,w2.heap.size=B:=⟨_,rfl⟩;replace A:=Si A (AI _ _) fun _ h=>(Jw #[.slice ma 2 mc,.slice sa 2 sc,(0:Int)] 26 bB).ex h;go_upto_region 7 with fail
 try simp only[bB]
 clear bB;generalize World.alloc _ _=v2 at *;obtain⟨aE,aD,aC,aB,aA⟩:=(at_ A).2.2.2.2.2.2.1.o5;go_wp2_with fail
 refine(k_grp _ _ (at_ A).2.2.2.2.2.2.2.2.2.2.2.1).mono ?_;rintro e w3⟨ga,gc,rfl,hg,bU⟩;clear aE aD aC aB aA;replace A:=Si A bU fun _ h=>hg.ex h;clear bU hg;obtain⟨C2,bA⟩:∃B,w3.heap.size=B:=⟨_,rfl⟩;replace A:=Si A (AI _ _) fun _ h=>(Jw #[(3:Int),.slice ga 1 gc] 43 bA).ex h;go_upto_region 8 with fail
 try simp only[bA]
 clear bA;generalize World.alloc _ _=v3 at *;obtain⟨aE,aD,aC,aB,aA⟩:=(at_ A).2.2.2.2.2.2.2.2.1.o5;go_wp2_with fail
 refine(k_pos _ _ (at_ A).2.2.2.2.2.2.2.2.2.2.2.2.2.1).mono ?_;rintro e w4⟨oa,oc,rfl,ho,bT⟩;clear aE aD aC aB aA;replace A:=Si A bT fun _ h=>ho.ex h;clear bT ho;obtain⟨aE,aD,aC,aB,aA⟩:=(at_ A).2.2.2.2.2.2.2.2.2.1.o5;go_wp2_with fail
 refine(k_cer _ _ (at_ A).2.2.2.2.2.2.2.2.2.2.2.2.2.2.1).mono ?_;rintro e w5⟨ya,yc,yb,yd,rfl,hy,hz,bS⟩;clear aE aD aC aB aA;replace A:=Si A bS fun _ h=>hy.ex h;replace A:=S4 A fun _ h=>hz.ex h;clear bS hy hz;obtain⟨C3,aZ⟩:∃B,w5.heap.size=B:=⟨_,rfl⟩;replace A:=Si A (AI _ _) fun _ h=>(Jw #[(3:Int),.slice ya 1 yc,.slice yb 2 yd] 53 aZ).ex h;go_upto_region 10 with fail
 try simp only[aZ]
 clear aZ;generalize World.alloc _ _=v5 at *;obtain⟨aE,aD,aC,aB,aA⟩:=(at_ A).2.2.2.2.2.2.2.2.2.2.2.2.1.o5;obtain⟨aK,aJ,aI⟩:=(at_ A).1.o3;go_wp2_with fail
 refine(Zs _ _ _ _ (at_ A).2.2.2.2.2.2.2.2.2.2.2.2.2.2.2.2.2.1 (at_ A).2.2.1 (at_ A).2.1).mono ?_;rintro e w6⟨na,nn,nc,rfl,hn,bR⟩;clear aE aD aC aB aA aK aJ aI;replace A:=Si A bR fun _ h=>hn.ex h;clear bR hn;obtain⟨bN,bM,bL,bK,bJ⟩:=(at_ A).2.2.2.2.2.2.2.2.2.2.2.2.1.o5;go_wp2_with fail
 refine(k_grpT _ _ (at_ A).2.2.2.2.2.2.2.2.2.2.2.2.2.2.2.2.2.1).mono ?_;rintro e w7⟨ta,tc,rfl,ht,bQ⟩;clear bN bM bL bK bJ;replace A:=Si A bQ fun _ h=>ht.ex h;clear bQ ht;obtain⟨C4,aY⟩:∃B,w7.heap.size=B:=⟨_,rfl⟩;replace A:=Si A (AI _ _) fun _ h=>(Jw #[(4:Int),.slice ta 1 tc] 43 aY).ex h;go_upto_region 12 with fail
 try simp only[aY]
 clear aY;generalize World.alloc _ _=v7 at *;obtain⟨bD,bC⟩:=(at_ A).1.o2;go_wp2_with fail
 refine(k_sizT _ _ (at_ A).2.1).mono ?_;rintro e w8⟨ua,un,uc,rfl,hu,bP⟩;clear bD bC;replace A:=Si A bP fun _ h=>hu.ex h;clear bP hu;go_upto_region 16 with fail
 generalize hV:World.alloc _ _=V;obtain⟨D,hD⟩:∃B,w8.heap.size=B:=⟨_,rfl⟩;simp only[hD,Nat.add_assoc,Nat.reduceAdd]at hV ⊢;obtain⟨ew,H⟩:=NG [_,_,_,_,_,_] hV hD;clear hV hD;have i0:=Hx (b:=D) [0,1] (H 0 _ rfl);have i1:=Hx [0,1,2] (H 1 _ rfl);have i2:=Hx [1,0,2] (H 2 _ rfl);have i3:=RN [[0,1,2], [1,0,2]] (H 3 _ rfl) (rows2 i1 i2);have i4:DX V _ cL:=lsl_of ⟨0, [0,1], [[0,1,2], [1,0,2]]⟩ (H 4 _ rfl) i0 i3;replace A:=Jx A ew;replace A:=S4 A fun _ h=>i4.ex h;replace A:=S4 A fun _ h=>(Jv (H 5 _ rfl)).ex h;clear ew H i0 i1 i2 i3 i4;go_wp2_with fail
 refine(k_ints _ _ _ [3,2,0,1] ((at_ A).2.2.2.2.2.2.2.2.2.2.2.2.2.2.2.1.ex (AI _ _)) (Kj _ [3,2,0,1] _ _ rfl rfl rfl ae)).mono ?_;rintro e w9⟨rfl,aW⟩;replace aW:=(AI _ _).trans aW;replace A:=Jx A aW;clear aW;obtain⟨bG,bF,bE⟩:=(at_ A).2.2.2.2.2.2.2.2.2.2.2.2.1.o3;obtain⟨aN,aM,aL⟩:=(at_ A).2.2.2.2.2.2.2.2.2.2.2.2.2.2.2.2.1.o3;go_wp2_with fail
 refine(k_map _ [1,0] [2,1] _ _ _ _ (at_ A).2.2.2.2.2.2.2.2.2.2.2.2.2.2.1 (at_ A).2.2.2.2.2.2.2.2.2.2.2.2.2.1 (at_ A).2.2.2.2.2.2.2.2.2.2.2.2.2.2.2.2.2.2.2.2.2.1 (at_ A).2.2.2.2.2.2.2.2.2.2.2.2.2.2.2.2.2.2.2.2.1).mono ?_;rintro e w10⟨rfl,aV⟩;clear bG bF bE aN aM aL;replace A:=Jx A aV;clear aV;obtain⟨bI,bH⟩:=(at_ A).2.2.2.2.2.2.2.2.2.2.1.o2;obtain⟨aP,aO⟩:=(at_ A).1.o2;go_wp2_with fail
 refine(Qe _ _ _ (at_ A).2.2.2.2.2.2.2.2.2.2.2.1 (at_ A).2.1).mono ?_;rintro e w11⟨rfl,aU⟩;clear bI bH aP aO;replace A:=Jx A aU;clear aU;go_wp2_with fail
 have hz:=(Kj w11 [0,1] #[(0:Int),(1:Int)] 3 rfl rfl rfl ae).ex (AI _ (.cells #[(2:Int)] 3));have bO:=Kj (w11.alloc (.cells #[(0:Int),(1:Int)] 3)) [2] #[(2:Int)] 3 rfl (B:=w11.heap.size+1) ag rfl ae;have bW:((w11.alloc (.cells #[(0:Int),(1:Int)] 3)).alloc (.cells #[(2:Int)] 3)).heap.size=w11.heap.size+1+1:=by simp
 refine(k_rows _ _ _ [[0,1], [2]] ((at_ A).2.2.2.2.2.2.2.2.2.1.ex (((AI _ _).trans (AI _ _)).trans (AI _ _))) (Zi _ [[0,1], [2]] [.slice (some ⟨w11.heap.size,0,none⟩) 2 2,.slice (some ⟨w11.heap.size+1,0,none⟩) 1 1] _ _ rfl rfl (rows2 hz bO) bW rfl ae)).mono ?_;rintro e w12⟨rfl,aH⟩;replace aH:=(((AI _ _).trans (AI _ _)).trans (AI _ _)).trans aH;replace A:=Jx A aH;clear aH;clear hz bO bW;go_wp2_with fail
 refine(WH _ 2 ac _ _ ((at_ A).2.2.2.2.2.1.ex (AI _ _)) (S5 _ 2 ac ac)).mono ?_;rintro e w13⟨rfl,aG⟩;replace aG:=(AI _ _).trans aG;replace A:=Jx A aG;clear aG;go_wp2_with fail
 refine(WH _ 4 ac _ _ ((at_ A).2.2.1.ex (AI _ _)) (S5 _ 4 ac ac)).mono ?_;rintro e w14⟨rfl,aF⟩;replace aF:=(AI _ _).trans aF;replace A:=Jx A aF;clear aF;obtain⟨aK,aJ,aI⟩:=(at_ A).2.2.2.2.2.2.1.o3;obtain⟨aP,aO⟩:=(at_ A).1.o2;go_wp2_with fail
 refine(Qe _ _ _ (at_ A).2.2.2.2.2.2.2.2.1 (at_ A).2.1).mono ?_;rintro e w15⟨rfl,aT⟩;clear aK aJ aI aP aO;replace A:=Jx A aT;clear aT;obtain⟨RX,ro,rfl,r0,r1,r2,r3⟩:=esl_eX (at_ A).2.2.2.2.2.2.2.1;obtain⟨aK,aJ,aI⟩:=(at_ A).2.2.2.2.2.2.1.o3;go_wp2_with fail
 go_ret;exact⟨rfl,(at_ A).2.2.2.2.2.2.2.2.2.2.2.2.2.2.2.2.2.2.2.2.2.2.2.2⟩
theorem YF{p m N k:Nat}{ml pl sl:List Int}{l:List (List Int)}{dg:Int}{L:List Lv}{xs:List EW}(ho:BI p m ml N l 0)(hm:CI p m ml N pl sl 0=0)(hs:Smp ⟨p,m,ml,N,l⟩ k)(hk:k<=12)(hd:N*(p^m-1)<=64):
  Iw ⟨p,m,ml,N,l⟩ 0=0/\(VZ p m ml pl sl 0=0/\ptL p m ml pl sl 0=Gi p m ml pl sl/\CI p m ml N pl sl 0=0)/\
  (Q8 ⟨p,m,ml,N,l⟩ dg L xs->DN dg L (Gi p m ml pl sl)=0/\∀(piv:List Nat) (a':Nat->Nat->Int),H7 p m ml N (E6 p m ml pl sl 0 N l l.length).length (Ak (E6 p m ml pl sl 0 N l l.length)) a' piv->Jo dg L (Gi p m ml pl sl)=false->Pu ⟨p,m,ml,N,l⟩ ⟨p,m,ml,N,Aw N piv.length a'⟩=false):=by
 have h:=Vu ho hs hk hd;obtain⟨pn,mn,N',fn,e1,e2,e3,e4,hf,hc,hM⟩:=Gv hm;obtain rfl:p=pn:=ac;obtain rfl:m=mn:=ac;obtain rfl:N=N':=ac;obtain rfl:fn=0:=ac;obtain⟨_,_,_,_,_,q6,_⟩:=Ji hm;have hn:∀i,i<N->0<=pl.getD i 0:=fun i hi=>(Df q6 (i:=i) (by have:=hM.pll;omega)).1;obtain⟨_,g2,g3,g4,_⟩:=Zk (pl:=pl) (sl:=sl) ho hm hs hk hd;refine⟨h.opE,g4,fun ha=>?_⟩;obtain⟨k1,k2⟩:=Uc ho hd ha hM hn;refine⟨k1,fun piv a' aA hb=>?_⟩
 cases hsm:Pu ⟨p,m,ml,N,l⟩ ⟨p,m,ml,N,Aw N piv.length a'⟩ with
 | false=>rfl
 | true=>rw[k2 ((MW h hM hn aA).1 hsm)]at hb;cases hb
theorem zca{P:Prop}(h:P:=by
 obtain⟨c0,c1,c2,c3,c4,s0,s1,s2,b0,b1,b2⟩:=aA.o _ hx;exact zds):P:=h
theorem zaF{P:Prop}(h:P:=by
 have e3:=T 3 _ rfl;exact zca):P:=h
theorem za1{P:Prop}(h:P:=by
 have e3:=T 3 _ rfl;exact zds):P:=h
theorem zc4{P:Prop}(h:P:=by
 go_wp2_with fail
 go_ret;exact⟨rfl,HX.o.trans (at_ A).2.2.2.2⟩):P:=h
theorem zdr{P:Prop}(h:P:=by
 rintro e w3⟨rfl,aB⟩;exact hK _ aB):P:=h
theorem Gm(w:World)(c:AT)(m1 v1:Value)(hc:c.at w m1 v1)(dg:Int)(L:List Lv)(lv:Value)(hL:DX w lv L)(xs:List EW)(rv:Value)(aJ:IY w rv xs)(pv sv:Value)(pl sl:List Int)(fr:Int)(hp:Al w pv pl)(hs:Al w sv sl):
  Calls Tryz.prog 9 #[c.arg m1 v1,.agg #[dg,lv,rv],.agg #[pv,sv,fr]] w fun r w'=>r= .returned (.bool true)/\Ex w w':=by
 obtain⟨c0,c1,c2,c3,c4⟩:=CY w c m1 v1;have bC:(w.alloc (c.obj m1 v1)).heap.size=w.heap.size+1:=ag;have e1:=AI w (c.obj m1 v1);have BS:=Jw #[dg,lv,rv] 53 bC;have e2:=AI (w.alloc (c.obj m1 v1)) (.cells #[dg,lv,rv] 53);have bB:((w.alloc (c.obj m1 v1)).alloc (.cells #[dg,lv,rv] 53)).heap.size=w.heap.size+1+1:=ag;obtain⟨b0,b1,b2,e3⟩:=Bd ((w.alloc (c.obj m1 v1)).alloc (.cells #[dg,lv,rv] 53)) pv sv fr;rw[bB]at b0 b1 b2;obtain⟨s0,s1,s2⟩:=Gg.o3 (BS.ex e3);replace c0:=(e2.trans e3).cell c0;replace c1:=(e2.trans e3).cell c1;replace c2:=(e2.trans e3).cell c2;replace c3:=(e2.trans e3).cell c3;replace c4:=(e2.trans e3).cell c4;have HX:=Aa (e1.trans (e2.trans e3));have cP:=Aa (fun w'=>U6 w');have bX:=Aa (fun (w':World) (h:Ex w w')=>NY w' c m1 v1 (hc.ex h) 6 ac);obtain⟨E1,bL,aI⟩:=ZX hc;obtain⟨aM,cZ,cA,bZ,cN,dA,cU,cW,cV,dB⟩:=Ha1 bL aI (fun (w':World) (h:Ex w w')=>PG w' c.p c.m c.ml m1 (hc.ex h).m c.n pl sl pv sv (hp.ex h) (hs.ex h) fr) (fun w'=>DP c.p c.m m1 w') (fun (w':World) (h:Ex w w')=>Rv w' dg L lv (hL.ex h) xs rv (aJ.ex h)) (fun (w':World) (h:Ex w w') (hg:(AF L).length<=1000)=>JZ w' c m1 v1 (hc.ex h) dg L lv (hL.ex h) hg xs rv (aJ.ex h)) (fun (w':World) (h:Ex w w') (y:AT) (m3 v3:Value) (hy:y.at w' m3 v3)=>RA w' c y m1 m3 v1 v3 (hc.ex h) hy) (fun (w':World) (h:Ex w w')=>hL.ex h) (fun (w':World) (h:Ex w w')=>Ma w' c.p c.m c.ml m1 (hc.ex h).m pl sl pv sv (hp.ex h) (hs.ex h) fr) (fun (w':World) (h:Ex w w')=>NE w' c.p c.m c.ml m1 (hc.ex h).m c.n c.rows v1 (hc.ex h).g pl sl pv sv (hp.ex h) (hs.ex h) fr);obtain⟨la,lc,rfl,-,lz,-⟩:=hL.open3;obtain⟨ea,ec,rfl,-,xz,-⟩:=aJ.open;obtain⟨pa,pc,rfl,p1,p2,-⟩:=hp.open;obtain⟨sa,sc,rfl,q1,q2,-⟩:=hs.open;obtain⟨x1,y1,rfl,-,z1,-⟩:=hc.g.open;obtain⟨x3,y3,rfl,-,z3,-⟩:=hc.m.open;unfold maxLen at lz xz p2 q2 z1 z3;obtain⟨p,m,ml,n,rows⟩:=c;obtain⟨B,hB⟩:=nA w.heap.size;rw[hB]at c0 c1 c2 c3 c4 s0 s1 s2 b0 b1 b2;dsimp only[AT.arg,AT.obj]at *;obtain⟨E2,aU⟩:∃E,CI p m ml n pl sl fr=E:=⟨_,rfl⟩;rw[aU]at cA;have cY:=Aa aU;obtain⟨SB,aQ⟩:∃b,smB ⟨p,m,ml,n,rows⟩ 6=b:=⟨_,rfl⟩;rw[aQ]at bX;have aC:=Aa (show SB=true->Smp ⟨p,m,ml,n,rows⟩ 6 from fun h=>(SN.1 (aQ.trans h)).2);obtain⟨Q,hQ⟩:=nA (CG p m);rw[hQ]at bZ;have HQ:=Aa hQ;obtain⟨FB,aK⟩:∃b,@decide (P32 dg L xs) (Classical.propDecidable _)=b:=⟨_,rfl⟩;have cX:=Aa (fun (w':World) (h:Ex w w')=>(cN.o w' h).mono (show ∀r w'',_->(r= .returned (.bool FB)/\Ex w' w'') from fun r w'' ⟨⟨b,e,hb⟩,hx⟩=>⟨by rw[e,<-aK];congr 2;exact Bool.eq_iff_iff.2 (by rw[hb,@decide_eq_true_iff _ (Classical.propDecidable _)]),hx⟩));have cO:=Aa (show FB=true->(AF L).length<=1000 from fun h=>by rw[h]at aK;have:=(@of_decide_eq_true _ (Classical.propDecidable _) aK).1.2.2.2;omega);clear hc hp hs hL aJ BS e1 e2 e3 bC bB aU aQ hQ bL aI p1 q1 cN aK;go_enter Tryz.func9,Tryz.ntmps9
 go_upto_region 1 with fail
 try simp only[hB]
 clear hB;generalize ((w.alloc (.cells #[p,m,.slice x3 ml.length y3,n,.slice x1 rows.length y1] 39)).alloc (.cells #[dg,.slice la L.length lc,.slice ea xs.length ec] 53)).alloc (.cells #[.slice pa pl.length pc,.slice sa sl.length sc,fr] 26)=w1 at *;have aA:=Aa (fun w' (h:Ex w1 w')=>(⟨h.cell c0,h.cell c1,h.cell c2,h.cell c3,h.cell c4,h.cell s0,h.cell s1,h.cell s2,h.cell b0,h.cell b1,h.cell b2⟩:_/\_/\_/\_/\_/\_/\_/\_/\_/\_/\_));have bU:∀w',Ex w1 w'->Calls Tryz.prog 13 #[] w' fun r w''=>r= .returned (.bool true)/\Ex w1 w'':=fun w' h=>(cP.o w').mono fun r w'' ⟨h1,h2⟩=>⟨h1,h.trans h2⟩;have dC:=Aa bU;clear bU c0 c1 c2 c3 c4 s0 s1 s2 b0 b1 b2;obtain⟨DD,HD⟩:=JS (n*(Q-1));obtain⟨j1,cL⟩:=JS (!SB);obtain⟨j2,cK⟩:=JS (!FB);obtain⟨l2,cF⟩:=JS (j1||j2);obtain⟨j3,cJ⟩:=JS (E1 !=0);obtain⟨l3,cE⟩:=JS (l2||j3);obtain⟨j4,cI⟩:=JS (E2 !=0);obtain⟨l4,cD⟩:=JS (l3||j4);obtain⟨j5,cH⟩:=JS (fr !=0);obtain⟨l5,cC⟩:=JS (l4||j5);obtain⟨j6,cG⟩:=JS (decide ((64:Int)<DD));obtain⟨l6,cB⟩:=JS (l5||j6);have bA:=Aa (show l5=false->SB=true/\FB=true/\E1=0/\E2=0/\fr=0 from fun h=>by
  rw[<-cC.o,<-cD.o,<-cE.o,<-cF.o,<-cH.o,<-cI.o,<-cJ.o,<-cK.o,<-cL.o]at h;simp only[Bool.or_eq_false_iff,Bool.not_eq_false',bne_eq_false_iff_eq]at h;obtain⟨⟨⟨⟨h1,h2⟩,h3⟩,h4⟩,h5⟩:=h;exact⟨h1,h2,h3,h4,h5⟩)
 have aY:=Aa (show l5=false->∃(pn mn N q D:Nat),p=pn/\m=mn/\n=N/\pn^mn=q/\2<=q/\q<=256/\Q=q/\N*(q-1)=D/\DD=D/\D<=20000/\1<=N/\N<=64 from fun h=>by
  obtain⟨-,-,k2,-,-⟩:=bA.o h;have ho:=aM.o;rw[k2]at ho;obtain⟨pn,mn,N,rfl,rfl,rfl,hf,hI,bS,aS,hr,hro⟩:=GQ ho;have aO:=HQ.o;rw[PU hf]at aO;have bK:2<=pn^mn:=Nat.le_trans hf.p2 (Nat.le_self_pow (by have:=hf.m1;omega) pn);have cQ:=hf.q;refine⟨pn,mn,N,_,_,rfl,rfl,rfl,rfl,bK,cQ,aO.symm,rfl,?_,Nat.le_trans (Nat.mul_le_mul aS (show pn^mn-1<=255 by omega)) ac,bS,aS⟩;rw[<-HD.o,<-aO,Int.natCast_mul,Int.natCast_sub ac];rfl)
 have HW:=Aa (show l5=false->IntKind.i64.wrap (Q-1)=Q-1/\IntKind.i64.wrap (n*(Q-1))=DD from fun h=>by
  obtain⟨pn,mn,N,q,D,-,-,-,-,k1,k2,k3,-,k5,k6,-⟩:=aY.o h;rw[HD.o];exact⟨IntWalk.i64_in _ ac,IntWalk.i64_in _ ac⟩)
 refine BL (fun k=>([.bool true,.bool false,.bool false,.agg #[p,m,.slice x3 ml.length y3,n,.slice x1 rows.length y1],.bool SB,.bool j1,.bool j1,.bool j1,bif j1 then undef else .agg #[dg,.slice la L.length lc,.slice ea xs.length ec],bif j1 then undef else .bool FB,bif j1 then undef else .bool j2,.bool l2,.bool l2,bif l2 then undef else .agg #[p,m,.slice x3 ml.length y3,n,.slice x1 rows.length y1],bif l2 then undef else .int .i64 E1,bif l2 then undef else .bool j3,.bool l3,.bool l3,bif l3 then undef else .pointer (some ⟨B,0,none⟩),bif l3 then undef else .agg #[p,m,.slice x3 ml.length y3],bif l3 then undef else .pointer (some ⟨B,3,none⟩),bif l3 then undef else .int .i64 n,bif l3 then undef else .agg #[.slice pa pl.length pc,.slice sa sl.length sc,fr],bif l3 then undef else .int .i64 E2,bif l3 then undef else .bool j4,.bool l4,.bool l4,bif l4 then undef else .pointer (some ⟨B+1+1,2,none⟩),bif l4 then undef else .int .i64 fr,bif l4 then undef else .bool j5,.bool l5,.bool l5,bif l5 then undef else .pointer (some ⟨B,3,none⟩),bif l5 then undef else .int .i64 n,bif l5 then undef else .pointer (some ⟨B,0,none⟩),bif l5 then undef else .agg #[p,m,.slice x3 ml.length y3],bif l5 then undef else .int .i64 Q,bif l5 then undef else .int .i64 (Q-1),bif l5 then undef else .int .i64 DD,bif l5 then undef else .bool j6,.bool l6]:List Value).getD k undef) ah ah ah ?_ ?_
 .simp only[AJ];refine⟨?_,?_,?_,?_,?_,?_,?_,?_,?_,?_,?_,?_,?_,?_,?_,?_,?_,?_,?_,?_,?_,?_,?_,?_,?_,?_,?_,?_,?_,?_,?_,?_,?_,?_,?_,?_,?_,?_,?_,?_,?_,trivial⟩
  all_goals first|refine Bu.go rfl fun a w T hx K hK=>?_|(refine Bu.gd j1 ?_;rintro rfl a w T hx K hK)|(refine Bu.gd l2 ?_;rintro rfl a w T hx K hK)|(refine Bu.gd l3 ?_;rintro rfl a w T hx K hK)|(refine Bu.gd l4 ?_;rintro rfl a w T hx K hK)|(refine Bu.gd l5 ?_;rintro rfl a w T hx K hK)
  .clear T;go_simp;refine(cP.o _).mono ?_;exact zdr
  .have e15:=T 15 _ rfl;exact zds
  .have e16:=T 16 _ rfl;exact zds
  .exact zaF
  .have e18:=T 18 _ rfl;clear T;go_simp;refine(bX.o _ (HX.o.trans hx)).mono ?_;exact zdr
  .have e19:=T 19 _ rfl;have y:=cL.o;exact zds
  .have e17:=T 17 _ rfl;have e20:=T 20 _ rfl;exact zds
  .have e21:=T 21 _ rfl;exact zds
  .have e4:=T 4 _ rfl;exact zca
  .have e23:=T 23 _ rfl;clear T;go_simp;refine(cX.o _ (HX.o.trans hx)).mono ?_;exact zdr
  .have e24:=T 24 _ rfl;have y:=cK.o;exact zds
  .have e22:=T 22 _ rfl;have e25:=T 25 _ rfl;obtain rfl:=cF.o;cases j1
   .exact za6
   .exact za6
  .have e26:=T 26 _ rfl;exact zds
  .exact zaF
  .have e28:=T 28 _ rfl;clear T;go_simp;refine(cZ.o _ (HX.o.trans hx)).mono ?_;exact zdr
  .have e29:=T 29 _ rfl;have y:=cJ.o;exact zds
  .have e27:=T 27 _ rfl;have e30:=T 30 _ rfl;obtain rfl:=cE.o;cases l2
   .exact za6
   .exact za6
  .have e31:=T 31 _ rfl;exact zds
  .exact za1
  .have e33:=T 33 _ rfl;exact zca
  .exact za1
  .have e35:=T 35 _ rfl;exact zca
  .have e5:=T 5 _ rfl;exact zca
  .have e34:=T 34 _ rfl;have e36:=T 36 _ rfl;have e37:=T 37 _ rfl;clear T;go_simp;refine(cA.o _ (HX.o.trans hx)).mono ?_;exact zdr
  .have e38:=T 38 _ rfl;have y:=cI.o;exact zds
  .have e32:=T 32 _ rfl;have e39:=T 39 _ rfl;obtain rfl:=cD.o;cases l3
   .exact za6
   .exact za6
  .have e40:=T 40 _ rfl;exact zds
  .have e5:=T 5 _ rfl;exact zds
  .have e42:=T 42 _ rfl;exact zca
  .have e43:=T 43 _ rfl;have y:=cH.o;exact zds
  .have e41:=T 41 _ rfl;have e44:=T 44 _ rfl;obtain rfl:=cC.o;cases l4
   .exact za6
   .exact za6
  .have e45:=T 45 _ rfl;exact zds
  .exact za1
  .have e47:=T 47 _ rfl;exact zca
  .exact za1
  .have e49:=T 49 _ rfl;exact zca
  .have e50:=T 50 _ rfl;clear T;go_simp;refine(bZ.o _).mono ?_;exact zdr
  .have e51:=T 51 _ rfl;obtain⟨W1,W2⟩:=HW.o rfl;exact zds
  .have e48:=T 48 _ rfl;have e52:=T 52 _ rfl;obtain⟨W1,W2⟩:=HW.o rfl;exact zds
  .have e53:=T 53 _ rfl;have y:=cG.o;exact zds
  .have e46:=T 46 _ rfl;have e54:=T 54 _ rfl;obtain rfl:=cB.o;cases l5
   .exact za6
   .exact za6
 .intro wa bD;generalize hPK:Ci _ _ _ _=PK;rw[N0 hPK 15 56 ah];clear hPK PK;simp only[List.take_succ_cons,List.take_zero,List.drop_succ_cons,List.drop_zero,List.cons_append,List.nil_append];have aW:=Aa bD;clear bD
  cases l6 with
  | true=>
   go_wp2_with fail
   refine(dC.o _ aW.o).mono ?_;rintro e w99⟨rfl,aE⟩;have aX:=Aa aE;clear aE;go_wp2_with fail
   go_ret;exact⟨rfl,HX.o.trans aX.o⟩
  | false=>
   obtain⟨aP,bM⟩:=or_no cB;obtain⟨bI,bN,rfl,rfl,rfl⟩:=bA.o aP;obtain⟨pn,mn,N,q,D,rfl,rfl,rfl,hq,hq1,bK,rfl,hD,rfl,cS,bS,aS⟩:=aY.o aP;have bW:=Aa (aC.o bI);have bP:N*(pn^mn-1)<=64:=by
    rw[hq];have h:=cG.o;rw[bM]at h;have:=of_decide_eq_false h;omega
   have aL:=Aa (YF (pl:=pl) (sl:=sl) (dg:=dg) (L:=L) (xs:=xs) aM.o cY.o bW.o ac bP);have cM:=Aa (cO.o bN);clear bP bA aY HW aC bW cO aP bM bI bN hq hD cS HD;have A:Hia (Per wa fun v=>Ex w1 v):=fun v h=>aW.o.trans h;clear aW;obtain⟨c0,c1,c2,c3,c4,s0,s1,s2,b0,b1,b2⟩:=aA.o wa (at_ A);go_wp2_with fail
   refine(dA.o wa (HX.o.trans (at_ A)) cM.o).mono ?_;rintro e w6⟨aI,bF⟩;replace A:=Jx A bF;have cR:(∃E v,e= .returned (.tuple #[v,.int .i64 E])/\(E !=0)=true)∨(Q8 ⟨pn,mn,ml,N,rows⟩ dg L xs/\∃v,e= .returned (.tuple #[v,(0:Int)])):=by
    obtain⟨e0,ho,h⟩:=aI;obtain rfl:=BW ho aM.o;rcases h with⟨h1,_⟩|⟨_,_,h2⟩|⟨_,h1,v,h2,_⟩
    .exact absurd aL.o.1 h1
    .exact .inl ⟨13,_,h2,ae⟩
    .exact .inr ⟨h1,v,h2⟩
   clear aI bF c0 c1 c2 c3 c4 s0 s1 s2 b0 b1 b2;rcases cR with⟨E,v,rfl,hE⟩|⟨hac,v,rfl⟩
   .go_wp2_with fail
    go_ret;exact⟨rfl,HX.o.trans (at_ A)⟩
   obtain⟨bH,bJ⟩:=aL.o.2.2 hac;have bY:=Aa bH;have bV:=Aa bJ;have aZ:=Aa aL.o.2.1;clear hac bH bJ aL;obtain⟨c0,c1,c2,c3,c4,s0,s1,s2,b0,b1,b2⟩:=aA.o w6 (at_ A);go_wp2_with fail
   refine(dB.o w6 (HX.o.trans (at_ A))).mono ?_;rintro e w7⟨bQ,bE⟩;obtain⟨piv,a',rv,v',rfl,bO,aN,aH⟩:=XN (fr:=0) (show AppR pn mn ml N rows _ _ ((0:Nat):Int) _ _ _ from bQ) aM.o aZ.o.2.2;obtain⟨M,hM⟩:∃x,Aw N piv.length a'=x:=⟨_,rfl⟩;have aC:=Aa (bV.o piv a' bO);rw[hM]at aH aC;obtain⟨va,vc,rfl,-⟩:=aN.open;obtain⟨ra,rc,rfl,-⟩:=aH.open;obtain⟨ML,aT⟩:∃k,M.length=k:=⟨_,rfl⟩;rw[aT]at aH
   try simp only[aT]
   replace A:=Si A bE fun _ h=>aN.ex h;replace A:=S4 A fun _ h=>aH.ex h;obtain⟨DB,aV⟩:∃B,w7.heap.size=B:=⟨_,rfl⟩;replace A:=Si A (AI _ _) fun _ h=>(Jw #[(pn:Int),(mn:Int),.slice va ml.length vc,(N:Int),.slice ra ML rc] 39 aV).ex h;clear bQ bE bO aN aH hM aT bV c0 c1 c2 c3 c4 s0 s1 s2 b0 b1 b2;go_upto_region 7 with fail
   try simp only[aV]
   clear aV;generalize World.alloc _ _=w8 at *;obtain⟨c0,c1,c2,c3,c4,s0,s1,s2,b0,b1,b2⟩:=aA.o w8 (at_ A).2.2.2;go_wp2_with fail
   refine(cV.o w8 (HX.o.trans (at_ A).2.2.2)).mono ?_;rintro e w9⟨⟨v4,rfl,aD⟩,bG⟩;rw[aZ.o.1];rw[aZ.o.2.1]at aD;obtain⟨PL,bR⟩:∃l,Gi pn mn ml pl sl=l:=⟨_,rfl⟩;rw[bR]at aD bY aC;obtain⟨ppa,ppc,rfl,-⟩:=aD.open;obtain⟨PN,aR⟩:∃k,PL.length=k:=⟨_,rfl⟩;rw[aR]at aD
   try simp only[aR]
   replace A:=Si A bG fun _ h=>aD.ex h;clear aD bG bR aR c0 c1 c2 c3 c4 s0 s1 s2 b0 b1 b2;obtain⟨c0,c1,c2,c3,c4,s0,s1,s2,b0,b1,b2⟩:=aA.o w9 (at_ A).2.2.2.2;go_wp2_with fail
   refine(Has_any w9 dg L _ (cW.o w9 (HX.o.trans (at_ A).2.2.2.2)) cM.o PL _ (at_ A).1).mono ?_;rintro e w10⟨rfl,aG⟩;rw[bY.o];replace A:=Jx A aG;obtain⟨HB,bT⟩:∃b,Jo dg L PL=b:=⟨_,rfl⟩;rw[bT]at aC ⊢;clear aG bT c0 c1 c2 c3 c4 s0 s1 s2 b0 b1 b2
   cases HB with
   | true=>
    exact zc4
   | false=>
    have cT:=Aa (aC.o rfl);obtain⟨c0,c1,c2,c3,c4,s0,s1,s2,b0,b1,b2⟩:=aA.o w10 (at_ A).2.2.2.2;obtain⟨d0,d1,d2,d3,d4⟩:=(at_ A).2.1.o5;go_wp2_with fail
    refine(cU.o w10 (HX.o.trans (at_ A).2.2.2.2) ⟨pn,mn,ml,N,M⟩ _ _ ⟨(at_ A).2.2.2.1,(at_ A).2.2.1⟩).mono ?_;rintro e w11⟨rfl,aF⟩;rw[cT.o];replace A:=Jx A aF;clear aF d0 d1 d2 d3 d4 c0 c1 c2 c3 c4 s0 s1 s2 b0 b1 b2;exact zc4
section
open Go.RowKit Go.ChangeShapes Go.WideShapes Go.ChangeAt
theorem OF:∀(L:List EW) (os:List Value),os.length=L.length->(Mp L os).length=L.length*4
 | [], [],_=>rfl
 | x :: L,o :: os,h=>by
  have:=OF L os ay;simp only[Mp,List.length_cons,this];omega
 | [],o :: os,h=>by simp at h
 | x :: L, [],h=>by simp at h
section
variable {H:Type} {enc:TypeId × Value->H} {W:World} {held:Bool}
theorem Uj{aA:Nat}{c0:Value}{y:DataW H × List MemPlace}(h:DataW.trod enc Tryz.prog W 0 (fun _=>true) held aA 94 [c0]=some y):∃es,O9 W c0 es:=by
 obtain⟨xs,k,_,_,_,aB,hf⟩:=DataW.trod_struct Tryz.underlying94 h;have g0:=hf 0 _ rfl
 match xs,aB with
 | [y0],_=>
  simp[c_entr]at g0;exact VF g0
theorem Wt{aC:Nat}{v:Value}{y:DataW H × List MemPlace}(h:DataW.trod enc Tryz.prog W 0 (fun _=>true) held aC 41 [v]=some y):∃L,DX W v L:=by
 rcases Go.Deep.open_slice Tryz.underlying41 h with⟨hcs,_⟩|⟨x,len,cap,m,n,D,Pl,hcs,_,hl,hm,hmm,_,hr⟩
 .simp at hcs;subst hcs;exact⟨[],DX.nil W⟩
 .simp at hcs;subst hcs;simp only[if_true]at hmm;subst hmm;rw[show Tryz.prog.cellsOf 90=3 by kernel_rfl]at hr;have aD:∀i,i<len->∃q:Lv × Value × Value,W.cell? (x.add (i*3))=some (.int .i64 q.1.pt)/\W.cell? (x.add (i*3+1))=some q.2.1/\W.cell? (x.add (i*3+2))=some q.2.2/\Al W q.2.1 q.1.orb/\BZ W q.2.2 q.1.reps:=fun i hi=>by
   obtain⟨aI,h1,h2⟩:=hr i ac;obtain⟨_,aB,aA⟩:=World.cells?_some h1;obtain⟨xs,k,_,_,_,aE,hf⟩:=DataW.trod_struct Tryz.underlying90 h2
   match xs,aE,aI,aB with
   | [y0,y1,y2],_, [v0,v1,v2],_=>
    have g0:=hf 0 _ rfl;have g1:=hf 1 _ rfl;have g2:=hf 2 _ rfl;simp[show Tryz.prog.cellsOf 3=1 by kernel_rfl,show Tryz.prog.cellsOf 22=1 by kernel_rfl,show Tryz.prog.cellsOf 37=1 by kernel_rfl]at g0 g1 g2;have e0:=aA 0 ac;have e1:=aA 1 ac;have e2:=aA 2 ac;rw[Go.Deep.add_add]at e0 e1 e2;obtain⟨p,ep,_,_⟩:=DataW.trod_int Tryz.underlying3 g0;simp at ep;subst ep;obtain⟨l,hl⟩:=GG g1;obtain⟨rows,aG⟩:=P0 g2;exact⟨(⟨p,l,rows⟩,v1,v2),by simpa using e0,by simpa using e1,by simpa using e2,hl,aG⟩
  haveI:Inhabited (Lv × Value × Value):=⟨(⟨0, [], []⟩,.bool false,.bool false)⟩
  obtain⟨q,hq⟩:=Go.Deep.choose_lt aD;have hL:((List.range len).map fun i=>(q i).1).length=len:=ag;have hO:((List.range len).map fun i=>((q i).2.1,(q i).2.2)).length=len:=ag;refine⟨(List.range len).map fun i=>(q i).1,(List.range len).map fun i=>((q i).2.1,(q i).2.2),by rw[hL,hO],⟨by rw[Iz _ _ el],some x,m,by rw[hL],by rw[hL];exact hl,hm,fun hn=>?_⟩,fun i l o h1 h2=>?_⟩
  .rw[hL]at hn;have h0:=(hq 0 hn).1;have hx:=Fn h0 (.inl ⟨_,_,rfl⟩);have aF:(x.add (0*3))=x:=by simp[Addr.add]
   rw[aF]at hx;refine⟨x.block,x.off,congrArg some hx,fun j u hu=>?_⟩;have hj:j<len*3:=by
    have:=(List.getElem?_eq_some_iff.1 hu).1;rw[Iz _ _ el,hL]at this;exact this
   obtain⟨i,r,aH,rfl⟩:∃i r,r<3/\j=3*i+r:=⟨j/3,j%3,Nat.mod_lt _ ac,ac⟩;have hi:i<len:=bf;obtain⟨k0,k1,k2,_,_⟩:=hq i hi;rw[hx,IR]at k0 k1 k2;obtain⟨g1,g2,g3⟩:=Ke ((List.range len).map fun i=>(q i).1) ((List.range len).map fun i=>((q i).2.1,(q i).2.2)) i (q i).1 ((q i).2.1,(q i).2.2) (by simp[hi]) (by simp[hi])
   match r,aH with
   | 0,_=>rw[Nat.add_zero,g1]at hu;rw[Nat.add_zero,Nat.mul_comm,<-hu];exact k0
   | 1,_=>rw[g2]at hu;rw[Nat.mul_comm,<-hu];exact k1
   | 2,_=>rw[g3]at hu;rw[Nat.mul_comm,<-hu];exact k2
  .have hi:i<len:=by have:=(List.getElem?_eq_some_iff.1 h1).1;simpa using this
   simp[hi]at h1 h2;subst h1 h2;exact⟨(hq i hi).2.2.2.1,(hq i hi).2.2.2.2⟩
theorem Xi{aC:Nat}{v:Value}{y:DataW H × List MemPlace}(h:DataW.trod enc Tryz.prog W 0 (fun _=>true) held aC 51 [v]=some y):∃xs,IY W v xs:=by
 rcases Go.Deep.open_slice Tryz.underlying51 h with⟨hcs,_⟩|⟨x,len,cap,m,n,D,Pl,hcs,_,hl,hm,hmm,_,hr⟩
 .simp at hcs;subst hcs;exact⟨[],IY.nil W⟩
 .simp at hcs;subst hcs;simp only[if_true]at hmm;subst hmm;rw[show Tryz.prog.cellsOf 96=4 by kernel_rfl]at hr;have aG:∀i,i<len->∃q:EW × Value,W.cell? (x.add (i*4))=some (.int .i64 q.1.i)/\W.cell? (x.add (i*4+1))=some (.int .i64 q.1.j)/\W.cell? (x.add (i*4+2))=some (.int .i64 q.1.a)/\W.cell? (x.add (i*4+3))=some q.2/\O9 W q.2 q.1.pf:=fun i hi=>by
   obtain⟨aK,h1,h2⟩:=hr i ac;obtain⟨_,aB,aA⟩:=World.cells?_some h1;obtain⟨xs,k,_,_,_,aH,hf⟩:=DataW.trod_struct Tryz.underlying96 h2
   match xs,aH,aK,aB with
   | [y0,y1,y2,y3],_, [v0,v1,v2,v3],_=>
    have g0:=hf 0 _ rfl;have g1:=hf 1 _ rfl;have g2:=hf 2 _ rfl;have g3:=hf 3 _ rfl;simp[show Tryz.prog.cellsOf 3=1 by kernel_rfl,c_refu]at g0 g1 g2 g3;have e0:=aA 0 ac;have e1:=aA 1 ac;have e2:=aA 2 ac;have e3:=aA 3 ac;rw[Go.Deep.add_add]at e0 e1 e2 e3;obtain⟨p0,aF,_,_⟩:=DataW.trod_int Tryz.underlying3 g0;obtain⟨p1,aE,_,_⟩:=DataW.trod_int Tryz.underlying3 g1;obtain⟨p2,aD,_,_⟩:=DataW.trod_int Tryz.underlying3 g2;simp at aF aE aD;subst aF aE aD;obtain⟨l,hl⟩:=Uj g3;exact zb1
  haveI:Inhabited (EW × Value):=⟨(⟨0,0,0, []⟩,.bool false)⟩
  obtain⟨q,hq⟩:=Go.Deep.choose_lt aG;have hL:((List.range len).map fun i=>(q i).1).length=len:=ag;have hO:((List.range len).map fun i=>(q i).2).length=len:=ag;refine⟨(List.range len).map fun i=>(q i).1,(List.range len).map fun i=>(q i).2,by rw[hL,hO],⟨by rw[OF _ _ el,hL],some x,m,by rw[hL],by rw[hL];exact hl,hm,fun hn=>?_⟩,fun i e mv h1 h2=>?_⟩
  .rw[hL]at hn;have h0:=(hq 0 hn).1;have hx:=Fn h0 (.inl ⟨_,_,rfl⟩);have aI:(x.add (0*4))=x:=by simp[Addr.add]
   rw[aI]at hx;refine⟨x.block,x.off,congrArg some hx,fun j u hu=>?_⟩;have hj:j<len*4:=by
    have:=(List.getElem?_eq_some_iff.1 hu).1;rw[OF _ _ el,hL]at this;exact this
   obtain⟨i,r,aJ,rfl⟩:∃i r,r<4/\j=4*i+r:=⟨j/4,j%4,Nat.mod_lt _ ac,ac⟩;have hi:i<len:=bf;obtain⟨k0,k1,k2,k3,_⟩:=hq i hi;rw[hx,IR]at k0 k1 k2 k3;obtain⟨g1,g2,g3,g4⟩:=OG ((List.range len).map fun i=>(q i).1) ((List.range len).map fun i=>(q i).2) i (q i).1 (q i).2 (by simp[hi]) (by simp[hi])
   match r,aJ with
   | 0,_=>rw[Nat.add_zero,g1]at hu;rw[Nat.add_zero,Nat.mul_comm,<-hu];exact k0
   | 1,_=>rw[g2]at hu;rw[Nat.mul_comm,<-hu];exact k1
   | 2,_=>rw[g3]at hu;rw[Nat.mul_comm,<-hu];exact k2
   | 3,_=>rw[g4]at hu;rw[Nat.mul_comm,<-hu];exact k3
  .exact zaA
theorem Z5:Tryz.prog.cellsOf 43=2:=ah
theorem c_levs:Tryz.prog.cellsOf 41=1:=ah
theorem c_excs:Tryz.prog.cellsOf 51=1:=ah
theorem c_gce:Tryz.prog.cellsOf 53=3:=ah
theorem QN{aA:Nat}{c0 c1:Value}{y:DataW H × List MemPlace}(h:DataW.trod enc Tryz.prog W 0 (fun _=>true) held aA 43 [c0,c1]=some y):
  ∃(d:Int) (L:List Lv),c0= .int .i64 d/\DX W c1 L:=by
 obtain⟨xs,k,_,_,_,aB,hf⟩:=DataW.trod_struct Tryz.underlying43 h;have g0:=hf 0 _ rfl;have g1:=hf 1 _ rfl
 match xs,aB with
 | [y0,y1],_=>
  simp[TS,c_levs]at g0 g1;obtain⟨P,e0,_,_⟩:=DataW.trod_int Tryz.underlying3 g0;obtain⟨L,hL⟩:=Wt g1;simp at e0;exact⟨P,L,e0,hL⟩
theorem Z9{α:Type}{cs:Array α}(h:cs.size=3):∃c0 c1 c2,cs= #[c0,c1,c2]:=by
 obtain⟨l⟩:=cs
 match l,h with
 | [c0,c1,c2],_=>exact⟨c0,c1,c2,rfl⟩
theorem Wc{r:Reach}{b0:Nat}{v:Value}{d:DataW H}{p:List MemPlace}(hv:Value.okWide Tryz.prog W r b0 53 v)(h:DataW.Trod enc Tryz.prog W 0 (fun _=>true) held 53 v d p):
  ∃(dg:Int) (lv rv:Value) (L:List Lv) (xs:List EW),v= .agg #[dg,lv,rv]/\DX W lv L/\IY W rv xs:=by
 obtain⟨cs,rfl,aC⟩:=Hw Tryz.underlying53 hv;obtain⟨c0,c1,c2,rfl⟩:=Z9 (aC.trans c_gce);obtain⟨fuel,hf⟩:=h;obtain⟨xs,k,_,_,_,aB,aA⟩:=DataW.trod_struct Tryz.underlying53 hf;have g0:=aA 0 _ rfl;have g1:=aA 1 _ rfl
 match xs,aB with
 | [y0,y1],_=>
  simp[Z5,c_excs,Value.cells]at g0 g1;obtain⟨D,L,rfl,hL⟩:=QN g0;obtain⟨X,hX⟩:=Xi g1;exact⟨D,_,_,L,X,rfl,hL,hX⟩
end
end
end Go.Proofs.YtehieobniamagaaGreat
