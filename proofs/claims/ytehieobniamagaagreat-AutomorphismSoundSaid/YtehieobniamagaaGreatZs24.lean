/- A map's points tell it. -/
import Derived.Test.YtehieobniamagaaGreatZs23
namespace Go.Proofs.YtehieobniamagaaGreat
open Go.RowKit
set_option linter.all false
set_option maxRecDepth 100000
set_option maxHeartbeats 8000000
section
variable {p m N:Nat} {ml pl sl:List Int}
theorem Wf(h:Bo p m ml pl sl 0 N){i:Nat}(hi:i<N):∃z:Nat,sl.getD i 0=z/\1<=z/\z<p^m/\(Gi p m ml pl sl).getD (i*(p^m-1)) 0=((BF pl i*(p^m-1)+z:Nat):Int)-1:=by
 obtain⟨z,hz,h1,h2⟩:=h.sc i hi;refine⟨z,hz,h1,h2,?_⟩;have hQ:0<p^m-1:=ac;have aA:i*(p^m-1)<N*(p^m-1):=(Nat.mul_lt_mul_right hQ).2 hi;unfold Gi;rw[h.pll,List.getD_eq_getElem?_getD,AQ aA];show O7 p m ml pl sl (i*(p^m-1))=_
 unfold O7;rw[Nat.mul_div_cancel _ hQ,Nat.mul_mod_left,hz,Ay h2,Nat.zero_add,BA h.hp h.hm h2]
theorem SZ(h:Bo p m ml pl sl 0 N):il N (FO (p^m-1) (Gi p m ml pl sl))=il N (fun i=>(BF pl i:Int))/\il N (Gk (p^m-1) (Gi p m ml pl sl))=il N (fun i=>sl.getD i 0):=by
 constructor
 .refine FC fun i hi=>?_;obtain⟨z,hz,h1,h2,h3⟩:=Wf h hi;unfold FO;rw[h3];have:((BF pl i*(p^m-1)+z:Nat):Int)-1=((BF pl i*(p^m-1)+(z-1):Nat):Int):=by omega
  rw[this,<-Int.natCast_ediv,Nat.mul_comm,Nat.mul_add_div ac,Nat.div_eq_of_lt ac,Nat.add_zero]
 .refine FC fun i hi=>?_;obtain⟨z,hz,h1,h2,h3⟩:=Wf h hi;unfold Gk;rw[h3,hz];have:((BF pl i*(p^m-1)+z:Nat):Int)-1=((BF pl i*(p^m-1)+(z-1):Nat):Int):=by omega
  rw[this,<-Int.natCast_emod,Nat.mul_comm,Nat.mul_add_mod,Nat.mod_eq_of_lt ac];omega
theorem Uz(h:Bo p m ml pl sl 0 N){k:Nat}(hk:k<N*(p^m-1)):∃z:Nat,1<=z/\z<p^m/\z=Ai p m (lw ml) (Ar (p^m) (sl.getD (k/(p^m-1)) 0)) (k%(p^m-1)+1)/\k/(p^m-1)<N/\BF pl (k/(p^m-1))<N/\O7 p m ml pl sl k=((BF pl (k/(p^m-1))*(p^m-1)+(z-1):Nat):Int):=by
 have hQ:0<p^m-1:=by
  apply Nat.pos_of_ne_zero;intro e;rw[e,Nat.mul_zero]at hk;omega
 have hi:k/(p^m-1)<N:=Nat.div_lt_of_lt_mul (by rw[Nat.mul_comm];exact hk);obtain⟨s,hs,h1,h2⟩:=h.sc _ hi;have hr:=Nat.mod_lt k hQ;have aB:=h.hF.ne_zero h.hp h.hm h1 h2 (show 1<=k%(p^m-1)+1 by omega) (show k%(p^m-1)+1<p^m by omega);have aA:=AY (p:=p) (m:=m) (low:=lw ml) (by have:=h.hp;omega) s (k%(p^m-1)+1);refine⟨Ai p m (lw ml) s (k%(p^m-1)+1),aB,aA,by rw[hs,Ay h2],hi,h.inj.1 _ hi,?_⟩;unfold O7;rw[hs,Ay h2];omega
theorem RY{l:List Int}{N:Nat}(h:l.length=N){f:Nat->Int}(hf:∀i,i<N->f i=l.getD i 0):il N f=l:=by
 subst h;refine List.ext_getElem? fun i=>?_;by_cases hi:i<l.length
 .rw[AQ hi,hf i hi,List.getD_eq_getElem?_getD,List.getElem?_eq_getElem hi];rfl
 .rw[List.getElem?_eq_none (by rw[An];omega),List.getElem?_eq_none ac]
end
def Iw(c:AT)(e0:Int):Int:=if e0≠0 then e0 else if 64<c.n.toNat*(c.p.toNat^c.m.toNat-1) then 8 else 0
def OpO(c:AT)(r:Ending)(w':World):Prop:=∃e0:Int,BI c.p c.m c.ml c.n c.rows e0/\
 ((Iw c e0≠0/\∃(aA:Option Addr) (d:Int),r= .returned (.tuple #[.pointer aA,d,.int .i64 (Iw c e0)]))∨
 (Iw c e0=0/\∃(pn mn N b x0:Nat),c.p=pn/\c.m=mn/\c.n=N/\1<=N/\N<=64/\N*(pn^mn-1)<=64/\r= .returned (.tuple #[.pointer (some (b,0)),((N*(pn^mn-1):Nat):Int),(0:Int)])/\Bh w' b pn mn c.ml x0/\1<=x0/\x0<pn^mn))
theorem zav{P:Prop}(h:P:=by
 refine Bu.on rfl fun L a w aB aA hd hx K hK=>?_;have bC:=aB 5 23 _ (hd ⟨5,.data⟩ (by simp) rfl) rfl rfl;exact zdk):P:=h
theorem K6(w:World)(c:AT)(m1 v1:Value)(hc:c.at w m1 v1):
  Calls Tryz.prog 69 #[c.arg m1 v1] w fun r w'=>OpO c r w'/\Ex w w':=by
 obtain⟨c0,c1,c2,c3,c4⟩:=CY w c m1 v1;have aL:=AI w (c.obj m1 v1);have aH:=Aa (hc.ex aL);obtain⟨x1,y1,rfl,-,z1,-⟩:=hc.g.open;obtain⟨x3,y3,rfl,-,z3,-⟩:=hc.m.open;unfold maxLen at z1 z3;obtain⟨B,hB⟩:=nA w.heap.size;rw[hB]at c0 c1 c2 c3 c4;have aI:=Aa aL;obtain⟨cp,cm,aD,cn,aF⟩:=c;obtain⟨C,hC⟩:∃C:AT,C=⟨cp,cm,aD,cn,aF⟩:=⟨_,rfl⟩;have aE:=Aa hC;have aK:=Aa (fun w1 (h:Ex (w.alloc (AT.obj ⟨cp,cm,aD,cn,aF⟩ (.slice x3 aD.length y3) (.slice x1 aF.length y1))) w1)=>D7 w1 cp cm aD (.slice x3 aD.length y3) (aH.o.m.ex h) cn aF (.slice x1 aF.length y1) (aH.o.g.ex h));unfold AT.arg;unfold AT.obj at aI aK aH c0 c1 c2 c3 c4;dsimp only at aI aK aH c0 c1 c2 c3 c4 ⊢;rw[<-hC];clear hc aL hC;go_enter Tryz.func69,Tryz.ntmps69
 go_upto_region 1 with fail
 try simp only[hB]
 clear hB;generalize w.alloc (.cells #[cp,cm,.slice x3 aD.length y3,cn,.slice x1 aF.length y1] 39)=w1 at *;go_wp2_with fail
 refine(aK.o w1 (Ex.refl _)).mono ?_;rintro e w2⟨⟨E,rfl,aU⟩,aC⟩;have aQ:=Aa aU;have aP:=Aa aC;replace c0:=aC.cell c0;replace c1:=aC.cell c1;replace c2:=aC.cell c2;replace c3:=aC.cell c3;replace c4:=aC.cell c4;clear aC aU aK;by_cases h0:E=0
 rotate_left
 .have hb:(E !=0)=true:=by simpa using h0
  have HR:=Aa (show Iw C E=E/\Iw C E≠0 from by unfold Iw;rw[if_pos h0];exact⟨rfl,h0⟩);clear h0;go_wp2_with fail
  exact bodyPost_ret (v:= .tuple #[.pointer none,(0:Int),E]) (by simp[results,Tryz.results69,go_sem]) rfl ⟨⟨E,by rw[aE.o];exact aQ.o,.inl ⟨HR.o.2,_,_,by rw[HR.o.1]⟩⟩,aI.o.trans aP.o⟩
 .subst h0;obtain⟨aT,k1,k2⟩:=EI aQ.o;have aY:=Aa (F8 cp cm aD _ w2 (aH.o.m.ex aP.o));have bI:=Aa aT;obtain⟨N,rfl⟩:∃N:Nat,cn=N:=⟨cn.toNat,ac⟩;have HN:=Aa (show 1<=N/\N<=64 from ac);clear aT k1 k2;go_wp2_with fail
  refine aY.o.mono ?_;rintro e w3⟨bB,aM⟩;rcases bB with⟨pn,mn,x0,gb,rfl,rfl,rfl,hg,h1,h2⟩|⟨hbad,-⟩
  rotate_left
  .exact absurd bI.o hbad
  obtain⟨bE,bD,HG,bH,bG⟩:=Of (aP.o.trans aM) (aM.cell c3) hg h1 h2;have bA:2<=pn^mn:=Nat.le_trans hg.sh.p2 (Nat.le_self_pow (by have:=hg.sh.m1;omega) pn);have aS:=hg.sh.q;have aX:=Aa (fun (w5:World) (h5:Ex w3 w5)=>Cs w5 (HG.o.ex h5));have aJ:=Aa (fun (w5:World)=>Hv w5 N (pn^mn) HN.o.2 ac aS);have aG:=Aa (show Iw C 0=if 64<N*(pn^mn-1) then 8 else 0 from by rw[aE.o];unfold Iw;rw[if_neg ag];rfl);obtain⟨q,hq⟩:=nA (pn^mn);have HQ:=Aa hq;rw[hq]at aX aJ aG;obtain⟨D,hD⟩:=nA (N*(q-1));rw[hD]at aJ aG;have aZ:=Aa hD;obtain⟨T0,aO⟩:∃z,((if 64<D then 0 else D:Nat):Int)=z:=⟨_,rfl⟩;obtain⟨T1,aN⟩:∃z,(if 64<D then(8:Int) else 0)=z:=⟨_,rfl⟩;rw[aO,aN]at aJ;have bF:=Aa aO;have aW:=Aa aN;clear aO aN hD hq aM hg h1 h2 bA aS aY c0 c1 c2 c3 c4;go_wp2_with fail
  go_upto_region 7 with fail
  refine BL (fun k=>([.pointer (some ⟨B,3,none⟩),.int .i64 (N:Int),.pointer (some ⟨gb,0,none⟩),.int .i64 (q:Int),.tuple #[T0,T1],.tuple #[T0,T1],.int .i64 T0,.int .i64 T1,.int .i64 T0,.int .i64 T1]:List Value).getD k undef) ah ah ah ?_ ?_
  .simp only[AJ];refine⟨?_,?_,?_,?_,?_,?_,?_,?_,?_,?_,trivial⟩
   .refine Bu.on rfl fun L a w aB aA hd hx K hK=>?_;have e1:a.tmps[1]?=some (.pointer (some (B,0))):=aA 1 ah;exact zdk
   .refine Bu.on rfl fun L a w aB aA hd hx K hK=>?_;have e24:=aB 0 24 _ (hd ⟨0,.data⟩ ag rfl) rfl rfl;have c1:=hx.cell bD.o;exact zdk
   .refine Bu.on rfl fun L a w aB aA hd hx K hK=>?_;have e6:a.tmps[6]?=some (.pointer (some (gb,0))):=aA 6 ah;exact zdk
   .refine Bu.on rfl fun L a w aB aA hd hx K hK=>?_;have e26:=aB 2 26 _ (hd ⟨2,.data⟩ ag rfl) rfl rfl;clear aB aA hd;go_simp;refine(aX.o _ hx).mono ?_;exact zdg
   .refine Bu.on rfl fun L a w aB aA hd hx K hK=>?_;have e25:=aB 1 25 _ (hd ⟨1,.data⟩ ag rfl) rfl rfl;have e27:=aB 3 27 _ (hd ⟨3,.data⟩ ag rfl) rfl rfl;clear aB aA hd;go_simp;refine(aJ.o _).mono ?_;exact zdg
   .refine Bu.on rfl fun L a w aB aA hd hx K hK=>?_;have e28:=aB 4 28 _ (hd ⟨4,.data⟩ ag rfl) rfl rfl;exact zdk
   .exact zav
   .exact zav
   .refine Bu.on rfl fun L a w aB aA hd hx K hK=>?_;have e29:=aB 6 29 _ (hd ⟨6,.data⟩ ag rfl) rfl rfl;exact zdk
   .refine Bu.on rfl fun L a w aB aA hd hx K hK=>?_;have e30:=aB 7 30 _ (hd ⟨7,.data⟩ ag rfl) rfl rfl;exact zdk
  .intro w5 aR;simp only[Ci,Act.put,List.setIfInBounds_toArray,List.set_cons_zero,List.set_cons_succ];have aV:=Aa aR;clear aR;go_wp2_with fail
   refine bodyPost_ret (v:= .tuple #[.pointer (some ⟨gb,0,none⟩),T0,T1]) (by simp[results,Tryz.results69,go_sem]) rfl ⟨⟨0,by rw[aE.o];exact aQ.o,?_⟩,aI.o.trans (bE.o.trans aV.o)⟩;by_cases hd:64<D
   .refine .inl ⟨by rw[aG.o,if_pos hd];decide,_,_,by rw[aG.o,aW.o]⟩
   .refine .inr ⟨by rw[aG.o,if_neg hd],pn,mn,N,gb,x0,by rw[aE.o],by rw[aE.o],by rw[aE.o],HN.o.1,HN.o.2,by rw[HQ.o,aZ.o];omega,?_,by rw[aE.o];exact HG.o.ex aV.o,bH.o,bG.o⟩;rw[HQ.o,aZ.o,<-bF.o,<-aW.o,if_neg hd,if_neg hd]
theorem WO:(Tryz.prog.info? 26).map (fun i=>(i.zero,i.size,i.bytes))=some (some (.agg #[.slice none 0 0,.slice none 0 0,(0:Int)]),3,56):=ah
def gF(c:AT)(g:Ca):(Nat × List Nd) × Int:=GN c c g.tl g.sl
def gE(c:AT)(g:Ca):Int:=J5 0 (gF c g)
def gM(c:AT)(g:Ca):CW:=Jq 0 (gF c g)
def C9(c:AT)(gs:List Ca):List CW:=(gs.filter fun g=>gE c g==0).map (gM c)
def JO(c:AT)(gs:List Ca):List Ca:=gs.filter fun g=>gE c g==11
def NR(c:AT)(gs:List Ca):Option Ca:=gs.find? fun g=>gE c g !=0&&gE c g !=11
def Yb(c:AT)(gs:List Ca):Int:=match NR c gs with
 | some g=>gE c g
 | none=>0
structure EP(n q:Nat)(g:Ca):Prop where
 ij:g.i<=g.j
 j:g.j<n
 a1:1<=g.a
 a:g.a<q
theorem gA_ok{n q i j:Nat}(h1:i<=j)(h2:j<n){g:Ca}{c:Nat}(hc:c<=q-1)(h:g∈gA i j c):EP n q g:=by
 unfold gA at h;obtain⟨a,ha,rfl⟩:=List.mem_map.1 h;rw[List.mem_range]at ha;exact⟨h1,h2,by show 1<=a+1;omega,by show a+1<q;omega⟩
theorem IF{n q:Nat}{g:Ca}(h:g∈Du n q):EP n q g:=by
 unfold Du gI at h;obtain⟨i,hi,h⟩:=List.mem_flatMap.1 h;unfold gJ at h;obtain⟨k,hk,h⟩:=List.mem_flatMap.1 h;rw[List.mem_range]at hi hk;exact gA_ok ac ac (Nat.le_refl _) h
theorem AM(g:Ca):g.tl.length=g.i+1:=by unfold Ca.tl;rw[List.length_append,FY];rfl
theorem BH(g:Ca):g.sl.length=g.i+1:=by unfold Ca.sl;rw[List.length_append,FT];rfl
theorem zaO{P:Prop}(h:P:=by
 obtain rfl:k=g.i:=by omega
 rw[List.getElem?_append_right (by simp),if_neg h];simp):P:=h
theorem zaT{P:Prop}(h:P:=by
 rw[List.getElem?_append_left (by simpa using h),if_pos h];simp[h]):P:=h
theorem zcP{P:Prop}(h:P:=by
 rw[List.getD_eq_getElem?_getD];by_cases h:k<g.i
 .exact zaT
 .exact zaO):P:=h
theorem CR(g:Ca){k:Nat}(hk:k<=g.i):g.tl.getD k 0=((if k<g.i then k else g.j:Nat):Int):=by
 unfold Ca.tl Lp;exact zcP
theorem FD(g:Ca){k:Nat}(hk:k<=g.i):g.sl.getD k 0=((if k<g.i then 1 else g.a:Nat):Int):=by
 unfold Ca.sl Mf;exact zcP
theorem ZH{n q:Nat}{g:Ca}(h:EP n q g):BB g.tl n=true:=by
 unfold BB;rw[List.all_eq_true];intro x hx;obtain⟨k,hk,rfl⟩:=List.mem_iff_getElem.1 hx;have h1:k<=g.i:=by rw[AM]at hk;omega
 have h2:=CR g h1;rw[List.getD_eq_getElem?_getD,List.getElem?_eq_getElem hk]at h2;have h3:g.tl[k]=((if k<g.i then k else g.j:Nat):Int):=h2;rw[h3];have:=h.ij;have:=h.j;refine decide_eq_true ⟨ac,?_⟩;split <;> omega
theorem ZJ{n q:Nat}{g:Ca}(h:EP n q g):EH g.tl=false:=by
 cases hd:EH g.tl with
 | false=>rfl
 | true=>
  obtain⟨i,j,h1,h2,e⟩:=IJ.1 hd;rw[AM]at h2;rw[CR g ac,CR g ac]at e;have:=h.ij;split at e <;> split at e <;> omega
theorem ZI{n q:Nat}{g:Ca}(h:EP n q g):EU q g.sl=0:=
 ZS fun i hi=>⟨if i<g.i then 1 else g.a,FD g (by rw[BH]at hi;omega),by have:=h.a1;split <;> omega,by have:=h.a1;have:=h.a;split <;> omega⟩
theorem RZ{p m n:Int}{ml:List Int}{N q:Nat}(hn:n=N){g:Ca}(h:EP N q g):Gd 0 0 (CA p m ml p m ml) n n g.tl g.sl q=0:=by
 subst hn;unfold Gd;rw[if_neg ag,if_neg ag,if_neg (by rw[Db.2 ⟨rfl,rfl,rfl⟩];simp),if_neg (by rw[AM,BH];have:=h.ij;have:=h.j;omega)];unfold FX;rw[ZH h,ZJ h];rw[if_neg ae];exact ZI h
def UH:List CW->List (Value × Value)->List Value
 | M :: Ms,c :: cs=>c.1 :: c.2 :: .int .i64 M.frob :: UH Ms cs
 | _,_=> []
theorem S9:∀(L:List CW) (os:List (Value × Value)) (i:Nat) (l:CW) (o:Value × Value),L[i]?=some l->os[i]?=some o->(UH L os)[3*i]?=some o.1/\(UH L os)[3*i+1]?=some o.2/\(UH L os)[3*i+2]?=some (.int .i64 l.frob)
 | l' :: L,o' :: os,0,l,o,h,k=>by
  simp at h k;subst h k;exact⟨rfl,rfl,rfl⟩
 | l' :: L,o' :: os,i+1,l,o,h,k=>by
  have:=S9 L os i l o ay (by simpa using k);rw[show 3*(i+1)=3*i+3 by omega,show 3*i+3+1=3*i+1+3 by omega,show 3*i+3+2=3*i+2+3 by omega];simpa[UH]using this
 | [],os,i,l,o,h,k=>by simp at h
 | l' :: L, [],i,l,o,h,k=>by simp at k
theorem Ta:∀(L:List CW) (os:List (Value × Value)) (l:CW) (o:Value × Value),os.length=L.length->UH (L ++ [l]) (os ++ [o])=UH L os ++ [o.1,o.2,.int .i64 l.frob]
 | [], [],l,o,_=>rfl
 | l' :: L,o' :: os,l,o,h=>by
  have:=Ta L os l o ay;simp only[List.cons_append,UH,this]
 | [],o' :: os,l,o,h=>by simp at h
 | l' :: L, [],l,o,h=>by simp at h
def OZ(w:World)(v:Value)(Ms:List CW):Prop:=∃cs:List (Value × Value),cs.length=Ms.length/\Sl w v Ms.length 3 (UH Ms cs)/\∀(i:Nat) (M:CW) (c:Value × Value),Ms[i]?=some M->cs[i]?=some c->Al w c.1 M.perm/\Al w c.2 M.scale
theorem OZ.ex{w w':World}{v:Value}{L:List CW}(h:OZ w v L)(hx:Ex w w'):OZ w' v L:=by
 exact zbT
theorem OZ.open{w:World}{v:Value}{L:List CW}(h:OZ w v L):∃a cap,v= .slice a L.length cap/\L.length<=cap/\cap<=maxLen/\
  (0<L.length->∃b o,a=some ⟨b,o,none⟩/\∀(i:Nat) (l:CW),L[i]?=some l->∃u r,w.cell? ⟨b,o+3*i,none⟩=some u/\w.cell? ⟨b,o+(3*i+1),none⟩=some r/\w.cell? ⟨b,o+(3*i+2),none⟩=some (.int .i64 l.frob)/\Al w u l.perm/\Al w r l.scale):=by
 obtain⟨os,h1,⟨h2,a,cap,h3,h4,h5,h6⟩,h7⟩:=h;refine⟨a,cap,h3,h4,h5,fun hn=>?_⟩;obtain⟨b,o,h8,h9⟩:=h6 hn;refine⟨b,o,h8,fun i l hl=>?_⟩;have hi:=(List.getElem?_eq_some_iff.1 hl).1;have ho:os[i]?=some (os[i]'ac):=List.getElem?_eq_getElem _;obtain⟨g1,g2,g3⟩:=S9 L os i l _ hl ho;exact zco
theorem FA{w w':World}{base:Nat}{e:TypeId}{size n:Nat}{v v' c:Value}{xs news:List Value}(ha:Bv w w' base e size v v' n xs news){l:List Int}(h:Al w c l)(aB:l≠ []->AR c v):Al w' c l/\(l≠ []->AR c v'):=by
 obtain⟨a,cap,rfl,h1,h2,h3⟩:=h.open;by_cases hl:l= []
 .subst hl;refine⟨?_,fun h=>absurd rfl h⟩;unfold Al at *;exact⟨rfl,a,cap,rfl,h1,h2,fun h=>by simp at h⟩
 .obtain⟨B,o,rfl,h4⟩:=h3 (List.length_pos_iff.2 hl);obtain⟨x,l',rfl⟩:=List.exists_cons_of_ne_nil hl;have hlt:B<w.heap.size:=World.block_lt_of_cell? _ _ (h4 0 x rfl);have aA:some B≠v.ownBlock:=by
   rcases aB hl with h5|h5
   .cases h5
   .exact h5
  refine⟨⟨h.1,_,cap,rfl,h1,h2,fun _=>⟨B,o,rfl,fun j u hu=>?_⟩⟩,fun _=>?_⟩
  .unfold Ao at hu;rw[List.getElem?_map]at hu
   cases hx:(x :: l')[j]? with
   | none=>rw[hx]at hu;cases hu
   | some y=>
    rw[hx]at hu;injection hu with hu;subst hu;exact ha.cell (h4 j y hx) aA
  .unfold AR;right;rcases ha.at_ with h5|h5
   .rw[h5];exact aA
   .rw[h5];intro e;injection e with e;have e2:B=w.heap.size+1:=e;omega
structure Q3(b0:Nat)(w1 wr:World)(mv nv:Value)(Ms:List CW)(cs:List (Value × Value))(ns:List Ca)(ds:List (Value × Value)):Prop where
 ex:Ex w1 wr
 mlen:cs.length=Ms.length
 mown:wr.ownsRow w1.heap.size 26 3 mv Ms.length (UH Ms cs)
 mat:∀(i:Nat) (M:CW) (c:Value × Value),Ms[i]?=some M->cs[i]?=some c->(Al wr c.1 M.perm/\(M.perm≠ []->AR c.1 mv/\AR c.1 nv))/\(Al wr c.2 M.scale/\(M.scale≠ []->AR c.2 mv/\AR c.2 nv))
 nlen:ds.length=ns.length
 nown:wr.ownsRow w1.heap.size 129 5 nv ns.length (FE ns ds)
 nat:∀(i:Nat) (g:Ca) (c:Value × Value),ns[i]?=some g->ds[i]?=some c->(Al w1 c.1 g.tl/\Al w1 c.2 g.sl)/\(∀X,c.1.ownBlock=some X->b0<=X)/\∀X,c.2.ownBlock=some X->b0<=X
 ap:AR mv nv
section
variable {b0:Nat} {w1 wr w':World} {mv nv v' u r:Value} {Ms:List CW} {cs ds:List (Value × Value)} {ns:List Ca}
theorem Q3.nil(b0:Nat)(w1:World):Q3 b0 w1 w1 (.slice none 0 0) (.slice none 0 0) [] [] [] []:=
 ⟨Ex.refl _,rfl,World.ownsRow_nil _ _ _ _,fun i M c h=>by simp at h,rfl,World.ownsRow_nil _ _ _ _,fun i M c h=>by simp at h,AR.nil _⟩
theorem Q3.later(h:Q3 b0 w1 wr mv nv Ms cs ns ds)(hx:Ex wr w'):Q3 b0 w1 w' mv nv Ms cs ns ds:=
 ⟨h.ex.trans hx,h.mlen,Aj h.mown hx,fun i M c a b=>⟨⟨(h.mat i M c a b).1.1.ex hx,(h.mat i M c a b).1.2⟩,⟨(h.mat i M c a b).2.1.ex hx,(h.mat i M c a b).2.2⟩⟩,h.nlen,Aj h.nown hx,h.nat,h.ap⟩
theorem Q3.msl(h:Q3 b0 w1 wr mv nv Ms cs ns ds):OZ wr mv Ms:=⟨cs,h.mlen,Sl.own h.mown,fun i M c a b=>⟨(h.mat i M c a b).1.1,(h.mat i M c a b).2.1⟩⟩
theorem Q3.nsl(h:Q3 b0 w1 wr mv nv Ms cs ns ds):Yg b0 wr nv ns:=⟨ds,h.nlen,Sl.own h.nown,fun i M c a b=>⟨⟨(h.nat i M c a b).1.1.ex h.ex,(h.nat i M c a b).1.2.ex h.ex⟩,(h.nat i M c a b).2⟩⟩
theorem Q3.appM(h:Q3 b0 w1 wr mv nv Ms cs ns ds){M:CW}(hu:Al wr u M.perm)(hr:Al wr r M.scale)(aA:AR u mv/\AR u nv)(aB:AR r mv/\AR r nv)
  (ha:Bv wr w' w1.heap.size 26 3 mv v' Ms.length (UH Ms cs) [u,r,.int .i64 M.frob]):Q3 b0 w1 w' v' nv (Ms ++ [M]) (cs ++ [(u,r)]) ns ds:=by
 have hn:=ha.row h.nown h.ap.symm;refine⟨ha.ex h.ex (Nat.le_refl _),by simp[h.mlen],?_,fun i x c a b=>?_,h.nlen,hn.1,h.nat,hn.2.symm⟩
 .have:=ha.own;rw[Ta Ms cs M (u,r) h.mlen,List.length_append];exact this
 .by_cases hi:i<Ms.length
  .rw[List.getElem?_append_left hi]at a;rw[List.getElem?_append_left (by rw[h.mlen];exact hi)]at b;obtain⟨⟨p1,p2⟩,⟨p3,p4⟩⟩:=h.mat i x c a b;obtain⟨q1,q2⟩:=FA ha p1 fun e=>(p2 e).1;obtain⟨q3,q4⟩:=FA ha p3 fun e=>(p4 e).1;exact⟨⟨q1,fun e=>⟨q2 e,(p2 e).2⟩⟩,⟨q3,fun e=>⟨q4 e,(p4 e).2⟩⟩⟩
  .have aC:i=Ms.length:=by
    exact zc8
   subst aC;rw[List.getElem?_append_right (Nat.le_refl _)]at a;rw[List.getElem?_append_right (by rw[h.mlen];exact Nat.le_refl _),h.mlen]at b;simp at a b;subst a b;obtain⟨q1,q2⟩:=FA ha hu fun e=>aA.1;obtain⟨q3,q4⟩:=FA ha hr fun e=>aB.1;exact⟨⟨q1,fun e=>⟨q2 e,aA.2⟩⟩,⟨q3,fun e=>⟨q4 e,aB.2⟩⟩⟩
theorem Q3.appN(h:Q3 b0 w1 wr mv nv Ms cs ns ds){g:Ca}(hu:Al w1 u g.tl)(hr:Al w1 r g.sl)(aB:∀X,u.ownBlock=some X->b0<=X)(aC:∀X,r.ownBlock=some X->b0<=X)
  (ha:Bv wr w' w1.heap.size 129 5 nv v' ns.length (FE ns ds) [.int .i64 g.i,.int .i64 g.j,.int .i64 g.a,u,r]):Q3 b0 w1 w' mv v' Ms cs (ns ++ [g]) (ds ++ [(u,r)]):=by
 have hm:=ha.row h.mown h.ap;refine⟨ha.ex h.ex (Nat.le_refl _),h.mlen,hm.1,fun i x c a b=>?_,by simp[h.nlen],?_,fun i x c a b=>?_,hm.2⟩
 .obtain⟨⟨p1,p2⟩,⟨p3,p4⟩⟩:=h.mat i x c a b;obtain⟨q1,q2⟩:=FA ha p1 fun e=>(p2 e).2;obtain⟨q3,q4⟩:=FA ha p3 fun e=>(p4 e).2;exact⟨⟨q1,fun e=>⟨(p2 e).1,q2 e⟩⟩,⟨q3,fun e=>⟨(p4 e).1,q4 e⟩⟩⟩
 .have:=ha.own;rw[Lr ns ds g (u,r) h.nlen,List.length_append];exact this
 .by_cases hi:i<ns.length
  .rw[List.getElem?_append_left hi]at a;rw[List.getElem?_append_left (by rw[h.nlen];exact hi)]at b;exact h.nat i x c a b
  .have aA:i=ns.length:=by
    exact zc8
   subst aA;rw[List.getElem?_append_right (Nat.le_refl _)]at a;rw[List.getElem?_append_right (by rw[h.nlen];exact Nat.le_refl _),h.nlen]at b;simp at a b;subst a b;exact⟨⟨hu,hr⟩,aB,aC⟩
end
theorem Ez{α:Type}{l:List α}{i:Nat}{x:α}(h:l[i]?=some x):l.take (i+1)=l.take i ++ [x]:=by rw[List.take_add_one,h];rfl
theorem zcg{P:Prop}(h:P:=by
 rw[Ez h];unfold C9 JO;rw[List.filter_append,List.filter_append,List.map_append];simp[he]):P:=h
theorem YM{c:AT}{gs:List Ca}{i:Nat}{g:Ca}(h:gs[i]?=some g)(he:gE c g=0):C9 c (gs.take (i+1))=C9 c (gs.take i) ++ [gM c g]/\JO c (gs.take (i+1))=JO c (gs.take i):=by
 exact zcg
theorem YL{c:AT}{gs:List Ca}{i:Nat}{g:Ca}(h:gs[i]?=some g)(he:gE c g=11):C9 c (gs.take (i+1))=C9 c (gs.take i)/\JO c (gs.take (i+1))=JO c (gs.take i) ++ [g]:=by
 exact zcg
theorem VJ{c:AT}{gs:List Ca}{i:Nat}{g:Ca}(h:gs[i]?=some g)(hb:NR c (gs.take i)=none)(he:gE c g=0∨gE c g=11):NR c (gs.take (i+1))=none:=by
 rw[Ez h];unfold NR at *;rw[List.find?_append,hb];rcases he with he|he <;> simp[he]
theorem YN{c:AT}{gs:List Ca}{i:Nat}{g:Ca}(h:gs[i]?=some g)(hb:NR c (gs.take i)=none)(h0:gE c g≠0)(aA:gE c g≠11):Yb c gs=gE c g:=by
 have hs:gs=gs.take i++(g :: gs.drop (i+1)):=by
  have h1:=(List.getElem?_eq_some_iff.1 h).1;have h2:gs.drop i=g :: gs.drop (i+1):=by
   rw[List.drop_eq_getElem_cons h1]
   congr 1
   exact(List.getElem?_eq_some_iff.1 h).2
  rw[<-h2,List.take_append_drop]
 have h3:NR c gs=some g:=by
  unfold NR at *;rw[hs,List.find?_append,hb];simp[h0,aA]
 unfold Yb;rw[h3]
theorem Tq(c:AT)(g:Ca):(gM c g).frob=0:=by
 unfold gM Jq;split
 .rfl
 .split <;> rfl
def RunO(b0:Nat)(c:AT)(r:Ending)(w':World):Prop:=∃e0:Int,BI c.p c.m c.ml c.n c.rows e0/\
 ((Iw c e0≠0/\r= .returned (.tuple #[.pointer none,.slice none 0 0,.slice none 0 0,.int .i64 (Iw c e0)]))∨
 (Iw c e0=0/\NR c (Du c.n.toNat (c.p.toNat^c.m.toNat))≠none/\r= .returned (.tuple #[.pointer none,.slice none 0 0,.slice none 0 0,.int .i64 (Yb c (Du c.n.toNat (c.p.toNat^c.m.toNat)))]))∨
 (Iw c e0=0/\NR c (Du c.n.toNat (c.p.toNat^c.m.toNat))=none/\∃(pn mn N b x0:Nat) (mv nv:Value),c.p=pn/\c.m=mn/\c.n=N/\1<=N/\N<=64/\N*(pn^mn-1)<=64/\r= .returned (.tuple #[.pointer (some (b,0)),mv,nv,(0:Int)])/\
   Bh w' b pn mn c.ml x0/\1<=x0/\x0<pn^mn/\OZ w' mv (C9 c (Du c.n.toNat (c.p.toNat^c.m.toNat)))/\Yg b0 w' nv (JO c (Du c.n.toNat (c.p.toNat^c.m.toNat)))))
theorem zbf{P:Prop}(h:P:=by
 clear aJ aA aH aG aF x3 x4 t0 t1 t2;go_wp2_with fail
 go_roundw
 case rel=>first|exact⟨k+1,_,_,rfl,by have:=aD.o;omega,by go_num,bG.o,HN⟩|((repeat apply Exists.intro);exact⟨⟨k+1,_,_,rfl,by have:=aD.o;omega,by go_num,bG.o,HN⟩,rfl⟩)
 case measure=>have:=aD.o;simp[intOf];omega):P:=h
theorem dp{P:Prop}(h:P:=by simp[results,Tryz.results63,go_sem]):P:=h
theorem I6(w:World)(c:AT)(m1 v1:Value)(hc:c.at w m1 v1):
  Calls Tryz.prog 63 #[c.arg m1 v1] w fun r w'=>RunO w.heap.size c r w'/\Ex w w':=by
 obtain⟨c0,c1,c2,c3,c4⟩:=CY w c m1 v1;have bR:=AI w (c.obj m1 v1);have aS:=Aa (hc.ex bR);obtain⟨x1,y1,bU,-,z1,-⟩:=hc.g.open;obtain⟨x3,y3,bT,-,z3,-⟩:=hc.m.open;unfold maxLen at z1 z3;have aP:=Aa (K6 (w.alloc (c.obj m1 v1)) c m1 v1 aS.o);have aR:=Aa (fun (w5:World) (h5:Ex (w.alloc (c.obj m1 v1)) w5) (g:Ca) (u r:Value) (hu:Al w5 u g.tl) (hr:Al w5 r g.sl)=>Vb w5 c c m1 m1 v1 v1 (aS.o.ex h5) (aS.o.ex h5) g.tl g.sl u r hu hr);obtain⟨B,hB⟩:=nA w.heap.size;rw[hB]at c0 c1 c2 c3 c4;have aM:=Aa bR;obtain⟨C,hC⟩:∃C:AT,C=c:=⟨_,rfl⟩;have cF:=Aa hC;have cB:=Aa (show ∀r w',RunO w.heap.size C r w'->RunO w.heap.size c r w' from fun r w' h=>by rw[<-hC];exact h);obtain⟨cp,cm,aL,cn,aX⟩:=c;unfold AT.arg at aP aR ⊢;unfold AT.obj at aM aP aS aR c0 c1 c2 c3 c4;dsimp only at aM aP aS aR c0 c1 c2 c3 c4 bU bT ⊢;rw[bU,bT]at aM aP aR c0 c1 c2 c3 c4 ⊢;rw[<-hC]at aP aR;clear hc bR hC bU bT aS;go_enter Tryz.func63,Tryz.ntmps63
 go_upto_region 1 with fail
 try simp only[hB]
 clear hB;generalize w.alloc (.cells #[cp,cm,.slice x3 aL.length y3,cn,.slice x1 aX.length y1] 39)=w1 at *;go_wp2_with fail
 refine aP.o.mono ?_;rintro e w2⟨⟨e0,cO,ho⟩,aB⟩;have aZ:=Aa aB;have bQ:=Aa cO;replace c0:=aB.cell c0;replace c1:=aB.cell c1;replace c2:=aB.cell c2;replace c3:=aB.cell c3;replace c4:=aB.cell c4;clear aB cO aP;obtain⟨OE,aK⟩:∃x,Iw C e0=x:=⟨_,rfl⟩;rw[aK]at ho;have bN:=Aa aK;rcases ho with⟨h0,ptr,d,rfl⟩|⟨h0,pn,mn,N,b,x0,hp,hm,hn,hN1,hN64,hD,rfl,hg,hx1,aB⟩
 .have hb:(OE !=0)=true:=by simpa using h0
  have H0:=Aa h0;clear h0 aK;go_wp2_with fail
  exact bodyPost_ret (v:= .tuple #[.pointer none,.slice none 0 0,.slice none 0 0,OE]) dp rfl ⟨cB.o _ _ ⟨e0,bQ.o,.inl ⟨by rw[bN.o];exact H0.o,by rw[bN.o]⟩⟩,aM.o.trans aZ.o⟩
 .subst h0;have eB:=Aa (show e0=0 from by
   unfold Iw at aK;split at aK
   .exact aK
   .omega)
  have dK:cn=(N:Int):=by have:=cF.o;rw[this]at hn;exact hn
  subst dK;obtain⟨bB,aO,HN,HG,cU⟩:=Of (show C.p=pn/\C.m=mn/\C.n=N from⟨hp,hm,hn⟩) (show Du C.n.toNat (C.p.toNat^C.m.toNat)=Du N (pn^mn) from by rw[hp,hm,hn];rfl) (show 1<=N/\N<=64/\N*(pn^mn-1)<=64 from⟨hN1,hN64,hD⟩) hg (show 1<=x0/\x0<pn^mn from⟨hx1,aB⟩);have cH:2<=pn^mn:=Nat.le_trans hg.sh.p2 (Nat.le_self_pow (by have:=hg.sh.m1;omega) pn);have bH:=hg.sh.q;have dB:=Aa (fun (w5:World) (h5:Ex w2 w5)=>Cs w5 (HG.o.ex h5));have bP:=Aa (fun (w5:World)=>Ng w5 N (pn^mn) hN64 ac bH);have cE:=Aa (show ∀(w5:World) (h5:Ex w1 w5) (g:Ca) (u r:Value),g∈Du N (pn^mn)->Al w5 u g.tl->Al w5 r g.sl->Calls Tryz.prog 122 #[.agg #[cp,cm,.slice x3 aL.length y3,N,.slice x1 aX.length y1],.agg #[cp,cm,.slice x3 aL.length y3,N,.slice x1 aX.length y1],.agg #[u,r]] w5 fun r' w'=>MoF w5.heap.size (gM C g) (gE C g) r' w'/\Ex w5 w' from fun w5 h5 g u r dJ hu hr=>by
   refine(aR.o w5 h5 g u r hu hr).mono ?_;rintro r' w'⟨⟨e1,e2,k1,k2,k3⟩,k4⟩;refine⟨?_,k4⟩;have hz:=eB.o;have aU:BI cp cm aL N aX 0:=by have h1:=bQ.o;rw[cF.o,hz]at h1;exact h1
   obtain rfl:e1=0:=BW k1 aU;obtain rfl:e2=0:=BW (k2 rfl) aU;have cI:=bB.o.1;have cJ:=bB.o.2.1;rw[cF.o]at cI cJ;have BC:Gd 0 0 (CA cp cm aL cp cm aL) N N g.tl g.sl (cp.toNat^cm.toNat)=0:=RZ (N:=N) rfl (q:=cp.toNat^cm.toNat) (by
    have h1:cp=pn:=cI;have h2:cm=mn:=cJ;rw[h1,h2];exact IF dJ)
   rw[BC]at k3;exact k3)
  obtain⟨q,hq⟩:=nA (pn^mn);have HQ:=Aa hq;rw[hq]at dB bP cE aO cH bH;have dV:=Aa bH;clear hp hm hn hN1 hN64 hD hg hx1 aB hq cH bH aR aK;obtain⟨GS,bY⟩:∃g,Du N q=g:=⟨_,rfl⟩;rw[bY]at cE aO bP;have dY:=Aa bY;obtain⟨LG,cT⟩:∃n,GS.length=n:=⟨_,rfl⟩;have aQ:=Aa cT;have dF:=Aa (fun (w5:World) (h5:Ex w2 w5)=>h5.cell c3);have eC:=Aa (fun (w5:World) (h5:Ex w2 w5)=>(⟨h5.cell c0,h5.cell c1,h5.cell c2,h5.cell c3,h5.cell c4⟩:w5.cell? (B,0)=some (.int .i64 cp)/\w5.cell? (B,1)=some (.int .i64 cm)/\w5.cell? (B,2)=some (.slice x3 aL.length y3)/\w5.cell? (B,3)=some (.int .i64 N)/\w5.cell? (B,4)=some (.slice x1 aX.length y1)));clear bY cT c0 c1 c2 c4;go_wp2_with fail
  clear c3;have G0:Ex w2 w2.drew:=(Ex.refl w2).drew
  go_cut [23,24,25] from 19 to 25 (fun gv lv zv wx=>∃ga gc,gv= .slice ga LG gc/\lv= .int .i64 LG/\zv= .int .i64 0/\Hia (Yg w2.heap.size wx gv GS)/\Hia (Ex w2 wx))
  case first=>
   go_region_held3 (fun w'=>w'.cell? (B,3)=some (.int .i64 N))
    (first|with_reducible exact dF.o _ X6|with_reducible exact dF.o _ G0)
    (first|(go_at_call 54;(with_reducible refine(dB.o _ G0).mono ?_);rintro e w5⟨rfl,rfl⟩)|(go_at_call 121;(with_reducible refine(bP.o _).mono ?_);rintro e w6⟨v6,cs6,rfl,bJ⟩;have X6:=G0.trans bJ.ex;have dS:=Aa (bJ.gsl.mono (show w2.heap.size<=w2.drew.heap.size from Nat.le_refl _));obtain⟨dM,dL,cG⟩:=Ae bJ.own;rw[aQ.o]at cG;subst cG;clear bJ))
   all_goals
    go_wp2_with fail
    go_meet
    exact⟨dM,dL,rfl,rfl,rfl,dS,Aa X6⟩
  case rest=>
   obtain⟨ga,gc,rfl,rfl,rfl,bI,bS⟩:=hcut;obtain⟨w3,h3⟩:∃x,x=wc:=⟨_,rfl⟩;rw[<-h3]at bI bS ⊢;have aY:=Aa bS.o;have HGL:=Aa bI.o;obtain⟨dN,gc',cN,g1,g2,g3⟩:=bI.o.open;have aT:dN=ga:=by injection cN with e1 e2 e3;exact e1.symm
   have eA:=Aa (show 0<LG->∃b o,ga=some ⟨b,o,none⟩/\∀(i:Nat) (l:Ca),GS[i]?=some l->∃u r,w3.cell? ⟨b,o+5*i,none⟩=some (.int .i64 l.i)/\w3.cell? ⟨b,o+(5*i+1),none⟩=some (.int .i64 l.j)/\w3.cell? ⟨b,o+(5*i+2),none⟩=some (.int .i64 l.a)/\w3.cell? ⟨b,o+(5*i+3),none⟩=some u/\w3.cell? ⟨b,o+(5*i+4),none⟩=some r/\Al w3 u l.tl/\Al w3 r l.sl/\(∀X,u.ownBlock=some X->w2.heap.size<=X)/\∀X,r.ownBlock=some X->w2.heap.size<=X from fun h=>by
    rw[<-aT];exact g3 (by rw[aQ.o];exact h))
   have dA:=Aa (Q3.nil w2.heap.size w3);have dC:=Aa (show LG<=1048576 from by rw[<-aQ.o,<-dY.o];have:=Oz N q HN.o.2.1 dV.o N;have:=HN.o.2.1;unfold Du;omega);clear bI bS g1 g2 g3 cN aT h3 G0 bP;go_wp2_with fail
   go_loopw [2,3,4,25] (fun pv mv nv k' wr=>∃(k:Nat) (cs ds:List (Value × Value)),pv= .pointer (some ⟨b,0,none⟩)/\k<=LG/\k'= .int .i64 k/\NR C (GS.take k)=none/\Hia (Q3 w2.heap.size w3 wr mv nv (C9 C (GS.take k)) cs (JO C (GS.take k)) ds)) (fun _ _ _ k' _=>LG-(intOf k').toNat)
   case atStart=>exact⟨0, [], [],rfl,ac,rfl,rfl,dA⟩
   case round=>
    clear dA;obtain⟨k,cs,ds,rfl,hk,rfl,aW,hr⟩:=hrel;obtain⟨ma,mc,rfl⟩:=Ae hr.o.mown;obtain⟨na,nc,rfl⟩:=Ae hr.o.nown;by_cases hkl:k<LG
    .obtain⟨gb,go,rfl,cK⟩:=eA.o ac;obtain⟨g,hg⟩:∃g,GS[k]?=some g:=⟨_,List.getElem?_eq_getElem (by rw[aQ.o];exact hkl)⟩;obtain⟨u,r,d0,d1,d2,d3,d4,hu,bW,cP,cQ⟩:=cK k g hg;have dG:=Aa cP;have dH:=Aa cQ;clear cP cQ;obtain⟨ua,uc,rfl,-,-,-⟩:=hu.open;obtain⟨ra,rc,rfl,-,-,-⟩:=bW.open;rw[AM]at d3;rw[BH]at d4;have HU:=Aa hu;have cA:=Aa bW;rw[AM]at HU dG;rw[BH]at cA dH;replace d0:=hr.o.ex.cell d0;replace d1:=hr.o.ex.cell d1;replace d2:=hr.o.ex.cell d2;replace d3:=hr.o.ex.cell d3;replace d4:=hr.o.ex.cell d4;obtain⟨HR,bE,bF,dZ⟩:=Eq hr.o hg aW (List.mem_of_getElem? hg);rw[show go+5*k=go+k*5 from ac]at d0;rw[show go+(5*k+1)=go+k*5+1 from ac]at d1;rw[show go+(5*k+2)=go+k*5+2 from ac]at d2;rw[show go+(5*k+3)=go+k*5+3 from ac]at d3;rw[show go+(5*k+4)=go+k*5+4 from ac]at d4;have i1:(0:Int)<=(k:Int):=by omega
     have i2:(k:Int)<(LG:Int):=ac;have aD:=Aa hkl;clear hr hg aW hu bW cK hkl;go_upto_region 7 with fail
     obtain⟨XB,aC⟩:∃x,wr.heap.size=x:=⟨_,rfl⟩;have x3:(wr.alloc (.cells #[g.i,g.j,g.a,.slice ua (g.i+1) uc,.slice ra (g.i+1) rc] 129)).cell? (XB,3)=some (.slice ua (g.i+1) uc):=dd;have x4:(wr.alloc (.cells #[g.i,g.j,g.a,.slice ua (g.i+1) uc,.slice ra (g.i+1) rc] 129)).cell? (XB,4)=some (.slice ra (g.i+1) rc):=dd;have aH:(wr.alloc (.cells #[g.i,g.j,g.a,.slice ua (g.i+1) uc,.slice ra (g.i+1) rc] 129)).cell? (XB,0)=some (.int .i64 g.i):=dd;have aG:(wr.alloc (.cells #[g.i,g.j,g.a,.slice ua (g.i+1) uc,.slice ra (g.i+1) rc] 129)).cell? (XB,1)=some (.int .i64 g.j):=dd;have aF:(wr.alloc (.cells #[g.i,g.j,g.a,.slice ua (g.i+1) uc,.slice ra (g.i+1) rc] 129)).cell? (XB,2)=some (.int .i64 g.a):=dd;have aN:=Aa (show Ex wr (wr.alloc (.cells #[g.i,g.j,g.a,.slice ua (g.i+1) uc,.slice ra (g.i+1) rc] 129)) from(Ex.refl wr).alloc _)
     try simp only[aC]
     have HXB:=Aa aC;clear aC d0 d1 d2 d3 d4 i1 i2;generalize wr.alloc (.cells #[g.i,g.j,g.a,.slice ua (g.i+1) uc,.slice ra (g.i+1) rc] 129)=w5 at *;obtain⟨c0,c1,c2,c3,c4⟩:=eC.o w5 (aY.o.trans (HR.o.ex.trans aN.o));have cD:=Aa (cE.o w5 (aZ.o.trans (aY.o.trans (HR.o.ex.trans aN.o))) g _ _ dZ.o (HU.o.ex (HR.o.ex.trans aN.o)) (cA.o.ex (HR.o.ex.trans aN.o)));obtain⟨EE,bZ⟩:∃x,gE C g=x:=⟨_,rfl⟩;rw[bZ]at cD;have aE:=Aa bZ;go_wp2_with fail
     refine cD.o.mono ?_;rintro e w6⟨⟨u6,r6,rfl,bV,bX,cM,cL⟩,aI⟩;rw[Tq];obtain⟨cW,cZ,dE,dD⟩:=Eq bV bX cM cL;obtain⟨a6,b6,rfl,-,-,-⟩:=bV.open;obtain⟨a7,b7,rfl,-,-,-⟩:=bX.open;obtain⟨LP,cS⟩:∃x,(gM C g).perm.length=x:=⟨_,rfl⟩;obtain⟨LS,cR⟩:∃x,(gM C g).scale.length=x:=⟨_,rfl⟩;rw[cS]at cW dE ⊢;rw[cR]at cZ dD ⊢;have dO:=Aa (aN.o.trans aI);replace aH:=aI.cell aH;replace aG:=aI.cell aG;replace aF:=aI.cell aF;replace x3:=aI.cell x3;replace x4:=aI.cell x4;obtain⟨t0,t1,t2,et⟩:=Bd w6 (.slice a6 LP b6) (.slice a7 LS b7) 0;obtain⟨TB,bK⟩:∃x,w6.heap.size=x:=⟨_,rfl⟩;rw[bK]at t0 t1 t2;have cV:=Aa (dO.o.trans et);replace aH:=et.cell aH;replace aG:=et.cell aG;replace aF:=et.cell aF;replace x3:=et.cell x3;replace x4:=et.cell x4;have dP:=Aa (cW.o.ex et);have dU:=Aa (cZ.o.ex et);have HTB:=Aa bK;clear bV bX cM cL cS cR aI et cD bZ c0 c1 c2 c3 c4;go_upto_region 8 with fail
     try simp only[bK]
     clear bK;generalize w6.alloc (.cells #[.slice a6 LP b6,.slice a7 LS b7,(0:Int)] 26)=w7 at *;obtain⟨LM,bM⟩:∃x,(C9 C (GS.take k)).length=x:=⟨_,rfl⟩;obtain⟨LN,bL⟩:∃x,(JO C (GS.take k)).length=x:=⟨_,rfl⟩;have bO:=Aa (show LM<=1048576/\LN<=1048576 from by
      have hkk:=aD.o;have hl:=dC.o;constructor
      .rw[<-bM];unfold C9;rw[List.length_map];exact Nat.le_trans (List.length_filter_le _ _) bn
      .rw[<-bL];unfold JO;exact Nat.le_trans (List.length_filter_le _ _) bn)
     rw[bM,bL]at HR ⊢;have bD:=Aa bM;have bC:=Aa bL;have bA:=Aa (HR.o.later cV.o);have hk64:k<=1048576:=by have:=aD.o;have:=dC.o;omega
     have dI:=Aa (show(∀c:Value,(∀X,c.ownBlock=some X->w5.heap.size<=X)->AR c (.slice ma LM mc)/\AR c (.slice na LN nc)) from fun c hc=>
      ⟨GU hc fun X e=>Nat.lt_of_lt_of_le (HR.o.mown.lt X e).2 aN.o.size,GU hc fun X e=>Nat.lt_of_lt_of_le (HR.o.nown.lt X e).2 aN.o.size⟩)
     have cX:=Aa bA.o.ex.size;clear bM bL;by_cases h0:EE=0
     .subst h0;have HM:=Aa (YM bE.o aE.o);have bG:=Aa (VJ bE.o bF.o (.inl aE.o));have cC:=Aa (show w7.ownsRow w3.heap.size 26 3 (.slice ma LM mc) LM (UH (C9 C (GS.take k)) cs) from by have:=bA.o.mown;rwa[bD.o]at this);go_wp2_with (at_builtin;refine Am _ rfl _ _ 68 rfl w3.heap.size 26 (.agg #[.slice none 0 0,.slice none 0 0,(0:Int)]) 3 56 Tryz.underlying68 WO rfl ae _ LM _ rfl cC.o [.slice a6 LP b6,.slice a7 LS b7,.int .i64 0] 26 _ rfl ag rfl aj (by have:=bO.o.1;unfold maxLen;omega) (by have:=bO.o.1;omega) cX.o ?_)
      intro v8 w8 aJ;have aA:Bv w7 w8 w3.heap.size 26 3 (.slice ma LM mc) v8 (C9 C (GS.take k)).length (UH (C9 C (GS.take k)) cs) [.slice a6 LP b6,.slice a7 LS b7,.int .i64 (gM C g).frob]:=by rw[Tq,bD.o];exact aJ
      have HN:=Aa (bA.o.appM dP.o dU.o (dI.o _ dE.o) (dI.o _ dD.o) aA);rw[<-HM.o.1,<-HM.o.2]at HN;obtain⟨ma8,mc8,rfl⟩:=Ae aJ.own;exact zbf
     .by_cases h11:EE=11
      .subst h11;have HM:=Aa (YL bE.o aE.o);have bG:=Aa (VJ bE.o bF.o (.inr aE.o));have cC:=Aa (show w7.ownsRow w3.heap.size 129 5 (.slice na LN nc) LN (FE (JO C (GS.take k)) ds) from by have:=bA.o.nown;rwa[bC.o]at this);clear h0;go_wp2_with (at_builtin;refine Am _ rfl _ _ 109 rfl w3.heap.size 129 (.agg #[(0:Int),(0:Int),(0:Int),.slice none 0 0,.slice none 0 0]) 5 72 Tryz.underlying109 Qh rfl ae _ LN _ rfl cC.o [.int .i64 (g.i:Int),.int .i64 (g.j:Int),.int .i64 (g.a:Int),.slice ua (g.i+1) uc,.slice ra (g.i+1) rc] 129 _ rfl ag rfl aj (by have:=bO.o.2;unfold maxLen;omega) (by have:=bO.o.2;omega) cX.o ?_)
       intro v8 w8 aJ;have aA:Bv w7 w8 w3.heap.size 129 5 (.slice na LN nc) v8 (JO C (GS.take k)).length (FE (JO C (GS.take k)) ds) [.int .i64 (g.i:Int),.int .i64 (g.j:Int),.int .i64 (g.a:Int),.slice ua (g.i+1) uc,.slice ra (g.i+1) rc]:=by rw[bC.o];exact aJ
       have HN:=Aa (bA.o.appN HU.o cA.o dG.o dH.o aA);rw[<-HM.o.1,<-HM.o.2]at HN;obtain⟨na8,nc8,rfl⟩:=Ae aJ.own;exact zbf
      .have k0:(EE==0)=false:=by simpa using h0
       have k11:(EE==11)=false:=by simpa using h11
       have cY:=Aa (YN bE.o bF.o (by rw[aE.o];exact h0) (by rw[aE.o];exact h11));have dT:=Aa (show NR C GS≠none from fun hn=>by
        have h1:=cY.o;unfold Yb at h1;rw[hn,aE.o]at h1;exact h0 h1.symm)
       clear h0 h11 aH aG aF x3 x4 t0 t1 t2;go_wp2_with fail
       exact bodyPost_ret (v:= .tuple #[.pointer none,.slice none 0 0,.slice none 0 0,EE]) dp rfl ⟨cB.o _ _ ⟨e0,bQ.o,.inr (.inl ⟨bN.o,by rw[aO.o];exact dT.o,by rw[aO.o,cY.o,aE.o]⟩)⟩,aM.o.trans (aZ.o.trans (aY.o.trans (HR.o.ex.trans cV.o)))⟩
    .obtain rfl:LG=k:=by omega
     have aV:NR C GS=none:=by rw[<-aQ.o,List.take_length]at aW;exact aW
     obtain⟨HR,dX,dW,dR,dQ,bF⟩:=To hr.o hr.o.msl hr.o.nsl (show C9 C GS=C9 C (GS.take LG) from by rw[<-aQ.o,List.take_length]) (show JO C GS=JO C (GS.take LG) from by rw[<-aQ.o,List.take_length]) aV;clear hr aW aV;go_wp2_with fail
     exact bodyPost_ret (v:= .tuple #[.pointer (some ⟨b,0,none⟩),.slice ma (C9 C (GS.take LG)).length mc,.slice na (JO C (GS.take LG)).length nc,(0:Int)]) dp rfl ⟨cB.o _ _ ⟨e0,bQ.o,.inr (.inr ⟨bN.o,by rw[aO.o];exact bF.o,pn,mn,N,b,x0,_,_,bB.o.1,bB.o.2.1,bB.o.2.2,HN.o.1,HN.o.2.1,HN.o.2.2,rfl,HG.o.ex (aY.o.trans HR.o.ex),cU.o.1,cU.o.2,by rw[aO.o,dR.o];exact dX.o,by rw[aO.o,dQ.o];exact dW.o.mono (Nat.le_trans aM.o.size aZ.o.size)⟩)⟩,aM.o.trans (aZ.o.trans (aY.o.trans HR.o.ex))⟩
def Er(p m:Nat)(ml:List Int)(Ms:List CW):List (List Int):=Ms.map fun M=>Gi p m ml M.perm M.scale
def My(N:Nat)(M:CW):Prop:=M.perm.length=N/\M.scale.length=N/\BB M.perm N=true
theorem LZ{n:Int}{rows:List (List Int)}{l:Lv}(h:l∈(Dd n rows).1.lev):2<=l.orb.length/\2<=l.reps.length/\∀r∈l.reps,2<=r.length:=by
 unfold Dd at h;split at h
 .cases h
 .exact QM h
theorem boxCn(w:World):(w.alloc (.cells #[(0:Int),.slice none 0 0] 43)).cell? (w.heap.size,0)=some (.int .i64 0)/\(w.alloc (.cells #[(0:Int),.slice none 0 0] 43)).cell? (w.heap.size,1)=some (.slice none 0 0)/\
  (∀j,2<=j->(w.alloc (.cells #[(0:Int),.slice none 0 0] 43)).cell? ⟨w.heap.size,j,none⟩=none)/\(w.alloc (.cells #[(0:Int),.slice none 0 0] 43)).frozen? (w.heap.size,0)=false/\(w.alloc (.cells #[(0:Int),.slice none 0 0] 43)).frozen? (w.heap.size,1)=false:=
 ⟨ag,ag,fun j hj=>by
  obtain⟨i,rfl⟩:∃i,j=i+2:=⟨j-2,ac⟩;simp,ag,ag⟩
structure BxN(w:World)(b:Nat):Prop where
 c0:w.cell? (b,0)=some (.int .i64 0)
 c1:w.cell? (b,1)=some (.slice none 0 0)
 c2:∀j,2<=j->w.cell? ⟨b,j,none⟩=none
 f0:w.frozen? (b,0)=false
 f1:w.frozen? (b,1)=false
theorem BxN.new(w:World):BxN (w.alloc (.cells #[(0:Int),.slice none 0 0] 43)) w.heap.size:=by
 obtain⟨a,b,c,d,e⟩:=boxCn w;exact⟨a,b,c,d,e⟩
theorem BxN.ex{w w':World}{b:Nat}(h:BxN w b)(hx:Ex w w'):BxN w' b:=⟨hx.cell h.c0,hx.cell h.c1,fun j hj=>(Below.cell hx (show(⟨b,j,none⟩:Addr).block<w.heap.size from(World.block_lt_of_cell? _ (⟨b,0,none⟩:Addr) h.c0:b<w.heap.size))).trans (h.c2 j hj),hx.frz h.c0 h.f0,hx.frz h.c1 h.f1⟩
theorem J9{w0 w:World}{q:Nat}(hx:Ex w0 w)(hq:w0.heap.size<=q)(u v:Value):Ex w0 ((w.setCell (q,0) u).setCell (q,1) v):=(hx.setCell (p:=⟨q,0,none⟩) hq _).setCell (p:=⟨q,1,none⟩) hq _
section
variable {b p m x0:Nat} {ml:List Int}
theorem JT(w:World)(hg:Bh w b p m ml x0)(N:Nat)(hN:N<=64)(hd:N*(p^m-1)<=64)(Ms:List CW)(mv:Value)(hM:OZ w mv Ms)(aF:∀M∈Ms,My N M)(aG:Ms.length<=1000):
  Calls Tryz.prog 64 #[.pointer (some (b,0)),N,mv] w fun r w'=>BldR ((N*(p^m-1):Nat):Int) (Er p m ml Ms) r w'/\Ex w w':=by
 have bJ:=Aa (BxN.new w);have aU:=Aa (fun (w1:World) (h:Ex w w1) (M:CW) (hM:M∈Ms) (u v:Value) (hu:Al w1 u M.perm) (hv:Al w1 v M.scale)=>RK w1 (hg.ex h) N hN M.perm M.scale u v hu hv (aF M hM).1 (aF M hM).2.1 (aF M hM).2.2 hd M.frob);have bL:2<=p^m:=Nat.le_trans hg.sh.p2 (Nat.le_self_pow (by have:=hg.sh.m1;omega) p);have bK:=hg.sh.q;have bE:=Aa (fun w1 (h:Ex w w1)=>Cs w1 (hg.ex h));have bW:=Aa (fun (M:CW) (hM:M∈Ms)=>(show Gi p m ml M.perm M.scale=il (N*(p^m-1)) (O7 p m ml M.perm M.scale) from by unfold Gi;rw[(aF M hM).1]));obtain⟨GL,aM⟩:∃g,Er p m ml Ms=g:=⟨_,rfl⟩;have aX:=Aa (show ∀k (M:CW),Ms[k]?=some M->GL.take (k+1)=GL.take k ++ [il (N*(p^m-1)) (O7 p m ml M.perm M.scale)] from fun k M h=>by
  rw[<-aM,<-bW.o M (List.mem_of_getElem? h)];exact Ez (by unfold Er;rw[List.getElem?_map,h];rfl))
 have aV:=Aa (show GL.length=Ms.length from by rw[<-aM];unfold Er;rw[List.length_map]);rw[aM];have HM:=Aa hM;obtain⟨q,hq⟩:=nA (p^m);rw[hq]at bE aU aX bL bK hd ⊢;obtain⟨D,hD⟩:=nA (N*(q-1));have kD:(N:Int)*((q:Int)-1)=(D:Int):=by rw[<-hD,Int.natCast_mul,Int.natCast_sub ac];rfl
 rw[hD]at aU aX hd ⊢;obtain⟨ma,mc,rfl,z1,z2,m3⟩:=hM.open;unfold maxLen at z2;have M3:=Aa m3;obtain⟨LM,aS⟩:∃n,Ms.length=n:=⟨_,rfl⟩;rw[aS]at HM M3 aV z1 aG ⊢;have bS:=Aa aS;have bV:=Aa kD;clear hg hM aF m3 aS aM hD hq kD;go_enter Tryz.func64,Tryz.ntmps64
 go_upto_region 1 with fail
 obtain⟨RB,aL⟩:∃x,w.heap.size=x:=⟨_,rfl⟩;rw[aL]at bJ;have aT:=Aa (show Ex w (w.alloc (.cells #[(0:Int),.slice none 0 0] 43)) from(Ex.refl w).alloc _)
 try simp only[aL]
 have bQ:=Aa aL;clear aL;generalize w.alloc (.cells #[(0:Int),.slice none 0 0] 43)=w1 at *;have bD:=Aa (BD.nil w1 w1.heap.size);go_wp2_with fail
 go_loopw [8,13] (fun gv k' wr=>∃(k:Nat) (vals:List Value),k<=LM/\k'= .int .i64 k/\Hia (BD wr w1.heap.size gv (GL.take k) vals)/\Hia (Ex w1 wr)) (fun _ k' _=>LM-(intOf k').toNat)
 case atStart=>exact⟨0, [],ac,rfl,bD,Ex.refl _⟩
 case round=>
  clear bD;obtain⟨k,vals,hk,rfl,hr,hx⟩:=hrel;obtain⟨ga,gc,rfl⟩:=Ae hr.o.cvo;by_cases hkl:k<LM
  .obtain⟨mb,mo,rfl,aY⟩:=M3.o ac;obtain⟨M,hM⟩:∃M,Ms[k]?=some M:=⟨_,List.getElem?_eq_getElem (by rw[bS.o];exact hkl)⟩;obtain⟨u,r,d0,d1,d2,hu,aQ⟩:=aY k M hM;obtain⟨ua,uc,rfl,-,-,-⟩:=hu.open;obtain⟨ra,rc,rfl,-,-,-⟩:=aQ.open;have aE:=Aa (aT.o.trans hx.o);replace d0:=aE.o.cell d0;replace d1:=aE.o.cell d1;replace d2:=aE.o.cell d2;rw[show mo+3*k=mo+k*3 from ac]at d0;rw[show mo+(3*k+1)=mo+k*3+1 from ac]at d1;rw[show mo+(3*k+2)=mo+k*3+2 from ac]at d2;have HU:=Aa (hu.ex aE.o);have bC:=Aa (aQ.ex aE.o);obtain⟨LP,bA⟩:∃x,M.perm.length=x:=⟨_,rfl⟩;obtain⟨LS,aZ⟩:∃x,M.scale.length=x:=⟨_,rfl⟩;rw[bA]at d0 HU;rw[aZ]at d1 bC;have HR:=Aa hr.o;have HX:=Aa hx.o;have bG:=Aa hM;have i1:(0:Int)<=(k:Int):=by omega
   have i2:(k:Int)<(LM:Int):=ac;have aW:=Aa hkl;obtain⟨TB,aK⟩:∃x,wr.heap.size=x:=⟨_,rfl⟩;obtain⟨t0,t1,t2,et⟩:=Bd wr (.slice ua LP uc) (.slice ra LS rc) M.frob;rw[aK]at t0 t1 t2;have aD:=Aa et;clear hr hx hM hu aQ aY hkl bA aZ et;go_upto_region 5 with fail
   try simp only[aK]
   have HTB:=Aa aK;clear aK d0 d1 d2 i1 i2;generalize wr.alloc (.cells #[.slice ua LP uc,.slice ra LS rc,M.frob] 26)=w5 at *;have aO:=Aa (aU.o w5 (aE.o.trans aD.o) M (List.mem_of_getElem? bG.o) _ _ (HU.o.ex aD.o) (bC.o.ex aD.o));go_wp2_with fail
   refine aO.o.mono ?_;rintro e w6⟨v6,rfl,aR,aB⟩;have bF:=Aa aR;obtain⟨va,vc,rfl⟩:=Ae aR;have aC:=Aa (aD.o.trans aB);obtain⟨LG,aA⟩:∃x,(GL.take k).length=x:=⟨_,rfl⟩;have bT:=Aa aA;have bH:=Aa (show LG<=1000 from by rw[<-aA,List.length_take];omega);rw[aA]at HR ⊢;have bR:=Aa (show w6.ownsRow w1.heap.size 22 1 (.slice ga LG gc) LG vals from by have:=(HR.o.ex aC.o).cvo;rwa[aA]at this);have bP:=Aa (HX.o.trans aC.o).size;have hkb:k<=1000:=by omega
   clear aR aB t0 t1 t2 aO aA;go_wp2_with (at_builtin;refine Am _ rfl _ _ 37 rfl w1.heap.size 22 (.slice none 0 0) 1 24 Tryz.underlying37 BU rfl ae _ LG vals rfl bR.o [.slice va D vc] 22 _ rfl ag rfl aj (by have:=bH.o;unfold maxLen;omega) (by have:=bH.o;omega) bP.o ?_)
   intro v8 w8 aJ;have aH:Bv w6 w8 w1.heap.size 22 1 (.slice ga LG gc) v8 (GL.take k).length vals [.slice va D vc]:=by rw[bT.o];exact aJ
   have HN:=Aa ((HR.o.ex aC.o).app (L:=il D (O7 p m ml M.perm M.scale)) (by rw[An,Cu];exact FS bF.o (Nat.le_trans HX.o.size aD.o.size)) (GU (fun X e=>Nat.le_trans aD.o.size (bF.o.lt X e).1) (fun X e=>(HR.o.cvo.lt X e).2)) aH);rw[<-aX.o k M bG.o]at HN;have bB:=Aa (aJ.ex (HX.o.trans aC.o) (Nat.le_refl _));obtain⟨ga8,gc8,rfl⟩:=Ae aJ.own;clear aJ aH;go_wp2_with fail
   go_roundw
   case rel=>first|exact⟨k+1,_,by have:=aW.o;omega,by go_num,HN,bB⟩|((repeat apply Exists.intro);exact⟨⟨k+1,_,by have:=aW.o;omega,by go_num,HN,bB⟩,rfl⟩)
   case measure=>have:=aW.o;simp[intOf];omega
  .obtain rfl:LM=k:=by omega
   have bO:=Aa (show GL.take LM=GL from List.take_of_length_le (by rw[aV.o];exact Nat.le_refl _));rw[bO.o]at hr ⊢;obtain⟨HX,HMS,bI,aO⟩:=Eq hx.o hr.o.msl (ND wr (D:Int) GL _ hr.o.msl (by rw[aV.o];exact aG)) (bE.o wr (aT.o.trans hx.o));have k3:=bV.o;obtain⟨BS,aN⟩:∃x,Dd (D:Int) GL=x:=⟨_,rfl⟩;have bX:=Aa aN;obtain⟨⟨bd,bl⟩,be⟩:=BS;have aI:=Aa (show Calls Tryz.prog 123 #[(D:Int),.slice ga GL.length gc] wr fun r w'=>(∃v,r= .returned (.tuple #[.agg #[bd,v],be])/\DX w' v bl)/\Ex wr w' from bI.o.mono (by
    rintro r w'⟨⟨v,h1,h2⟩,h3⟩;rw[aN]at h1 h2;exact⟨⟨v,h1,h2⟩,h3⟩))
   have bY:=Aa (show ∀l∈bl,2<=l.orb.length/\2<=l.reps.length/\∀r∈l.reps,2<=r.length from fun l hl=>LZ (n:=(D:Int)) (rows:=GL) (by rw[aN];exact hl));obtain⟨LG,aA⟩:∃x,GL.length=x:=⟨_,rfl⟩;rw[aA]at aI ⊢;have HQ:=Aa (bJ.o.ex hx.o);clear hr hx bI aN aA;go_wp2_with (first|(go_at_call 54;refine aO.o.mono ?_;rintro e w5⟨rfl,rfl⟩)|(go_at_call 123;refine aI.o.mono ?_;rintro e w6⟨⟨v6,rfl,aP⟩,aB⟩;obtain⟨la,lc,bM,_,_,_⟩:=aP.open;subst bM;obtain⟨q0,q1,q2,qf0,qf1⟩:=HQ.o.ex aB;have bN:=Aa aP;have aC:=Aa aB;clear aP aB))
   have bU:=Aa (bN.o.set2 q0 q1 q2 bY.o (.int .i64 bd) (.slice la bl.length lc));exact bodyPost_ret (v:= .tuple #[.agg #[bd,.slice la bl.length lc],be]) (by simp[results,Tryz.results64,go_sem,q0,q1]) rfl ⟨Ko bX.o bU.o,J9 (aT.o.trans (HX.o.trans aC.o)) (Nat.le_of_eq bQ.o) _ _⟩
end
def AD(c:AT):List Ca:=Du c.n.toNat (c.p.toNat^c.m.toNat)
def El(c:AT):Nat:=c.n.toNat*(c.p.toNat^c.m.toNat-1)
theorem Pz{c:AT}{gs:List Ca}(h:NR c gs=none):Yb c gs=0:=by unfold Yb;rw[h]
theorem rnE_ne{c:AT}{gs:List Ca}(h:NR c gs≠none):Yb c gs≠0:=by
 unfold Yb
 cases hb:NR c gs with
 | none=>exact absurd hb h
 | some g=>
  unfold NR at hb;have:=List.find?_some hb;intro e;have e2:gE c g=0:=e;simp[e2]at this
def J4(c:AT)(e0:Int):Int:=if Iw c e0≠0 then Iw c e0 else Yb c (AD c)
def GrO(c:AT)(r:Ending)(w':World):Prop:=∃e0:Int,BI c.p c.m c.ml c.n c.rows e0/\
 ((J4 c e0≠0/\r= .returned (.tuple #[.agg #[(0:Int),.slice none 0 0],.int .i64 (J4 c e0)]))∨(J4 c e0=0/\BldR (El c:Int) (Er c.p.toNat c.m.toNat c.ml (C9 c (AD c))) r w'))
def RnO(b0:Nat)(c:AT)(r:Ending)(w':World):Prop:=∃e0:Int,BI c.p c.m c.ml c.n c.rows e0/\
 ((J4 c e0≠0/\r= .returned (.tuple #[.pointer none,.slice none 0 0,.slice none 0 0,.int .i64 (J4 c e0)]))∨
 (J4 c e0=0/\NR c (AD c)=none/\∃(pn mn N b x0:Nat) (mv nv:Value),c.p=pn/\c.m=mn/\c.n=N/\1<=N/\N<=64/\N*(pn^mn-1)<=64/\r= .returned (.tuple #[.pointer (some (b,0)),mv,nv,(0:Int)])/\
   Bh w' b pn mn c.ml x0/\1<=x0/\x0<pn^mn/\OZ w' mv (C9 c (AD c))/\Yg b0 w' nv (JO c (AD c))))
theorem Rl{b0:Nat}{c:AT}{r:Ending}{w':World}(h:RunO b0 c r w'):RnO b0 c r w':=by
 obtain⟨e0,h1,h2|⟨h2,h3,h4⟩|⟨h2,h3,h4⟩⟩:=h
 .have:J4 c e0=Iw c e0:=by unfold J4;rw[if_pos h2.1]
  exact⟨e0,h1,.inl ⟨by rw[this];exact h2.1,by rw[this];exact h2.2⟩⟩
 .have:J4 c e0=Yb c (AD c):=by unfold J4;rw[if_neg (by rw[h2];simp)]
  exact⟨e0,h1,.inl ⟨by rw[this];exact rnE_ne h3,by rw[this];exact h4⟩⟩
 .have:J4 c e0=0:=by unfold J4;rw[if_neg (by rw[h2];simp)];exact Pz h3
  exact⟨e0,h1,.inr ⟨this,h3,h4⟩⟩
theorem JY(w:World)(c:AT)(m1 v1:Value)(hc:c.at w m1 v1)(aC:(C9 c (AD c)).length<=1000)(aO:∀M∈C9 c (AD c),My c.n.toNat M):
  Calls Tryz.prog 22 #[c.arg m1 v1] w fun r w'=>GrO c r w'/\Ex w w':=by
 obtain⟨c0,c1,c2,c3,c4⟩:=CY w c m1 v1;have aJ:=AI w (c.obj m1 v1);obtain⟨x1,y1,aN,-,z1,-⟩:=hc.g.open;obtain⟨x3,y3,aM,-,z3,-⟩:=hc.m.open;unfold maxLen at z1 z3;obtain⟨B,hB⟩:=nA w.heap.size;have aW:(w.alloc (c.obj m1 v1)).heap.size=B+1:=by simp[hB]
 have aF:=BxN.new (w.alloc (c.obj m1 v1));have aB:Ex (w.alloc (c.obj m1 v1)) ((w.alloc (c.obj m1 v1)).alloc (.cells #[(0:Int),.slice none 0 0] 43)):=(Ex.refl _).alloc _;have aD:=Aa (I6 ((w.alloc (c.obj m1 v1)).alloc (.cells #[(0:Int),.slice none 0 0] 43)) c m1 v1 (hc.ex (aJ.trans aB)));rw[aW]at aF;rw[hB]at c0 c1 c2 c3 c4;replace c0:=aB.cell c0;replace c1:=aB.cell c1;replace c2:=aB.cell c2;replace c3:=aB.cell c3;replace c4:=aB.cell c4;have aG:=Aa (aJ.trans aB);have aH:=Aa aF;obtain⟨C,hC⟩:∃C:AT,C=c:=⟨_,rfl⟩;have bN:=Aa hC;have aY:=Aa (show ∀r w',GrO C r w'->GrO c r w' from fun r w' h=>by rw[<-hC];exact h);rw[<-hC]at aC aO;obtain⟨cp,cm,bG,cn,bF⟩:=c;unfold AT.arg at aD ⊢;unfold AT.obj at aG aD aH c0 c1 c2 c3 c4;dsimp only at aG aD aH c0 c1 c2 c3 c4 aN aM ⊢;rw[aN,aM]at aG aD aH c0 c1 c2 c3 c4 ⊢;rw[<-hC]at aD;have bL:=Aa aC;have bK:=Aa aO;clear hc aJ hC aN aM aB aF aW aC aO;have aZ:=Aa (show w.heap.size<=B+1 from ac);go_enter Tryz.func22,Tryz.ntmps22
 go_upto_region 1 with fail
 try simp only[hB]
 clear hB;generalize (w.alloc (.cells #[cp,cm,.slice x3 bG.length y3,cn,.slice x1 bF.length y1] 39)).alloc (.cells #[(0:Int),.slice none 0 0] 43)=w1 at *;go_wp2_with fail
 refine aD.o.mono ?_;rintro e w2⟨aE,aA⟩;have aR:=Aa aA;obtain⟨e0,aX,ho⟩:=Rl aE;have bC:=Aa aX;replace c0:=aA.cell c0;replace c1:=aA.cell c1;replace c2:=aA.cell c2;replace c3:=aA.cell c3;replace c4:=aA.cell c4;obtain⟨q0,q1,q2,aV,aU⟩:=aH.o.ex aA;obtain⟨GE,aQ⟩:∃x,J4 C e0=x:=⟨_,rfl⟩;rw[aQ]at ho;have aS:=Aa aQ;clear aE aA aX aD aQ;rcases ho with⟨h0,rfl⟩|⟨h0,aF,pn,mn,N,b,x0,mv,nv,hp,hm,hn,hN1,hN64,hD,rfl,hg,hx1,aA,hms,hns⟩
 .have hb:(GE !=0)=true:=by simpa using h0
  have H0:=Aa h0;clear h0;go_wp2_with fail
  exact bodyPost_ret (v:= .tuple #[.agg #[(0:Int),.slice none 0 0],GE]) (by simp[results,Tryz.results22,go_sem,q0,q1]) rfl ⟨aY.o _ _ ⟨e0,bC.o,.inl ⟨by rw[aS.o];exact H0.o,by rw[aS.o]⟩⟩,J9 (aG.o.trans aR.o) aZ.o _ _⟩
 .subst h0;have bE:cn=(N:Int):=by have:=bN.o;rw[this]at hn;exact hn
  subst bE;have bB:=Aa (show El C=N*(pn^mn-1)/\Er C.p.toNat C.m.toNat C.ml (C9 C (AD C))=Er pn mn C.ml (C9 C (AD C)) from by unfold El;rw[hp,hm,hn];exact⟨rfl,rfl⟩);have bJ:=Aa (show C.n.toNat=N from by rw[hn];rfl);have bA:=Aa (JT w2 hg N hN64 hD (C9 C (AD C)) mv hms (fun M hM=>by have:=bK.o M hM;rwa[bJ.o]at this) bL.o);obtain⟨ma,mc,rfl,-,-,-⟩:=hms.open;obtain⟨na,nc,rfl,-,-,-⟩:=hns.open;obtain⟨BS,aI⟩:∃x,Dd ((N*(pn^mn-1):Nat):Int) (Er pn mn C.ml (C9 C (AD C)))=x:=⟨_,rfl⟩;have bO:=Aa aI;obtain⟨⟨bd,bl⟩,be⟩:=BS;obtain⟨LM,aP⟩:∃x,(C9 C (AD C)).length=x:=⟨_,rfl⟩;have aT:=Aa (show Calls Tryz.prog 64 #[.pointer (some ⟨b,0,none⟩),(N:Int),.slice ma LM mc] w2 fun r w'=>(∃v,r= .returned (.tuple #[.agg #[bd,v],be])/\DX w' v bl)/\Ex w2 w' from by
   rw[<-aP];exact bA.o.mono (by
    rintro r w'⟨⟨v,h1,h2⟩,h3⟩;rw[aI]at h1 h2;exact⟨⟨v,h1,h2⟩,h3⟩))
  have bP:=Aa (show ∀l∈bl,2<=l.orb.length/\2<=l.reps.length/\∀r∈l.reps,2<=r.length from fun l hl=>LZ (n:=((N*(pn^mn-1):Nat):Int)) (rows:=Er pn mn C.ml (C9 C (AD C))) (by rw[aI];exact hl));rw[aP];clear aF hp hm hn hN1 hN64 hD hg hx1 aA hms hns aI aP bA;go_wp2_with (go_at_call 64;refine aT.o.mono ?_;rintro e w6⟨⟨v6,rfl,aL⟩,aK⟩;obtain⟨la,lc,bD,_,_,_⟩:=aL.open;subst bD;clear q0 q1 q2 aV aU;obtain⟨q0,q1,q2,aV,aU⟩:=aH.o.ex (aR.o.trans aK);have bI:=Aa aL;have bH:=Aa aK;clear aL aK)
  have bM:=Aa (bI.o.set2 q0 q1 q2 bP.o (.int .i64 bd) (.slice la bl.length lc));exact bodyPost_ret (v:= .tuple #[.agg #[bd,.slice la bl.length lc],be]) (by simp[results,Tryz.results22,go_sem,q0,q1]) rfl ⟨aY.o _ _ ⟨e0,bC.o,.inr ⟨aS.o,by rw[bB.o.1,bB.o.2];exact Ko bO.o bM.o⟩⟩,J9 (aG.o.trans (aR.o.trans bH.o)) aZ.o _ _⟩
theorem V7(p m:Int):0<=CG p m/\CG p m<=256:=by
 unfold CG;split
 .rename_i h;have:0<=p^m.toNat:=Int.pow_nonneg ac;exact⟨this,h.2.2.2⟩
 .omega
theorem smK_le{N q i k:Nat}(h:i<=k):(KB N q i).2<=(KB N q k).2:=by
 induction k with
 | zero=>
   obtain rfl:i=0:=ac;exact Nat.le_refl _
 | succ k ih=>
  by_cases e:i=k+1
  .rw[e];exact Nat.le_refl _
  .refine Nat.le_trans (ih ac) ?_;show _<=(KB N q k).2+_
   omega
theorem YG{N q:Nat}:∀i,(KB N q i).1<=(KB N q i).2
 | 0=>Nat.le_refl _
 | i+1=>by
  show(KB N q i).1*((N-i)*max 1 (q-1))<=(KB N q i).2+(KB N q i).1*((N-i)*max 1 (q-1))
  omega
theorem Rr(w:World)(c:AT)(m1 v1:Value)(hc:c.at w m1 v1):
  Calls Tryz.prog 62 #[c.arg m1 v1] w fun r w'=>SC (U9 c.n (CG c.p c.m).toNat) r/\Ex w w':=by
 obtain⟨c0,c1,c2,c3,c4⟩:=CY w c m1 v1;have HX:=Aa (AI w (c.obj m1 v1));have aO:=Aa (fun w'=>DP c.p c.m m1 w');obtain⟨x1,y1,rfl,-,z1,-⟩:=hc.g.open;obtain⟨x3,y3,rfl,-,z3,-⟩:=hc.m.open;obtain⟨p,m,ml,n,rows⟩:=c;obtain⟨B,hB⟩:=nA w.heap.size;rw[hB]at c0 c1 c2 c3 c4;dsimp only[AT.arg,AT.obj]at *;obtain⟨aS,aR⟩:=V7 p m;obtain⟨Q,hQ⟩:∃Q:Nat,CG p m=Q:=⟨(CG p m).toNat,ac⟩;rw[hQ]at aO ⊢;have hQ2:Q<=256:=bf;rw[Int.toNat_natCast];obtain⟨P,hP⟩:=nA (U9 n Q);have HP:=Aa (show P↔(n<1∨7<n->n<1∨64<n)/\(1<=n->n<=7->∀i,i<=n.toNat->(KB n.toNat Q i).2<=3000) from by rw[<-hP];exact Iff.rfl);rw[hP];clear hc hP z1 z3 hQ aS aR;go_enter Tryz.func62,Tryz.ntmps62
 go_upto_region 1 with fail
 try simp only[hB]
 clear hB;generalize w.alloc (.cells #[p,m,.slice x3 ml.length y3,n,.slice x1 rows.length y1] 39)=w1 at *;have aE:=Aa (fun w' (h:Ex w1 w')=>(⟨h.cell c0,h.cell c1,h.cell c2,h.cell c3,h.cell c4⟩:_/\_/\_/\_/\_));by_cases h1:n<1
 .have k1:decide (n<1)=true:=decide_eq_true h1;have HN:=Aa (show P from HP.o.2 ⟨fun _=> .inl h1,fun h=>absurd h ac⟩);clear h1;go_wp2_with fail
  go_ret;exact⟨FI HN.o,HX.o⟩
 have k1:decide (n<1)=false:=decide_eq_false h1;by_cases h2:7<n
 .have k2:decide (7<n)=true:=decide_eq_true h2;by_cases h3:64<n
  .have k3:decide (64<n)=true:=decide_eq_true h3;have HN:=Aa (show P from HP.o.2 ⟨fun _=> .inr h3,fun _ h=>absurd h ac⟩);clear h1 h2 h3;go_wp2_with fail
   go_ret;exact⟨FI HN.o,HX.o⟩
  .have k3:decide (64<n)=false:=decide_eq_false h3;have HN:=Aa (show ¬P from fun h=>by rcases (HP.o.1 h).1 (.inr h2) with h|h <;> omega);clear h1 h2 h3;go_wp2_with fail
   go_ret;exact⟨CF HN.o,HX.o⟩
 have k2:decide (7<n)=false:=decide_eq_false h2;obtain⟨N,rfl⟩:∃N:Nat,n=N:=⟨n.toNat,ac⟩;have aA:=Aa (show 1<=N/\N<=7 from⟨ac,ac⟩);rw[Int.toNat_natCast]at HP;clear h1 h2;go_wp2_with fail
 clear c0 c1 c2 c3 c4
 go_loopw [3,4,5] (fun a' b' i' wr=>∃(i:Nat),i<=N/\a'= .int .i64 (KB N Q i).1/\b'= .int .i64 (KB N Q i).2/\i'= .int .i64 i/\Hia ((KB N Q i).2<=3000)/\Hia (Ex w1 wr)) (fun a' b' i' _=>N-(intOf i').toNat)
 case atStart=>exact⟨0,ac,rfl,rfl,rfl,Aa (by simp[KB]),Aa (Ex.refl w1)⟩
 case round=>
  obtain⟨i,hi,rfl,rfl,rfl,aK,aB⟩:=hrel;obtain⟨c0,c1,c2,c3,c4⟩:=aE.o wr aB.o;by_cases hlt:i<N
  .have i1:(0:Int)<=(i:Int):=by omega
   have i2:(i:Int)<(N:Int):=ac;obtain⟨A,hA⟩:=nA ((KB N Q i).1);obtain⟨S,hS⟩:=nA ((KB N Q i).2);have HA:=Aa hA;have HS:=Aa hS;have aL:=YG (N:=N) (q:=Q) i;have aG:=aK.o;rw[hA,hS]at aL;rw[hS]at aG;rw[hA,hS];obtain⟨T,hT⟩:∃T:Nat,max 1 (Q-1)=T:=⟨_,rfl⟩;have aT:1<=T/\T<=255:=ac;obtain⟨D,hD⟩:∃D:Nat,N-i=D:=⟨_,rfl⟩;have hDi:(N:Int)-(i:Int)=(D:Int):=ac;have aU:D<=7:=by have:=aA.o;omega
   have aN:D*T<=1785:=Nat.mul_le_mul aU aT.2;have aF:A*(D*T)<=3000*1785:=Nat.mul_le_mul ac aN;have hmx:(if (1:Int)<(Q:Int)-1 then(Q:Int)-1 else 1)=(T:Int):=by split <;> omega
   have hmy:max (1:Int) ((Q:Int)-1)=(T:Int):=by omega
   have aD:=Aa (show(KB N Q (i+1)).1=A*(D*T)/\(KB N Q (i+1)).2=S+A*(D*T) from by
    rw[<-hA,<-hS,<-hD,<-hT];exact⟨rfl,rfl⟩)
   obtain⟨M,hM⟩:∃M:Nat,A*(D*T)=M:=⟨_,rfl⟩;have aM:(A:Int)*((D:Int)*(T:Int))=(M:Int):=by rw[<-hM];push_cast;rfl
   rw[hM]at aD aF;have aI:=Aa (fun w' (h:Ex wr w')=>aO.o w');have aP:=Aa (fun w' (h:Ex wr w')=>aE.o w' (aB.o.trans h));clear hA hS hT hD aL;have W1:=Aa (show IntKind.i64.wrap (D:Int)=(D:Int) from IntWalk.i64_in _ ac);have W2:=Aa (show IntKind.i64.wrap ((Q:Int)-1)=(Q:Int)-1 from IntWalk.i64_in _ ac);have aC:(D:Int)*(T:Int)=((D*T:Nat):Int):=by push_cast;rfl
   have W3:=Aa (show IntKind.i64.wrap ((D:Int)*(T:Int))=(D:Int)*(T:Int) from IntWalk.i64_in _ (by rw[aC];omega));have W4:=Aa (show IntKind.i64.wrap ((A:Int)*((D:Int)*(T:Int)))=(M:Int) from by rw[aM];exact IntWalk.i64_in _ ac);have HB:=Aa (show S<=3000/\M<=3000*1785 from⟨aG,aF⟩);clear aM aC hM aF aN;go_upto_region 7 with fail
   go_cut [3] from 28 to 39 (fun a wx=>a= .int .i64 (M:Int)/\Hia (Ex wr wx))
   case first=>
    have y1:=W1.o;have y2:=W2.o;have y3:=W3.o;have y4:=W4.o
    go_region_law ((go_simp;refine(aI.o _ (by repeat (first|exact Ex.refl _|apply Ex.drew))).mono ?_;rintro e w5⟨rfl,aQ⟩;have aH:=Aa (Ex.trans (show Ex wr _ by repeat (first|exact Ex.refl _|apply Ex.drew)) aQ);have z0:=(aP.o w5 aH.o).1;have z3:=(aP.o w5 aH.o).2.2.2.1;go_simp))
    all_goals go_wp2_with fail
    all_goals go_meet
    all_goals exact⟨bp,Aa (by repeat (first|exact aH.o|apply Ex.drew))⟩
   case rest=>
    obtain⟨rfl,aJ⟩:=hcut;obtain⟨aG,aF⟩:=HB.o;have hi7:i<=7:=by have:=aA.o;omega
    clear c0 c1 c2 c3 c4;by_cases h5:3000<S+M
    .have k5:decide ((3000:Int)<(S:Int)+(M:Int))=true:=decide_eq_true ac;have j5:(3000:Int)<(S:Int)+(M:Int):=by omega
     have HN:=Aa (show ¬P from fun h=>by
      have:=(HP.o.1 h).2 (by have:=aA.o;omega) (by have:=aA.o;omega) (i+1) ac;rw[aD.o.2]at this;omega)
     clear h5;go_wp2_with fail
     go_ret;exact⟨CF HN.o,HX.o.trans (aB.o.trans aJ.o)⟩
    .have k5:decide ((3000:Int)<(S:Int)+(M:Int))=false:=decide_eq_false ac;have j5:¬(3000:Int)<(S:Int)+(M:Int):=by omega
     have HL:=Aa (show(KB N Q (i+1)).2<=3000 from by rw[aD.o.2];omega);clear h5;go_wp2_with fail
     go_roundw
     case rel=>exact⟨i+1,ac,by rw[aD.o.1],by rw[aD.o.2];go_num,by go_num,HL,Aa (aB.o.trans aJ.o)⟩
     case measure=>simp[intOf];omega
  .obtain rfl:i=N:=by omega
   have HN:=Aa (show P from HP.o.2 ⟨fun h=>by have:=aA.o;omega,fun _ _ k hk=>Nat.le_trans (smK_le hk) aK.o⟩);go_wp2_with fail
   go_ret;exact⟨FI HN.o,HX.o.trans aB.o⟩
section
open Go.RowKit Go.ChangeShapes Go.WideShapes Go.ChangeAt
theorem YR:∀(es:List Rf) (aA:List Value),aA.length=es.length->∀i,i<es.length->∀j,j<4->(MY es aA)[i*4+j]?=(((es.getD i LK).cells (aA.getD i undef)))[j]?:=fun es=>by
 exact zbb
section
variable {H:Type} {enc:TypeId × Value->H} {W:World} {held:Bool}
theorem zaA{P:Prop}(h:P:=by
 have hi:i<len:=by have:=(List.getElem?_eq_some_iff.1 h1).1;simpa using this
 simp[hi]at h1 h2;subst h1 h2;exact(hq i hi).2.2.2.2):P:=h
theorem zb1{P:Prop}(h:P:=by
 exact⟨(⟨p0,p1,p2,l⟩,v3),by simpa using e0,by simpa using e1,by simpa using e2,by simpa using e3,hl⟩):P:=h
theorem el{P:Prop}(h:P:=by rw[hL,hO]):P:=h
theorem VF{aC:Nat}{v:Value}{y:DataW H × List MemPlace}(h:DataW.trod enc Tryz.prog W 0 (fun _=>true) held aC 92 [v]=some y):∃es,O9 W v es:=by
 rcases Go.Deep.open_slice Tryz.underlying92 h with⟨hcs,_⟩|⟨x,len,cap,m,n,D,Pl,hcs,_,hl,hm,hmm,_,hr⟩
 .simp at hcs;subst hcs;exact⟨[],O9.nil W⟩
 .simp at hcs;subst hcs;simp only[if_true]at hmm;subst hmm;rw[show Tryz.prog.cellsOf 176=4 by kernel_rfl]at hr;have aH:∀i,i<len->∃q:Rf × Value,W.cell? (x.add (i*4))=some (.int .i64 q.1.tp)/\W.cell? (x.add (i*4+1))=some (.int .i64 q.1.sc)/\W.cell? (x.add (i*4+2))=some (.int .i64 q.1.side)/\W.cell? (x.add (i*4+3))=some q.2/\Al W q.2 q.1.msg:=fun i hi=>by
   obtain⟨aM,h1,h2⟩:=hr i ac;obtain⟨_,aB,aA⟩:=World.cells?_some h1;obtain⟨xs,k,_,_,_,aI,hf⟩:=DataW.trod_struct Tryz.underlying176 h2
   match xs,aI,aM,aB with
   | [y0,y1,y2,y3],_, [v0,v1,v2,v3],_=>
    have g0:=hf 0 _ rfl;have g1:=hf 1 _ rfl;have g2:=hf 2 _ rfl;have g3:=hf 3 _ rfl;simp[show Tryz.prog.cellsOf 3=1 by kernel_rfl,show Tryz.prog.cellsOf 22=1 by kernel_rfl]at g0 g1 g2 g3;have e0:=aA 0 ac;have e1:=aA 1 ac;have e2:=aA 2 ac;have e3:=aA 3 ac;rw[Go.Deep.add_add]at e0 e1 e2 e3;obtain⟨p0,aG,_,_⟩:=DataW.trod_int Tryz.underlying3 g0;obtain⟨p1,aF,_,_⟩:=DataW.trod_int Tryz.underlying3 g1;obtain⟨p2,aE,_,_⟩:=DataW.trod_int Tryz.underlying3 g2;simp at aG aF aE;subst aG aF aE;obtain⟨l,hl⟩:=GG g3;exact zb1
  haveI:Inhabited (Rf × Value):=⟨(LK,.bool false)⟩
  obtain⟨q,hq⟩:=Go.Deep.choose_lt aH;have hL:((List.range len).map fun i=>(q i).1).length=len:=ag;have hO:((List.range len).map fun i=>(q i).2).length=len:=ag;have aL:∀i,i<len->((List.range len).map fun i=>(q i).1).getD i LK=(q i).1:=fun i hi=>by
   rw[List.getD_eq_getElem?_getD];simp[hi]
  have aK:∀i,i<len->((List.range len).map fun i=>(q i).2).getD i undef=(q i).2:=fun i hi=>by
   rw[List.getD_eq_getElem?_getD];simp[hi]
  have aB:(MY ((List.range len).map fun i=>(q i).1) ((List.range len).map fun i=>(q i).2)).length=len*4:=by
   rw[NV _ _ el,hL]
  refine⟨(List.range len).map fun i=>(q i).1,(List.range len).map fun i=>(q i).2,by rw[hL,hO],⟨by rw[aB,hL],some x,m,by rw[hL],by rw[hL];exact hl,hm,fun hn=>?_⟩,fun i e mv h1 h2=>?_⟩
  .rw[hL]at hn;have h0:=(hq 0 hn).1;have hx:=Fn h0 (.inl ⟨_,_,rfl⟩);have aJ:(x.add (0*4))=x:=by simp[Addr.add]
   rw[aJ]at hx;refine⟨x.block,x.off,congrArg some hx,fun j u hu=>?_⟩;have hj:j<len*4:=by
    have:=(List.getElem?_eq_some_iff.1 hu).1;rw[aB]at this;exact this
   obtain⟨i,r,aD,rfl⟩:∃i r,r<4/\j=i*4+r:=⟨j/4,j%4,Nat.mod_lt _ ac,ac⟩;have hi:i<len:=bf;obtain⟨k0,k1,k2,k3,_⟩:=hq i hi;rw[hx,IR]at k0 k1 k2 k3;rw[YR _ _ el i (by rw[hL];exact hi) r aD,aL i hi,aK i hi]at hu
   match r,aD with
   | 0,_=>simp[Rf.cells]at hu;rw[Nat.add_zero,<-hu];exact k0
   | 1,_=>simp[Rf.cells]at hu;rw[<-hu];exact k1
   | 2,_=>simp[Rf.cells]at hu;rw[<-hu];exact k2
   | 3,_=>simp[Rf.cells]at hu;rw[<-hu];exact k3
  .exact zaA
theorem c_code:Tryz.prog.cellsOf 39=5:=ah
theorem c_refu:Tryz.prog.cellsOf 94=1:=ah
theorem c_entr:Tryz.prog.cellsOf 92=1:=ah
theorem Ux{r:Reach}{b0:Nat}{v:Value}{d:DataW H}{p:List MemPlace}(hv:Value.okWide Tryz.prog W r b0 39 v)(h:DataW.Trod enc Tryz.prog W 0 (fun _=>true) held 39 v d p):
  ∃(c:AT) (mv gv:Value),v=c.arg mv gv/\c.at W mv gv:=by
 obtain⟨cs,rfl,aC⟩:=Hw Tryz.underlying39 hv;obtain⟨c0,c1,c2,c3,c4,rfl⟩:=array5 (aC.trans c_code);obtain⟨fuel,hf⟩:=h;obtain⟨xs,k,_,_,_,aB,aA⟩:=DataW.trod_struct Tryz.underlying39 hf;have g0:=aA 0 _ rfl;have g1:=aA 1 _ rfl;have g2:=aA 2 _ rfl
 match xs,aB with
 | [y0,y1,y2],_=>
  simp[TS,c_fld,c_rows,Value.cells]at g0 g1 g2;obtain⟨P,M,ml,rfl,rfl,hm⟩:=UT g0;obtain⟨N,e0,_,_⟩:=DataW.trod_int Tryz.underlying3 g1;obtain⟨rows,hr⟩:=P0 g2;simp at e0;subst e0;exact⟨⟨P,M,ml,N,rows⟩,_,_,rfl,hm,hr⟩
end
end
end Go.Proofs.YtehieobniamagaaGreat
