/- Walk of automorphism.open (printed by gen_opn.py). -/
import Derived.Test.YtehieobniamagaaGreatZd23
namespace Go.Proofs.YtehieobniamagaaGreat
open Go.RowKit
set_option linter.all false
set_option maxRecDepth 100000
set_option maxHeartbeats 8000000
def Ip(c:AU)(e0:Int):Int:=if e0≠0 then e0 else if 64<c.n.toNat*(c.p.toNat^c.m.toNat-1) then 8 else 0
def OpO(c:AU)(r:Ending)(w':World):Prop:=∃e0:Int,BN c.p c.m c.ml c.n c.rows e0/\
 ((Ip c e0≠0/\∃(aA:Option Addr) (d:Int),r= .returned (.tuple #[.pointer aA,.int .i64 d,.int .i64 (Ip c e0)]))∨
 (Ip c e0=0/\∃(pn mn N b x0:Nat),c.p=pn/\c.m=mn/\c.n=N/\1<=N/\N<=64/\N*(pn^mn-1)<=64/\r= .returned (.tuple #[.pointer (some ⟨b,0,none⟩),.int .i64 ((N*(pn^mn-1):Nat):Int),.int .i64 0])/\A9 w' b pn mn c.ml x0/\1<=x0/\x0<pn^mn))
theorem zat{P:Prop}(h:P:=by
 refine BG.on rfl fun L a w aB aA hd hx K hK=>?_;have bC:=aB 5 23 _ (hd ⟨5,.data⟩ (by simp) rfl) rfl rfl;exact zc2):P:=h
theorem Kn(w:World)(c:AU)(m1 v1:Value)(hc:c.at w m1 v1):
  Calls Tryz.prog 69 #[c.arg m1 v1] w fun r w'=>OpO c r w'/\Ex w w':=by
 obtain⟨c0,c1,c2,c3,c4⟩:=C6 w c m1 v1;have aL:=AJ w (c.obj m1 v1);have aH:=Aa (hc.ex aL);obtain⟨x1,y1,rfl,-,z1,-⟩:=hc.g.open;obtain⟨x3,y3,rfl,-,z3,-⟩:=hc.m.open;unfold maxLen at z1 z3;obtain⟨B,hB⟩:=nA w.heap.size;rw[hB]at c0 c1 c2 c3 c4;have aI:=Aa aL;obtain⟨cp,cm,aD,cn,aF⟩:=c;obtain⟨C,hC⟩:∃C:AU,C=⟨cp,cm,aD,cn,aF⟩:=⟨_,rfl⟩;have aE:=Aa hC;have aK:=Aa (fun w1 (h:Ex (w.alloc (AU.obj ⟨cp,cm,aD,cn,aF⟩ (.slice x3 aD.length y3) (.slice x1 aF.length y1))) w1)=>CZ w1 cp cm aD (.slice x3 aD.length y3) (aH.o.m.ex h) cn aF (.slice x1 aF.length y1) (aH.o.g.ex h));unfold AU.arg;unfold AU.obj at aI aK aH c0 c1 c2 c3 c4;dsimp only at aI aK aH c0 c1 c2 c3 c4 ⊢;rw[<-hC];clear hc aL hC;go_enter Tryz.func69,Tryz.ntmps69
 go_upto_region 1 with fail
 try simp only[hB]
 clear hB;generalize w.alloc (.cells #[.int .i64 cp,.int .i64 cm,.slice x3 aD.length y3,.int .i64 cn,.slice x1 aF.length y1] 39)=w1 at *;go_wp2_with fail
 refine(aK.o w1 (Ex.refl _)).mono ?_;rintro e w2⟨⟨E,rfl,aU⟩,aC⟩;have aQ:=Aa aU;have aP:=Aa aC;replace c0:=aC.cell c0;replace c1:=aC.cell c1;replace c2:=aC.cell c2;replace c3:=aC.cell c3;replace c4:=aC.cell c4;clear aC aU aK;by_cases h0:E=0
 rotate_left
 .have hb:(E !=0)=true:=by simpa using h0
  have HR:=Aa (show Ip C E=E/\Ip C E≠0 from by unfold Ip;rw[if_pos h0];exact⟨rfl,h0⟩);clear h0;go_wp2_with fail
  exact bodyPost_ret (v:= .tuple #[.pointer none,.int .i64 0,.int .i64 E]) (by simp[results,Tryz.results69,go_sem]) rfl ⟨⟨E,by rw[aE.o];exact aQ.o,.inl ⟨HR.o.2,_,_,by rw[HR.o.1]⟩⟩,aI.o.trans aP.o⟩
 .subst h0;obtain⟨aT,k1,k2⟩:=Du aQ.o;have aY:=Aa (FM cp cm aD _ w2 (aH.o.m.ex aP.o));have bI:=Aa aT;obtain⟨N,rfl⟩:∃N:Nat,cn=N:=⟨cn.toNat,ac⟩;have HN:=Aa (show 1<=N/\N<=64 from ac);clear aT k1 k2;go_wp2_with fail
  refine aY.o.mono ?_;rintro e w3⟨bB,aM⟩;rcases bB with⟨pn,mn,x0,gb,rfl,rfl,rfl,hg,h1,h2⟩|⟨hbad,-⟩
  rotate_left
  .exact absurd bI.o hbad
  obtain⟨bE,bD,HG,bH,bG⟩:=Of (aP.o.trans aM) (aM.cell c3) hg h1 h2;have bA:2<=pn^mn:=Nat.le_trans hg.sh.p2 (Nat.le_self_pow (by have:=hg.sh.m1;omega) pn);have aS:=hg.sh.q;have aX:=Aa (fun (w5:World) (h5:Ex w3 w5)=>Cr w5 (HG.o.ex h5));have aJ:=Aa (fun (w5:World)=>G5 w5 N (pn^mn) HN.o.2 ac aS);have aG:=Aa (show Ip C 0=if 64<N*(pn^mn-1) then 8 else 0 from by rw[aE.o];unfold Ip;rw[if_neg ag];rfl);obtain⟨q,hq⟩:=nA (pn^mn);have HQ:=Aa hq;rw[hq]at aX aJ aG;obtain⟨D,hD⟩:=nA (N*(q-1));rw[hD]at aJ aG;have aZ:=Aa hD;obtain⟨T0,aO⟩:∃z,((if 64<D then 0 else D:Nat):Int)=z:=⟨_,rfl⟩;obtain⟨T1,aN⟩:∃z,(if 64<D then(8:Int) else 0)=z:=⟨_,rfl⟩;rw[aO,aN]at aJ;have bF:=Aa aO;have aW:=Aa aN;clear aO aN hD hq aM hg h1 h2 bA aS aY c0 c1 c2 c3 c4;go_wp2_with fail
  go_upto_region 7 with fail
  refine Ca (fun k=>([.pointer (some ⟨B,3,none⟩),.int .i64 (N:Int),.pointer (some ⟨gb,0,none⟩),.int .i64 (q:Int),.tuple #[.int .i64 T0,.int .i64 T1],.tuple #[.int .i64 T0,.int .i64 T1],.int .i64 T0,.int .i64 T1,.int .i64 T0,.int .i64 T1]:List Value).getD k undef) ah ah ah ?_ ?_
  .simp only[AL];refine⟨?_,?_,?_,?_,?_,?_,?_,?_,?_,?_,trivial⟩
   .refine BG.on rfl fun L a w aB aA hd hx K hK=>?_;have e1:a.tmps[1]?=some (.pointer (some ⟨B,0,none⟩)):=aA 1 ah;exact zc2
   .refine BG.on rfl fun L a w aB aA hd hx K hK=>?_;have e24:=aB 0 24 _ (hd ⟨0,.data⟩ ag rfl) rfl rfl;have c1:=hx.cell bD.o;exact zc2
   .refine BG.on rfl fun L a w aB aA hd hx K hK=>?_;have e6:a.tmps[6]?=some (.pointer (some ⟨gb,0,none⟩)):=aA 6 ah;exact zc2
   .refine BG.on rfl fun L a w aB aA hd hx K hK=>?_;have e26:=aB 2 26 _ (hd ⟨2,.data⟩ ag rfl) rfl rfl;clear aB aA hd;go_simp;refine(aX.o _ hx).mono ?_;exact zcZ
   .refine BG.on rfl fun L a w aB aA hd hx K hK=>?_;have e25:=aB 1 25 _ (hd ⟨1,.data⟩ ag rfl) rfl rfl;have e27:=aB 3 27 _ (hd ⟨3,.data⟩ ag rfl) rfl rfl;clear aB aA hd;go_simp;refine(aJ.o _).mono ?_;exact zcZ
   .refine BG.on rfl fun L a w aB aA hd hx K hK=>?_;have e28:=aB 4 28 _ (hd ⟨4,.data⟩ ag rfl) rfl rfl;exact zc2
   .exact zat
   .exact zat
   .refine BG.on rfl fun L a w aB aA hd hx K hK=>?_;have e29:=aB 6 29 _ (hd ⟨6,.data⟩ ag rfl) rfl rfl;exact zc2
   .refine BG.on rfl fun L a w aB aA hd hx K hK=>?_;have e30:=aB 7 30 _ (hd ⟨7,.data⟩ ag rfl) rfl rfl;exact zc2
  .intro w5 aR;simp only[Ck,Act.put,List.setIfInBounds_toArray,List.set_cons_zero,List.set_cons_succ];have aV:=Aa aR;clear aR;go_wp2_with fail
   refine bodyPost_ret (v:= .tuple #[.pointer (some ⟨gb,0,none⟩),.int .i64 T0,.int .i64 T1]) (by simp[results,Tryz.results69,go_sem]) rfl ⟨⟨0,by rw[aE.o];exact aQ.o,?_⟩,aI.o.trans (bE.o.trans aV.o)⟩;by_cases hd:64<D
   .refine .inl ⟨by rw[aG.o,if_pos hd];decide,_,_,by rw[aG.o,aW.o]⟩
   .refine .inr ⟨by rw[aG.o,if_neg hd],pn,mn,N,gb,x0,by rw[aE.o],by rw[aE.o],by rw[aE.o],HN.o.1,HN.o.2,by rw[HQ.o,aZ.o];omega,?_,by rw[aE.o];exact HG.o.ex aV.o,bH.o,bG.o⟩;rw[HQ.o,aZ.o,<-bF.o,<-aW.o,if_neg hd,if_neg hd]
theorem VW:(Tryz.prog.info? 26).map (fun i=>(i.zero,i.size,i.bytes))=some (some (.agg #[.slice none 0 0,.slice none 0 0,.int .i64 0]),3,56):=ah
def gF(c:AU)(g:B6):(Nat × List Nd) × Int:=Gj c c g.tl g.sl
def gE(c:AU)(g:B6):Int:=Ju 0 (gF c g)
def gM(c:AU)(g:B6):CL:=IT 0 (gF c g)
def Da(c:AU)(gs:List B6):List CL:=(gs.filter fun g=>gE c g==0).map (gM c)
def Jg(c:AU)(gs:List B6):List B6:=gs.filter fun g=>gE c g==11
def Ni(c:AU)(gs:List B6):Option B6:=gs.find? fun g=>gE c g !=0&&gE c g !=11
def WZ(c:AU)(gs:List B6):Int:=match Ni c gs with
 | some g=>gE c g
 | none=>0
structure Ev(n q:Nat)(g:B6):Prop where
 ij:g.i<=g.j
 j:g.j<n
 a1:1<=g.a
 a:g.a<q
theorem gA_ok{n q i j:Nat}(h1:i<=j)(h2:j<n){g:B6}{c:Nat}(hc:c<=q-1)(h:g∈gA i j c):Ev n q g:=by
 unfold gA at h;obtain⟨a,ha,rfl⟩:=List.mem_map.1 h;rw[List.mem_range]at ha;exact⟨h1,h2,by show 1<=a+1;omega,by show a+1<q;omega⟩
theorem Hz{n q:Nat}{g:B6}(h:g∈Dn n q):Ev n q g:=by
 unfold Dn gI at h;obtain⟨i,hi,h⟩:=List.mem_flatMap.1 h;unfold gJ at h;obtain⟨k,hk,h⟩:=List.mem_flatMap.1 h;rw[List.mem_range]at hi hk;exact gA_ok ac ac (Nat.le_refl _) h
theorem AM(g:B6):g.tl.length=g.i+1:=by unfold B6.tl;rw[List.length_append,FG];rfl
theorem BJ(g:B6):g.sl.length=g.i+1:=by unfold B6.sl;rw[List.length_append,Fz];rfl
theorem zaK{P:Prop}(h:P:=by
 obtain rfl:k=g.i:=by omega
 rw[List.getElem?_append_right (by simp),if_neg h];simp):P:=h
theorem zaP{P:Prop}(h:P:=by
 rw[List.getElem?_append_left (by simpa using h),if_pos h];simp[h]):P:=h
theorem zcC{P:Prop}(h:P:=by
 rw[List.getD_eq_getElem?_getD];by_cases h:k<g.i
 .exact zaP
 .exact zaK):P:=h
theorem CJ(g:B6){k:Nat}(hk:k<=g.i):g.tl.getD k 0=((if k<g.i then k else g.j:Nat):Int):=by
 unfold B6.tl KJ;exact zcC
theorem Fp(g:B6){k:Nat}(hk:k<=g.i):g.sl.getD k 0=((if k<g.i then 1 else g.a:Nat):Int):=by
 unfold B6.sl Lk;exact zcC
theorem YK{n q:Nat}{g:B6}(h:Ev n q g):BU g.tl n=true:=by
 unfold BU;rw[List.all_eq_true];intro x hx;obtain⟨k,hk,rfl⟩:=List.mem_iff_getElem.1 hx;have h1:k<=g.i:=by rw[AM]at hk;omega
 have h2:=CJ g h1;rw[List.getD_eq_getElem?_getD,List.getElem?_eq_getElem hk]at h2;have h3:g.tl[k]=((if k<g.i then k else g.j:Nat):Int):=h2;rw[h3];have:=h.ij;have:=h.j;refine decide_eq_true ⟨ac,?_⟩;split <;> omega
theorem YM{n q:Nat}{g:B6}(h:Ev n q g):Ib g.tl=false:=by
 cases hd:Ib g.tl with
 | false=>rfl
 | true=>
  obtain⟨i,j,h1,h2,e⟩:=PZ.1 hd;rw[AM]at h2;rw[CJ g ac,CJ g ac]at e;have:=h.ij;split at e <;> split at e <;> omega
theorem YL{n q:Nat}{g:B6}(h:Ev n q g):H4 q g.sl=0:=
 YV fun i hi=>⟨if i<g.i then 1 else g.a,Fp g (by rw[BJ]at hi;omega),by have:=h.a1;split <;> omega,by have:=h.a1;have:=h.a;split <;> omega⟩
theorem Rm{p m n:Int}{ml:List Int}{N q:Nat}(hn:n=N){g:B6}(h:Ev N q g):FR 0 0 (CR p m ml p m ml) n n g.tl g.sl q=0:=by
 subst hn;unfold FR;rw[if_neg ag,if_neg ag,if_neg (by rw[F8.2 ⟨rfl,rfl,rfl⟩];simp),if_neg (by rw[AM,BJ];have:=h.ij;have:=h.j;omega)];unfold FE;rw[YK h,YM h];rw[if_neg ae];exact YL h
def T5:List CL->List (Value × Value)->List Value
 | M :: Ms,c :: cs=>c.1 :: c.2 :: .int .i64 M.frob :: T5 Ms cs
 | _,_=> []
theorem Sv:∀(L:List CL) (os:List (Value × Value)) (i:Nat) (l:CL) (o:Value × Value),L[i]?=some l->os[i]?=some o->(T5 L os)[3*i]?=some o.1/\(T5 L os)[3*i+1]?=some o.2/\(T5 L os)[3*i+2]?=some (.int .i64 l.frob)
 | l' :: L,o' :: os,0,l,o,h,k=>by
  simp at h k;subst h k;exact⟨rfl,rfl,rfl⟩
 | l' :: L,o' :: os,i+1,l,o,h,k=>by
  have:=Sv L os i l o az (by simpa using k);rw[show 3*(i+1)=3*i+3 by omega,show 3*i+3+1=3*i+1+3 by omega,show 3*i+3+2=3*i+2+3 by omega];simpa[T5]using this
 | [],os,i,l,o,h,k=>by simp at h
 | l' :: L, [],i,l,o,h,k=>by simp at k
theorem Sw:∀(L:List CL) (os:List (Value × Value)) (l:CL) (o:Value × Value),os.length=L.length->T5 (L ++ [l]) (os ++ [o])=T5 L os ++ [o.1,o.2,.int .i64 l.frob]
 | [], [],l,o,_=>rfl
 | l' :: L,o' :: os,l,o,h=>by
  have:=Sw L os l o az;simp only[List.cons_append,T5,this]
 | [],o' :: os,l,o,h=>by simp at h
 | l' :: L, [],l,o,h=>by simp at h
def Oo(w:World)(v:Value)(Ms:List CL):Prop:=∃cs:List (Value × Value),cs.length=Ms.length/\Sl w v Ms.length 3 (T5 Ms cs)/\∀(i:Nat) (M:CL) (c:Value × Value),Ms[i]?=some M->cs[i]?=some c->Am w c.1 M.perm/\Am w c.2 M.scale
theorem zbJ{P:Prop}(h:P:=by
 obtain⟨os,h1,h2,h3⟩:=h;exact⟨os,h1,h2.ex hx,fun i l o a b=>⟨(h3 i l o a b).1.ex hx,(h3 i l o a b).2.ex hx⟩⟩):P:=h
theorem Oo.ex{w w':World}{v:Value}{L:List CL}(h:Oo w v L)(hx:Ex w w'):Oo w' v L:=by
 exact zbJ
theorem zcc{P:Prop}(h:P:=by
 obtain⟨k1,k2⟩:=h7 i l _ hl ho;exact⟨_,_,h9 _ _ g1,h9 _ _ g2,h9 _ _ g3,k1,k2⟩):P:=h
theorem Oo.open{w:World}{v:Value}{L:List CL}(h:Oo w v L):∃a cap,v= .slice a L.length cap/\L.length<=cap/\cap<=maxLen/\
  (0<L.length->∃b o,a=some ⟨b,o,none⟩/\∀(i:Nat) (l:CL),L[i]?=some l->∃u r,w.cell? ⟨b,o+3*i,none⟩=some u/\w.cell? ⟨b,o+(3*i+1),none⟩=some r/\w.cell? ⟨b,o+(3*i+2),none⟩=some (.int .i64 l.frob)/\Am w u l.perm/\Am w r l.scale):=by
 obtain⟨os,h1,⟨h2,a,cap,h3,h4,h5,h6⟩,h7⟩:=h;refine⟨a,cap,h3,h4,h5,fun hn=>?_⟩;obtain⟨b,o,h8,h9⟩:=h6 hn;refine⟨b,o,h8,fun i l hl=>?_⟩;have hi:=(List.getElem?_eq_some_iff.1 hl).1;have ho:os[i]?=some (os[i]'ac):=List.getElem?_eq_getElem _;obtain⟨g1,g2,g3⟩:=Sv L os i l _ hl ho;exact zcc
theorem Fo{w w':World}{base:Nat}{e:TypeId}{size n:Nat}{v v' c:Value}{xs news:List Value}(ha:Bn w w' base e size v v' n xs news){l:List Int}(h:Am w c l)(aB:l≠ []->AQ c v):Am w' c l/\(l≠ []->AQ c v'):=by
 obtain⟨a,cap,rfl,h1,h2,h3⟩:=h.open;by_cases hl:l= []
 .subst hl;refine⟨?_,fun h=>absurd rfl h⟩;unfold Am at *;exact⟨rfl,a,cap,rfl,h1,h2,fun h=>by simp at h⟩
 .obtain⟨B,o,rfl,h4⟩:=h3 (List.length_pos_iff.2 hl);obtain⟨x,l',rfl⟩:=List.exists_cons_of_ne_nil hl;have hlt:B<w.heap.size:=World.block_lt_of_cell? _ _ (h4 0 x rfl);have aA:some B≠v.ownBlock:=by
   rcases aB hl with h5|h5
   .cases h5
   .exact h5
  refine⟨⟨h.1,_,cap,rfl,h1,h2,fun _=>⟨B,o,rfl,fun j u hu=>?_⟩⟩,fun _=>?_⟩
  .unfold Ao at hu;rw[List.getElem?_map]at hu
   cases hx:(x :: l')[j]? with
   | none=>rw[hx]at hu;cases hu
   | some y=>
    rw[hx]at hu;injection hu with hu;subst hu;exact ha.cell (h4 j y hx) aA
  .unfold AQ;right;rcases ha.at_ with h5|h5
   .rw[h5];exact aA
   .rw[h5];intro e;injection e with e;have e2:B=w.heap.size+1:=e;omega
structure Qq(b0:Nat)(w1 wr:World)(mv nv:Value)(Ms:List CL)(cs:List (Value × Value))(ns:List B6)(ds:List (Value × Value)):Prop where
 ex:Ex w1 wr
 mlen:cs.length=Ms.length
 mown:wr.ownsRow w1.heap.size 26 3 mv Ms.length (T5 Ms cs)
 mat:∀(i:Nat) (M:CL) (c:Value × Value),Ms[i]?=some M->cs[i]?=some c->(Am wr c.1 M.perm/\(M.perm≠ []->AQ c.1 mv/\AQ c.1 nv))/\(Am wr c.2 M.scale/\(M.scale≠ []->AQ c.2 mv/\AQ c.2 nv))
 nlen:ds.length=ns.length
 nown:wr.ownsRow w1.heap.size 129 5 nv ns.length (Fq ns ds)
 nat:∀(i:Nat) (g:B6) (c:Value × Value),ns[i]?=some g->ds[i]?=some c->(Am w1 c.1 g.tl/\Am w1 c.2 g.sl)/\(∀X,c.1.ownBlock=some X->b0<=X)/\∀X,c.2.ownBlock=some X->b0<=X
 ap:AQ mv nv
section
variable {b0:Nat} {w1 wr w':World} {mv nv v' u r:Value} {Ms:List CL} {cs ds:List (Value × Value)} {ns:List B6}
theorem Qq.nil(b0:Nat)(w1:World):Qq b0 w1 w1 (.slice none 0 0) (.slice none 0 0) [] [] [] []:=
 ⟨Ex.refl _,rfl,World.ownsRow_nil _ _ _ _,fun i M c h=>by simp at h,rfl,World.ownsRow_nil _ _ _ _,fun i M c h=>by simp at h,AQ.nil _⟩
theorem Qq.later(h:Qq b0 w1 wr mv nv Ms cs ns ds)(hx:Ex wr w'):Qq b0 w1 w' mv nv Ms cs ns ds:=
 ⟨h.ex.trans hx,h.mlen,Aj h.mown hx,fun i M c a b=>⟨⟨(h.mat i M c a b).1.1.ex hx,(h.mat i M c a b).1.2⟩,⟨(h.mat i M c a b).2.1.ex hx,(h.mat i M c a b).2.2⟩⟩,h.nlen,Aj h.nown hx,h.nat,h.ap⟩
theorem Qq.msl(h:Qq b0 w1 wr mv nv Ms cs ns ds):Oo wr mv Ms:=⟨cs,h.mlen,Sl.own h.mown,fun i M c a b=>⟨(h.mat i M c a b).1.1,(h.mat i M c a b).2.1⟩⟩
theorem Qq.nsl(h:Qq b0 w1 wr mv nv Ms cs ns ds):W9 b0 wr nv ns:=⟨ds,h.nlen,Sl.own h.nown,fun i M c a b=>⟨⟨(h.nat i M c a b).1.1.ex h.ex,(h.nat i M c a b).1.2.ex h.ex⟩,(h.nat i M c a b).2⟩⟩
theorem Qq.appM(h:Qq b0 w1 wr mv nv Ms cs ns ds){M:CL}(hu:Am wr u M.perm)(hr:Am wr r M.scale)(aA:AQ u mv/\AQ u nv)(aB:AQ r mv/\AQ r nv)
  (ha:Bn wr w' w1.heap.size 26 3 mv v' Ms.length (T5 Ms cs) [u,r,.int .i64 M.frob]):Qq b0 w1 w' v' nv (Ms ++ [M]) (cs ++ [(u,r)]) ns ds:=by
 have hn:=ha.row h.nown h.ap.symm;refine⟨ha.ex h.ex (Nat.le_refl _),by simp[h.mlen],?_,fun i x c a b=>?_,h.nlen,hn.1,h.nat,hn.2.symm⟩
 .have:=ha.own;rw[Sw Ms cs M (u,r) h.mlen,List.length_append];exact this
 .by_cases hi:i<Ms.length
  .rw[List.getElem?_append_left hi]at a;rw[List.getElem?_append_left (by rw[h.mlen];exact hi)]at b;obtain⟨⟨p1,p2⟩,⟨p3,p4⟩⟩:=h.mat i x c a b;obtain⟨q1,q2⟩:=Fo ha p1 fun e=>(p2 e).1;obtain⟨q3,q4⟩:=Fo ha p3 fun e=>(p4 e).1;exact⟨⟨q1,fun e=>⟨q2 e,(p2 e).2⟩⟩,⟨q3,fun e=>⟨q4 e,(p4 e).2⟩⟩⟩
  .have aC:i=Ms.length:=by
    exact zcT
   subst aC;rw[List.getElem?_append_right (Nat.le_refl _)]at a;rw[List.getElem?_append_right (by rw[h.mlen];exact Nat.le_refl _),h.mlen]at b;simp at a b;subst a b;obtain⟨q1,q2⟩:=Fo ha hu fun e=>aA.1;obtain⟨q3,q4⟩:=Fo ha hr fun e=>aB.1;exact⟨⟨q1,fun e=>⟨q2 e,aA.2⟩⟩,⟨q3,fun e=>⟨q4 e,aB.2⟩⟩⟩
theorem Qq.appN(h:Qq b0 w1 wr mv nv Ms cs ns ds){g:B6}(hu:Am w1 u g.tl)(hr:Am w1 r g.sl)(aB:∀X,u.ownBlock=some X->b0<=X)(aC:∀X,r.ownBlock=some X->b0<=X)
  (ha:Bn wr w' w1.heap.size 129 5 nv v' ns.length (Fq ns ds) [.int .i64 g.i,.int .i64 g.j,.int .i64 g.a,u,r]):Qq b0 w1 w' mv v' Ms cs (ns ++ [g]) (ds ++ [(u,r)]):=by
 have hm:=ha.row h.mown h.ap;refine⟨ha.ex h.ex (Nat.le_refl _),h.mlen,hm.1,fun i x c a b=>?_,by simp[h.nlen],?_,fun i x c a b=>?_,hm.2⟩
 .obtain⟨⟨p1,p2⟩,⟨p3,p4⟩⟩:=h.mat i x c a b;obtain⟨q1,q2⟩:=Fo ha p1 fun e=>(p2 e).2;obtain⟨q3,q4⟩:=Fo ha p3 fun e=>(p4 e).2;exact⟨⟨q1,fun e=>⟨(p2 e).1,q2 e⟩⟩,⟨q3,fun e=>⟨(p4 e).1,q4 e⟩⟩⟩
 .have:=ha.own;rw[KP ns ds g (u,r) h.nlen,List.length_append];exact this
 .by_cases hi:i<ns.length
  .rw[List.getElem?_append_left hi]at a;rw[List.getElem?_append_left (by rw[h.nlen];exact hi)]at b;exact h.nat i x c a b
  .have aA:i=ns.length:=by
    exact zcT
   subst aA;rw[List.getElem?_append_right (Nat.le_refl _)]at a;rw[List.getElem?_append_right (by rw[h.nlen];exact Nat.le_refl _),h.nlen]at b;simp at a b;subst a b;exact⟨⟨hu,hr⟩,aB,aC⟩
end
theorem El{α:Type}{l:List α}{i:Nat}{x:α}(h:l[i]?=some x):l.take (i+1)=l.take i ++ [x]:=by rw[List.take_add_one,h];rfl
theorem zb4{P:Prop}(h:P:=by
 rw[El h];unfold Da Jg;rw[List.filter_append,List.filter_append,List.map_append];simp[he]):P:=h
theorem XJ{c:AU}{gs:List B6}{i:Nat}{g:B6}(h:gs[i]?=some g)(he:gE c g=0):Da c (gs.take (i+1))=Da c (gs.take i) ++ [gM c g]/\Jg c (gs.take (i+1))=Jg c (gs.take i):=by
 exact zb4
theorem XI{c:AU}{gs:List B6}{i:Nat}{g:B6}(h:gs[i]?=some g)(he:gE c g=11):Da c (gs.take (i+1))=Da c (gs.take i)/\Jg c (gs.take (i+1))=Jg c (gs.take i) ++ [g]:=by
 exact zb4
theorem U2{c:AU}{gs:List B6}{i:Nat}{g:B6}(h:gs[i]?=some g)(hb:Ni c (gs.take i)=none)(he:gE c g=0∨gE c g=11):Ni c (gs.take (i+1))=none:=by
 rw[El h];unfold Ni at *;rw[List.find?_append,hb];rcases he with he|he <;> simp[he]
theorem XL{c:AU}{gs:List B6}{i:Nat}{g:B6}(h:gs[i]?=some g)(hb:Ni c (gs.take i)=none)(h0:gE c g≠0)(aA:gE c g≠11):WZ c gs=gE c g:=by
 have hs:gs=gs.take i++(g :: gs.drop (i+1)):=by
  have h1:=(List.getElem?_eq_some_iff.1 h).1;have h2:gs.drop i=g :: gs.drop (i+1):=by
   rw[List.drop_eq_getElem_cons h1]
   congr 1
   exact(List.getElem?_eq_some_iff.1 h).2
  rw[<-h2,List.take_append_drop]
 have h3:Ni c gs=some g:=by
  unfold Ni at *;rw[hs,List.find?_append,hb];simp[h0,aA]
 unfold WZ;rw[h3]
theorem Uc:(Tryz.prog.info? 90).map (fun i=>(i.zero,i.size,i.bytes))=some (some (.agg #[.int .i64 0,.slice none 0 0,.slice none 0 0]),3,56):=ah
def Re:List Lv->List (Value × Value)->List Value
 | l :: L,o :: os=> .int .i64 l.pt :: o.1 :: o.2 :: Re L os
 | _,_=> []
theorem Nz:∀(L:List Lv) (os:List (Value × Value)),os.length=L.length->(Re L os).length=L.length*3
 | [], [],_=>rfl
 | l :: L,o :: os,h=>by
  have:=Nz L os az;simp only[Re,List.length_cons];omega
 | [],o :: os,h=>by simp at h
 | l :: L, [],h=>by simp at h
theorem NA:∀(L:List Lv) (os:List (Value × Value)) (i:Nat) (l:Lv) (o:Value × Value),L[i]?=some l->os[i]?=some o->(Re L os)[3*i]?=some (.int .i64 l.pt)/\(Re L os)[3*i+1]?=some o.1/\(Re L os)[3*i+2]?=some o.2
 | l' :: L,o' :: os,0,l,o,h,k=>by
  simp at h k;subst h k;exact⟨rfl,rfl,rfl⟩
 | l' :: L,o' :: os,i+1,l,o,h,k=>by
  have:=NA L os i l o az (by simpa using k);rw[show 3*(i+1)=3*i+3 by omega,show 3*i+3+1=3*i+1+3 by omega,show 3*i+3+2=3*i+2+3 by omega];simpa[Re]using this
 | [],os,i,l,o,h,k=>by simp at h
 | l' :: L, [],i,l,o,h,k=>by simp at k
theorem Sy:∀(L:List Lv) (os:List (Value × Value)) (l:Lv) (o:Value × Value),os.length=L.length->Re (L ++ [l]) (os ++ [o])=Re L os ++ [.int .i64 l.pt,o.1,o.2]
 | [], [],l,o,_=>rfl
 | l' :: L,o' :: os,l,o,h=>by
  have:=Sy L os l o az;simp only[List.cons_append,Re,this]
 | [],o' :: os,l,o,h=>by simp at h
 | l' :: L, [],l,o,h=>by simp at h
def EF(w:World)(v:Value)(L:List Lv):Prop:=∃os:List (Value × Value),os.length=L.length/\Sl w v L.length 3 (Re L os)/\∀(i:Nat) (l:Lv) (o:Value × Value),L[i]?=some l->os[i]?=some o->Am w o.1 l.orb/\BO w o.2 l.reps
theorem EF.ex{w w':World}{v:Value}{L:List Lv}(h:EF w v L)(hx:Ex w w'):EF w' v L:=by
 exact zbJ
theorem EF.nil(w:World):EF w (.slice none 0 0) []:=⟨[],rfl,Sl.nil w 3,fun i l o h=>by simp at h⟩
theorem EF.open{w:World}{v:Value}{L:List Lv}(h:EF w v L):∃a cap,v= .slice a L.length cap/\L.length<=cap/\cap<=maxLen/\
  (0<L.length->∃b o,a=some ⟨b,o,none⟩/\∀(i:Nat) (l:Lv),L[i]?=some l->∃u r,w.cell? ⟨b,o+3*i,none⟩=some (.int .i64 l.pt)/\w.cell? ⟨b,o+(3*i+1),none⟩=some u/\w.cell? ⟨b,o+(3*i+2),none⟩=some r/\Am w u l.orb/\BO w r l.reps):=by
 obtain⟨os,h1,⟨h2,a,cap,h3,h4,h5,h6⟩,h7⟩:=h;refine⟨a,cap,h3,h4,h5,fun hn=>?_⟩;obtain⟨b,o,h8,h9⟩:=h6 hn;refine⟨b,o,h8,fun i l hl=>?_⟩;have hi:=(List.getElem?_eq_some_iff.1 hl).1;have ho:os[i]?=some (os[i]'ac):=List.getElem?_eq_getElem _;obtain⟨g1,g2,g3⟩:=NA L os i l _ hl ho;exact zcc
theorem Mx.cons{mb aA:List Nat}{w w':World}(h:Mx mb aA w w')(q:Nat):Mx (q :: mb) (q :: aA) w w':=
 ⟨h.os,h.tape,h.output,h.size,fun i hi hn=>h.block i hi (fun hm=>hn (List.mem_cons_of_mem _ hm)),fun B hB=>by
  rcases List.mem_cons.1 hB with e|e
  .exact .inl (by rw[e];exact List.mem_cons_self ..)
  .rcases h.mb B e with k|k
   .exact .inl (List.mem_cons_of_mem _ k)
   .exact .inr k⟩
structure SI(w:World)(mb:List Nat)(v:Value)(l:List Int):Prop where
 sl:Am w v l
 off:0<l.length->∀B,v.ownBlock=some B->B ∉ mb/\B<w.heap.size
theorem Sl.mx{mb aA:List Nat}{w w':World}(hx:Mx mb aA w w'){v:Value}{n size:Nat}{xs:List Value}(h:Sl w v n size xs)(ho:0<n->∀B,v.ownBlock=some B->B ∉ mb):Sl w' v n size xs:=by
 obtain⟨h1,a,cap,rfl,h3,h4,h5⟩:=h;refine⟨h1,a,cap,rfl,h3,h4,fun hn=>?_⟩;obtain⟨b,o,rfl,h6⟩:=h5 hn;exact⟨b,o,rfl,fun j u hu=>hx.cell (h6 j u hu) (ho hn b rfl)⟩
theorem SI.mx{mb aA:List Nat}{w w':World}{v:Value}{l:List Int}(h:SI w mb v l)(hx:Mx mb aA w w'):SI w' aA v l:=
 ⟨Sl.mx hx h.sl fun hn B e=>(h.off hn B e).1,fun hn B e=>by
  obtain⟨h1,h2⟩:=h.off hn B e;exact⟨fun hb=>by
   rcases hx.mb B hb with h3|h3
   .exact h1 h3
   .omega,Nat.lt_of_lt_of_le h2 hx.size⟩⟩
structure SM(w:World)(mb:List Nat)(v:Value)(rows:List (List Int))(vals:List Value):Prop where
 sl:Sl w v rows.length 1 vals
 off:0<rows.length->∀B,v.ownBlock=some B->B ∉ mb/\B<w.heap.size
 row:∀(i:Nat) (r:List Int) (u:Value),rows[i]?=some r->vals[i]?=some u->SI w mb u r
theorem SM.mx{mb aA:List Nat}{w w':World}{v:Value}{rows:List (List Int)}{vals:List Value}(h:SM w mb v rows vals)(hx:Mx mb aA w w'):SM w' aA v rows vals:=
 ⟨Sl.mx hx h.sl fun hn B e=>(h.off hn B e).1,fun hn B e=>by
  obtain⟨h1,h2⟩:=h.off hn B e;exact⟨fun hb=>by
   rcases hx.mb B hb with h3|h3
   .exact h1 h3
   .omega,Nat.lt_of_lt_of_le h2 hx.size⟩,fun i r u a b=>(h.row i r u a b).mx hx⟩
theorem SM.msl{w:World}{mb:List Nat}{v:Value}{rows:List (List Int)}{vals:List Value}(h:SM w mb v rows vals):BO w v rows:=⟨vals,h.sl,fun i r u a b=>(h.row i r u a b).sl⟩
structure WV(w:World)(base q:Nat)(mb:List Nat)(lv:Value)(L:List Lv)(os:List (Value × Value)):Prop where
 own:w.ownsRow base 90 3 lv L.length (Re L os)
 len:os.length=L.length
 lev:∀(i:Nat) (l:Lv) (o:Value × Value),L[i]?=some l->os[i]?=some o->SI w (q :: mb) o.1 l.orb/\∃vals,SM w (q :: mb) o.2 l.reps vals
 blk:∀B,lv.ownBlock=some B->B∈mb
theorem WV.ex{w w':World}{base q:Nat}{mb:List Nat}{lv:Value}{L:List Lv}{os:List (Value × Value)}(h:WV w base q mb lv L os)(hx:Ex w w'):WV w' base q mb lv L os:=
 ⟨Aj h.own hx,h.len,fun i l o a b=>⟨(h.lev i l o a b).1.mx (Mx.ofEx hx (q :: mb)),by obtain⟨vals,h2⟩:=(h.lev i l o a b).2;exact⟨vals,h2.mx (Mx.ofEx hx (q :: mb))⟩⟩,h.blk⟩
theorem WV.nil(w:World)(base q:Nat)(mb:List Nat):WV w base q mb (.slice none 0 0) [] []:=
 ⟨World.ownsRow_nil _ _ _ _,rfl,fun i l o h=>by simp at h,fun B h=>by cases h⟩
theorem WV.mx{w w':World}{base q:Nat}{mb aA:List Nat}{lv:Value}{L:List Lv}{os:List (Value × Value)}(h:WV w base q mb lv L os)(hx:Mx mb aA w w')(ho:w'.ownsRow base 90 3 lv L.length (Re L os))(hb:∀B,lv.ownBlock=some B->B∈aA):WV w' base q aA lv L os:=
 ⟨ho,h.len,fun i l o a b=>⟨(h.lev i l o a b).1.mx (hx.cons q),by obtain⟨vals,h2⟩:=(h.lev i l o a b).2;exact⟨vals,h2.mx (hx.cons q)⟩⟩,hb⟩
theorem Q8{mb:List Nat}{w w1:World}{base:Nat}{e:TypeId}{size:Nat}{v v':Value}{n:Nat}{xs news:List Value}(ha:Bn w w1 base e size v v' n xs news)(hv:∀B,v.ownBlock=some B->B∈mb){cb j:Nat}{u:Value}(hc:cb∈mb):
  Mx mb (v'.ownBlock.toList++mb) w (w1.setCell ⟨cb,j,none⟩ u):=by
 obtain⟨o,hg⟩:=ha.gr;have hgs:=ha.grow;have aA:(w1.setCell ⟨cb,j,none⟩ u).heap.size=w1.heap.size:=b8;refine⟨hg.os.trans rfl,hg.tape.trans rfl,hg.output.trans rfl,by rw[aA];omega,fun i hi hn=>?_,fun B hB=>?_⟩
 .rw[Below.heap_setCell _ _ _ _ (fun e=>hn (by have e:i=cb:=e;rw[e];exact hc))];rw[hg.block i aq (fun e=>hn (hv i e.symm))];exact((Ex.refl w).alloc o).block i hi
 .rcases List.mem_append.1 hB with h1|h1
  .have h1:v'.ownBlock=some B:=by simpa using h1
   rcases ha.at_ with h2|h2
   .rw[h2]at h1;exact .inl (hv B h1)
   .rw[h2]at h1;injection h1 with h1;exact .inr ac
  .exact .inl h1
theorem FH(w:World)(a b:Addr)(u:Value):(w.setCell a u).frozen? b=w.frozen? b:=ag
structure LQ(w0 wr:World)(q n b ob lb:Nat)(lv:Value)(L:List Lv)(os:List (Value × Value))(ov:Value)(orb:List Int)(rv:Value)(reps:List (List Int))(vals:List Value)(mb:List Nat):Prop where
 oc0:wr.cell? ⟨ob,0,none⟩=some (.int .i64 n)
 oc1:wr.cell? ⟨ob,1,none⟩=some lv
 of1:wr.frozen? ⟨ob,1,none⟩=false
 lc0:wr.cell? ⟨lb,0,none⟩=some (.int .i64 b)
 lc1:wr.cell? ⟨lb,1,none⟩=some ov
 lc2:wr.cell? ⟨lb,2,none⟩=some rv
 lf1:wr.frozen? ⟨lb,1,none⟩=false
 lf2:wr.frozen? ⟨lb,2,none⟩=false
 ne:ob≠lb
 ch:WV wr w0.heap.size q mb lv L os
 ovo:wr.ownsRow w0.heap.size 3 1 ov orb.length (Ao orb)
 rvo:wr.ownsRow w0.heap.size 22 1 rv reps.length vals
 rows:∀(i:Nat) (r:List Int) (u:Value),reps[i]?=some r->vals[i]?=some u->SI wr (q :: mb) u r
 a1:AQ ov lv
 a2:AQ rv lv
 a3:AQ ov rv
 nov:∀B,ov.ownBlock=some B->B≠ob/\B≠lb/\B∈mb
 nrv:∀B,rv.ownBlock=some B->B≠ob/\B≠lb/\B∈mb
 nlv:∀B,lv.ownBlock=some B->B≠ob/\B≠lb/\B∈mb
 om:ob∈mb
 ql:q<w0.heap.size
 lm:lb∈mb
 lo:∀B∈mb,w0.heap.size<=B/\B<wr.heap.size
 ex:Ex w0 wr
section
variable {w0 wr:World} {q n b ob lb:Nat} {lv:Value} {L:List Lv} {os:List (Value × Value)} {ov:Value} {orb:List Int} {rv:Value} {reps:List (List Int)} {vals:List Value} {mb:List Nat}
theorem LQ.later(h:LQ w0 wr q n b ob lb lv L os ov orb rv reps vals mb){w':World}(hx:Ex wr w'):LQ w0 w' q n b ob lb lv L os ov orb rv reps vals mb:=
 ⟨hx.cell h.oc0,hx.cell h.oc1,hx.frz h.oc1 h.of1,hx.cell h.lc0,hx.cell h.lc1,hx.cell h.lc2,hx.frz h.lc1 h.lf1,hx.frz h.lc2 h.lf2,h.ne,h.ch.ex hx,Aj h.ovo hx,Aj h.rvo hx,fun i r u a c=>(h.rows i r u a c).mx (Mx.ofEx hx (q :: mb)),h.a1,h.a2,h.a3,h.nov,h.nrv,h.nlv,h.om,h.ql,h.lm,fun B hB=>⟨(h.lo B hB).1,Nat.lt_of_lt_of_le (h.lo B hB).2 hx.size⟩,h.ex.trans hx⟩
theorem zbY{P:Prop}(h:P:=by
 rw[World.cell?_setCell_other _ _ _ _ (by intro e;injection e with e;exact h.ne e.symm)];exact k):P:=h
theorem zb1{P:Prop}(h:P:=by
 rcases List.mem_append.1 hB with h1|h1
 .exact ha.own.lt B (by simpa using h1)
 .exact zaY):P:=h
theorem LQ.appOrb(h:LQ w0 wr q n b ob lb lv L os ov orb rv reps vals mb){w1:World}{ov':Value}{x:Int}(ha:Bn wr w1 w0.heap.size 3 1 ov ov' orb.length (Ao orb) [.int .i64 x]):
  ∃aH,LQ w0 (w1.setCell ⟨lb,1,none⟩ ov') q n b ob lb lv L os ov' (orb ++ [x]) rv reps vals aH/\Mx mb aH wr (w1.setCell ⟨lb,1,none⟩ ov'):=by
 have aF:=Q8 (j:=1) (u:=ov') ha (fun B e=>(h.nov B e).2.2) h.lm;have aK:(w1.setCell ⟨lb,1,none⟩ ov').heap.size=w1.heap.size:=b8;have hgs:=ha.grow;have aB:some ob≠ov.ownBlock:=fun e=>(h.nov ob e.symm).1 rfl;have aA:some lb≠ov.ownBlock:=fun e=>(h.nov lb e.symm).2.1 rfl;have obl:=(h.lo ob h.om).2;have lbl:=(h.lo lb h.lm).2;have aG:∀B,ov'.ownBlock=some B->B≠ob/\B≠lb:=fun B e=>by
  rcases ha.at_ with h1|h1
  .rw[h1]at e;exact⟨(h.nov B e).1,(h.nov B e).2.1⟩
  .rw[h1]at e;injection e with e;omega
 have aC:∀ {j:Nat} {v:Value},w1.cell? ⟨ob,j,none⟩=some v->(w1.setCell ⟨lb,1,none⟩ ov').cell? ⟨ob,j,none⟩=some v:=fun k=>by
  exact zbY
 have aD:∀ {j:Nat} {v:Value},1≠j->w1.cell? ⟨lb,j,none⟩=some v->(w1.setCell ⟨lb,1,none⟩ ov').cell? ⟨lb,j,none⟩=some v:=fun hj k=>by
  rw[Af hj];exact k
 have aE:∀ {e:TypeId} {size:Nat} {v:Value} {m:Nat} {xs:List Value},wr.ownsRow w0.heap.size e size v m xs->AQ v ov->(∀B,v.ownBlock=some B->B≠lb)->(w1.setCell ⟨lb,1,none⟩ ov').ownsRow w0.heap.size e size v m xs/\AQ v ov':=fun k hk hb=>
  ⟨Ac (ha.row k hk).1 (fun e=>hb _ e rfl) _,(ha.row k hk).2⟩
 have aJ:=aE h.ch.own h.a1.symm (fun B e=>(h.nlv B e).2.1);have aI:=aE h.rvo h.a3.symm (fun B e=>(h.nrv B e).2.1);refine⟨ov'.ownBlock.toList++mb,⟨aC (ha.cell h.oc0 aB),aC (ha.cell h.oc1 aB),by rw[FH];exact ha.frz h.oc1 h.of1 aB,aD ae (ha.cell h.lc0 aA),?_,aD ae (ha.cell h.lc2 aA),by rw[FH];exact ha.frz h.lc1 h.lf1 aA,by rw[FH];exact ha.frz h.lc2 h.lf2 aA,h.ne,h.ch.mx aF aJ.1 (fun B e=>List.mem_append_right _ (h.nlv B e).2.2),?_,aI.1,fun i r u a c=>(h.rows i r u a c).mx (aF.cons q),aJ.2.symm,h.a2,aI.2.symm,fun B e=>⟨(aG B e).1,(aG B e).2,List.mem_append_left _ (by rw[e];simp)⟩,fun B e=>⟨(h.nrv B e).1,(h.nrv B e).2.1,List.mem_append_right _ (h.nrv B e).2.2⟩,fun B e=>⟨(h.nlv B e).1,(h.nlv B e).2.1,List.mem_append_right _ (h.nlv B e).2.2⟩,List.mem_append_right _ h.om,h.ql,List.mem_append_right _ h.lm,fun B hB=>?_,aF.ex h.ex (fun B hB=>(h.lo B hB).1)⟩,aF⟩
 .exact World.cell?_setCell_same _ _ _ (ha.cell h.lc1 aA)
 .have:=ha.own;rw[List.length_append];exact Ac (by simpa[Ao]using this) (fun e=>(aG _ e).2 rfl) _
 .rw[aK];exact zb1
theorem LQ.appRep(h:LQ w0 wr q n b ob lb lv L os ov orb rv reps vals mb){w1:World}{rv' z:Value}{r:List Int}(hz:SI wr (q :: mb) z r)(ha:Bn wr w1 w0.heap.size 22 1 rv rv' reps.length vals [z]):
  ∃aH,LQ w0 (w1.setCell ⟨lb,2,none⟩ rv') q n b ob lb lv L os ov orb rv' (reps ++ [r]) (vals ++ [z]) aH/\Mx mb aH wr (w1.setCell ⟨lb,2,none⟩ rv'):=by
 have aF:=Q8 (j:=2) (u:=rv') ha (fun B e=>(h.nrv B e).2.2) h.lm;have aM:(w1.setCell ⟨lb,2,none⟩ rv').heap.size=w1.heap.size:=b8;have hgs:=ha.grow;have aB:some ob≠rv.ownBlock:=fun e=>(h.nrv ob e.symm).1 rfl;have aA:some lb≠rv.ownBlock:=fun e=>(h.nrv lb e.symm).2.1 rfl;have obl:=(h.lo ob h.om).2;have lbl:=(h.lo lb h.lm).2;have aG:∀B,rv'.ownBlock=some B->B≠ob/\B≠lb:=fun B e=>by
  rcases ha.at_ with h1|h1
  .rw[h1]at e;exact⟨(h.nrv B e).1,(h.nrv B e).2.1⟩
  .rw[h1]at e;injection e with e;omega
 have aC:∀ {j:Nat} {v:Value},w1.cell? ⟨ob,j,none⟩=some v->(w1.setCell ⟨lb,2,none⟩ rv').cell? ⟨ob,j,none⟩=some v:=fun k=>by
  exact zbY
 have aD:∀ {j:Nat} {v:Value},2≠j->w1.cell? ⟨lb,j,none⟩=some v->(w1.setCell ⟨lb,2,none⟩ rv').cell? ⟨lb,j,none⟩=some v:=fun hj k=>by
  rw[Af hj];exact k
 have aE:∀ {e:TypeId} {size:Nat} {v:Value} {m:Nat} {xs:List Value},wr.ownsRow w0.heap.size e size v m xs->AQ v rv->(∀B,v.ownBlock=some B->B≠lb)->(w1.setCell ⟨lb,2,none⟩ rv').ownsRow w0.heap.size e size v m xs/\AQ v rv':=fun k hk hb=>
  ⟨Ac (ha.row k hk).1 (fun e=>hb _ e rfl) _,(ha.row k hk).2⟩
 have aK:=aE h.ch.own h.a2.symm (fun B e=>(h.nlv B e).2.1);have aI:=aE h.ovo h.a3 (fun B e=>(h.nov B e).2.1);have aL:vals.length=reps.length:=by have:=h.rvo.1;omega
 refine⟨rv'.ownBlock.toList++mb,⟨aC (ha.cell h.oc0 aB),aC (ha.cell h.oc1 aB),by rw[FH];exact ha.frz h.oc1 h.of1 aB,aD ae (ha.cell h.lc0 aA),aD ae (ha.cell h.lc1 aA),?_,by rw[FH];exact ha.frz h.lc1 h.lf1 aA,by rw[FH];exact ha.frz h.lc2 h.lf2 aA,h.ne,h.ch.mx aF aK.1 (fun B e=>List.mem_append_right _ (h.nlv B e).2.2),aI.1,?_,fun i r' u a c=>?_,h.a1,aK.2.symm,aI.2,fun B e=>⟨(h.nov B e).1,(h.nov B e).2.1,List.mem_append_right _ (h.nov B e).2.2⟩,fun B e=>⟨(aG B e).1,(aG B e).2,List.mem_append_left _ (by rw[e];simp)⟩,fun B e=>⟨(h.nlv B e).1,(h.nlv B e).2.1,List.mem_append_right _ (h.nlv B e).2.2⟩,List.mem_append_right _ h.om,h.ql,List.mem_append_right _ h.lm,fun B hB=>?_,aF.ex h.ex (fun B hB=>(h.lo B hB).1)⟩,aF⟩
 .exact World.cell?_setCell_same _ _ _ (ha.cell h.lc2 aA)
 .have:=ha.own;rw[List.length_append];exact Ac this (fun e=>(aG _ e).2 rfl) _
 .by_cases hi:i<reps.length
  .rw[List.getElem?_append_left hi]at a;rw[List.getElem?_append_left ac]at c;exact(h.rows i r' u a c).mx (aF.cons q)
  .rw[List.getElem?_append_right ac]at a;rw[List.getElem?_append_right ac]at c;have aJ:i-reps.length=0:=by
    exact zcT
   rw[aJ]at a;rw[aL,aJ]at c;simp at a c;subst a c;exact hz.mx (aF.cons q)
 .rw[aM];exact zb1
end
structure ZJ(w0 wr:World)(q n ob:Nat)(lv:Value)(L:List Lv)(os:List (Value × Value))(mb:List Nat):Prop where
 oc0:wr.cell? ⟨ob,0,none⟩=some (.int .i64 n)
 oc1:wr.cell? ⟨ob,1,none⟩=some lv
 of1:wr.frozen? ⟨ob,1,none⟩=false
 ch:WV wr w0.heap.size q mb lv L os
 nlv:∀B,lv.ownBlock=some B->B≠ob
 om:ob∈mb
 ql:q<w0.heap.size
 lo:∀B∈mb,w0.heap.size<=B/\B<wr.heap.size
 ex:Ex w0 wr
theorem ZJ.begin_{w0 wr:World}{q n b ob:Nat}{lv:Value}{L:List Lv}{os:List (Value × Value)}{mb:List Nat}(h:ZJ w0 wr q n ob lv L os mb):
  LQ w0 (wr.alloc (.cells #[.int .i64 b,.slice none 0 0,.slice none 0 0] 90)) q n b ob wr.heap.size lv L os (.slice none 0 0) [] (.slice none 0 0) [] [] (wr.heap.size :: mb)/\Mx mb (wr.heap.size :: mb) wr (wr.alloc (.cells #[.int .i64 b,.slice none 0 0,.slice none 0 0] 90)):=by
 have hx:Ex wr (wr.alloc (.cells #[.int .i64 b,.slice none 0 0,.slice none 0 0] 90)):=(Ex.refl _).alloc _;have aB:(wr.alloc (.cells #[.int .i64 b,.slice none 0 0,.slice none 0 0] 90)).heap.size=wr.heap.size+1:=ag;have aA:Mx mb (wr.heap.size :: mb) wr (wr.alloc (.cells #[.int .i64 b,.slice none 0 0,.slice none 0 0] 90)):=by
  refine⟨hx.os,hx.tape,hx.output,hx.size,fun i hi _=>hx.block i hi,fun B hB=>?_⟩;rcases List.mem_cons.1 hB with e|e
  .exact .inr ac
  .exact .inl e
 have hob:=(h.lo ob h.om).2;refine⟨⟨hx.cell h.oc0,hx.cell h.oc1,hx.frz h.oc1 h.of1,ag,ag,ag,ag,ag,ac,h.ch.mx aA (Aj h.ch.own hx) (fun B e=>List.mem_cons_of_mem _ (h.ch.blk B e)),World.ownsRow_nil _ _ _ _,World.ownsRow_nil _ _ _ _,fun i r u a=>by simp at a,AQ.nil _,AQ.nil _,AQ.nil _,fun B e=>(by cases e),fun B e=>(by cases e),fun B e=>⟨h.nlv B e,by have:=(h.lo B (h.ch.blk B e)).2;omega,List.mem_cons_of_mem _ (h.ch.blk B e)⟩,List.mem_cons_of_mem _ h.om,h.ql,List.mem_cons_self ..,fun B hB=>?_,h.ex.trans hx⟩,aA⟩;rw[aB];rcases List.mem_cons.1 hB with e|e
 .subst e;have:=h.ex.size;omega
 .have:=h.lo B e;omega
theorem LQ.drop{w0 wr:World}{q n b ob lb:Nat}{lv:Value}{L:List Lv}{os:List (Value × Value)}{ov:Value}{orb:List Int}{rv:Value}{reps:List (List Int)}{vals:List Value}{mb:List Nat}(h:LQ w0 wr q n b ob lb lv L os ov orb rv reps vals mb):ZJ w0 wr q n ob lv L os mb:=
 ⟨h.oc0,h.oc1,h.of1,h.ch,fun B e=>(h.nlv B e).1,h.om,h.ql,h.lo,h.ex⟩
theorem LQ.keep{w0 wr:World}{q n b ob lb:Nat}{lv:Value}{L:List Lv}{os:List (Value × Value)}{ov:Value}{orb:List Int}{rv:Value}{reps:List (List Int)}{vals:List Value}{mb:List Nat}(h:LQ w0 wr q n b ob lb lv L os ov orb rv reps vals mb){w1:World}{aA:Value}
  (ha:Bn wr w1 w0.heap.size 90 3 lv aA L.length (Re L os) [.int .i64 b,ov,rv]):
  ∃mb',ZJ w0 (w1.setCell ⟨ob,1,none⟩ aA) q n ob aA (L ++ [⟨b,orb,reps⟩]) (os ++ [(ov,rv)]) mb':=by
 have aB:Mx mb (ob :: lv.ownBlock.toList) wr wr:=⟨rfl,rfl,rfl,Nat.le_refl _,fun _ _ _=>rfl,fun B hB=>by
  rcases List.mem_cons.1 hB with e|e
  .subst e;exact .inl h.om
  .exact .inl (h.nlv B (by simpa using e)).2.2⟩
 have aF:=Q8 (mb:=ob :: lv.ownBlock.toList) (j:=1) (u:=aA) (cb:=ob) ha (fun B e=>List.mem_cons_of_mem _ (by rw[e];simp)) (List.mem_cons_self ..);have aI:(w1.setCell ⟨ob,1,none⟩ aA).heap.size=w1.heap.size:=by simp[World.setCell]
 have hgs:=ha.grow;have aC:some ob≠lv.ownBlock:=fun e=>(h.nlv ob e.symm).1 rfl;have obl:=(h.lo ob h.om).2;have aH:∀B,aA.ownBlock=some B->B≠ob:=fun B e=>by
  rcases ha.at_ with h1|h1
  .rw[h1]at e;exact(h.nlv B e).1
  .rw[h1]at e;injection e with e;omega
 have aE:∀B,ov.ownBlock=some B->B ∉ ob :: lv.ownBlock.toList:=fun B e hm=>by
  rcases List.mem_cons.1 hm with e2|e2
  .exact(h.nov B e).1 e2
  .have e2:lv.ownBlock=some B:=by simpa using e2
   rcases h.a1 with k|k
   .rw[k]at e;cases e
   .exact k (by rw[e,e2])
 have aD:∀B,rv.ownBlock=some B->B ∉ ob :: lv.ownBlock.toList:=fun B e hm=>by
  rcases List.mem_cons.1 hm with e2|e2
  .exact(h.nrv B e).1 e2
  .have e2:lv.ownBlock=some B:=by simpa using e2
   rcases h.a2 with k|k
   .rw[k]at e;cases e
   .exact k (by rw[e,e2])
 have aK:SI wr (q :: ob :: lv.ownBlock.toList) ov orb:=⟨Sl.own h.ovo,fun _ B e=>⟨fun hm=>by
  rcases List.mem_cons.1 hm with e2|e2
  .have:=(h.ovo.lt B e).1;have:=h.ql;omega
  .exact aE B e e2,(h.ovo.lt B e).2⟩⟩
 have aJ:SM wr (q :: ob :: lv.ownBlock.toList) rv reps vals:=⟨Sl.own h.rvo,fun _ B e=>⟨fun hm=>by
  rcases List.mem_cons.1 hm with e2|e2
  .have:=(h.rvo.lt B e).1;have:=h.ql;omega
  .exact aD B e e2,(h.rvo.lt B e).2⟩,fun i r u a c=>(h.rows i r u a c).mx (aB.cons q)⟩
 refine⟨aA.ownBlock.toList++(ob :: lv.ownBlock.toList),?_,?_,by rw[FH];exact ha.frz h.oc1 h.of1 aC,⟨?_,by simp[h.ch.len],fun i l o a c=>?_,fun B e=>List.mem_append_left _ (by rw[e];simp)⟩,aH,List.mem_append_right _ (List.mem_cons_self ..),h.ql,fun B hB=>?_,aF.ex h.ex (fun B hB=>?_)⟩
 .rw[Af ae];exact ha.cell h.oc0 aC
 .exact World.cell?_setCell_same _ _ _ (ha.cell h.oc1 aC)
 .rw[Sy L os ⟨b,orb,reps⟩ (ov,rv) h.ch.len,List.length_append];exact Ac ha.own (fun e=>aH _ e rfl) _
 .by_cases hi:i<L.length
  .rw[List.getElem?_append_left hi]at a;rw[List.getElem?_append_left (by have:=h.ch.len;omega)]at c;obtain⟨k1,v2,k2⟩:=h.ch.lev i l o a c;exact⟨(k1.mx (aB.cons q)).mx (aF.cons q),v2,(k2.mx (aB.cons q)).mx (aF.cons q)⟩
  .rw[List.getElem?_append_right ac]at a;rw[List.getElem?_append_right (by have:=h.ch.len;omega)]at c;have aG:i-L.length=0:=by
    exact zcT
   rw[aG]at a;rw[h.ch.len,aG]at c;simp at a c;subst a c;exact⟨aK.mx (aF.cons q),vals,aJ.mx (aF.cons q)⟩
 .rw[aI];rcases List.mem_append.1 hB with h1|h1
  .exact ha.own.lt B cw
  .rcases List.mem_cons.1 h1 with e|e
   .subst e;exact⟨(h.lo B h.om).1,ac⟩
   .have:=h.lo B (h.nlv B (by simpa using e)).2.2;exact⟨this.1,ac⟩
 .rcases List.mem_cons.1 hB with e|e
  .subst e;exact(h.lo B h.om).1
  .exact(h.lo B (h.nlv B (by simpa using e)).2.2).1
theorem ZJ.o{w0 wr:World}{q n ob:Nat}{lv:Value}{L:List Lv}{os:List (Value × Value)}{mb:List Nat}(h:ZJ w0 wr q n ob lv L os mb)(u v:Value):EF ((wr.setCell ⟨q,0,none⟩ u).setCell ⟨q,1,none⟩ v) lv L:=by
 have aA:lv.ownBlock≠some q:=fun e=>by
  have:=(h.lo q (h.ch.blk q e)).1;have:=h.ql;omega
 have hM:Mx (q :: mb) (q :: mb) wr ((wr.setCell ⟨q,0,none⟩ u).setCell ⟨q,1,none⟩ v):=by
  refine⟨rfl,rfl,rfl,by simp[World.setCell],fun i hi hn=>?_,fun B hB=> .inl hB⟩;have aB:i≠q:=fun e=>hn (by rw[e];exact List.mem_cons_self ..);rw[Below.heap_setCell _ _ _ _ aB,Below.heap_setCell _ _ _ _ aB]
 refine⟨os,h.ch.len,Sl.own (Ac (Ac h.ch.own aA u) aA v),fun i l o a c=>?_⟩;obtain⟨k1,vals,k2⟩:=h.ch.lev i l o a c;exact⟨(k1.mx hM).sl,(k2.mx hM).msl⟩
open Classical in
noncomputable def Bq (S:List (Nat->Nat)) (b m:Nat):List Nat:=(List.range m).filter fun x=>decide (∃f,Gn S f/\AW b f/\f b=x)
open Classical in
theorem Mm (S:List (Nat->Nat)) (b m:Nat):((∃f,Gn S f/\AW b f/\f b=m)->Bq S b (m+1)=Bq S b m ++ [m])/\(¬(∃f,Gn S f/\AW b f/\f b=m)->Bq S b (m+1)=Bq S b m):=by
 unfold Bq;rw[List.range_succ,List.filter_append];constructor
 .intro h;simp[List.filter,h]
 .intro h;have h2:decide (∃f,Gn S f/\AW b f/\f b=m)=false:=decide_eq_false h;simp only[List.filter,h2,List.append_nil]
theorem Gc(S:List (Nat->Nat))(b m:Nat):(Bq S b m).length<=m:=by
 unfold Bq;exact Nat.le_trans (List.length_filter_le _ _) ag
noncomputable def DE(n:Nat)(S:List (Nat->Nat))(b m:Nat):List (List Int):=(Bq S b m).map fun x=>li n (FY n S b x)
noncomputable def E7(n:Nat)(S:List (Nat->Nat))(b:Nat):Lv:=⟨b,Dy (Bq S b n),DE n S b n⟩
noncomputable def Co(n:Nat)(S:List (Nat->Nat))(m:Nat):List Lv:=((List.range m).map (E7 n S)).filter fun l=>decide (1<l.orb.length)
theorem MN(n:Nat)(S:List (Nat->Nat))(m:Nat):Co n S (m+1)=Co n S m++if 1<(E7 n S m).orb.length then [E7 n S m] else []:=by
 unfold Co;rw[List.range_succ,List.map_append,List.filter_append]
 congr 1
 by_cases h:1<(E7 n S m).orb.length <;> simp[List.filter,h]
theorem Qc(n:Nat)(S:List (Nat->Nat))(m:Nat):(Co n S m).length<=m:=by
 unfold Co;refine Nat.le_trans (List.length_filter_le _ _) ag
section
variable {w0 wr:World} {q n b ob lb:Nat} {lv:Value} {L:List Lv} {os:List (Value × Value)} {ov:Value} {orb:List Int} {rv:Value} {reps:List (List Int)} {vals:List Value} {mb:List Nat}
theorem LQ.atOrb(h:LQ w0 wr q n b ob lb lv L os ov orb rv reps vals mb){w1:World}{aA:Value}{x:Int}(ha:Bn wr w1 w0.heap.size 3 1 ov aA orb.length (Ao orb) [.int .i64 x]):w1.cell? ⟨lb,1,none⟩=some ov/\w1.frozen? ⟨lb,1,none⟩=false:=
 ⟨ha.cell h.lc1 (fun e=>(h.nov lb e.symm).2.1 rfl),ha.frz h.lc1 h.lf1 (fun e=>(h.nov lb e.symm).2.1 rfl)⟩
theorem LQ.atRep(h:LQ w0 wr q n b ob lb lv L os ov orb rv reps vals mb){w1:World}{aA z:Value}(ha:Bn wr w1 w0.heap.size 22 1 rv aA reps.length vals [z]):w1.cell? ⟨lb,2,none⟩=some rv/\w1.frozen? ⟨lb,2,none⟩=false:=
 ⟨ha.cell h.lc2 (fun e=>(h.nrv lb e.symm).2.1 rfl),ha.frz h.lc2 h.lf2 (fun e=>(h.nrv lb e.symm).2.1 rfl)⟩
theorem LQ.atLev(h:LQ w0 wr q n b ob lb lv L os ov orb rv reps vals mb){w1:World}{aA:Value}{news:List Value}(ha:Bn wr w1 w0.heap.size 90 3 lv aA L.length (Re L os) news):w1.cell? ⟨ob,1,none⟩=some lv/\w1.frozen? ⟨ob,1,none⟩=false:=
 ⟨ha.cell h.oc1 (fun e=>(h.nlv ob e.symm).1 rfl),ha.frz h.oc1 h.of1 (fun e=>(h.nlv ob e.symm).1 rfl)⟩
end
theorem Uo(w:World){base n tb rb gb:Nat}{rr:Nat->Nat}{bE:List Nat}{t:Tw}{S:List (Nat->Nat)}{k0:Nat}(bZ:Ur w base n tb rb gb rr bE t)(hB:Io n S t k0)(bJ:S.length<=k0)(hS:∀s∈S,Bw n s)(aP:1<=n)(hn:n<=64):
  Calls Tryz.prog 175 #[.pointer (some ⟨tb,0,none⟩)] w fun r w'=>∃lv,r= .returned (.agg #[.int .i64 n,lv])/\EF w' lv (Co n S n)/\Ex w w':=by
 obtain⟨gv,V,hM⟩:=bZ;obtain⟨HM,HB,HS,aL,bD⟩:=Of hM hB hS (fun b (hb:b<n) x=>hB.orb aP hS bJ hb x) (fun b x (hb:b<n) r (hr:t.R b x=some r)=>hB.canon aP hS bJ hb hr);have hn0:n<=64:=hn;clear hM hB hS;go_enter Tryz.func175,Tryz.ntmps175
 have ea:Ex w (w.alloc (.cells #[.int .i64 0,.slice none 0 0] 43)):=(Ex.refl _).alloc _;have eb:Ex (w.alloc (.cells #[.int .i64 0,.slice none 0 0] 43)) ((w.alloc (.cells #[.int .i64 0,.slice none 0 0] 43)).alloc (.cells #[.int .i64 n,.slice none 0 0] 43)):=(Ex.refl _).alloc _;have c0:=ea.cell HM.o.c0;have cF:=eb.cell c0;go_wp2_with fail
 obtain⟨q,hq⟩:=nA w.heap.size;have bB:=Aa (HM.o.ex ea);have aJ:(w.alloc (.cells #[.int .i64 0,.slice none 0 0] 43)).heap.size=q+1:=by simp[hq]
 have q0:(w.alloc (.cells #[.int .i64 0,.slice none 0 0] 43)).cell? ⟨q,0,none⟩=some (.int .i64 0):=by rw[<-hq];simp
 have q1:(w.alloc (.cells #[.int .i64 0,.slice none 0 0] 43)).cell? ⟨q,1,none⟩=some (.slice none 0 0):=by rw[<-hq];simp
 have aS:(w.alloc (.cells #[.int .i64 0,.slice none 0 0] 43)).frozen? ⟨q,0,none⟩=false:=by rw[<-hq];simp
 have aR:(w.alloc (.cells #[.int .i64 0,.slice none 0 0] 43)).frozen? ⟨q,1,none⟩=false:=by rw[<-hq];simp
 try simp only[hq]
 generalize w.alloc (.cells #[.int .i64 0,.slice none 0 0] 43)=wR at *;have aN:=Aa (show ZJ wR (wR.alloc (.cells #[.int .i64 n,.slice none 0 0] 43)) q n (q+1) (.slice none 0 0) [] [] [q+1] from⟨by rw[<-aJ];simp,by rw[<-aJ];simp,by rw[<-aJ];simp,WV.nil _ _ _ _,fun B e=>(by cases e),ag,ac,fun B hB=>by
  rw[List.mem_singleton.1 hB,<-aJ];simp,eb⟩)
 obtain⟨EA,Q0,Q1,cH,cG,bA⟩:=To ea q0 q1 aS aR (show w.heap.size<=q from ac);clear ea eb c0 cF q0 q1 aS aR aJ;generalize wR.alloc (.cells #[.int .i64 n,.slice none 0 0] 43)=wA at *;clear hq
 go_loopw [17] (fun b' wr=>∃(b:Nat) (lv:Value) (os:List (Value × Value)) (mb:List Nat),b<=n/\b'= .int .i64 b/\Hia (ZJ wR wr q n (q+1) lv (Co n S b) os mb)) (fun b' _=>n-(intOf b').toNat)
 case atStart=>exact⟨0,_, [],_,ac,rfl,aN⟩
 case round=>
  clear aN;obtain⟨b,lv,os,mb,hb,rfl,aE⟩:=hrel;have cO:=Aa (Qc n S b);by_cases hbn:b<n
  .have i1:(0:Int)<=(b:Int):=by omega
   have i2:(b:Int)<(n:Int):=ac;obtain⟨aH,cC⟩:=aE.o.begin_ (b:=b);have bC:=Aa aH;have bP:=Aa (bB.o.ex aH.ex);have c1:=bP.o.c1;have c3:=bP.o.ro b hbn;clear aH cC aE;go_wp2_with fail
   obtain⟨lb,aX⟩:=nA wr.heap.size;rw[aX]at bC
   try simp only[aX]
   generalize wr.alloc (.cells #[.int .i64 b,.slice none 0 0,.slice none 0 0] 90)=wb at *;clear aX c1 c3
   go_loopw [30] (fun x' wr=>∃(x:Nat) (ov rv:Value) (vals:List Value) (mb:List Nat),x<=n/\x'= .int .i64 x/\Hia (LQ wR wr q n b (q+1) lb lv (Co n S b) os ov (Dy (Bq S b x)) rv (DE n S b x) vals mb)) (fun x' _=>n-(intOf x').toNat)
   case atStart=>exact⟨0,_,_,_,_,ac,rfl,bC⟩
   case round=>
    clear bC;obtain⟨x,ov,rv,vals,mb,hx,rfl,aG⟩:=hrel;by_cases hxn:x<n
    .have i3:(0:Int)<=(x:Int):=by omega
     have i4:(x:Int)<(n:Int):=ac;have bO:=Aa (bB.o.ex aG.o.ex);have d3:=(bO.o.row b hbn).cell hxn;have aA:=HM.o.rep b x hbn hxn
     cases hR:t.R b x with
     | none=>
      rw[hR]at aA;have aA:V b x= .slice none 0 0:=aA;rw[aA]at d3;have aM:=Aa ((Mm S b x).2 (fun h=>by
       obtain⟨r,hr⟩:=(aL.o b hbn x).2 h;rw[hR]at hr;cases hr))
      have aQ:=Aa (show DE n S b (x+1)=DE n S b x from by unfold DE;rw[aM.o]);clear aA hR;go_wp2_with fail
      go_roundw
      case rel=>exact⟨x+1,ov,rv,vals,mb,ac,by go_num,by rw[aM.o,aQ.o];exact aG⟩
      case measure=>simp[intOf];omega
     | some r=>
      rw[hR]at aA;have aA:Cv _ bE n (V b x) r:=aA;obtain⟨vb,vo,vc,hV,_,_,bG,_⟩:=aA.at_;obtain⟨_,_,bI,cB,cA⟩:=HB.o.good.rep _ _ _ hR;rw[hV]at d3;have aM:=Aa ((Mm S b x).1 ((aL.o b hbn x).1 ⟨r,hR⟩));obtain⟨cM,aQ,bQ,aC⟩:=Eq (JF HS.o (bD.o b x hbn r hR)) (show DE n S b (x+1)=DE n S b x ++ [li n (FY n S b x)] from by unfold DE;rw[aM.o,List.map_append];rfl) (show Dy (Bq S b (x+1))=Dy (Bq S b x) ++ [(x:Int)] from by rw[aM.o,SK]) aG.o;obtain⟨oa,oc,aV⟩:=Ad aC.o.ovo;subst aV;have c1:=aC.o.lc1;have hol:(Dy (Bq S b x)).length<=64:=by rw[CE];have:=Gc S b x;omega
      obtain⟨aY,cK,cL,cI⟩:=Eq aC.o.ex.size (show Am wR (.slice (some ⟨vb,vo,none⟩) n vc) (li n r) from by rw[<-hV];exact aA.sl.ex EA.o) bI bG;clear aA hV bI cB cA aG bO hR bG;go_upto_region 11 with (at_builtin;refine Al _ rfl _ _ 22 rfl wR.heap.size 3 (.int .i64 0) 1 8 Tryz.underlying22 AA rfl ae _ (Dy (Bq S b x)).length _ rfl aC.o.ovo [.int .i64 (x:Int)] 3 _ rfl ag rfl aj ai ac aY.o ?_)
      intro ov' w4 aB;obtain⟨bT,bS,aU⟩:=Ad aB.own;subst aU;obtain⟨e1,e2⟩:=aC.o.atOrb aB;obtain⟨bU,bH,_⟩:=aC.o.appOrb aB;have aF:=Aa bH;clear aB bH d3 c1;go_upto_region 11 with fail
      obtain⟨wo,bF⟩:=nA (w4.setCell ⟨lb,1,none⟩ (.slice bT ((Dy (Bq S b x)).length+1) bS));rw[bF]at aF ⊢;clear bF e1 e2;obtain⟨ra,rc,aT⟩:=Ad aF.o.rvo;subst aT;have c2:=aF.o.lc2;have E0:Ex wo wo.drew:=(Ex.refl wo).drew;have hrl:(DE n S b x).length<=64:=by unfold DE;rw[List.length_map];have:=Gc S b x;omega
      have cP:=Aa (fun w5 (h5:Ex wo w5)=>Pd w5 (bB.o.ex (aF.o.ex.trans h5)) HB.o.good aP hn _ r b hbn (cK.o.ex (aF.o.ex.trans h5)) cL.o)
      go_region_law ((first|(go_simp;go_at_call 211;(with_reducible refine(cP.o _ E0).mono ?_);rintro e w5⟨z,rfl,hz,bL,bX⟩;have E5:=E0.trans bX;have bN:=E5.cell c2;obtain⟨za,zc,bV,_,_,_⟩:=E9 hz;subst bV;have cE:=((Ex.refl w5).alloc (.cells #[.slice za n zc] 22)).cell bN;have HZ:=Aa hz;have cN:=Aa bL;clear hz bL;have aK:=Aa (aF.o.later E5))|(refine Ci bp _ _ _ bp wR.heap.size 22 (.slice none 0 0) 1 24 Tryz.underlying37 BH rfl ae (.slice ra (DE n S b x).length rc) (DE n S b x).length vals bp (Aj aK.o.rvo ((Ex.refl w5).alloc _)) _ 1 [.slice za n zc] bp (Sl.own (Fi w5 (.slice za n zc) 22)) aj ai ac (Nat.le_trans aK.o.ex.size ag) ?_;intro v6 w6 aD bK bM;have bR:=Aa (show Bn w5 w6 wR.heap.size 22 1 (.slice ra (DE n S b x).length rc) v6 (DE n S b x).length vals [.slice za n zc] from⟨aD,⟨_,bK⟩,by simpa using bM,aK.o.rvo⟩);obtain⟨k1,k2⟩:=aK.o.atRep bR.o;obtain⟨va,vc6,bY⟩:=Ad aD;subst bY;clear aD bK bM)))
      all_goals
       have cJ:=Aa (show SI w5 (q :: bU) (.slice za n zc) (li n (FY n S b x)) from⟨by rw[cM.o];exact HZ.o,fun _ B e=>by
        obtain⟨b',o',bW,cD,_⟩:=Fn HZ.o aP;subst bW;injection e with e;have e:b'=B:=e;subst e;refine⟨fun hm=>?_,cD⟩;have hl:b'=q∨wR.heap.size<=b'/\b'<wo.heap.size:=by
         rcases List.mem_cons.1 hm with e|e
         .exact .inl e
         .exact .inr (aF.o.lo b' e)
        have hqw:=bA.o;have hql:=aF.o.ql;have hws:=aF.o.ex.size;have hea:=EA.o.size;rcases cN.o with h1|⟨g,cap',h1,h2⟩
        .injection h1 with h1 _ _;injection h1 with h1;injection h1 with h1;have:=cI.o;omega
        .injection h1 with h1 _ _;injection h1 with h1;injection h1 with h1;have h2:wo.heap.size<=g:=h2;omega⟩)
       have aZ:=Aa (aK.o.appRep cJ.o bR.o);clear k1 k2 c2 bN cE;go_wp2_with fail
       go_roundw
       case rel=>
        obtain⟨aI,h1⟩:=aZ.o
        first
                | exact⟨x+1,_,_,_,aI,ac,by go_num,by rw[bQ.o,aQ.o];exact Aa h1.1⟩
                | ((repeat apply Exists.intro);exact⟨⟨x+1,_,_,_,aI,ac,by go_num,by rw[bQ.o,aQ.o];exact Aa h1.1⟩,rfl⟩)
       case measure=>simp[intOf];omega
    .obtain rfl:x=n:=by omega
     have aC:=Aa aG.o;obtain⟨oa,oc,aV⟩:=Ad aC.o.ovo;subst aV;have c1:=aC.o.lc1;have hcl:(Co x S b).length<=64:=by have:=cO.o;omega
     have aY:=Aa aC.o.ex.size;by_cases h1:1<(Dy (Bq S b x)).length
     .have aO:=Aa (show Co x S (b+1)=Co x S b ++ [⟨b,Dy (Bq S b x),DE x S b x⟩] from by
       rw[MN,if_pos (show 1<(E7 x S b).orb.length from h1)];rfl)
      have b1:decide (1<((Dy (Bq S b x)).length:Int))=true:=aq;have b2:decide (1<(Dy (Bq S b x)).length)=true:=cw;obtain⟨la,lc,aH⟩:=Ad aC.o.ch.own;obtain⟨ra,rc,aT⟩:=Ad aC.o.rvo;subst aH aT;have l0:=aC.o.lc0;have l2:=aC.o.lc2;have o1:=aC.o.oc1;clear h1 aG;go_wp2_with (at_builtin;refine Al _ rfl _ _ 41 rfl wR.heap.size 90 (.agg #[.int .i64 0,.slice none 0 0,.slice none 0 0]) 3 56 Tryz.underlying41 Uc rfl ae _ (Co x S b).length _ rfl aC.o.ch.own [.int .i64 b,.slice oa (Dy (Bq S b x)).length oc,.slice ra (DE x S b x).length rc] 90 _ rfl ag rfl aj ai ac aY.o ?_)
      intro lv2 w4 aB;obtain⟨la2,lc2,aW⟩:=Ad aB.own;subst aW;obtain⟨e1,e2⟩:=aC.o.atLev aB;have HK:=Aa (aC.o.keep aB);clear aB l0 l2 o1 c1;go_wp2_with fail
      go_roundw
      case rel=>
       obtain⟨aI,h1⟩:=HK.o
       first
              | exact⟨b+1,_,_,aI,ac,by go_num,by rw[aO.o];exact Aa h1⟩
              | ((repeat apply Exists.intro);exact⟨⟨b+1,_,_,aI,ac,by go_num,by rw[aO.o];exact Aa h1⟩,rfl⟩)
      case measure=>simp[intOf];omega
     .have aO:=Aa (show Co x S (b+1)=Co x S b from by
       rw[MN,if_neg (show ¬1<(E7 x S b).orb.length from h1),List.append_nil])
      have b1:decide (1<((Dy (Bq S b x)).length:Int))=false:=aq;have b2:decide (1<(Dy (Bq S b x)).length)=false:=cw;have HK:=Aa aG.o.drop;clear h1 aG;go_wp2_with fail
      go_roundw
      case rel=>first|exact⟨b+1,lv,os,mb,ac,by go_num,by rw[aO.o];exact HK⟩|((repeat apply Exists.intro);exact⟨⟨b+1,lv,os,mb,ac,by go_num,by rw[aO.o];exact HK⟩,rfl⟩)
      case measure=>simp[intOf];omega
  .obtain rfl:b=n:=by omega
   have o0:=aE.o.oc0;have o1:=aE.o.oc1;obtain⟨la,lc,aH⟩:=Ad aE.o.ch.own;subst aH;have q0:=aE.o.ex.cell Q0.o;have q1:=aE.o.ex.cell Q1.o;have aS:=aE.o.ex.frz Q0.o cH.o;have aR:=aE.o.ex.frz Q1.o cG.o;have aN:=Aa aE.o;clear aE;go_wp2_with fail
   exact bodyPost_ret (v:= .agg #[.int .i64 b,.slice la (Co b S b).length lc]) (by simp[results,Tryz.results175,go_sem,q0,q1]) rfl ⟨_,rfl,aN.o.o _ _,((EA.o.trans aN.o.ex).setCell (p:=⟨q,0,none⟩) bA.o _).setCell (p:=⟨q,1,none⟩) bA.o _⟩
structure Chn where
 deg:Int
 lev:List Lv
noncomputable def C7(n:Int)(rows:List (List Int)):Chn × Int:=if Ef n rows≠0 then(⟨0, []⟩,Ef n rows) else(⟨n,Co n.toNat (rows.map Dg) n.toNat⟩,0)
def Zn(n:Int)(rows:List (List Int))(r:Ending)(w':World):Prop:=∃v,r= .returned (.tuple #[.agg #[.int .i64 (C7 n rows).1.deg,v],.int .i64 (C7 n rows).2])/\EF w' v (C7 n rows).1.lev
theorem JO{n:Int}{rows:List (List Int)}{d:Int}{L:List Lv}{e:Int}{v:Value}{w':World}(h:C7 n rows=(⟨d,L⟩,e))(hv:EF w' v L):Zn n rows (.returned (.tuple #[.agg #[.int .i64 d,v],.int .i64 e])) w':=⟨v,by rw[h],by rw[h];exact hv⟩
theorem zcx{P:Prop}(h:P:=by
 apply Classical.byContradiction;intro hn;have:n=0:=by omega
 subst this;omega):P:=h
theorem Sn{w:World}{q:Nat}{z:Int}(h0:w.cell? ⟨q,0,none⟩=some (.int .i64 z))(h1:w.cell? ⟨q,1,none⟩=some (.slice none 0 0))(h2:∀j,2<=j->w.cell? ⟨q,j,none⟩=none){v:Value}{n size:Nat}{xs:List Value}(h:Sl w v n size xs)(hl:2<=xs.length)(hx:xs[0]?≠some (.int .i64 z)∨xs[1]?≠some (.slice none 0 0)):v.ownBlock≠some q:=by
 intro e;obtain⟨k1,a,cap,rfl,_,_,k5⟩:=h;have hn:0<n:=by
  exact zcx
 obtain⟨b,o,rfl,k6⟩:=k5 hn;injection e with e;have e:b=q:=e;subst e;have x0:=k6 0 _ (List.getElem?_eq_getElem ac);have x1:=k6 1 _ (List.getElem?_eq_getElem ac);have ho:o=0:=by
  apply Classical.byContradiction;intro ho;have:=h2 (o+1) ac;rw[x1]at this;cases this
 subst ho;rw[h0]at x0;rw[h1]at x1;injection x0 with x0;injection x1 with x1;rcases hx with hx|hx
 .exact hx (by rw[List.getElem?_eq_getElem ac,<-x0])
 .exact hx (by rw[List.getElem?_eq_getElem ac,<-x1])
theorem Sl.set2{w:World}{v:Value}{n size:Nat}{xs:List Value}(h:Sl w v n size xs){q:Nat}(hq:v.ownBlock≠some q)(u u':Value):Sl ((w.setCell ⟨q,0,none⟩ u).setCell ⟨q,1,none⟩ u') v n size xs:=by
 obtain⟨k1,a,cap,rfl,k3,k4,k5⟩:=h;refine⟨k1,a,cap,rfl,k3,k4,fun hn=>?_⟩;obtain⟨b,o,rfl,k6⟩:=k5 hn;have hb:q≠b:=fun e=>hq (by rw[e];rfl);refine⟨b,o,rfl,fun j x hx=>?_⟩;rw[World.cell?_setCell_other _ _ _ _ (by intro e;injection e with e;exact hb e),World.cell?_setCell_other _ _ _ _ (by intro e;injection e with e;exact hb e)];exact k6 j x hx
theorem EF.set2{w:World}{q:Nat}{z:Int}(h0:w.cell? ⟨q,0,none⟩=some (.int .i64 z))(h1:w.cell? ⟨q,1,none⟩=some (.slice none 0 0))(h2:∀j,2<=j->w.cell? ⟨q,j,none⟩=none){v:Value}{L:List Lv}(h:EF w v L)
  (hL:∀l∈L,2<=l.orb.length/\2<=l.reps.length/\∀r∈l.reps,2<=r.length) (u u':Value):EF ((w.setCell ⟨q,0,none⟩ u).setCell ⟨q,1,none⟩ u') v L:=by
 obtain⟨os,k1,k2,k3⟩:=h;have aA:∀ {y:Value} {l:List Int},Am w y l->2<=l.length->Am ((w.setCell ⟨q,0,none⟩ u).setCell ⟨q,1,none⟩ u') y l:=fun {y l} hy hl=>
  Sl.set2 hy (Sn h0 h1 h2 hy (by rw[A7];exact hl) (.inr (by
   unfold Ao;rw[List.getElem?_map]
   cases l[1]? with
   | none=>simp
   | some x=>simp))) u u'
 refine⟨os,k1,?_,fun i l o a c=>?_⟩
 .by_cases hn:0<L.length
  .refine Sl.set2 k2 (fun e=>?_) u u';obtain⟨m1,a,cap,rfl,_,_,m5⟩:=k2;obtain⟨b,o,rfl,m6⟩:=m5 hn;injection e with e;have e:b=q:=e;subst e;have hl3:=Nz L os k1;have:=m6 2 _ (List.getElem?_eq_getElem ac);rw[h2 (o+2) ac]at this;cases this
  .obtain⟨m1,a,cap,rfl,m3,m4,m5⟩:=k2;exact⟨m1,a,cap,rfl,m3,m4,fun h=>absurd h hn⟩
 .obtain⟨g1,vals,g2,g3⟩:=k3 i l o a c;obtain⟨b1,b2,b3⟩:=hL l (List.mem_of_getElem? a);refine⟨aA g1 b1,vals,?_,fun j r y hr hy=>aA (g3 j r y hr hy) (b3 r (List.mem_of_getElem? hr))⟩;have hvl:vals.length=l.reps.length:=by have:=g2.1;omega
  refine Sl.set2 g2 (Sn h0 h1 h2 g2 ac (.inl fun e=>?_)) u u';have aB:l.reps[0]?=some (l.reps[0]'ac):=List.getElem?_eq_getElem _;obtain⟨_,_,e2,_⟩:=(g3 0 _ _ aB e).open;cases e2
theorem Qd{n:Nat}{S:List (Nat->Nat)}{m:Nat}{l:Lv}(h:l∈Co n S m):2<=l.orb.length/\2<=l.reps.length/\∀r∈l.reps,2<=r.length:=by
 unfold Co at h;obtain⟨h1,h2⟩:=List.mem_filter.1 h;obtain⟨b,_,rfl⟩:=List.mem_map.1 h1;have h2:1<(Dy (Bq S b n)).length:=of_decide_eq_true h2;rw[CE]at h2;have h3:=Gc S b n;refine⟨by show 2<=(Dy (Bq S b n)).length;rw[CE];omega,by show 2<=(DE n S b n).length;unfold DE;rw[List.length_map];omega,fun r hr=>?_⟩;have hr:r∈DE n S b n:=hr;unfold DE at hr;obtain⟨x,_,rfl⟩:=List.mem_map.1 hr;rw[E6];omega
theorem Yg(n:Nat):QA n (Nw n) 0:=fun c _ _=>by
 have:=Yf n (Nw n) c;show 0+_<=_
 omega
theorem MZ(w:World)(n:Int)(rows:List (List Int))(v:Value)(hv:BO w v rows)(hrl:rows.length<=1000):
  Calls Tryz.prog 123 #[.int .i64 n,v] w fun r w'=>Zn n rows r w'/\Ex w w':=by
 have ea:Ex w (w.alloc (.cells #[.int .i64 0,.slice none 0 0] 43)):=(Ex.refl _).alloc _;have q0:(w.alloc (.cells #[.int .i64 0,.slice none 0 0] 43)).cell? ⟨w.heap.size,0,none⟩=some (.int .i64 0):=ag;have q1:(w.alloc (.cells #[.int .i64 0,.slice none 0 0] 43)).cell? ⟨w.heap.size,1,none⟩=some (.slice none 0 0):=ag;have q2:∀j,2<=j->(w.alloc (.cells #[.int .i64 0,.slice none 0 0] 43)).cell? ⟨w.heap.size,j,none⟩=none:=fun j hj=>by
  obtain⟨i,rfl⟩:∃i,j=i+2:=⟨j-2,ac⟩;simp
 have aE:(w.alloc (.cells #[.int .i64 0,.slice none 0 0] 43)).frozen? ⟨w.heap.size,0,none⟩=false:=ag;have aD:(w.alloc (.cells #[.int .i64 0,.slice none 0 0] 43)).frozen? ⟨w.heap.size,1,none⟩=false:=ag;have HV:=Aa hv;have HG:=Aa (fun w1 (h:Ex w w1)=>Gh w1 n rows v (hv.ex h));obtain⟨a,cap,rfl,_,s2,_⟩:=hv.open;unfold maxLen at s2;obtain⟨e,he⟩:=nA (Ef n rows);rw[he]at HG;clear hv;go_enter Tryz.func123,Tryz.ntmps123
 go_wp2_with fail
 obtain⟨q,hq⟩:=nA w.heap.size;rw[hq]at q0 q1 aE aD q2
 try simp only[hq]
 have HQ:=Aa hq;have aP:=Aa ea;clear hq;generalize w.alloc (.cells #[.int .i64 0,.slice none 0 0] 43)=wR at *;refine(HG.o wR ea).mono ?_;rintro e' w1⟨rfl,aC⟩;have aO:=Aa aC;have aB:=World.block_lt_of_cell? _ _ q0;have Q2:=Aa (show ∀j,2<=j->w1.cell? ⟨q,j,none⟩=none from fun j hj=>(Below.cell aC (show(⟨q,j,none⟩:Addr).block<wR.heap.size from aB)).trans (q2 j hj));have aX:=aC.frz q0 aE;have aW:=aC.frz q1 aD;have q0:=aC.cell q0;have q1:=aC.cell q1;clear aC aE aD ea HG q2 aB;by_cases h0:e=0
 .subst h0;obtain⟨N,rfl,aN,aS,S,aM,hS⟩:=JM he;have HP:=Aa (show C7 N rows=(⟨N,Co N S N⟩,0) from by unfold C7;rw[he,if_neg ae,aM,Ht hS];rfl);have HS:=Aa hS;have bQ:=Aa aM;have bC:S.length=rows.length:=by rw[aM];simp
  obtain⟨bG,bT,Q0,Q1,bM,bL⟩:=To bC (Nv w1 N aN aS) q0 q1 aX aW;clear he hS aM bC q0 q1 aX aW;go_wp2_with (go_at_call 173;refine bT.o.mono ?_;rintro e w2⟨tb,rb,gb,rr,mb,rfl,aA,aZ⟩;have bF:=Aa aA;have bE:=Aa aZ;clear aA aZ)
  have bI:=Aa (Io.start (n:=N) (S:=S));have bH:=Aa (Yg N)
  go_loopw [21] (fun k' wr=>∃(k:Nat) (aH:List Nat) (tc:Tw),k<=rows.length/\k'= .int .i64 k/\Hia (Ur wr w1.heap.size N tb rb gb rr aH tc)/\Hia (Io N S tc k)/\Hia (QA N tc 0)/\Hia (Ex w1 wr)) (fun k' _=>rows.length-(intOf k').toNat)
  case atStart=>exact⟨0,mb,Nw N,ac,rfl,bF,bI,bH,bE⟩
  case round=>
   clear bF bI bH bE;obtain⟨k,aH,tc,hk,rfl,aA,aG,aR,hx⟩:=hrel;by_cases hkn:k<rows.length
   .obtain⟨s,hs⟩:∃s,S[k]?=some s:=⟨_,List.getElem?_eq_getElem (by rw[bG.o];exact hkn)⟩;have bB:rows[k]?=some (li N s):=by rw[bQ.o,List.getElem?_map,hs];rfl
    have bA:=HS.o s (List.mem_of_getElem? hs);obtain⟨_,_,e1,_,_,h3⟩:=HV.o.open;injection e1 with e1 e2 e3;subst e1 e3;obtain⟨zb,zo,rfl,aY⟩:=h3 ac;obtain⟨u,d1,hu⟩:=aY k _ bB;have bJ:=Aa (aP.o.trans (aO.o.trans hx.o));have d1:=bJ.o.cell d1;obtain⟨ua,uc,rfl,_,_,_⟩:=E9 hu;obtain⟨pb,po,rfl,hpb,_⟩:=Fn hu ac;have bS:=Aa (Cv.of (mb:=aH) (hu.ex bJ.o) aN fun B eB hm=>by
     injection eB with eB;have eB:pb=B:=eB;subst eB;obtain⟨gv,V,hM⟩:=aA.o;have h5:=(hM.lo pb hm).1;have h6:=(aP.o.trans aO.o).size;omega)
    have i1:(0:Int)<=(k:Int):=ac;have i2:(k:Int)<(rows.length:Int):=ac;obtain⟨bX,bV,cA,bR⟩:=Eq (Yz (base:=w1.heap.size) (tb:=tb) (rb:=rb) (gb:=gb) (rr:=rr) aN aS (Sr N tc 0) wr aH tc s _ 0 (fun _=>Nat.le_refl _) (Nat.zero_le _) aA.o aG.o.good (fun c _ hc=>aG.o.comp c hc) bS.o bA (fun i hi=>ac) hx.o.size aR.o) (show ∀B∈aH,w1.heap.size<=B from by obtain⟨gv,V,hM⟩:=aA.o;exact fun B hB=>(hM.lo B hB).1) aG.o hs;clear hs bB bA h3 aY hu aA aG aR;go_wp2_with (go_at_call 174;refine bX.o.mono ?_;rintro e w3⟨⟨zz,rfl⟩,mb3,t3,aI,aK,aJ,aL⟩;have aT:=Aa aI;have aU:=Aa aK;have bP:=Aa (aJ.ex hx.o bV.o);have aV:=Aa aL;clear aI aK aJ aL)
    have cB:=Aa (cA.o.step HS.o bR.o aU.o);go_roundw
    case rel=>exact⟨k+1,mb3,t3,ac,by go_num,aT,cB,aV,bP⟩
    case measure=>simp[intOf];omega
   .obtain rfl:k=rows.length:=by omega
    have bZ:=Aa (Uo wr aA.o aG.o (by rw[bG.o];exact Nat.le_refl _) HS.o aN aS);have q0:=hx.o.cell Q0.o;have q1:=hx.o.cell Q1.o;have aE:=hx.o.frz Q0.o bM.o;have aD:=hx.o.frz Q1.o bL.o;have bN:=Aa hx.o;clear aA aG aR hx;go_wp2_with (go_at_call 175;refine bZ.o.mono ?_;rintro e w4⟨lv,rfl,aQ,aF⟩;obtain⟨la,lc,bK,_,_,_⟩:=aQ.open;subst bK;have aE:=aF.frz q0 aE;have aD:=aF.frz q1 aD;have q0:=aF.cell q0;have q1:=aF.cell q1;have bU:=Aa aQ;have bO:=Aa aF;clear aQ aF)
    have bD:=Aa (bN.o.trans bO.o);have bY:=Aa (aP.o.trans (aO.o.trans bD.o));have aB:=World.block_lt_of_cell? _ _ Q0.o;have bW:=Aa (bU.o.set2 q0 q1 (fun j hj=>(Below.cell bD.o (show(⟨q,j,none⟩:Addr).block<w1.heap.size from aB)).trans (Q2.o j hj)) (fun l hl=>Qd hl) (.int .i64 N) (.slice la (Co N S N).length lc));exact bodyPost_ret (v:= .tuple #[.agg #[.int .i64 N,.slice la (Co N S N).length lc],.int .i64 0]) (by simp[results,Tryz.results123,go_sem,q0,q1]) rfl ⟨JO HP.o bW.o,(bY.o.setCell (p:=⟨q,0,none⟩) (Nat.le_of_eq HQ.o) _).setCell (p:=⟨q,1,none⟩) (Nat.le_of_eq HQ.o) _⟩
 .have HP:=Aa (show C7 n rows=(⟨0, []⟩,e) from by unfold C7;rw[he,if_pos h0]);have hb:(e !=0)=true:=by simpa using h0
  clear h0 he;go_wp2_with fail
  exact bodyPost_ret (v:= .tuple #[.agg #[.int .i64 0,.slice none 0 0],.int .i64 e]) (by simp[results,Tryz.results123,go_sem,q0,q1]) rfl ⟨JO HP.o (EF.nil _),((aP.o.trans aO.o).setCell (p:=⟨q,0,none⟩) (Nat.le_of_eq HQ.o) _).setCell (p:=⟨q,1,none⟩) (Nat.le_of_eq HQ.o) _⟩
end Go.Proofs.YtehieobniamagaaGreat
