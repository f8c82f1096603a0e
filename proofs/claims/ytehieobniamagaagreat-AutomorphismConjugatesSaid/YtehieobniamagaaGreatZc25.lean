/- What automorphism.run gathers: maps and goals. -/
import Derived.Test.YtehieobniamagaaGreatZc24
namespace Go.Proofs.YtehieobniamagaaGreat
open Go.RowKit
set_option linter.all false
set_option maxRecDepth 100000
set_option maxHeartbeats 8000000
theorem Xb:(Tryz.prog.info? 26).map (fun i=>(i.zero,i.size,i.bytes))=some (some (.agg #[.slice none 0 0,.slice none 0 0,(0:Int)]),3,56):=ah
def gF(c:AZ)(g:Cf):(Nat × List Nd) × Int:=GQ c c g.tl g.sl
def gE(c:AZ)(g:Cf):Int:=J7 0 (gF c g)
def gM(c:AZ)(g:Cf):CZ:=Jv 0 (gF c g)
def Da(c:AZ)(gs:List Cf):List CZ:=(gs.filter fun g=>gE c g==0).map (gM c)
def JS(c:AZ)(gs:List Cf):List Cf:=gs.filter fun g=>gE c g==11
def Oa(c:AZ)(gs:List Cf):Option Cf:=gs.find? fun g=>gE c g !=0&&gE c g !=11
def Yt(c:AZ)(gs:List Cf):Int:=match Oa c gs with
 | some g=>gE c g
 | none=>0
structure EW(n q:Nat)(g:Cf):Prop where
 ij:g.i<=g.j
 j:g.j<n
 a1:1<=g.a
 a:g.a<q
theorem gA_ok{n q i j:Nat}(h1:i<=j)(h2:j<n){g:Cf}{c:Nat}(hc:c<=q-1)(h:g∈gA i j c):EW n q g:=by
 unfold gA at h;obtain⟨a,ha,rfl⟩:=List.mem_map.1 h;rw[List.mem_range]at ha;exact⟨h1,h2,by show 1<=a+1;omega,by show a+1<q;omega⟩
theorem IL{n q:Nat}{g:Cf}(h:g∈Dw n q):EW n q g:=by
 unfold Dw gI at h;obtain⟨i,hi,h⟩:=List.mem_flatMap.1 h;unfold gJ at h;obtain⟨k,hk,h⟩:=List.mem_flatMap.1 h;rw[List.mem_range]at hi hk;exact gA_ok ac ac (Nat.le_refl _) h
theorem AM(g:Cf):g.tl.length=g.i+1:=by unfold Cf.tl;rw[List.length_append,F6];rfl
theorem BJ(g:Cf):g.sl.length=g.i+1:=by unfold Cf.sl;rw[List.length_append,FY];rfl
theorem zaL{P:Prop}(h:P:=by
 obtain rfl:k=g.i:=by omega
 rw[List.getElem?_append_right (by simp),if_neg h];simp):P:=h
theorem zaQ{P:Prop}(h:P:=by
 rw[List.getElem?_append_left (by simpa using h),if_pos h];simp[h]):P:=h
theorem zcI{P:Prop}(h:P:=by
 rw[List.getD_eq_getElem?_getD];by_cases h:k<g.i
 .exact zaQ
 .exact zaL):P:=h
theorem CW(g:Cf){k:Nat}(hk:k<=g.i):g.tl.getD k 0=((if k<g.i then k else g.j:Nat):Int):=by
 unfold Cf.tl LT;exact zcI
theorem FI(g:Cf){k:Nat}(hk:k<=g.i):g.sl.getD k 0=((if k<g.i then 1 else g.a:Nat):Int):=by
 unfold Cf.sl Mw;exact zcI
theorem Z1{n q:Nat}{g:Cf}(h:EW n q g):BD g.tl n=true:=by
 unfold BD;rw[List.all_eq_true];intro x hx;obtain⟨k,hk,rfl⟩:=List.mem_iff_getElem.1 hx;have h1:k<=g.i:=by rw[AM]at hk;omega
 have h2:=CW g h1;rw[List.getD_eq_getElem?_getD,List.getElem?_eq_getElem hk]at h2;have h3:g.tl[k]=((if k<g.i then k else g.j:Nat):Int):=h2;rw[h3];have:=h.ij;have:=h.j;refine decide_eq_true ⟨ac,?_⟩;split <;> omega
theorem Z4{n q:Nat}{g:Cf}(h:EW n q g):ET g.tl=false:=by
 cases hd:ET g.tl with
 | false=>rfl
 | true=>
  obtain⟨i,j,h1,h2,e⟩:=IS.1 hd;rw[AM]at h2;rw[CW g ac,CW g ac]at e;have:=h.ij;split at e <;> split at e <;> omega
theorem Z2{n q:Nat}{g:Cf}(h:EW n q g):E4 q g.sl=0:=
 facS_of fun i hi=>⟨if i<g.i then 1 else g.a,FI g (by rw[BJ]at hi;omega),by have:=h.a1;split <;> omega,by have:=h.a1;have:=h.a;split <;> omega⟩
theorem R5{p m n:Int}{ml:List Int}{N q:Nat}(hn:n=N){g:Cf}(h:EW N q g):Gj 0 0 (CN p m ml p m ml) n n g.tl g.sl q=0:=by
 subst hn;unfold Gj;rw[if_neg ag,if_neg ag,if_neg (by rw[Ft.2 ⟨rfl,rfl,rfl⟩];simp),if_neg (by rw[AM,BJ];have:=h.ij;have:=h.j;omega)];unfold F4;rw[Z1 h,Z4 h];rw[if_neg ae];exact Z2 h
def U1:List CZ->List (Value × Value)->List Value
 | M :: Ms,c :: cs=>c.1 :: c.2 :: .int .i64 M.frob :: U1 Ms cs
 | _,_=> []
theorem Tk:∀(L:List CZ) (os:List (Value × Value)) (i:Nat) (l:CZ) (o:Value × Value),L[i]?=some l->os[i]?=some o->(U1 L os)[3*i]?=some o.1/\(U1 L os)[3*i+1]?=some o.2/\(U1 L os)[3*i+2]?=some (.int .i64 l.frob)
 | l' :: L,o' :: os,0,l,o,h,k=>by
  simp at h k;subst h k;exact⟨rfl,rfl,rfl⟩
 | l' :: L,o' :: os,i+1,l,o,h,k=>by
  have:=Tk L os i l o ay (by simpa using k);rw[show 3*(i+1)=3*i+3 by omega,show 3*i+3+1=3*i+1+3 by omega,show 3*i+3+2=3*i+2+3 by omega];simpa[U1]using this
 | [],os,i,l,o,h,k=>by simp at h
 | l' :: L, [],i,l,o,h,k=>by simp at k
theorem Tl:∀(L:List CZ) (os:List (Value × Value)) (l:CZ) (o:Value × Value),os.length=L.length->U1 (L ++ [l]) (os ++ [o])=U1 L os ++ [o.1,o.2,.int .i64 l.frob]
 | [], [],l,o,_=>rfl
 | l' :: L,o' :: os,l,o,h=>by
  have:=Tl L os l o ay;simp only[List.cons_append,U1,this]
 | [],o' :: os,l,o,h=>by simp at h
 | l' :: L, [],l,o,h=>by simp at h
def Pb(w:World)(v:Value)(Ms:List CZ):Prop:=∃cs:List (Value × Value),cs.length=Ms.length/\Sl w v Ms.length 3 (U1 Ms cs)/\∀(i:Nat) (M:CZ) (c:Value × Value),Ms[i]?=some M->cs[i]?=some c->Aj w c.1 M.perm/\Aj w c.2 M.scale
theorem Pb.ex{w w':World}{v:Value}{L:List CZ}(h:Pb w v L)(hx:Ex w w'):Pb w' v L:=by
 exact zbM
theorem Pb.open{w:World}{v:Value}{L:List CZ}(h:Pb w v L):∃a cap,v= .slice a L.length cap/\L.length<=cap/\cap<=maxLen/\
  (0<L.length->∃b o,a=some ⟨b,o,none⟩/\∀(i:Nat) (l:CZ),L[i]?=some l->∃u r,w.cell? ⟨b,o+3*i,none⟩=some u/\w.cell? ⟨b,o+(3*i+1),none⟩=some r/\w.cell? ⟨b,o+(3*i+2),none⟩=some (.int .i64 l.frob)/\Aj w u l.perm/\Aj w r l.scale):=by
 obtain⟨os,h1,⟨h2,a,cap,h3,h4,h5,h6⟩,h7⟩:=h;refine⟨a,cap,h3,h4,h5,fun hn=>?_⟩;obtain⟨b,o,h8,h9⟩:=h6 hn;refine⟨b,o,h8,fun i l hl=>?_⟩;have hi:=(List.getElem?_eq_some_iff.1 hl).1;have ho:os[i]?=some (os[i]'ac):=List.getElem?_eq_getElem _;obtain⟨g1,g2,g3⟩:=Tk L os i l _ hl ho;exact zcg
theorem FG{w w':World}{base:Nat}{e:TypeId}{size n:Nat}{v v' c:Value}{xs news:List Value}(ha:Bt w w' base e size v v' n xs news){l:List Int}(h:Aj w c l)(aB:l≠ []->AT c v):Aj w' c l/\(l≠ []->AT c v'):=by
 obtain⟨a,cap,rfl,h1,h2,h3⟩:=h.open;by_cases hl:l= []
 .subst hl;refine⟨?_,fun h=>absurd rfl h⟩;unfold Aj at *;exact⟨rfl,a,cap,rfl,h1,h2,fun h=>by simp at h⟩
 .obtain⟨B,o,rfl,h4⟩:=h3 (List.length_pos_iff.2 hl);obtain⟨x,l',rfl⟩:=List.exists_cons_of_ne_nil hl;have hlt:B<w.heap.size:=World.block_lt_of_cell? _ _ (h4 0 x rfl);have aA:some B≠v.ownBlock:=by
   rcases aB hl with h5|h5
   .cases h5
   .exact h5
  refine⟨⟨h.1,_,cap,rfl,h1,h2,fun _=>⟨B,o,rfl,fun j u hu=>?_⟩⟩,fun _=>?_⟩
  .unfold Ap at hu;rw[List.getElem?_map]at hu
   cases hx:(x :: l')[j]? with
   | none=>rw[hx]at hu;cases hu
   | some y=>
    rw[hx]at hu;injection hu with hu;subst hu;exact ha.cell (h4 j y hx) aA
  .unfold AT;right;rcases ha.at_ with h5|h5
   .rw[h5];exact aA
   .rw[h5];intro e;injection e with e;have e2:B=w.heap.size+1:=e;omega
structure Q5(b0:Nat)(w1 wr:World)(mv nv:Value)(Ms:List CZ)(cs:List (Value × Value))(ns:List Cf)(ds:List (Value × Value)):Prop where
 ex:Ex w1 wr
 mlen:cs.length=Ms.length
 mown:wr.ownsRow w1.heap.size 26 3 mv Ms.length (U1 Ms cs)
 mat:∀(i:Nat) (M:CZ) (c:Value × Value),Ms[i]?=some M->cs[i]?=some c->(Aj wr c.1 M.perm/\(M.perm≠ []->AT c.1 mv/\AT c.1 nv))/\(Aj wr c.2 M.scale/\(M.scale≠ []->AT c.2 mv/\AT c.2 nv))
 nlen:ds.length=ns.length
 nown:wr.ownsRow w1.heap.size 129 5 nv ns.length (FJ ns ds)
 nat:∀(i:Nat) (g:Cf) (c:Value × Value),ns[i]?=some g->ds[i]?=some c->(Aj w1 c.1 g.tl/\Aj w1 c.2 g.sl)/\(∀X,c.1.ownBlock=some X->b0<=X)/\∀X,c.2.ownBlock=some X->b0<=X
 ap:AT mv nv
section
variable {b0:Nat} {w1 wr w':World} {mv nv v' u r:Value} {Ms:List CZ} {cs ds:List (Value × Value)} {ns:List Cf}
theorem Q5.nil(b0:Nat)(w1:World):Q5 b0 w1 w1 (.slice none 0 0) (.slice none 0 0) [] [] [] []:=
 ⟨Ex.refl _,rfl,World.ownsRow_nil _ _ _ _,fun i M c h=>by simp at h,rfl,World.ownsRow_nil _ _ _ _,fun i M c h=>by simp at h,AT.nil _⟩
theorem Q5.later(h:Q5 b0 w1 wr mv nv Ms cs ns ds)(hx:Ex wr w'):Q5 b0 w1 w' mv nv Ms cs ns ds:=
 ⟨h.ex.trans hx,h.mlen,Ai h.mown hx,fun i M c a b=>⟨⟨(h.mat i M c a b).1.1.ex hx,(h.mat i M c a b).1.2⟩,⟨(h.mat i M c a b).2.1.ex hx,(h.mat i M c a b).2.2⟩⟩,h.nlen,Ai h.nown hx,h.nat,h.ap⟩
theorem Q5.msl(h:Q5 b0 w1 wr mv nv Ms cs ns ds):Pb wr mv Ms:=⟨cs,h.mlen,Sl.own h.mown,fun i M c a b=>⟨(h.mat i M c a b).1.1,(h.mat i M c a b).2.1⟩⟩
theorem Q5.nsl(h:Q5 b0 w1 wr mv nv Ms cs ns ds):Yz b0 wr nv ns:=⟨ds,h.nlen,Sl.own h.nown,fun i M c a b=>⟨⟨(h.nat i M c a b).1.1.ex h.ex,(h.nat i M c a b).1.2.ex h.ex⟩,(h.nat i M c a b).2⟩⟩
theorem Q5.appM(h:Q5 b0 w1 wr mv nv Ms cs ns ds){M:CZ}(hu:Aj wr u M.perm)(hr:Aj wr r M.scale)(aA:AT u mv/\AT u nv)(aB:AT r mv/\AT r nv)
  (ha:Bt wr w' w1.heap.size 26 3 mv v' Ms.length (U1 Ms cs) [u,r,.int .i64 M.frob]):Q5 b0 w1 w' v' nv (Ms ++ [M]) (cs ++ [(u,r)]) ns ds:=by
 have hn:=ha.row h.nown h.ap.symm;refine⟨ha.ex h.ex (Nat.le_refl _),by simp[h.mlen],?_,fun i x c a b=>?_,h.nlen,hn.1,h.nat,hn.2.symm⟩
 .have:=ha.own;rw[Tl Ms cs M (u,r) h.mlen,List.length_append];exact this
 .by_cases hi:i<Ms.length
  .rw[List.getElem?_append_left hi]at a;rw[List.getElem?_append_left (by rw[h.mlen];exact hi)]at b;obtain⟨⟨p1,p2⟩,⟨p3,p4⟩⟩:=h.mat i x c a b;obtain⟨q1,q2⟩:=FG ha p1 fun e=>(p2 e).1;obtain⟨q3,q4⟩:=FG ha p3 fun e=>(p4 e).1;exact⟨⟨q1,fun e=>⟨q2 e,(p2 e).2⟩⟩,⟨q3,fun e=>⟨q4 e,(p4 e).2⟩⟩⟩
  .have aC:i=Ms.length:=by
    exact zc0
   subst aC;rw[List.getElem?_append_right (Nat.le_refl _)]at a;rw[List.getElem?_append_right (by rw[h.mlen];exact Nat.le_refl _),h.mlen]at b;simp at a b;subst a b;obtain⟨q1,q2⟩:=FG ha hu fun e=>aA.1;obtain⟨q3,q4⟩:=FG ha hr fun e=>aB.1;exact⟨⟨q1,fun e=>⟨q2 e,aA.2⟩⟩,⟨q3,fun e=>⟨q4 e,aB.2⟩⟩⟩
theorem Q5.appN(h:Q5 b0 w1 wr mv nv Ms cs ns ds){g:Cf}(hu:Aj w1 u g.tl)(hr:Aj w1 r g.sl)(aB:∀X,u.ownBlock=some X->b0<=X)(aC:∀X,r.ownBlock=some X->b0<=X)
  (ha:Bt wr w' w1.heap.size 129 5 nv v' ns.length (FJ ns ds) [.int .i64 g.i,.int .i64 g.j,.int .i64 g.a,u,r]):Q5 b0 w1 w' mv v' Ms cs (ns ++ [g]) (ds ++ [(u,r)]):=by
 have hm:=ha.row h.mown h.ap;refine⟨ha.ex h.ex (Nat.le_refl _),h.mlen,hm.1,fun i x c a b=>?_,by simp[h.nlen],?_,fun i x c a b=>?_,hm.2⟩
 .obtain⟨⟨p1,p2⟩,⟨p3,p4⟩⟩:=h.mat i x c a b;obtain⟨q1,q2⟩:=FG ha p1 fun e=>(p2 e).2;obtain⟨q3,q4⟩:=FG ha p3 fun e=>(p4 e).2;exact⟨⟨q1,fun e=>⟨(p2 e).1,q2 e⟩⟩,⟨q3,fun e=>⟨(p4 e).1,q4 e⟩⟩⟩
 .have:=ha.own;rw[L3 ns ds g (u,r) h.nlen,List.length_append];exact this
 .by_cases hi:i<ns.length
  .rw[List.getElem?_append_left hi]at a;rw[List.getElem?_append_left (by rw[h.nlen];exact hi)]at b;exact h.nat i x c a b
  .have aA:i=ns.length:=by
    exact zc0
   subst aA;rw[List.getElem?_append_right (Nat.le_refl _)]at a;rw[List.getElem?_append_right (by rw[h.nlen];exact Nat.le_refl _),h.nlen]at b;simp at a b;subst a b;exact⟨⟨hu,hr⟩,aB,aC⟩
end
theorem EN{α:Type}{l:List α}{i:Nat}{x:α}(h:l[i]?=some x):l.take (i+1)=l.take i ++ [x]:=by rw[List.take_add_one,h];rfl
theorem zb8{P:Prop}(h:P:=by
 rw[EN h];unfold Da JS;rw[List.filter_append,List.filter_append,List.map_append];simp[he]):P:=h
theorem Zg{c:AZ}{gs:List Cf}{i:Nat}{g:Cf}(h:gs[i]?=some g)(he:gE c g=0):Da c (gs.take (i+1))=Da c (gs.take i) ++ [gM c g]/\JS c (gs.take (i+1))=JS c (gs.take i):=by
 exact zb8
theorem Zf{c:AZ}{gs:List Cf}{i:Nat}{g:Cf}(h:gs[i]?=some g)(he:gE c g=11):Da c (gs.take (i+1))=Da c (gs.take i)/\JS c (gs.take (i+1))=JS c (gs.take i) ++ [g]:=by
 exact zb8
theorem V6{c:AZ}{gs:List Cf}{i:Nat}{g:Cf}(h:gs[i]?=some g)(hb:Oa c (gs.take i)=none)(he:gE c g=0∨gE c g=11):Oa c (gs.take (i+1))=none:=by
 rw[EN h];unfold Oa at *;rw[List.find?_append,hb];rcases he with he|he <;> simp[he]
theorem Zh{c:AZ}{gs:List Cf}{i:Nat}{g:Cf}(h:gs[i]?=some g)(hb:Oa c (gs.take i)=none)(h0:gE c g≠0)(aA:gE c g≠11):Yt c gs=gE c g:=by
 have hs:gs=gs.take i++(g :: gs.drop (i+1)):=by
  have h1:=(List.getElem?_eq_some_iff.1 h).1;have h2:gs.drop i=g :: gs.drop (i+1):=by
   rw[List.drop_eq_getElem_cons h1]
   congr 1
   exact(List.getElem?_eq_some_iff.1 h).2
  rw[<-h2,List.take_append_drop]
 have h3:Oa c gs=some g:=by
  unfold Oa at *;rw[hs,List.find?_append,hb];simp[h0,aA]
 unfold Yt;rw[h3]
theorem TJ(c:AZ)(g:Cf):(gM c g).frob=0:=by
 unfold gM Jv;split
 .rfl
 .split <;> rfl
def RunO(b0:Nat)(c:AZ)(r:Ending)(w':World):Prop:=∃e0:Int,BK c.p c.m c.ml c.n c.rows e0/\
 ((I8 c e0≠0/\r= .returned (.tuple #[.pointer none,.slice none 0 0,.slice none 0 0,.int .i64 (I8 c e0)]))∨
 (I8 c e0=0/\Oa c (Dw c.n.toNat (c.p.toNat^c.m.toNat))≠none/\r= .returned (.tuple #[.pointer none,.slice none 0 0,.slice none 0 0,.int .i64 (Yt c (Dw c.n.toNat (c.p.toNat^c.m.toNat)))]))∨
 (I8 c e0=0/\Oa c (Dw c.n.toNat (c.p.toNat^c.m.toNat))=none/\∃(pn mn N b x0:Nat) (mv nv:Value),c.p=pn/\c.m=mn/\c.n=N/\1<=N/\N<=64/\N*(pn^mn-1)<=64/\r= .returned (.tuple #[.pointer (some (b,0)),mv,nv,(0:Int)])/\
   Bj w' b pn mn c.ml x0/\1<=x0/\x0<pn^mn/\Pb w' mv (Da c (Dw c.n.toNat (c.p.toNat^c.m.toNat)))/\Yz b0 w' nv (JS c (Dw c.n.toNat (c.p.toNat^c.m.toNat)))))
theorem zbb{P:Prop}(h:P:=by
 clear aJ aA aH aG aF x3 x4 t0 t1 t2;go_wp2_with fail
 go_roundw
 case rel=>first|exact⟨k+1,_,_,rfl,by have:=aD.o;omega,by go_num,bG.o,HN⟩|((repeat apply Exists.intro);exact⟨⟨k+1,_,_,rfl,by have:=aD.o;omega,by go_num,bG.o,HN⟩,rfl⟩)
 case measure=>have:=aD.o;simp[intOf];omega):P:=h
theorem dr{P:Prop}(h:P:=by simp[results,Tryz.results63,go_sem]):P:=h
theorem Jd(w:World)(c:AZ)(m1 v1:Value)(hc:c.at w m1 v1):
  Calls Tryz.prog 63 #[c.arg m1 v1] w fun r w'=>RunO w.heap.size c r w'/\Ex w w':=by
 obtain⟨c0,c1,c2,c3,c4⟩:=Du w c m1 v1;have bR:=AI w (c.obj m1 v1);have aS:=Aa (hc.ex bR);obtain⟨x1,y1,bU,-,z1,-⟩:=hc.g.open;obtain⟨x3,y3,bT,-,z3,-⟩:=hc.m.open;unfold maxLen at z1 z3;have aP:=Aa (Ll (w.alloc (c.obj m1 v1)) c m1 v1 aS.o);have aR:=Aa (fun (w5:World) (h5:Ex (w.alloc (c.obj m1 v1)) w5) (g:Cf) (u r:Value) (hu:Aj w5 u g.tl) (hr:Aj w5 r g.sl)=>Vv w5 c c m1 m1 v1 v1 (aS.o.ex h5) (aS.o.ex h5) g.tl g.sl u r hu hr);obtain⟨B,hB⟩:=nA w.heap.size;rw[hB]at c0 c1 c2 c3 c4;have aM:=Aa bR;obtain⟨C,hC⟩:∃C:AZ,C=c:=⟨_,rfl⟩;have cF:=Aa hC;have cB:=Aa (show ∀r w',RunO w.heap.size C r w'->RunO w.heap.size c r w' from fun r w' h=>by rw[<-hC];exact h);obtain⟨cp,cm,aL,cn,aX⟩:=c;unfold AZ.arg at aP aR ⊢;unfold AZ.obj at aM aP aS aR c0 c1 c2 c3 c4;dsimp only at aM aP aS aR c0 c1 c2 c3 c4 bU bT ⊢;rw[bU,bT]at aM aP aR c0 c1 c2 c3 c4 ⊢;rw[<-hC]at aP aR;clear hc bR hC bU bT aS;go_enter Tryz.func63,Tryz.ntmps63
 go_upto_region 1 with fail
 try simp only[hB]
 clear hB;generalize w.alloc (.cells #[cp,cm,.slice x3 aL.length y3,cn,.slice x1 aX.length y1] 39)=w1 at *;go_wp2_with fail
 refine aP.o.mono ?_;rintro e w2⟨⟨e0,cO,ho⟩,aB⟩;have aZ:=Aa aB;have bQ:=Aa cO;replace c0:=aB.cell c0;replace c1:=aB.cell c1;replace c2:=aB.cell c2;replace c3:=aB.cell c3;replace c4:=aB.cell c4;clear aB cO aP;obtain⟨OE,aK⟩:∃x,I8 C e0=x:=⟨_,rfl⟩;rw[aK]at ho;have bN:=Aa aK;rcases ho with⟨h0,ptr,d,rfl⟩|⟨h0,pn,mn,N,b,x0,hp,hm,hn,hN1,hN64,hD,rfl,hg,hx1,aB⟩
 .have hb:(OE !=0)=true:=by simpa using h0
  have H0:=Aa h0;clear h0 aK;go_wp2_with fail
  exact bodyPost_ret (v:= .tuple #[.pointer none,.slice none 0 0,.slice none 0 0,OE]) dr rfl ⟨cB.o _ _ ⟨e0,bQ.o,.inl ⟨by rw[bN.o];exact H0.o,by rw[bN.o]⟩⟩,aM.o.trans aZ.o⟩
 .subst h0;have eB:=Aa (show e0=0 from by
   unfold I8 at aK;split at aK
   .exact aK
   .omega)
  have dK:cn=(N:Int):=by have:=cF.o;rw[this]at hn;exact hn
  subst dK;obtain⟨bB,aO,HN,HG,cU⟩:=Of (show C.p=pn/\C.m=mn/\C.n=N from⟨hp,hm,hn⟩) (show Dw C.n.toNat (C.p.toNat^C.m.toNat)=Dw N (pn^mn) from by rw[hp,hm,hn];rfl) (show 1<=N/\N<=64/\N*(pn^mn-1)<=64 from⟨hN1,hN64,hD⟩) hg (show 1<=x0/\x0<pn^mn from⟨hx1,aB⟩);have cH:2<=pn^mn:=Nat.le_trans hg.sh.p2 (Nat.le_self_pow (by have:=hg.sh.m1;omega) pn);have bH:=hg.sh.q;have dB:=Aa (fun (w5:World) (h5:Ex w2 w5)=>Cu w5 (HG.o.ex h5));have bP:=Aa (fun (w5:World)=>Nx w5 N (pn^mn) hN64 ac bH);have cE:=Aa (show ∀(w5:World) (h5:Ex w1 w5) (g:Cf) (u r:Value),g∈Dw N (pn^mn)->Aj w5 u g.tl->Aj w5 r g.sl->Calls Tryz.prog 122 #[.agg #[cp,cm,.slice x3 aL.length y3,N,.slice x1 aX.length y1],.agg #[cp,cm,.slice x3 aL.length y3,N,.slice x1 aX.length y1],.agg #[u,r]] w5 fun r' w'=>MoF w5.heap.size (gM C g) (gE C g) r' w'/\Ex w5 w' from fun w5 h5 g u r dJ hu hr=>by
   refine(aR.o w5 h5 g u r hu hr).mono ?_;rintro r' w'⟨⟨e1,e2,k1,k2,k3⟩,k4⟩;refine⟨?_,k4⟩;have hz:=eB.o;have aU:BK cp cm aL N aX 0:=by have h1:=bQ.o;rw[cF.o,hz]at h1;exact h1
   obtain rfl:e1=0:=Ch k1 aU;obtain rfl:e2=0:=Ch (k2 rfl) aU;have cI:=bB.o.1;have cJ:=bB.o.2.1;rw[cF.o]at cI cJ;have BC:Gj 0 0 (CN cp cm aL cp cm aL) N N g.tl g.sl (cp.toNat^cm.toNat)=0:=R5 (N:=N) rfl (q:=cp.toNat^cm.toNat) (by
    have h1:cp=pn:=cI;have h2:cm=mn:=cJ;rw[h1,h2];exact IL dJ)
   rw[BC]at k3;exact k3)
  obtain⟨q,hq⟩:=nA (pn^mn);have HQ:=Aa hq;rw[hq]at dB bP cE aO cH bH;have dV:=Aa bH;clear hp hm hn hN1 hN64 hD hg hx1 aB hq cH bH aR aK;obtain⟨GS,bY⟩:∃g,Dw N q=g:=⟨_,rfl⟩;rw[bY]at cE aO bP;have dY:=Aa bY;obtain⟨LG,cT⟩:∃n,GS.length=n:=⟨_,rfl⟩;have aQ:=Aa cT;have dF:=Aa (fun (w5:World) (h5:Ex w2 w5)=>h5.cell c3);have eC:=Aa (fun (w5:World) (h5:Ex w2 w5)=>(⟨h5.cell c0,h5.cell c1,h5.cell c2,h5.cell c3,h5.cell c4⟩:w5.cell? (B,0)=some (.int .i64 cp)/\w5.cell? (B,1)=some (.int .i64 cm)/\w5.cell? (B,2)=some (.slice x3 aL.length y3)/\w5.cell? (B,3)=some (.int .i64 N)/\w5.cell? (B,4)=some (.slice x1 aX.length y1)));clear bY cT c0 c1 c2 c4;go_wp2_with fail
  clear c3;have G0:Ex w2 w2.drew:=(Ex.refl w2).drew
  go_cut [23,24,25] from 19 to 25 (fun gv lv zv wx=>∃ga gc,gv= .slice ga LG gc/\lv= .int .i64 LG/\zv= .int .i64 0/\Hia (Yz w2.heap.size wx gv GS)/\Hia (Ex w2 wx))
  case first=>
   go_region_held3 (fun w'=>w'.cell? (B,3)=some (.int .i64 N))
    (first|with_reducible exact dF.o _ X6|with_reducible exact dF.o _ G0)
    (first|(go_at_call 54;(with_reducible refine(dB.o _ G0).mono ?_);rintro e w5⟨rfl,rfl⟩)|(go_at_call 121;(with_reducible refine(bP.o _).mono ?_);rintro e w6⟨v6,cs6,rfl,bJ⟩;have X6:=G0.trans bJ.ex;have dS:=Aa (bJ.gsl.mono (show w2.heap.size<=w2.drew.heap.size from Nat.le_refl _));obtain⟨dM,dL,cG⟩:=Ad bJ.own;rw[aQ.o]at cG;subst cG;clear bJ))
   all_goals
    go_wp2_with fail
    go_meet
    exact⟨dM,dL,rfl,rfl,rfl,dS,Aa X6⟩
  case rest=>
   obtain⟨ga,gc,rfl,rfl,rfl,bI,bS⟩:=hcut;obtain⟨w3,h3⟩:∃x,x=wc:=⟨_,rfl⟩;rw[<-h3]at bI bS ⊢;have aY:=Aa bS.o;have HGL:=Aa bI.o;obtain⟨dN,gc',cN,g1,g2,g3⟩:=bI.o.open;have aT:dN=ga:=by injection cN with e1 e2 e3;exact e1.symm
   have eA:=Aa (show 0<LG->∃b o,ga=some ⟨b,o,none⟩/\∀(i:Nat) (l:Cf),GS[i]?=some l->∃u r,w3.cell? ⟨b,o+5*i,none⟩=some (.int .i64 l.i)/\w3.cell? ⟨b,o+(5*i+1),none⟩=some (.int .i64 l.j)/\w3.cell? ⟨b,o+(5*i+2),none⟩=some (.int .i64 l.a)/\w3.cell? ⟨b,o+(5*i+3),none⟩=some u/\w3.cell? ⟨b,o+(5*i+4),none⟩=some r/\Aj w3 u l.tl/\Aj w3 r l.sl/\(∀X,u.ownBlock=some X->w2.heap.size<=X)/\∀X,r.ownBlock=some X->w2.heap.size<=X from fun h=>by
    rw[<-aT];exact g3 (by rw[aQ.o];exact h))
   have dA:=Aa (Q5.nil w2.heap.size w3);have dC:=Aa (show LG<=1048576 from by rw[<-aQ.o,<-dY.o];have:=ON N q HN.o.2.1 dV.o N;have:=HN.o.2.1;unfold Dw;omega);clear bI bS g1 g2 g3 cN aT h3 G0 bP;go_wp2_with fail
   go_loopw [2,3,4,25] (fun pv mv nv k' wr=>∃(k:Nat) (cs ds:List (Value × Value)),pv= .pointer (some ⟨b,0,none⟩)/\k<=LG/\k'= .int .i64 k/\Oa C (GS.take k)=none/\Hia (Q5 w2.heap.size w3 wr mv nv (Da C (GS.take k)) cs (JS C (GS.take k)) ds)) (fun _ _ _ k' _=>LG-(intOf k').toNat)
   case atStart=>exact⟨0, [], [],rfl,ac,rfl,rfl,dA⟩
   case round=>
    clear dA;obtain⟨k,cs,ds,rfl,hk,rfl,aW,hr⟩:=hrel;obtain⟨ma,mc,rfl⟩:=Ad hr.o.mown;obtain⟨na,nc,rfl⟩:=Ad hr.o.nown;by_cases hkl:k<LG
    .obtain⟨gb,go,rfl,cK⟩:=eA.o ac;obtain⟨g,hg⟩:∃g,GS[k]?=some g:=⟨_,List.getElem?_eq_getElem (by rw[aQ.o];exact hkl)⟩;obtain⟨u,r,d0,d1,d2,d3,d4,hu,bW,cP,cQ⟩:=cK k g hg;have dG:=Aa cP;have dH:=Aa cQ;clear cP cQ;obtain⟨ua,uc,rfl,-,-,-⟩:=hu.open;obtain⟨ra,rc,rfl,-,-,-⟩:=bW.open;rw[AM]at d3;rw[BJ]at d4;have HU:=Aa hu;have cA:=Aa bW;rw[AM]at HU dG;rw[BJ]at cA dH;replace d0:=hr.o.ex.cell d0;replace d1:=hr.o.ex.cell d1;replace d2:=hr.o.ex.cell d2;replace d3:=hr.o.ex.cell d3;replace d4:=hr.o.ex.cell d4;obtain⟨HR,bE,bF,dZ⟩:=Eq hr.o hg aW (List.mem_of_getElem? hg);rw[show go+5*k=go+k*5 from ac]at d0;rw[show go+(5*k+1)=go+k*5+1 from ac]at d1;rw[show go+(5*k+2)=go+k*5+2 from ac]at d2;rw[show go+(5*k+3)=go+k*5+3 from ac]at d3;rw[show go+(5*k+4)=go+k*5+4 from ac]at d4;have i1:(0:Int)<=(k:Int):=by omega
     have i2:(k:Int)<(LG:Int):=ac;have aD:=Aa hkl;clear hr hg aW hu bW cK hkl;go_upto_region 7 with fail
     obtain⟨XB,aC⟩:∃x,wr.heap.size=x:=⟨_,rfl⟩;have x3:(wr.alloc (.cells #[g.i,g.j,g.a,.slice ua (g.i+1) uc,.slice ra (g.i+1) rc] 129)).cell? (XB,3)=some (.slice ua (g.i+1) uc):=di;have x4:(wr.alloc (.cells #[g.i,g.j,g.a,.slice ua (g.i+1) uc,.slice ra (g.i+1) rc] 129)).cell? (XB,4)=some (.slice ra (g.i+1) rc):=di;have aH:(wr.alloc (.cells #[g.i,g.j,g.a,.slice ua (g.i+1) uc,.slice ra (g.i+1) rc] 129)).cell? (XB,0)=some (.int .i64 g.i):=di;have aG:(wr.alloc (.cells #[g.i,g.j,g.a,.slice ua (g.i+1) uc,.slice ra (g.i+1) rc] 129)).cell? (XB,1)=some (.int .i64 g.j):=di;have aF:(wr.alloc (.cells #[g.i,g.j,g.a,.slice ua (g.i+1) uc,.slice ra (g.i+1) rc] 129)).cell? (XB,2)=some (.int .i64 g.a):=di;have aN:=Aa (show Ex wr (wr.alloc (.cells #[g.i,g.j,g.a,.slice ua (g.i+1) uc,.slice ra (g.i+1) rc] 129)) from(Ex.refl wr).alloc _)
     try simp only[aC]
     have HXB:=Aa aC;clear aC d0 d1 d2 d3 d4 i1 i2;generalize wr.alloc (.cells #[g.i,g.j,g.a,.slice ua (g.i+1) uc,.slice ra (g.i+1) rc] 129)=w5 at *;obtain⟨c0,c1,c2,c3,c4⟩:=eC.o w5 (aY.o.trans (HR.o.ex.trans aN.o));have cD:=Aa (cE.o w5 (aZ.o.trans (aY.o.trans (HR.o.ex.trans aN.o))) g _ _ dZ.o (HU.o.ex (HR.o.ex.trans aN.o)) (cA.o.ex (HR.o.ex.trans aN.o)));obtain⟨EE,bZ⟩:∃x,gE C g=x:=⟨_,rfl⟩;rw[bZ]at cD;have aE:=Aa bZ;go_wp2_with fail
     refine cD.o.mono ?_;rintro e w6⟨⟨u6,r6,rfl,bV,bX,cM,cL⟩,aI⟩;rw[TJ];obtain⟨cW,cZ,dE,dD⟩:=Eq bV bX cM cL;obtain⟨a6,b6,rfl,-,-,-⟩:=bV.open;obtain⟨a7,b7,rfl,-,-,-⟩:=bX.open;obtain⟨LP,cS⟩:∃x,(gM C g).perm.length=x:=⟨_,rfl⟩;obtain⟨LS,cR⟩:∃x,(gM C g).scale.length=x:=⟨_,rfl⟩;rw[cS]at cW dE ⊢;rw[cR]at cZ dD ⊢;have dO:=Aa (aN.o.trans aI);replace aH:=aI.cell aH;replace aG:=aI.cell aG;replace aF:=aI.cell aF;replace x3:=aI.cell x3;replace x4:=aI.cell x4;obtain⟨t0,t1,t2,et⟩:=Bh w6 (.slice a6 LP b6) (.slice a7 LS b7) 0;obtain⟨TB,bK⟩:∃x,w6.heap.size=x:=⟨_,rfl⟩;rw[bK]at t0 t1 t2;have cV:=Aa (dO.o.trans et);replace aH:=et.cell aH;replace aG:=et.cell aG;replace aF:=et.cell aF;replace x3:=et.cell x3;replace x4:=et.cell x4;have dP:=Aa (cW.o.ex et);have dU:=Aa (cZ.o.ex et);have HTB:=Aa bK;clear bV bX cM cL cS cR aI et cD bZ c0 c1 c2 c3 c4;go_upto_region 8 with fail
     try simp only[bK]
     clear bK;generalize w6.alloc (.cells #[.slice a6 LP b6,.slice a7 LS b7,(0:Int)] 26)=w7 at *;obtain⟨LM,bM⟩:∃x,(Da C (GS.take k)).length=x:=⟨_,rfl⟩;obtain⟨LN,bL⟩:∃x,(JS C (GS.take k)).length=x:=⟨_,rfl⟩;have bO:=Aa (show LM<=1048576/\LN<=1048576 from by
      have hkk:=aD.o;have hl:=dC.o;constructor
      .rw[<-bM];unfold Da;rw[List.length_map];exact Nat.le_trans (List.length_filter_le _ _) bp
      .rw[<-bL];unfold JS;exact Nat.le_trans (List.length_filter_le _ _) bp)
     rw[bM,bL]at HR ⊢;have bD:=Aa bM;have bC:=Aa bL;have bA:=Aa (HR.o.later cV.o);have hk64:k<=1048576:=by have:=aD.o;have:=dC.o;omega
     have dI:=Aa (show(∀c:Value,(∀X,c.ownBlock=some X->w5.heap.size<=X)->AT c (.slice ma LM mc)/\AT c (.slice na LN nc)) from fun c hc=>
      ⟨GX hc fun X e=>Nat.lt_of_lt_of_le (HR.o.mown.lt X e).2 aN.o.size,GX hc fun X e=>Nat.lt_of_lt_of_le (HR.o.nown.lt X e).2 aN.o.size⟩)
     have cX:=Aa bA.o.ex.size;clear bM bL;by_cases h0:EE=0
     .subst h0;have HM:=Aa (Zg bE.o aE.o);have bG:=Aa (V6 bE.o bF.o (.inl aE.o));have cC:=Aa (show w7.ownsRow w3.heap.size 26 3 (.slice ma LM mc) LM (U1 (Da C (GS.take k)) cs) from by have:=bA.o.mown;rwa[bD.o]at this);go_wp2_with (at_builtin;refine Am _ rfl _ _ 68 rfl w3.heap.size 26 (.agg #[.slice none 0 0,.slice none 0 0,(0:Int)]) 3 56 Tryz.underlying68 Xb rfl ae _ LM _ rfl cC.o [.slice a6 LP b6,.slice a7 LS b7,.int .i64 0] 26 _ rfl ag rfl aj (by have:=bO.o.1;unfold maxLen;omega) (by have:=bO.o.1;omega) cX.o ?_)
      intro v8 w8 aJ;have aA:Bt w7 w8 w3.heap.size 26 3 (.slice ma LM mc) v8 (Da C (GS.take k)).length (U1 (Da C (GS.take k)) cs) [.slice a6 LP b6,.slice a7 LS b7,.int .i64 (gM C g).frob]:=by rw[TJ,bD.o];exact aJ
      have HN:=Aa (bA.o.appM dP.o dU.o (dI.o _ dE.o) (dI.o _ dD.o) aA);rw[<-HM.o.1,<-HM.o.2]at HN;obtain⟨ma8,mc8,rfl⟩:=Ad aJ.own;exact zbb
     .by_cases h11:EE=11
      .subst h11;have HM:=Aa (Zf bE.o aE.o);have bG:=Aa (V6 bE.o bF.o (.inr aE.o));have cC:=Aa (show w7.ownsRow w3.heap.size 129 5 (.slice na LN nc) LN (FJ (JS C (GS.take k)) ds) from by have:=bA.o.nown;rwa[bC.o]at this);clear h0;go_wp2_with (at_builtin;refine Am _ rfl _ _ 109 rfl w3.heap.size 129 (.agg #[(0:Int),(0:Int),(0:Int),.slice none 0 0,.slice none 0 0]) 5 72 Tryz.underlying109 Qo rfl ae _ LN _ rfl cC.o [.int .i64 (g.i:Int),.int .i64 (g.j:Int),.int .i64 (g.a:Int),.slice ua (g.i+1) uc,.slice ra (g.i+1) rc] 129 _ rfl ag rfl aj (by have:=bO.o.2;unfold maxLen;omega) (by have:=bO.o.2;omega) cX.o ?_)
       intro v8 w8 aJ;have aA:Bt w7 w8 w3.heap.size 129 5 (.slice na LN nc) v8 (JS C (GS.take k)).length (FJ (JS C (GS.take k)) ds) [.int .i64 (g.i:Int),.int .i64 (g.j:Int),.int .i64 (g.a:Int),.slice ua (g.i+1) uc,.slice ra (g.i+1) rc]:=by rw[bC.o];exact aJ
       have HN:=Aa (bA.o.appN HU.o cA.o dG.o dH.o aA);rw[<-HM.o.1,<-HM.o.2]at HN;obtain⟨na8,nc8,rfl⟩:=Ad aJ.own;exact zbb
      .have k0:(EE==0)=false:=by simpa using h0
       have k11:(EE==11)=false:=by simpa using h11
       have cY:=Aa (Zh bE.o bF.o (by rw[aE.o];exact h0) (by rw[aE.o];exact h11));have dT:=Aa (show Oa C GS≠none from fun hn=>by
        have h1:=cY.o;unfold Yt at h1;rw[hn,aE.o]at h1;exact h0 h1.symm)
       clear h0 h11 aH aG aF x3 x4 t0 t1 t2;go_wp2_with fail
       exact bodyPost_ret (v:= .tuple #[.pointer none,.slice none 0 0,.slice none 0 0,EE]) dr rfl ⟨cB.o _ _ ⟨e0,bQ.o,.inr (.inl ⟨bN.o,by rw[aO.o];exact dT.o,by rw[aO.o,cY.o,aE.o]⟩)⟩,aM.o.trans (aZ.o.trans (aY.o.trans (HR.o.ex.trans cV.o)))⟩
    .obtain rfl:LG=k:=by omega
     have aV:Oa C GS=none:=by rw[<-aQ.o,List.take_length]at aW;exact aW
     obtain⟨HR,dX,dW,dR,dQ,bF⟩:=To hr.o hr.o.msl hr.o.nsl (show Da C GS=Da C (GS.take LG) from by rw[<-aQ.o,List.take_length]) (show JS C GS=JS C (GS.take LG) from by rw[<-aQ.o,List.take_length]) aV;clear hr aW aV;go_wp2_with fail
     exact bodyPost_ret (v:= .tuple #[.pointer (some ⟨b,0,none⟩),.slice ma (Da C (GS.take LG)).length mc,.slice na (JS C (GS.take LG)).length nc,(0:Int)]) dr rfl ⟨cB.o _ _ ⟨e0,bQ.o,.inr (.inr ⟨bN.o,by rw[aO.o];exact bF.o,pn,mn,N,b,x0,_,_,bB.o.1,bB.o.2.1,bB.o.2.2,HN.o.1,HN.o.2.1,HN.o.2.2,rfl,HG.o.ex (aY.o.trans HR.o.ex),cU.o.1,cU.o.2,by rw[aO.o,dR.o];exact dX.o,by rw[aO.o,dQ.o];exact dW.o.mono (Nat.le_trans aM.o.size aZ.o.size)⟩)⟩,aM.o.trans (aZ.o.trans (aY.o.trans HR.o.ex))⟩
theorem U2{P:(Nat->Nat)->Prop}(h:∃f,P f)(n:Nat):∃f,P f/\∀g,P g->Fe n f g:=by
 have aC:∀i,∃f,P f/\∀g,P g->(∀j,j<i->f j=g j)∨∃k,k<i/\(∀j,j<k->f j=g j)/\f k<g k:=by
  intro i
  induction i with
  | zero=>
   obtain⟨f,hf⟩:=h;exact⟨f,hf,fun g _=> .inl fun j hj=>ac⟩
  | succ i ih=>
   obtain⟨f,hf,hl⟩:=ih;have aA:∀N f',P f'->(∀j,j<i->f j=f' j)->f' i<=N->∃aB,P aB/\(∀j,j<i->f j=aB j)/\∀g,P g->(∀j,j<i->f j=g j)->aB i<=g i:=by
    intro N
    induction N with
    | zero=>exact fun f' h1 h2 h3=>⟨f',h1,h2,fun g _ _=>ac⟩
    | succ N ihN=>
     intro f' h1 h2 h3;by_cases hex:∃g,P g/\(∀j,j<i->f j=g j)/\g i<=N
     .obtain⟨g,g1,g2,g3⟩:=hex;exact ihN g g1 g2 g3
     .refine⟨f',h1,h2,fun g g1 g2=>?_⟩;apply Classical.byContradiction;intro hn;exact hex ⟨g,g1,g2,ac⟩
   obtain⟨f',h1,h2,h3⟩:=aA (f i) f hf (fun _ _=>rfl) (Nat.le_refl _);refine⟨f',h1,fun g hg=>?_⟩;rcases hl g hg with h4|⟨k,k1,k2,k3⟩
   .have h5:=h3 g hg h4;by_cases e:f' i=g i
    .exact .inl fun j hj=>by
      by_cases e2:j=i
      .subst e2;exact e
      .rw[<-h2 j ac,h4 j ac]
    .exact .inr ⟨i,ac,fun j hj=>by rw[<-h2 j hj,h4 j hj],ac⟩
   .exact .inr ⟨k,ac,fun j hj=>by rw[<-h2 j ac,k2 j hj],by rw[<-h2 k k1];exact k3⟩
 obtain⟨f,hf,hl⟩:=aC n;exact⟨f,hf,hl⟩
open Classical in
theorem Ci {S:List (Nat->Nat)} {b m x:Nat}:x∈A7 S b m↔x<m/\∃f,Gn S f/\AW b f/\f b=x:=by
 unfold A7;rw[List.mem_filter,List.mem_range,decide_eq_true_eq]
theorem Dl{n:Nat}{S:List (Nat->Nat)}(hS:∀s∈S,AY n s){b x:Nat}(h:∃f,Gn S f/\AW b f/\f b=x):DZ n S b x (CH n S b x):=by
 obtain⟨f,⟨h1,h2,h3⟩,h4⟩:=U2 (P:=fun f=>Gn S f/\AW b f/\f b=x) h n;have hl:DZ n S b x f:=⟨h1,h2,h3,fun g k1 k2 k3=>h4 g ⟨k1,k2,k3⟩⟩;rw[Kj hS hl];exact hl
inductive Ka(n:Nat)(S:List (Nat->Nat)):Nat->List Nat->Prop
 | nil:Ka n S n []
  | skip {b:Nat} {bs:List Nat}:b<n->(A7 S b n).length<=1->Ka n S (b+1) bs->Ka n S b bs
 | cons {b:Nat} {bs:List Nat}:b<n->1<(A7 S b n).length->Ka n S (b+1) bs->Ka n S b (b :: bs)
theorem Ka.le{n:Nat}{S:List (Nat->Nat)}{b:Nat}{bs:List Nat}(h:Ka n S b bs):b<=n:=by
 cases h <;> omega
theorem Ka.ge{n:Nat}{S:List (Nat->Nat)}{b:Nat}{bs:List Nat}(h:Ka n S b bs):∀c∈bs,b<=c/\c<n:=by
 induction h with
 | nil=>intro c hc;cases hc
 | skip h1 _ _ ih=>intro c hc;have:=ih c hc;omega
 | cons h1 _ _ ih=>
  intro c hc;rcases List.mem_cons.1 hc with e|e
  .subst e;omega
  .have:=ih c e;omega
noncomputable def Eu(n:Nat)(S:List (Nat->Nat))(k:Nat):List Nat:=((List.range k).map fun i=>n-k+i).filter fun b=>decide (1<(A7 S b n).length)
theorem VM(n:Nat)(S:List (Nat->Nat)):∀k,k<=n->Ka n S (n-k) (Eu n S k)
 | 0,_=>by
  rw[Nat.sub_zero];exact .nil
 | k+1,hk=>by
  have ih:=VM n S k ac;have he:((List.range (k+1)).map fun i=>n-(k+1)+i)=(n-(k+1)) :: ((List.range k).map fun i=>n-k+i):=by
   rw[List.range_succ_eq_map,List.map_cons,List.map_map]
   congr 1
   exact List.map_congr_left fun i _=>by show n-(k+1)+(i+1)=n-k+i;omega
  have hb:n-k=n-(k+1)+1:=ac;rw[hb]at ih;by_cases h:1<(A7 S (n-(k+1)) n).length
  .have:Eu n S (k+1)=(n-(k+1)) :: Eu n S k:=by
    unfold Eu;rw[he,List.filter_cons,if_pos (decide_eq_true h)]
   rw[this];exact .cons ac h ih
  .have:Eu n S (k+1)=Eu n S k:=by
    unfold Eu;rw[he,List.filter_cons,if_neg ay]
   rw[this];exact .skip ac ac ih
noncomputable def Dk(n:Nat)(S:List (Nat->Nat)):List Nat:=(List.range n).filter fun b=>decide (1<(A7 S b n).length)
theorem Fa(n:Nat)(S:List (Nat->Nat)):Ka n S 0 (Dk n S):=by
 have h:=VM n S n (Nat.le_refl _);rw[Nat.sub_self]at h;have:Eu n S n=Dk n S:=by
  unfold Eu Dk
  congr 1
  rw[Nat.sub_self];simp
 rwa[this]at h
theorem DH(n:Nat)(S:List (Nat->Nat)):B3 n S n=(Dk n S).map (Fo n S):=by
 unfold B3 Dk;rw[List.filter_map]
 congr 1
 apply List.filter_congr;intro b _;show decide (1<(CU (A7 S b n)).length)=_
 rw[Cj]
theorem Zx{n:Nat}{S:List (Nat->Nat)}{b:Nat}(hb:b<n)(h:(A7 S b n).length<=1){f:Nat->Nat}(hf:Gn S f)(hP:AY n f)(hF:AW b f):AW (b+1) f:=fun i hi=>by
 by_cases e:i=b
 .subst e;have h1:i∈A7 S i n:=Ci.2 ⟨hb,DA,.one,Il _,rfl⟩;have h2:f i∈A7 S i n:=Ci.2 ⟨hP.lt i hb,f,hf,hF,rfl⟩;obtain⟨j,hj,e1⟩:=List.getElem_of_mem h1;obtain⟨k,hk,e2⟩:=List.getElem_of_mem h2;have:j=k:=by omega
  subst this;rw[<-e2,e1]
 .exact hF i ac
noncomputable def En(n:Nat)(S:List (Nat->Nat)):List Nat->(Nat->Nat)->Nat->(Nat->Nat) × Nat
 | [],f,k=>(f,k)
 | b :: bs,f,k=>if f b∈A7 S b n then En n S bs (Ak f (AS n (CH n S b (f b)))) (k+1) else(f,k)
theorem PB{n:Nat}{S:List (Nat->Nat)}(hS:∀s∈S,AY n s):∀(bs:List Nat) (f:Nat->Nat) (k:Nat),AY n f->AY n (En n S bs f k).1
 | [],f,k,h=>h
 | b :: bs,f,k,h=>by
  unfold En;split
  .rename_i hm;exact PB hS bs _ _ (h.comp ((Dl hS (Ci.1 hm).2).gn.isP hS).inv)
  .exact h
noncomputable def Ca(n:Nat)(S:List (Nat->Nat))(bs:List Nat):List (Nat->Nat):=bs.flatMap fun b=>(A7 S b n).map (CH n S b)
theorem FK(n:Nat)(S:List (Nat->Nat))(bs:List Nat):AE (bs.map (Fo n S))=(Ca n S bs).map (li n):=by
 unfold AE Ca;rw[List.flatMap_map,List.map_flatMap]
 congr 1
 funext b;show Ec n S b n=_
 unfold Ec;rw[List.map_map];rfl
theorem Jj{n:Nat}{S:List (Nat->Nat)}(hS:∀s∈S,AY n s){bs:List Nat}{r:Nat->Nat}(h:r∈Ca n S bs):∃b∈bs,Gn S r/\AW b r:=by
 unfold Ca at h;obtain⟨b,hb,h1⟩:=List.mem_flatMap.1 h;obtain⟨x,hx,rfl⟩:=List.mem_map.1 h1;have:=Dl hS (Ci.1 hx).2;exact⟨b,hb,this.gn,this.fix⟩
theorem FV{n:Nat}{S:List (Nat->Nat)}(hS:∀s∈S,AY n s)(bs:List Nat):∀r∈Ca n S bs,AY n r:=fun r hr=>by
 obtain⟨_,_,h,_⟩:=Jj hS hr;exact h.isP hS
theorem Ux{n:Nat}{S:List (Nat->Nat)}(hS:∀s∈S,AY n s){b:Nat}(hb:b<n){f:Nat->Nat}(hf:Gn S f)(hF:AW b f):
  f b∈A7 S b n/\Gn S (Ak f (AS n (CH n S b (f b))))/\AW (b+1) (Ak f (AS n (CH n S b (f b))))/\Ak (Ak f (AS n (CH n S b (f b)))) (CH n S b (f b))=f:=by
 have hP:=hf.isP hS;have hm:f b∈A7 S b n:=Ci.2 ⟨hP.lt b hb,f,hf,hF,rfl⟩;have hl:=Dl hS (Ci.1 hm).2;have aA:=hl.gn.isP hS;exact⟨hm,hf.mul (hl.gn.inv hS),hF.div aA hl.fix hl.at_,aA.cancel⟩
theorem PA{n:Nat}{S:List (Nat->Nat)}(hS:∀s∈S,AY n s){b:Nat}{bs:List Nat}(h:Ka n S b bs):∀(f:Nat->Nat) (k:Nat),Gn S f->AW b f->En n S bs f k=(DA,k+bs.length)/\Gn (Ca n S bs) f:=by
 induction h with
 | nil=>
  intro f k hf hF;have:=AW.all (hf.isP hS) hF;subst this;exact⟨rfl,.one⟩
 | skip h1 h2 _ ih=>exact fun f k hf hF=>ih f k hf (Zx h1 h2 hf (hf.isP hS) hF)
 | @cons b bs h1 h2 _ ih=>
  intro f k hf hF;obtain⟨k1,k2,k3,k4⟩:=Ux hS h1 hf hF;obtain⟨m1,m2⟩:=ih _ (k+1) k2 k3;constructor
  .unfold En;rw[if_pos k1,m1,List.length_cons,show k+1+bs.length=k+(bs.length+1) by omega]
  .rw[<-k4];refine Gn.mul (m2.mono fun s hs=>Gn.of ?_) (Gn.of ?_)
   .unfold Ca at hs ⊢;rw[List.flatMap_cons];exact List.mem_append_right _ hs
   .unfold Ca;rw[List.flatMap_cons];exact List.mem_append_left _ (List.mem_map.2 ⟨_,k1,rfl⟩)
theorem SX{n:Nat}{S:List (Nat->Nat)}(hS:∀s∈S,AY n s):∀(bs:List Nat) (f:Nat->Nat) (k:Nat),AY n f->En n S bs f k=(DA,k+bs.length)->Gn S f
 | [],f,k,hP,h=>by
  unfold En at h;injection h with h _;rw[h];exact .one
 | b :: bs,f,k,hP,h=>by
  unfold En at h;split at h
  .rename_i hm;have hl:=Dl hS (Ci.1 hm).2;have aA:=hl.gn.isP hS;have:=SX hS bs _ (k+1) (hP.comp aA.inv) (by rw[h,List.length_cons,show k+1+bs.length=k+(bs.length+1) by omega]);rw[<-aA.cancel (f:=f)];exact this.mul hl.gn
  .injection h with _ h;rw[List.length_cons]at h;omega
theorem VS{n:Nat}{S:List (Nat->Nat)}(hS:∀s∈S,AY n s){f:Nat->Nat}(hP:AY n f):En n S (Dk n S) f 0=(DA,(Dk n S).length)↔Gn S f:=by
 constructor
 .intro h;exact SX hS _ f 0 hP (by rw[h,Nat.zero_add])
 .intro h;have:=(PA hS (Fa n S) f 0 h (fun i hi=>ac)).1;rwa[Nat.zero_add]at this
theorem DQ{n:Nat}{S:List (Nat->Nat)}(hS:∀s∈S,AY n s){b:Nat}{bs:List Nat}(h:Ka n S b bs)(f:Nat->Nat):Gn (Ca n S bs) f↔Gn S f/\AW b f:=by
 constructor
 .intro hf
  induction hf with
  | one=>exact⟨.one,Il _⟩
  | step _ hs ih=>
   obtain⟨c,hc,h1,h2⟩:=Jj hS hs;have:=h.ge c hc;exact⟨ih.1.mul h1,ih.2.comp fun i hi=>h2 i ac⟩
 .rintro⟨h1,h2⟩;exact(PA hS h f 0 h1 h2).2
open Classical in
theorem Jo {n:Nat} {S:List (Nat->Nat)} (hS:∀s∈S,AY n s) {b:Nat} {bs:List Nat} (h:Ka n S b bs) {c:Nat} (hc:b<=c) (m:Nat):A7 (Ca n S bs) c m=A7 S c m:=by
 unfold A7;apply List.filter_congr;intro x _;rw[decide_eq_decide];constructor
 .rintro⟨f,h1,h2,h3⟩;exact⟨f,((DQ hS h f).1 h1).1,h2,h3⟩
 .rintro⟨f,h1,h2,h3⟩;exact⟨f,(DQ hS h f).2 ⟨h1,fun i hi=>h2 i ac⟩,h2,h3⟩
theorem Wu{n:Nat}{S:List (Nat->Nat)}(hS:∀s∈S,AY n s){b:Nat}{bs:List Nat}(h:Ka n S b bs){c:Nat}(hc:c<b):(A7 (Ca n S bs) c n).length<=1:=by
 have aA:∀x∈A7 (Ca n S bs) c n,x=c:=fun x hx=>by
  obtain⟨_,f,h1,_,h3⟩:=Ci.1 hx;rw[<-h3];exact((DQ hS h f).1 h1).2 c hc
 have aB:(A7 (Ca n S bs) c n).Nodup:=List.Nodup.sublist List.filter_sublist List.nodup_range
 match hq:A7 (Ca n S bs) c n with
 | []=>simp
 | [x]=>simp
 | x :: y :: q=>
  exfalso;rw[hq]at aB aA;have h1:=aA x ag;have h2:=aA y ag;rw[h1,h2]at aB;simp at aB
theorem U4{n:Nat}{S:List (Nat->Nat)}(hS:∀s∈S,AY n s){b:Nat}{bs:List Nat}(h:Ka n S b bs){c:Nat}(hc:b<=c):Fo n (Ca n S bs) c=Fo n S c:=by
 have hL:∀x,x∈A7 S c n->CH n (Ca n S bs) c x=CH n S c x:=fun x hx=>by
  have hl:=Dl hS (Ci.1 hx).2;refine Kj (FV hS bs) ⟨(DQ hS h _).2 ⟨hl.gn,fun i hi=>hl.fix i ac⟩,hl.fix,hl.at_,fun g h1 h2 h3=>hl.le g ((DQ hS h g).1 h1).1 h2 h3⟩
 unfold Fo Ec;rw[Jo hS h hc]
 congr 1
 exact List.map_congr_left fun x hx=>by rw[hL x hx]
theorem XX{n:Nat}{S:List (Nat->Nat)}(hS:∀s∈S,AY n s){b:Nat}{bs:List Nat}(h:Ka n S b bs):B3 n (Ca n S bs) n=bs.map (Fo n S):=by
 rw[DH];have aA:∀ {b':Nat} {bs':List Nat},Ka n S b' bs'->b<=b'->∀bs'',Ka n (Ca n S bs) b' bs''->bs''=bs':=by
  intro b' bs' h'
  induction h' with
  | nil=>
   intro hb bs'' h2
   cases h2 with
   | nil=>rfl
   | skip h _ _=>omega
   | cons h _ _=>omega
  | skip h1 h2 _ ih=>
   intro hb bs'' h3
   cases h3 with
   | nil=>omega
   | skip k1 k2 k3=>exact ih ac _ k3
   | cons k1 k2 k3=>rw[Jo hS h hb]at k2;omega
  | cons h1 h2 _ ih=>
   intro hb bs'' h3
   cases h3 with
   | nil=>omega
   | skip k1 k2 k3=>rw[Jo hS h hb]at k2;omega
   | cons k1 k2 k3=>rw[ih ac _ k3]
 have low:∀d c,c+d=b->∀bs'',Ka n (Ca n S bs) c bs''->Ka n (Ca n S bs) b bs'':=by
  intro d
  induction d with
  | zero=>intro c hc bs'' h2;rw[<-hc];exact h2
  | succ d ih=>
   intro c hc bs'' h2;have hle:=h.le
   cases h2 with
   | nil=>omega
   | skip k1 k2 k3=>exact ih (c+1) ac bs'' k3
   | cons k1 k2 k3=>have:=Wu hS h (c:=c) ac;omega
 rw[aA h (Nat.le_refl _) _ (low b 0 ac _ (Fa n _))];exact List.map_congr_left fun c hc=>U4 hS h (h.ge c hc).1
theorem Ub{n:Nat}{S:List (Nat->Nat)}(h1:1<=n)(h2:n<=64)(hS:∀s∈S,AY n s){b:Nat}{bs:List Nat}(h:Ka n S b bs):Bb n (bs.map (Fo n S))=0:=by
 unfold Bb;rw[if_neg ac];refine if_pos ⟨?_,?_⟩
 .rw[FK];exact TI h1 h2 (FV hS bs)
 .rw[FK,Ev (FV hS bs)];exact(XX hS h).symm
theorem Kw{d:Int}{L:List Lv}(h:Bb d L=0):∃n:Nat,d=n/\1<=n/\n<=64/\∃S:List (Nat->Nat),(∀s∈S,AY n s)/\AE L=S.map (li n)/\L=(Dk n S).map (Fo n S):=by
 unfold Bb at h;split at h
 .cases h
 .split at h
  .rename_i h1 h2;obtain⟨N,rfl,h3,h4,S,h5,h6⟩:=Kq h2.1;refine⟨N,rfl,h3,h4,S,h6,h5,?_⟩;rw[<-DH];have:=h2.2
   rwa[h5,Ev h6]at this
  .cases h
theorem TD:(Tryz.prog.info? 91).map (fun i=>(i.zero,i.size,i.bytes))=some (some (.int .u32 0),1,4):=ah
def uv(f:Nat->Nat):Nat->Value:=fun j=> .int .u32 (f j:Int)
theorem VH(f:Nat->Nat)(k:Nat)(y:Nat):Ay (uv f) k (.int .u32 (y:Int))=uv (Ay f k y):=by
 funext j;unfold Ay uv;by_cases h:j=k <;> simp[h]
def NL(w:World)(v:Value)(n:Nat)(f:Nat->Nat):Prop:=Sl w v n 1 (vs n (uv f))
def Hq(w:World)(v:Value)(x:Nat):Prop:=∃n f,JL n f/\vS f n=x/\NL w v n f
theorem NL.ex{w w':World}{v:Value}{n:Nat}{f:Nat->Nat}(h:NL w v n f)(hx:Ex w w'):NL w' v n f:=Sl.ex h hx
theorem Hq.ex{w w':World}{v:Value}{x:Nat}(h:Hq w v x)(hx:Ex w w'):Hq w' v x:=by
 obtain⟨n,f,h1,h2,h3⟩:=h;exact⟨n,f,h1,h2,h3.ex hx⟩
theorem NL.open{w:World}{v:Value}{n:Nat}{f:Nat->Nat}(h:NL w v n f):∃a cap,v= .slice a n cap/\n<=cap/\cap<=maxLen/\
  (0<n->∃b o,a=some ⟨b,o,none⟩/\∀j,j<n->w.cell? ⟨b,o+j,none⟩=some (.int .u32 (f j:Int))):=by
 obtain⟨h1,a,cap,rfl,h3,h4,h5⟩:=h;refine⟨a,cap,rfl,h3,h4,fun hn=>?_⟩;obtain⟨b,o,rfl,h6⟩:=h5 hn;exact⟨b,o,rfl,fun j hj=>h6 j _ (Dj hj (uv f))⟩
theorem NL.mk{w:World}{a:Option Addr}{n cap:Nat}{f:Nat->Nat}(h1:n<=cap)(h2:cap<=maxLen)(h3:0<n->∃b o,a=some ⟨b,o,none⟩/\∀j,j<n->w.cell? ⟨b,o+j,none⟩=some (.int .u32 (f j:Int))):NL w (.slice a n cap) n f:=by
 refine⟨by rw[Bm,Nat.mul_one],a,cap,rfl,h1,h2,fun hn=>?_⟩;obtain⟨b,o,rfl,h4⟩:=h3 hn;refine⟨b,o,rfl,fun j u hu=>?_⟩;have hj:j<n:=by have:=(List.getElem?_eq_some_iff.1 hu).1;rwa[Bm]at this
 rw[Dj hj]at hu;injection hu with hu;rw[h4 j hj,<-hu];rfl
theorem NL.take{w:World}{a:Option Addr}{n cap m:Nat}{f:Nat->Nat}(h:NL w (.slice a n cap) n f)(hm:m<=n){c:Nat}(hc:m<=c)(aA:c<=cap):NL w (.slice a m c) m f:=by
 obtain⟨a',cap',e,h1,h2,h3⟩:=h.open;injection e with e1 e2 e3;subst e1 e3;exact NL.mk hc (Nat.le_trans aA h2) fun hn=>by
  obtain⟨b,o,rfl,h4⟩:=h3 ac;exact⟨b,o,rfl,fun j hj=>h4 j ac⟩
theorem Ee(w:World)(n:Nat)(f:Nat->Nat)(v:Value)(hv:NL w v n f)(aA:∀k,k<n->f k<BM):
  Calls Tryz.prog 87 #[v] w fun r w'=>(∃u m,r= .returned u/\m<=n/\JL m f/\vS f m=vS f n/\NL w u m f)/\w'=w:=by
 obtain⟨a,cap,rfl,s1,s2,s3⟩:=hv.open;obtain⟨HV,S3,aC,HCM⟩:=Eq hv s3 aA s2;unfold maxLen at s2;clear hv s3 aA;go_enter Tryz.func87,Tryz.ntmps87
 go_wp2_with fail
 go_loopw [3] (fun m' wr=>∃m:Nat,m'= .int .i64 m/\wr=w/\Hia (NM f n m)) (fun m' _=>(intOf m').toNat)
 case atStart=>exact⟨n,rfl,rfl,⟨Nat.le_refl _,rfl⟩⟩
 case round=>
  obtain⟨m,rfl,rfl,hs⟩:=hrel;have aB:=hs.o.le
  cases m with
  | zero=>
   have HC:=Aa (hs.o.fin aC.o (fun m h=>by cases h));go_wp2_with fail
   go_ret;exact⟨⟨_,0,rfl,Nat.zero_le _,HC.o,hs.o.val,HV.o.take (Nat.zero_le _) (Nat.le_refl _) (Nat.zero_le _)⟩,rfl⟩
  | succ k=>
   have i1:(0:Int)<=(k:Int):=ac;have i2:(k:Int)<(n:Int):=ac;obtain⟨b,o,rfl,hc⟩:=S3.o ac;have c1:=hc k ac;have hw1:((k+1:Nat):Int)-1=(k:Int):=bu;by_cases h0:f k=0
   .have HS:=Aa (hs.o.step h0);rw[h0]at c1;clear hc h0;go_wp2_with fail
    go_roundw
    case rel=>exact⟨k,by go_num,trivial,HS⟩
    case measure=>simp[intOf]
   .have HC:=Aa (hs.o.fin aC.o (fun m h=>by injection h with h;subst h;exact h0));have hb:((f k:Int)==0)=false:=by simpa using h0
    clear hc h0;go_wp2_with fail
    go_ret;exact⟨⟨_,k+1,rfl,aB,HC.o,hs.o.val,HV.o.take aB (Nat.le_refl _) ac⟩,rfl⟩
theorem NL.cells{w:World}{v:Value}{n:Nat}{f:Nat->Nat}(h:NL w v n f):∀u∈vs n (uv f),u.oneCell'=true:=fun u hu=>by
 unfold vs uv at hu;obtain⟨j,_,rfl⟩:=List.mem_map.1 hu;rfl
theorem QY(w:World)(n:Nat)(f:Nat->Nat)(v:Value)(hv:NL w v n f)(aC:∀k,k<n->f k<BM)(hn:n<=100000):
  Calls Tryz.prog 96 #[v] w fun r w'=>(∃u,r= .returned u/\Hq w' u (vS f n))/\Ex w w':=by
 obtain⟨a,cap,rfl,s1,s2,s3⟩:=hv.open;have HS:=Aa (Ee w n f _ hv aC);have HN:=Aa hn;clear hv s3 aC hn;go_enter Tryz.func96,Tryz.ntmps96
 go_wp2_with (first|(go_at_call 87;refine HS.o.mono ?_;rintro e w2⟨⟨u,m,rfl,hm,hc,aB,hu⟩,rfl⟩;obtain⟨ua,uc,rfl,_,_,_⟩:=hu.open;have HU:=Aa hu;have HM:=Aa hm;have HC:=Aa hc;have aE:=Aa aB;clear hu hm hc aB;have hm2:m<=100000:=Nat.le_trans HM.o HN.o)
                        | (at_builtin;refine A9 _ rfl _ _ 56 rfl w2.heap.size 91 (.int .u32 0) 1 4 Tryz.underlying56 TD rfl ae (.slice none 0 0) 0 [] rfl (World.ownsRow_nil _ _ _ _) (.slice ua m uc) m _ rfl HU.o HU.o.cells ai ac ag ?_;intro v' w' aA hg hb;obtain⟨oa,oc,rfl⟩:=Ad aA;have HO:=Aa aA;have aD:=Aa (Below.grown (Below.refl _ _) hg (Nat.le_refl _) (fun k hk=>by cases hk));clear aA hg hb))
 go_ret;exact⟨⟨_,rfl,m,f,HC.o,aE.o,by have:=Sl.own HO.o;rw[Nat.zero_add,List.nil_append]at this;exact this⟩,aD.o⟩
theorem Ya:BM=4294967296:=rfl
theorem b32_mod(S:Nat):(S:Int)%4294967296=((S%BM:Nat):Int):=by rw[Ya];omega
theorem b32_div(S:Nat):(S:Int)/4294967296=((S/BM:Nat):Int):=by rw[Ya];omega
def fl2(x:Nat):Nat->Nat:=fun k=>if k=0 then x%BM else x/BM
theorem fl2_val(x:Nat):vS (fl2 x) 2=x:=by
 show 0+x%BM*1+x/BM*BM^1=x
 have:=Nat.div_add_mod x BM;rw[Nat.pow_one,Nat.mul_comm (x/BM)];omega
theorem fl2_lt{x:Nat}(hx:x<18446744073709551616):∀k,k<2->fl2 x k<BM:=fun k hk=>by
 unfold fl2;split
 .exact Nat.mod_lt _ IY
 .unfold BM;omega
theorem fl2_nl(w:World)(x:Nat)(t:TypeId):NL (w.alloc (.cells #[.int .u32 ((x:Int)%4294967296),.int .u32 ((x:Int)/4294967296)] t)) (.slice (some (w.heap.size,0)) 2 2) 2 (fl2 x):=
 NL.mk (Nat.le_refl _) ai fun _=>⟨_,0,rfl,fun j hj=>by
  match j,hj with
  | 0,_=>simp[fl2,BM]
  | 1,_=>simp[fl2,BM]⟩
theorem Yl(w:World)(x:Nat)(hx:x<18446744073709551616):
  Calls Tryz.prog 42 #[.int .u64 x] w fun r w'=>(∃u,r= .returned u/\Hq w' u x)/\Ex w w':=by
 have HT:=Aa (QY (w.alloc (.cells #[.int .u32 ((x:Int)%4294967296),.int .u32 ((x:Int)/4294967296)] 91)) 2 (fl2 x) _ (fl2_nl w x _) (fl2_lt hx) ac);have EA:=Aa ((Ex.refl w).alloc (.cells #[.int .u32 ((x:Int)%4294967296),.int .u32 ((x:Int)/4294967296)] 91));rw[fl2_val]at HT;go_enter Tryz.func42,Tryz.ntmps42
 go_wp2_with (go_at_call 96;refine HT.o.mono ?_;rintro e w2⟨⟨u,rfl,hu⟩,hx⟩;obtain⟨n,f,_,_,aA⟩:=id hu;obtain⟨ua,uc,rfl,_,_,_⟩:=aA.open;have HU:=Aa hu;have HX:=Aa hx;clear hu aA hx)
 go_ret;exact⟨⟨_,rfl,HU.o⟩,EA.o.trans HX.o⟩
theorem bw{P:Prop}(h:P:=by rw[IntKind.wrap_u64];omega):P:=h
theorem Uq(w:World)(n m:Nat)(a b:Nat->Nat)(u v:Value)(hu:NL w u n a)(hv:NL w v m b)(ha:∀k,k<n->a k<BM)(hb:∀k,k<m->b k<BM)(hn:n<=10000)(hm:m<=10000):
  Calls Tryz.prog 95 #[u,v] w fun r w'=>(∃u,r= .returned u/\Hq w' u (vS a n*vS b m))/\Ex w w':=by
 obtain⟨ua,uc,rfl,s1,s2,s3⟩:=hu.open;obtain⟨va,vc,rfl,t1,t2,t3⟩:=hv.open;unfold maxLen at s2 t2;obtain⟨S3,T3,HA,HB⟩:=Eq s3 t3 ha hb;have hw0:wrap64 ((n:Int)+(m:Int))=((n+m:Nat):Int):=by rw[<-Int.natCast_add];exact w64 ac ac
 clear hu hv s3 t3 ha hb;go_enter Tryz.func95,Tryz.ntmps95
 go_wp2_with (at_make;refine Ar _ rfl _ _ 56 rfl 91 (.int .u32 0) 4 Tryz.underlying56 TD rfl _ (n+m) rfl rfl (by first|rfl|omega) ac ai ?_)
 intro w3 aF aP;obtain⟨g,hg⟩:=nA w.heap.size;have aZ:=Aa (show AF w3 w.heap.size 91 g (n+m) (uv fun _=>0) from by rw[<-hg];exact aF);have aY:=Aa aP;have HGG:=Aa hg
 try simp only[hg]
 clear aF aP hg;go_wp2_with fail
 go_loopw [20] (fun i' wr=>∃(i:Nat) (f:Nat->Nat),i<=n/\i'= .int .i64 i/\Hia (AF wr w.heap.size 91 g (n+m) (uv f))/\Hia (SF (n+m) i m a b f)/\Hia (Ex w wr)) (fun i' _=>n-(intOf i').toNat)
 case atStart=>exact⟨0,_,ac,rfl,aZ,Aa (SF.start _ _ _ _),aY⟩
 case round=>
  clear aZ aY;obtain⟨i,f,hi,rfl,ho,aH,aB⟩:=hrel;by_cases hin:i<n
  .obtain⟨sb,so,rfl,aR⟩:=S3.o ac;have c1:=aB.o.cell (aR i hin);have i1:(0:Int)<=(i:Int):=by omega
   have i2:(i:Int)<(n:Int):=ac;have aO:=Aa (HA.o i hin);obtain⟨A,hA⟩:=nA (a i);rw[hA]at c1;have bI:=Aa hA;clear hA aR;go_wp2_with fail
   go_loopw [8,27] (fun c' j' wr=>∃(c j:Nat) (f:Nat->Nat),j<=m/\c'= .int .u64 c/\j'= .int .i64 j/\Hia (AF wr w.heap.size 91 g (n+m) (uv f))/\Hia (SE (n+m) i m a b f c j)/\Hia (Ex w wr)) (fun _ j' _=>m-(intOf j').toNat)
   case atStart=>exact⟨0,0,f,ac,rfl,rfl,ho,Aa aH.o.inner,aB⟩
   case round=>
    clear c1 ho aH aB;obtain⟨c,j,f,hj,rfl,rfl,ho,aC,aB⟩:=hrel;by_cases hjm:j<m
    .obtain⟨tb,tp,rfl,aQ⟩:=T3.o ac;have c2:=aB.o.cell (aQ j hjm);have aK:i+j<n+m:=by omega
     have c3:=ho.o.cell aK;have bC:=ho.o.frz (i+j);have i3:(0:Int)<=(j:Int):=ac;have i4:(j:Int)<(m:Int):=ac;have i5:(0:Int)<=(i:Int)+(j:Int):=Int.add_nonneg i1 i3;have i6:(i:Int)+(j:Int)<(n:Int)+(m:Int):=Int.add_lt_add i2 i4;have aA:=Aa (aC.o.step hjm ac aO.o (HB.o j hjm));have aG:=Nr aO.o (HB.o j hjm) (aC.o.lt (i+j) aK) aC.o.cl;have aE:=fun y:Nat=>ho.o.set (i+j) (.int .u32 (y:Int));have aX:=fun y:Nat=>ho.o.exSet (Nat.le_refl _) aB.o (i+j) (.int .u32 (y:Int));simp only[VH]at aE;have aU:a i<4294967296:=aO.o;have aT:b j<4294967296:=HB.o j hjm;have aS:f (i+j)<4294967296:=aC.o.lt (i+j) aK;have aI:c<4294967296:=aC.o.cl;have aD:a i*b j+f (i+j)+c<18446744073709551616:=aG;clear aG;unfold uv at c3;rw[bI.o]at aA aD aU;obtain⟨B,hB⟩:=nA (b j);obtain⟨F,hF⟩:=nA (f (i+j));rw[hB]at aA aD c2 aT;simp only[hF]at c3;rw[hF]at aA aD aS;obtain⟨P,hP⟩:=nA (A*B);rw[hP]at aA aD;obtain⟨T,hT⟩:=nA (P+F);rw[hT]at aA aD;obtain⟨S,hS⟩:=nA (T+c);rw[hS]at aA aD;have e1:IntKind.u64.wrap ((A:Int)*(B:Int))=(P:Int):=by rw[<-Int.natCast_mul,hP,IntKind.wrap_u64];omega
     have e2:IntKind.u64.wrap ((P:Int)+(F:Int))=(T:Int):=bw;have e3:IntKind.u64.wrap ((T:Int)+(c:Int))=(S:Int):=bw;have e7:IntKind.u64.wrap (A:Int)=(A:Int):=bw;have e8:IntKind.u64.wrap (B:Int)=(B:Int):=bw;have e9:IntKind.u64.wrap (F:Int)=(F:Int):=bw;have e5:(S:Int)%4294967296=((S%BM:Nat):Int):=b32_mod S;have e6:(S:Int)/4294967296=((S/BM:Nat):Int):=b32_div S;obtain⟨r,hr⟩:=nA (S%BM);obtain⟨k,hk⟩:=nA (S/BM);rw[hr]at e5 aA;rw[hk]at e6 aA;have aM:=Aa (aE r);have aN:=Aa (aX r);clear aE aX aQ hP hT hS hB hF hr hk aD aU aT aS aI;go_wp2_with fail
     clear e1 e2 e3 e5 e6 e7 e8 e9;go_roundw
     case rel=>exact⟨k,j+1,_,ac,rfl,by go_num,aM,aA,aN⟩
     case measure=>simp[intOf];omega
    .obtain rfl:j=m:=by omega
     have bH:=Aa (aC.o.fin ac);have bB:i+j<n+j:=bu;have c3:=ho.o.cell bB;have bC:=ho.o.frz (i+j);have aE:=ho.o.set (i+j) (.int .u32 (c:Int));have aN:=Aa (ho.o.exSet (Nat.le_refl _) aB.o (i+j) (.int .u32 (c:Int)));rw[VH]at aE;have aM:=Aa aE;have k5:(0:Int)<=(i:Int)+(j:Int):=Int.add_nonneg i1 (Int.natCast_nonneg j);have k6:(i:Int)+(j:Int)<(n:Int)+(j:Int):=Int.add_lt_add_right i2 _;have hc:c<4294967296:=aC.o.cl;have bA:=Aa (show(c:Int)%4294967296=(c:Int) from ac);have e2:=bA.o;unfold uv at c3;clear hc aE;go_wp2_with fail
     clear e2;go_roundw
     case rel=>exact⟨i+1,_,ac,by go_num,aM,bH,aN⟩
     case measure=>simp[intOf];omega
  .obtain rfl:i=n:=by omega
   have aL:=Ee wr (i+m) f _ (show NL wr (.slice (some ⟨g,0,none⟩) (i+m) (i+m)) (i+m) f from ho.o.sl) aH.o.lt;rw[aH.o.val]at aL;have bD:=Aa aL;clear aL;go_wp2_with (go_at_call 87;refine bD.o.mono ?_;rintro e w5⟨⟨u,k,rfl,hk1,aW,aV,aJ⟩,rfl⟩;obtain⟨oa,oc,rfl,_,_,_⟩:=aJ.open;have bG:=Aa aW;have bF:=Aa aV;have bE:=Aa aJ;clear aW aV aJ)
   go_ret;exact⟨⟨_,rfl,k,f,bG.o,bF.o,bE.o⟩,aB.o⟩
end Go.Proofs.YtehieobniamagaaGreat
