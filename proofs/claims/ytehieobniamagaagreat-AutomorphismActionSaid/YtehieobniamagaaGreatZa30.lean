/- What automorphism.run gathers: maps and goals. -/
import Derived.Test.YtehieobniamagaaGreatZa29
namespace Go.Proofs.YtehieobniamagaaGreat
open Go.RowKit
set_option linter.all false
set_option maxRecDepth 100000
set_option maxHeartbeats 4000000
theorem TG:(Tryz.prog.info? 26).map (fun i=>(i.zero,i.size,i.bytes))=some (some (.agg #[.slice none 0 0,.slice none 0 0,.int .i64 0]),3,56):=ah
def gF(c:AU)(g:BZ):(Nat × List Nd) × Int:=FY c c g.tl g.sl
def gE(c:AU)(g:BZ):Int:=JH 0 (gF c g)
def gM(c:AU)(g:BZ):Cw:=Iu 0 (gF c g)
def Dj(c:AU)(gs:List BZ):List Cw:=(gs.filter fun g=>gE c g==0).map (gM c)
def Ic(c:AU)(gs:List BZ):List BZ:=gs.filter fun g=>gE c g==11
def Ni(c:AU)(gs:List BZ):Option BZ:=gs.find? fun g=>gE c g !=0&&gE c g !=11
def UI(c:AU)(gs:List BZ):Int:=match Ni c gs with
 | some g=>gE c g
 | none=>0
structure J5(n q:Nat)(g:BZ):Prop where
 ij:g.i<=g.j
 j:g.j<n
 a1:1<=g.a
 a:g.a<q
theorem YP{n q i j:Nat}(h1:i<=j)(h2:j<n){g:BZ}{c:Nat}(hc:c<=q-1)(h:g∈gA i j c):J5 n q g:=by
 unfold gA at h;obtain⟨a,ha,rfl⟩:=List.mem_map.1 h;rw[List.mem_range]at ha;exact⟨h1,h2,by show 1<=a+1;omega,by show a+1<q;omega⟩
theorem IS{n q:Nat}{g:BZ}(h:g∈Ds n q):J5 n q g:=by
 unfold Ds gI at h;obtain⟨i,hi,h⟩:=List.mem_flatMap.1 h;unfold gJ at h;obtain⟨k,hk,h⟩:=List.mem_flatMap.1 h;rw[List.mem_range]at hi hk;exact YP ac ac (Nat.le_refl _) h
theorem BV(g:BZ):g.tl.length=g.i+1:=by unfold BZ.tl;rw[List.length_append,FL];rfl
theorem Cf(g:BZ):g.sl.length=g.i+1:=by unfold BZ.sl;rw[List.length_append,FE];rfl
theorem zaJ{P:Prop}(h:P:=by
 obtain rfl:k=g.i:=by omega
 rw[List.getElem?_append_right (by simp),if_neg h];simp):P:=h
theorem zaN{P:Prop}(h:P:=by
 rw[List.getElem?_append_left (by simpa using h),if_pos h];simp[h]):P:=h
theorem zco{P:Prop}(h:P:=by
 rw[List.getD_eq_getElem?_getD];by_cases h:k<g.i
 .exact zaN
 .exact zaJ):P:=h
theorem Ho(g:BZ){k:Nat}(hk:k<=g.i):g.tl.getD k 0=((if k<g.i then k else g.j:Nat):Int):=by
 unfold BZ.tl OG;exact zco
theorem RM(g:BZ){k:Nat}(hk:k<=g.i):g.sl.getD k 0=((if k<g.i then 1 else g.a:Nat):Int):=by
 unfold BZ.sl OD;exact zco
theorem VY{n q:Nat}{g:BZ}(h:J5 n q g):Bz g.tl n=true:=by
 unfold Bz;rw[List.all_eq_true];intro x hx;obtain⟨k,hk,rfl⟩:=List.mem_iff_getElem.1 hx;have h1:k<=g.i:=by rw[BV]at hk;omega
 have h2:=Ho g h1;rw[List.getD_eq_getElem?_getD,List.getElem?_eq_getElem hk]at h2;have h3:g.tl[k]=((if k<g.i then k else g.j:Nat):Int):=h2;rw[h3];have:=h.ij;have:=h.j;refine decide_eq_true ⟨ac,?_⟩;split <;> omega
theorem V2{n q:Nat}{g:BZ}(h:J5 n q g):Dt g.tl=false:=by
 cases hd:Dt g.tl with
 | false=>rfl
 | true=>
  obtain⟨i,j,h1,h2,e⟩:=Fs.1 hd;rw[BV]at h2;rw[Ho g ac,Ho g ac]at e;have:=h.ij;split at e <;> split at e <;> omega
theorem VZ{n q:Nat}{g:BZ}(h:J5 n q g):DS q g.sl=0:=
 QE fun i hi=>⟨if i<g.i then 1 else g.a,RM g (by rw[Cf]at hi;omega),by have:=h.a1;split <;> omega,by have:=h.a1;have:=h.a;split <;> omega⟩
theorem Pr{p m n:Int}{ml:List Int}{N q:Nat}(hn:n=N){g:BZ}(h:J5 N q g):EY 0 0 (Cq p m ml p m ml) n n g.tl g.sl q=0:=by
 subst hn;unfold EY;rw[if_neg ag,if_neg ag,if_neg (by rw[Ff.2 ⟨rfl,rfl,rfl⟩];simp),if_neg (by rw[BV,Cf];have:=h.ij;have:=h.j;omega)];unfold EJ;rw[VY h,V2 h];rw[if_neg ae];exact VZ h
def RE:List Cw->List (Value × Value)->List Value
 | M :: Ms,c :: cs=>c.1 :: c.2 :: .int .i64 M.frob :: RE Ms cs
 | _,_=> []
theorem Qj:∀(L:List Cw) (os:List (Value × Value)) (i:Nat) (l:Cw) (o:Value × Value),L[i]?=some l->os[i]?=some o->(RE L os)[3*i]?=some o.1/\(RE L os)[3*i+1]?=some o.2/\(RE L os)[3*i+2]?=some (.int .i64 l.frob)
 | l' :: L,o' :: os,0,l,o,h,k=>by
  simp at h k;subst h k;exact⟨rfl,rfl,rfl⟩
 | l' :: L,o' :: os,i+1,l,o,h,k=>by
  have:=Qj L os i l o ay (by simpa using k);rw[show 3*(i+1)=3*i+3 by omega,show 3*i+3+1=3*i+1+3 by omega,show 3*i+3+2=3*i+2+3 by omega];simpa[RE]using this
 | [],os,i,l,o,h,k=>by simp at h
 | l' :: L, [],i,l,o,h,k=>by simp at k
theorem Qk:∀(L:List Cw) (os:List (Value × Value)) (l:Cw) (o:Value × Value),os.length=L.length->RE (L ++ [l]) (os ++ [o])=RE L os ++ [o.1,o.2,.int .i64 l.frob]
 | [], [],l,o,_=>rfl
 | l' :: L,o' :: os,l,o,h=>by
  have:=Qk L os l o ay;simp only[List.cons_append,RE,this]
 | [],o' :: os,l,o,h=>by simp at h
 | l' :: L, [],l,o,h=>by simp at h
def MP(w:World)(v:Value)(Ms:List Cw):Prop:=∃cs:List (Value × Value),cs.length=Ms.length/\Sl w v Ms.length 3 (RE Ms cs)/\∀(i:Nat) (M:Cw) (c:Value × Value),Ms[i]?=some M->cs[i]?=some c->Aj w c.1 M.perm/\Aj w c.2 M.scale
theorem MP.ex{w w':World}{v:Value}{L:List Cw}(h:MP w v L)(hx:Ex w w'):MP w' v L:=by
 exact zbD
theorem MP.open{w:World}{v:Value}{L:List Cw}(h:MP w v L):∃a cap,v= .slice a L.length cap/\L.length<=cap/\cap<=maxLen/\
  (0<L.length->∃b o,a=some ⟨b,o,none⟩/\∀(i:Nat) (l:Cw),L[i]?=some l->∃u r,w.cell? ⟨b,o+3*i,none⟩=some u/\w.cell? ⟨b,o+(3*i+1),none⟩=some r/\w.cell? ⟨b,o+(3*i+2),none⟩=some (.int .i64 l.frob)/\Aj w u l.perm/\Aj w r l.scale):=by
 obtain⟨os,h1,⟨h2,a,cap,h3,h4,h5,h6⟩,h7⟩:=h;refine⟨a,cap,h3,h4,h5,fun hn=>?_⟩;obtain⟨b,o,h8,h9⟩:=h6 hn;refine⟨b,o,h8,fun i l hl=>?_⟩;have hi:=(List.getElem?_eq_some_iff.1 hl).1;have ho:os[i]?=some (os[i]'ac):=List.getElem?_eq_getElem _;obtain⟨g1,g2,g3⟩:=Qj L os i l _ hl ho;exact zb4
theorem En{w w':World}{base:Nat}{e:TypeId}{size n:Nat}{v v' c:Value}{xs news:List Value}(ha:AZ w w' base e size v v' n xs news){l:List Int}(h:Aj w c l)(aB:l≠ []->AJ c v):Aj w' c l/\(l≠ []->AJ c v'):=by
 obtain⟨a,cap,rfl,h1,h2,h3⟩:=h.open;by_cases hl:l= []
 .subst hl;refine⟨?_,fun h=>absurd rfl h⟩;unfold Aj at *;exact⟨rfl,a,cap,rfl,h1,h2,fun h=>by simp at h⟩
 .obtain⟨B,o,rfl,h4⟩:=h3 (List.length_pos_iff.2 hl);obtain⟨x,l',rfl⟩:=List.exists_cons_of_ne_nil hl;have hlt:B<w.heap.size:=World.block_lt_of_cell? _ _ (h4 0 x rfl);have aA:some B≠v.ownBlock:=by
   rcases aB hl with h5|h5
   .cases h5
   .exact h5
  refine⟨⟨h.1,_,cap,rfl,h1,h2,fun _=>⟨B,o,rfl,fun j u hu=>?_⟩⟩,fun _=>?_⟩
  .unfold Al at hu;rw[List.getElem?_map]at hu
   cases hx:(x :: l')[j]? with
   | none=>rw[hx]at hu;cases hu
   | some y=>
    rw[hx]at hu;injection hu with hu;subst hu;exact ha.cell (h4 j y hx) aA
  .unfold AJ;right;rcases ha.at_ with h5|h5
   .rw[h5];exact aA
   .rw[h5];intro e;injection e with e;have e2:B=w.heap.size+1:=e;omega
structure Oq(b0:Nat)(w1 wr:World)(mv nv:Value)(Ms:List Cw)(cs:List (Value × Value))(ns:List BZ)(ds:List (Value × Value)):Prop where
 ex:Ex w1 wr
 mlen:cs.length=Ms.length
 mown:wr.ownsRow w1.heap.size 26 3 mv Ms.length (RE Ms cs)
 mat:∀(i:Nat) (M:Cw) (c:Value × Value),Ms[i]?=some M->cs[i]?=some c->(Aj wr c.1 M.perm/\(M.perm≠ []->AJ c.1 mv/\AJ c.1 nv))/\(Aj wr c.2 M.scale/\(M.scale≠ []->AJ c.2 mv/\AJ c.2 nv))
 nlen:ds.length=ns.length
 nown:wr.ownsRow w1.heap.size 129 5 nv ns.length (Eo ns ds)
 nat:∀(i:Nat) (g:BZ) (c:Value × Value),ns[i]?=some g->ds[i]?=some c->(Aj w1 c.1 g.tl/\Aj w1 c.2 g.sl)/\(∀X,c.1.ownBlock=some X->b0<=X)/\∀X,c.2.ownBlock=some X->b0<=X
 ap:AJ mv nv
section
variable {b0:Nat} {w1 wr w':World} {mv nv v' u r:Value} {Ms:List Cw} {cs ds:List (Value × Value)} {ns:List BZ}
theorem Oq.nil(b0:Nat)(w1:World):Oq b0 w1 w1 (.slice none 0 0) (.slice none 0 0) [] [] [] []:=
 ⟨Ex.refl _,rfl,World.ownsRow_nil _ _ _ _,fun i M c h=>by simp at h,rfl,World.ownsRow_nil _ _ _ _,fun i M c h=>by simp at h,AJ.nil _⟩
theorem Oq.later(h:Oq b0 w1 wr mv nv Ms cs ns ds)(hx:Ex wr w'):Oq b0 w1 w' mv nv Ms cs ns ds:=
 ⟨h.ex.trans hx,h.mlen,Ai h.mown hx,fun i M c a b=>⟨⟨(h.mat i M c a b).1.1.ex hx,(h.mat i M c a b).1.2⟩,⟨(h.mat i M c a b).2.1.ex hx,(h.mat i M c a b).2.2⟩⟩,h.nlen,Ai h.nown hx,h.nat,h.ap⟩
theorem Oq.msl(h:Oq b0 w1 wr mv nv Ms cs ns ds):MP wr mv Ms:=⟨cs,h.mlen,Sl.own h.mown,fun i M c a b=>⟨(h.mat i M c a b).1.1,(h.mat i M c a b).2.1⟩⟩
theorem Oq.nsl(h:Oq b0 w1 wr mv nv Ms cs ns ds):UN b0 wr nv ns:=⟨ds,h.nlen,Sl.own h.nown,fun i M c a b=>⟨⟨(h.nat i M c a b).1.1.ex h.ex,(h.nat i M c a b).1.2.ex h.ex⟩,(h.nat i M c a b).2⟩⟩
theorem Oq.appM(h:Oq b0 w1 wr mv nv Ms cs ns ds){M:Cw}(hu:Aj wr u M.perm)(hr:Aj wr r M.scale)(aA:AJ u mv/\AJ u nv)(aB:AJ r mv/\AJ r nv)
  (ha:AZ wr w' w1.heap.size 26 3 mv v' Ms.length (RE Ms cs) [u,r,.int .i64 M.frob]):Oq b0 w1 w' v' nv (Ms ++ [M]) (cs ++ [(u,r)]) ns ds:=by
 have hn:=ha.row h.nown h.ap.symm;refine⟨ha.ex h.ex (Nat.le_refl _),by simp[h.mlen],?_,fun i x c a b=>?_,h.nlen,hn.1,h.nat,hn.2.symm⟩
 .have:=ha.own;rw[Qk Ms cs M (u,r) h.mlen,List.length_append];exact this
 .by_cases hi:i<Ms.length
  .rw[List.getElem?_append_left hi]at a;rw[List.getElem?_append_left (by rw[h.mlen];exact hi)]at b;obtain⟨⟨p1,p2⟩,⟨p3,p4⟩⟩:=h.mat i x c a b;obtain⟨q1,q2⟩:=En ha p1 fun e=>(p2 e).1;obtain⟨q3,q4⟩:=En ha p3 fun e=>(p4 e).1;exact⟨⟨q1,fun e=>⟨q2 e,(p2 e).2⟩⟩,⟨q3,fun e=>⟨q4 e,(p4 e).2⟩⟩⟩
  .have aC:i=Ms.length:=by
    exact zcG
   subst aC;rw[List.getElem?_append_right (Nat.le_refl _)]at a;rw[List.getElem?_append_right (by rw[h.mlen];exact Nat.le_refl _),h.mlen]at b;simp at a b;subst a b;obtain⟨q1,q2⟩:=En ha hu fun e=>aA.1;obtain⟨q3,q4⟩:=En ha hr fun e=>aB.1;exact⟨⟨q1,fun e=>⟨q2 e,aA.2⟩⟩,⟨q3,fun e=>⟨q4 e,aB.2⟩⟩⟩
theorem Oq.appN(h:Oq b0 w1 wr mv nv Ms cs ns ds){g:BZ}(hu:Aj w1 u g.tl)(hr:Aj w1 r g.sl)(aB:∀X,u.ownBlock=some X->b0<=X)(aC:∀X,r.ownBlock=some X->b0<=X)
  (ha:AZ wr w' w1.heap.size 129 5 nv v' ns.length (Eo ns ds) [.int .i64 g.i,.int .i64 g.j,.int .i64 g.a,u,r]):Oq b0 w1 w' mv v' Ms cs (ns ++ [g]) (ds ++ [(u,r)]):=by
 have hm:=ha.row h.mown h.ap;refine⟨ha.ex h.ex (Nat.le_refl _),h.mlen,hm.1,fun i x c a b=>?_,by simp[h.nlen],?_,fun i x c a b=>?_,hm.2⟩
 .obtain⟨⟨p1,p2⟩,⟨p3,p4⟩⟩:=h.mat i x c a b;obtain⟨q1,q2⟩:=En ha p1 fun e=>(p2 e).2;obtain⟨q3,q4⟩:=En ha p3 fun e=>(p4 e).2;exact⟨⟨q1,fun e=>⟨(p2 e).1,q2 e⟩⟩,⟨q3,fun e=>⟨(p4 e).1,q4 e⟩⟩⟩
 .have:=ha.own;rw[JG ns ds g (u,r) h.nlen,List.length_append];exact this
 .by_cases hi:i<ns.length
  .rw[List.getElem?_append_left hi]at a;rw[List.getElem?_append_left (by rw[h.nlen];exact hi)]at b;exact h.nat i x c a b
  .have aA:i=ns.length:=by
    exact zcG
   subst aA;rw[List.getElem?_append_right (Nat.le_refl _)]at a;rw[List.getElem?_append_right (by rw[h.nlen];exact Nat.le_refl _),h.nlen]at b;simp at a b;subst a b;exact⟨⟨hu,hr⟩,aB,aC⟩
end
theorem DG{α:Type}{l:List α}{i:Nat}{x:α}(h:l[i]?=some x):l.take (i+1)=l.take i ++ [x]:=by rw[List.take_add_one,h];rfl
theorem zbV{P:Prop}(h:P:=by
 rw[DG h];unfold Dj Ic;rw[List.filter_append,List.filter_append,List.map_append];simp[he]):P:=h
theorem Vf{c:AU}{gs:List BZ}{i:Nat}{g:BZ}(h:gs[i]?=some g)(he:gE c g=0):Dj c (gs.take (i+1))=Dj c (gs.take i) ++ [gM c g]/\Ic c (gs.take (i+1))=Ic c (gs.take i):=by
 exact zbV
theorem Ve{c:AU}{gs:List BZ}{i:Nat}{g:BZ}(h:gs[i]?=some g)(he:gE c g=11):Dj c (gs.take (i+1))=Dj c (gs.take i)/\Ic c (gs.take (i+1))=Ic c (gs.take i) ++ [g]:=by
 exact zbV
theorem SL{c:AU}{gs:List BZ}{i:Nat}{g:BZ}(h:gs[i]?=some g)(hb:Ni c (gs.take i)=none)(he:gE c g=0∨gE c g=11):Ni c (gs.take (i+1))=none:=by
 rw[DG h];unfold Ni at *;rw[List.find?_append,hb];rcases he with he|he <;> simp[he]
theorem Vg{c:AU}{gs:List BZ}{i:Nat}{g:BZ}(h:gs[i]?=some g)(hb:Ni c (gs.take i)=none)(h0:gE c g≠0)(aA:gE c g≠11):UI c gs=gE c g:=by
 have hs:gs=gs.take i++(g :: gs.drop (i+1)):=by
  have h1:=(List.getElem?_eq_some_iff.1 h).1;have h2:gs.drop i=g :: gs.drop (i+1):=by
   rw[List.drop_eq_getElem_cons h1]
   congr 1
   exact(List.getElem?_eq_some_iff.1 h).2
  rw[<-h2,List.take_append_drop]
 have h3:Ni c gs=some g:=by
  unfold Ni at *;rw[hs,List.find?_append,hb];simp[h0,aA]
 unfold UI;rw[h3]
open Classical in
noncomputable def Be (S:List (Nat->Nat)) (b m:Nat):List Nat:=(List.range m).filter fun x=>decide (∃f,Gn S f/\AY b f/\f b=x)
open Classical in
theorem KJ (S:List (Nat->Nat)) (b m:Nat):((∃f,Gn S f/\AY b f/\f b=m)->Be S b (m+1)=Be S b m ++ [m])/\(¬(∃f,Gn S f/\AY b f/\f b=m)->Be S b (m+1)=Be S b m):=by
 unfold Be;rw[List.range_succ,List.filter_append];constructor
 .intro h;simp[List.filter,h]
 .intro h;have h2:decide (∃f,Gn S f/\AY b f/\f b=m)=false:=decide_eq_false h;simp only[List.filter,h2,List.append_nil]
theorem Fk(S:List (Nat->Nat))(b m:Nat):(Be S b m).length<=m:=by
 unfold Be;exact Nat.le_trans (List.length_filter_le _ _) ag
noncomputable def Dk(n:Nat)(S:List (Nat->Nat))(b m:Nat):List (List Int):=(Be S b m).map fun x=>li n (FX n S b x)
noncomputable def E9(n:Nat)(S:List (Nat->Nat))(b:Nat):Lv:=⟨b,CZ (Be S b n),Dk n S b n⟩
noncomputable def Cd(n:Nat)(S:List (Nat->Nat))(m:Nat):List Lv:=((List.range m).map (E9 n S)).filter fun l=>decide (1<l.orb.length)
theorem Lc(n:Nat)(S:List (Nat->Nat))(m:Nat):Cd n S (m+1)=Cd n S m++if 1<(E9 n S m).orb.length then [E9 n S m] else []:=by
 unfold Cd;rw[List.range_succ,List.map_append,List.filter_append]
 congr 1
 by_cases h:1<(E9 n S m).orb.length <;> simp[List.filter,h]
theorem Ob(n:Nat)(S:List (Nat->Nat))(m:Nat):(Cd n S m).length<=m:=by
 unfold Cd;refine Nat.le_trans (List.length_filter_le _ _) ag
section
variable {w0 wr:World} {q n b ob lb:Nat} {lv:Value} {L:List Lv} {os:List (Value × Value)} {ov:Value} {orb:List Int} {rv:Value} {reps:List (List Int)} {vals:List Value} {mb:List Nat}
theorem Kj.atOrb(h:Kj w0 wr q n b ob lb lv L os ov orb rv reps vals mb){w1:World}{aA:Value}{x:Int}(ha:AZ wr w1 w0.heap.size 3 1 ov aA orb.length (Al orb) [.int .i64 x]):w1.cell? ⟨lb,1,none⟩=some ov/\w1.frozen? ⟨lb,1,none⟩=false:=
 ⟨ha.cell h.lc1 (fun e=>(h.nov lb e.symm).2.1 rfl),ha.frz h.lc1 h.lf1 (fun e=>(h.nov lb e.symm).2.1 rfl)⟩
theorem Kj.atRep(h:Kj w0 wr q n b ob lb lv L os ov orb rv reps vals mb){w1:World}{aA z:Value}(ha:AZ wr w1 w0.heap.size 22 1 rv aA reps.length vals [z]):w1.cell? ⟨lb,2,none⟩=some rv/\w1.frozen? ⟨lb,2,none⟩=false:=
 ⟨ha.cell h.lc2 (fun e=>(h.nrv lb e.symm).2.1 rfl),ha.frz h.lc2 h.lf2 (fun e=>(h.nrv lb e.symm).2.1 rfl)⟩
theorem Kj.atLev(h:Kj w0 wr q n b ob lb lv L os ov orb rv reps vals mb){w1:World}{aA:Value}{news:List Value}(ha:AZ wr w1 w0.heap.size 90 3 lv aA L.length (Pk L os) news):w1.cell? ⟨ob,1,none⟩=some lv/\w1.frozen? ⟨ob,1,none⟩=false:=
 ⟨ha.cell h.oc1 (fun e=>(h.nlv ob e.symm).1 rfl),ha.frz h.oc1 h.of1 (fun e=>(h.nlv ob e.symm).1 rfl)⟩
end
theorem RV(w:World){base n tb rb gb:Nat}{rr:Nat->Nat}{bE:List Nat}{t:Tw}{S:List (Nat->Nat)}{k0:Nat}(bZ:RZ w base n tb rb gb rr bE t)(hB:GW n S t k0)(bJ:S.length<=k0)(hS:∀s∈S,A7 n s)(aP:1<=n)(hn:n<=64):
  Calls Tryz.prog 175 #[.pointer (some ⟨tb,0,none⟩)] w fun r w'=>∃lv,r= .returned (.agg #[.int .i64 n,lv])/\D6 w' lv (Cd n S n)/\Ex w w':=by
 obtain⟨gv,V,hM⟩:=bZ;obtain⟨HM,HB,HS,aL,bD⟩:=Of hM hB hS (fun b (hb:b<n) x=>hB.orb aP hS bJ hb x) (fun b x (hb:b<n) r (hr:t.R b x=some r)=>hB.canon aP hS bJ hb hr);have hn0:n<=64:=hn;clear hM hB hS;go_enter Tryz.func175,Tryz.ntmps175
 have ea:Ex w (w.alloc (.cells #[.int .i64 0,.slice none 0 0] 43)):=(Ex.refl _).alloc _;have eb:Ex (w.alloc (.cells #[.int .i64 0,.slice none 0 0] 43)) ((w.alloc (.cells #[.int .i64 0,.slice none 0 0] 43)).alloc (.cells #[.int .i64 n,.slice none 0 0] 43)):=(Ex.refl _).alloc _;have c0:=ea.cell HM.o.c0;have cF:=eb.cell c0;go_wp2_with fail
 obtain⟨q,hq⟩:=nA w.heap.size;have bB:=Aa (HM.o.ex ea);have aJ:(w.alloc (.cells #[.int .i64 0,.slice none 0 0] 43)).heap.size=q+1:=by simp[hq]
 have q0:(w.alloc (.cells #[.int .i64 0,.slice none 0 0] 43)).cell? ⟨q,0,none⟩=some (.int .i64 0):=by rw[<-hq];simp
 have q1:(w.alloc (.cells #[.int .i64 0,.slice none 0 0] 43)).cell? ⟨q,1,none⟩=some (.slice none 0 0):=by rw[<-hq];simp
 have aS:(w.alloc (.cells #[.int .i64 0,.slice none 0 0] 43)).frozen? ⟨q,0,none⟩=false:=by rw[<-hq];simp
 have aR:(w.alloc (.cells #[.int .i64 0,.slice none 0 0] 43)).frozen? ⟨q,1,none⟩=false:=by rw[<-hq];simp
 try simp only[hq]
 generalize w.alloc (.cells #[.int .i64 0,.slice none 0 0] 43)=wR at *;have aN:=Aa (show WW wR (wR.alloc (.cells #[.int .i64 n,.slice none 0 0] 43)) q n (q+1) (.slice none 0 0) [] [] [q+1] from⟨by rw[<-aJ];simp,by rw[<-aJ];simp,by rw[<-aJ];simp,UE.nil _ _ _ _,fun B e=>(by cases e),ag,ac,fun B hB=>by
  rw[List.mem_singleton.1 hB,<-aJ];simp,eb⟩)
 obtain⟨EA,Q0,Q1,cH,cG,bA⟩:=To ea q0 q1 aS aR (show w.heap.size<=q from ac);clear ea eb c0 cF q0 q1 aS aR aJ;generalize wR.alloc (.cells #[.int .i64 n,.slice none 0 0] 43)=wA at *;clear hq
 go_loopw [17] (fun b' wr=>∃(b:Nat) (lv:Value) (os:List (Value × Value)) (mb:List Nat),b<=n/\b'= .int .i64 b/\Hia (WW wR wr q n (q+1) lv (Cd n S b) os mb)) (fun b' _=>n-(intOf b').toNat)
 case atStart=>exact⟨0,_, [],_,ac,rfl,aN⟩
 case round=>
  clear aN;obtain⟨b,lv,os,mb,hb,rfl,aE⟩:=hrel;have cO:=Aa (Ob n S b);by_cases hbn:b<n
  .have i1:(0:Int)<=(b:Int):=by omega
   have i2:(b:Int)<(n:Int):=ac;obtain⟨aH,cC⟩:=aE.o.begin_ (b:=b);have bC:=Aa aH;have bP:=Aa (bB.o.ex aH.ex);have c1:=bP.o.c1;have c3:=bP.o.ro b hbn;clear aH cC aE;go_wp2_with fail
   obtain⟨lb,aX⟩:=nA wr.heap.size;rw[aX]at bC
   try simp only[aX]
   generalize wr.alloc (.cells #[.int .i64 b,.slice none 0 0,.slice none 0 0] 90)=wb at *;clear aX c1 c3
   go_loopw [30] (fun x' wr=>∃(x:Nat) (ov rv:Value) (vals:List Value) (mb:List Nat),x<=n/\x'= .int .i64 x/\Hia (Kj wR wr q n b (q+1) lb lv (Cd n S b) os ov (CZ (Be S b x)) rv (Dk n S b x) vals mb)) (fun x' _=>n-(intOf x').toNat)
   case atStart=>exact⟨0,_,_,_,_,ac,rfl,bC⟩
   case round=>
    clear bC;obtain⟨x,ov,rv,vals,mb,hx,rfl,aG⟩:=hrel;by_cases hxn:x<n
    .have i3:(0:Int)<=(x:Int):=by omega
     have i4:(x:Int)<(n:Int):=ac;have bO:=Aa (bB.o.ex aG.o.ex);have d3:=(bO.o.row b hbn).cell hxn;have aA:=HM.o.rep b x hbn hxn
     cases hR:t.R b x with
     | none=>
      rw[hR]at aA;have aA:V b x= .slice none 0 0:=aA;rw[aA]at d3;have aM:=Aa ((KJ S b x).2 (fun h=>by
       obtain⟨r,hr⟩:=(aL.o b hbn x).2 h;rw[hR]at hr;cases hr))
      have aQ:=Aa (show Dk n S b (x+1)=Dk n S b x from by unfold Dk;rw[aM.o]);clear aA hR;go_wp2_with fail
      go_roundw
      case rel=>exact⟨x+1,ov,rv,vals,mb,ac,by go_num,by rw[aM.o,aQ.o];exact aG⟩
      case measure=>simp[intOf];omega
     | some r=>
      rw[hR]at aA;have aA:B3 _ bE n (V b x) r:=aA;obtain⟨vb,vo,vc,hV,_,_,bG,_⟩:=aA.at_;obtain⟨_,_,bI,cB,cA⟩:=HB.o.good.rep _ _ _ hR;rw[hV]at d3;have aM:=Aa ((KJ S b x).1 ((aL.o b hbn x).1 ⟨r,hR⟩));obtain⟨cM,aQ,bQ,aC⟩:=Eq (IG HS.o (bD.o b x hbn r hR)) (show Dk n S b (x+1)=Dk n S b x ++ [li n (FX n S b x)] from by unfold Dk;rw[aM.o,List.map_append];rfl) (show CZ (Be S b (x+1))=CZ (Be S b x) ++ [(x:Int)] from by rw[aM.o,Qv]) aG.o;obtain⟨oa,oc,aV⟩:=Ab aC.o.ovo;subst aV;have c1:=aC.o.lc1;have hol:(CZ (Be S b x)).length<=64:=by rw[Cc];have:=Fk S b x;omega
      obtain⟨aY,cK,cL,cI⟩:=Eq aC.o.ex.size (show Aj wR (.slice (some ⟨vb,vo,none⟩) n vc) (li n r) from by rw[<-hV];exact aA.sl.ex EA.o) bI bG;clear aA hV bI cB cA aG bO hR bG;go_upto_region 11 with (at_builtin;refine Ak _ rfl _ _ 22 rfl wR.heap.size 3 (.int .i64 0) 1 8 Tryz.underlying22 Au rfl ae _ (CZ (Be S b x)).length _ rfl aC.o.ovo [.int .i64 (x:Int)] 3 _ rfl ag rfl aj ai ac aY.o ?_)
      intro ov' w4 aB;obtain⟨bT,bS,aU⟩:=Ab aB.own;subst aU;obtain⟨e1,e2⟩:=aC.o.atOrb aB;obtain⟨bU,bH,_⟩:=aC.o.appOrb aB;have aF:=Aa bH;clear aB bH d3 c1;go_upto_region 11 with fail
      obtain⟨wo,bF⟩:=nA (w4.setCell ⟨lb,1,none⟩ (.slice bT ((CZ (Be S b x)).length+1) bS));rw[bF]at aF ⊢;clear bF e1 e2;obtain⟨ra,rc,aT⟩:=Ab aF.o.rvo;subst aT;have c2:=aF.o.lc2;have E0:Ex wo wo.drew:=(Ex.refl wo).drew;have hrl:(Dk n S b x).length<=64:=by unfold Dk;rw[List.length_map];have:=Fk S b x;omega
      have cP:=Aa (fun w5 (h5:Ex wo w5)=>Ns w5 (bB.o.ex (aF.o.ex.trans h5)) HB.o.good aP hn _ r b hbn (cK.o.ex (aF.o.ex.trans h5)) cL.o)
      go_region_law ((first|(go_simp;go_at_call 211;(with_reducible refine(cP.o _ E0).mono ?_);rintro e w5⟨z,rfl,hz,bL,bX⟩;have E5:=E0.trans bX;have bN:=E5.cell c2;obtain⟨za,zc,bV,_,_,_⟩:=Ec hz;subst bV;have cE:=((Ex.refl w5).alloc (.cells #[.slice za n zc] 22)).cell bN;have HZ:=Aa hz;have cN:=Aa bL;clear hz bL;have aK:=Aa (aF.o.later E5))|(refine BI bn _ _ _ bn wR.heap.size 22 (.slice none 0 0) 1 24 Tryz.underlying37 BB rfl ae (.slice ra (Dk n S b x).length rc) (Dk n S b x).length vals bn (Ai aK.o.rvo ((Ex.refl w5).alloc _)) _ 1 [.slice za n zc] bn (Sl.own (Ei w5 (.slice za n zc) 22)) aj ai ac (Nat.le_trans aK.o.ex.size ag) ?_;intro v6 w6 aD bK bM;have bR:=Aa (show AZ w5 w6 wR.heap.size 22 1 (.slice ra (Dk n S b x).length rc) v6 (Dk n S b x).length vals [.slice za n zc] from⟨aD,⟨_,bK⟩,by simpa using bM,aK.o.rvo⟩);obtain⟨k1,k2⟩:=aK.o.atRep bR.o;obtain⟨va,vc6,bY⟩:=Ab aD;subst bY;clear aD bK bM)))
      all_goals
       have cJ:=Aa (show SI w5 (q :: bU) (.slice za n zc) (li n (FX n S b x)) from⟨by rw[cM.o];exact HZ.o,fun _ B e=>by
        obtain⟨b',o',bW,cD,_⟩:=Em HZ.o aP;subst bW;injection e with e;have e:b'=B:=e;subst e;refine⟨fun hm=>?_,cD⟩;have hl:b'=q∨wR.heap.size<=b'/\b'<wo.heap.size:=by
         rcases List.mem_cons.1 hm with e|e
         .exact .inl e
         .exact .inr (aF.o.lo b' e)
        have hqw:=bA.o;have hql:=aF.o.ql;have hws:=aF.o.ex.size;have hea:=EA.o.size;rcases cN.o with h1|⟨g,cap',h1,h2⟩
        .injection h1 with h1 _ _;injection h1 with h1;injection h1 with h1;have:=cI.o;omega
        .injection h1 with h1 _ _;injection h1 with h1;injection h1 with h1;have h2:wo.heap.size<=g:=h2;omega⟩)
       have aZ:=Aa (aK.o.appRep cJ.o bR.o);clear k1 k2 c2 bN cE;go_wp2_with fail
       go_roundw
       case rel=>
        obtain⟨aI,h1⟩:=aZ.o
        first
                | exact⟨x+1,_,_,_,aI,ac,by go_num,by rw[bQ.o,aQ.o];exact Aa h1.1⟩
                | ((repeat apply Exists.intro);exact⟨⟨x+1,_,_,_,aI,ac,by go_num,by rw[bQ.o,aQ.o];exact Aa h1.1⟩,rfl⟩)
       case measure=>simp[intOf];omega
    .obtain rfl:x=n:=by omega
     have aC:=Aa aG.o;obtain⟨oa,oc,aV⟩:=Ab aC.o.ovo;subst aV;have c1:=aC.o.lc1;have hcl:(Cd x S b).length<=64:=by have:=cO.o;omega
     have aY:=Aa aC.o.ex.size;by_cases h1:1<(CZ (Be S b x)).length
     .have aO:=Aa (show Cd x S (b+1)=Cd x S b ++ [⟨b,CZ (Be S b x),Dk x S b x⟩] from by
       rw[Lc,if_pos (show 1<(E9 x S b).orb.length from h1)];rfl)
      have b1:decide (1<((CZ (Be S b x)).length:Int))=true:=aq;have b2:decide (1<(CZ (Be S b x)).length)=true:=bw;obtain⟨la,lc,aH⟩:=Ab aC.o.ch.own;obtain⟨ra,rc,aT⟩:=Ab aC.o.rvo;subst aH aT;have l0:=aC.o.lc0;have l2:=aC.o.lc2;have o1:=aC.o.oc1;clear h1 aG;go_wp2_with (at_builtin;refine Ak _ rfl _ _ 41 rfl wR.heap.size 90 (.agg #[.int .i64 0,.slice none 0 0,.slice none 0 0]) 3 56 Tryz.underlying41 RK rfl ae _ (Cd x S b).length _ rfl aC.o.ch.own [.int .i64 b,.slice oa (CZ (Be S b x)).length oc,.slice ra (Dk x S b x).length rc] 90 _ rfl ag rfl aj ai ac aY.o ?_)
      intro lv2 w4 aB;obtain⟨la2,lc2,aW⟩:=Ab aB.own;subst aW;obtain⟨e1,e2⟩:=aC.o.atLev aB;have HK:=Aa (aC.o.keep aB);clear aB l0 l2 o1 c1;go_wp2_with fail
      go_roundw
      case rel=>
       obtain⟨aI,h1⟩:=HK.o
       first
              | exact⟨b+1,_,_,aI,ac,by go_num,by rw[aO.o];exact Aa h1⟩
              | ((repeat apply Exists.intro);exact⟨⟨b+1,_,_,aI,ac,by go_num,by rw[aO.o];exact Aa h1⟩,rfl⟩)
      case measure=>simp[intOf];omega
     .have aO:=Aa (show Cd x S (b+1)=Cd x S b from by
       rw[Lc,if_neg (show ¬1<(E9 x S b).orb.length from h1),List.append_nil])
      have b1:decide (1<((CZ (Be S b x)).length:Int))=false:=aq;have b2:decide (1<(CZ (Be S b x)).length)=false:=bw;have HK:=Aa aG.o.drop;clear h1 aG;go_wp2_with fail
      go_roundw
      case rel=>first|exact⟨b+1,lv,os,mb,ac,by go_num,by rw[aO.o];exact HK⟩|((repeat apply Exists.intro);exact⟨⟨b+1,lv,os,mb,ac,by go_num,by rw[aO.o];exact HK⟩,rfl⟩)
      case measure=>simp[intOf];omega
  .obtain rfl:b=n:=by omega
   have o0:=aE.o.oc0;have o1:=aE.o.oc1;obtain⟨la,lc,aH⟩:=Ab aE.o.ch.own;subst aH;have q0:=aE.o.ex.cell Q0.o;have q1:=aE.o.ex.cell Q1.o;have aS:=aE.o.ex.frz Q0.o cH.o;have aR:=aE.o.ex.frz Q1.o cG.o;have aN:=Aa aE.o;clear aE;go_wp2_with fail
   exact bodyPost_ret (v:= .agg #[.int .i64 b,.slice la (Cd b S b).length lc]) (by simp[results,Tryz.results175,go_sem,q0,q1]) rfl ⟨_,rfl,aN.o.o _ _,((EA.o.trans aN.o.ex).setCell (p:=⟨q,0,none⟩) bA.o _).setCell (p:=⟨q,1,none⟩) bA.o _⟩
end Go.Proofs.YtehieobniamagaaGreat
