/- What automorphism.run gathers: maps and goals. -/
import Derived.Test.YtehieobniamagaaGreatZi27
namespace Go.Proofs.YtehieobniamagaaGreat
open List renaming mem_map→ψ,mem_range→κ,mem_flatMap→γr,length_append→ν,getElem?_eq_getElem→γ,getElem?_eq_some_iff→θ,getElem?_append_left→ο,getElem?_append_right→τ,find?_append→μn,range→ξ,range_succ→γg,countP_append→ζl,countP_singleton→ηm,mem_cons_self→Θ,mem_cons_of_mem→ω,map_cons→ηk,sum_cons→μb,not_mem_nil→γx,mem_cons→ϒ,countP_cons→ιs
open Nat renaming le_refl→ζ,mul_le_mul→γo,le_trans→μ
open Go.World renaming block_lt_of_cell?→η,ownsRow_nil→ϋ,cell?_setCell_other→ό
open Go.RowKit
set_option linter.all false
set_option maxRecDepth 100000
set_option maxHeartbeats 4000000
theorem Qn:(Tryz.prog.info? 26).map (fun i=>(i.zero,i.size,i.bytes))=some (some (.agg #[(),(),Ω]),3,56):=ah
def gF(c:AX)(g:Cd):(Nat × List Nd) × Int:=Gw c c g.tl g.sl
def gE(c:AX)(g:Cd):Int:=JW 0 (gF c g)
def gM(c:AX)(g:Cd):C7:=Jk 0 (gF c g)
def Di(c:AX)(gs:List Cd):List C7:=(gs.filter fun g=>gE c g==0).map (gM c)
def JH(c:AX)(gs:List Cd):List Cd:=gs.filter fun g=>gE c g==11
def NZ(c:AX)(gs:List Cd):Option Cd:=gs.find? fun g=>gE c g !=0&&gE c g !=11
def YE(c:AX)(gs:List Cd):Int:=match NZ c gs with
 | some g=>gE c g
 | none=>0
structure EL(n q:Nat)(g:Cd):Prop where
 ij:g.i<=g.j
 j:g.j<n
 a1:1<=g.a
 a:g.a<q
theorem gA_ok{n q i j:Nat}(h1:i<=j)(h2:j<n){g:Cd}{c:Nat}(hc:c<=q-1)(h:g∈gA i j c):EL n q g:=by
 unfold gA at h;obtain⟨a,ha,rfl⟩:=ψ.1 h;rw[κ]at ha;exact⟨h1,h2,by show 1<=a+1;omega,by show a+1<q;omega⟩
theorem Ix{n q:Nat}{g:Cd}(h:g∈Dw n q):EL n q g:=by
 unfold Dw gI at h;obtain⟨i,hi,h⟩:=γr.1 h;unfold gJ at h;obtain⟨k,hk,h⟩:=γr.1 h;rw[κ]at hi hk;exact gA_ok ac ac (ζ _) h
theorem AP(g:Cd):g.tl.length=g.i+1:=by unfold Cd.tl;rw[ν,FQ];rfl
theorem BL(g:Cd):g.sl.length=g.i+1:=by unfold Cd.sl;rw[ν,FJ];rfl
theorem zaT{P:Prop}(h:P:=by
 obtain rfl:k=g.i:=by omega
 rw[List.getElem?_append_right (by simp),if_neg h];simp):P:=h
theorem zaY{P:Prop}(h:P:=by
 rw[List.getElem?_append_left (by simpa using h),if_pos h];simp[h]):P:=h
theorem zcS{P:Prop}(h:P:=by
 rw[List.getD_eq_getElem?_getD];by_cases h:k<g.i
 .exact zaY
 .exact zaT):P:=h
theorem CY(g:Cd){k:Nat}(hk:k<=g.i):g.tl.getD k 0=((if k<g.i then k else g.j:Nat):Int):=by
 unfold Cd.tl Ll;exact zcS
theorem Fx(g:Cd){k:Nat}(hk:k<=g.i):g.sl.getD k 0=((if k<g.i then 1 else g.a:Nat):Int):=by
 unfold Cd.sl Mf;exact zcS
theorem gol_rng{n q:Nat}{g:Cd}(h:EL n q g):BW g.tl n=true:=by
 unfold BW;rw[List.all_eq_true];intro x hx;obtain⟨k,hk,rfl⟩:=List.mem_iff_getElem.1 hx;have h1:k<=g.i:=by rw[AP]at hk;omega
 have h2:=CY g h1;rw[List.getD_eq_getElem?_getD,γ hk]at h2;have h3:g.tl[k]=((if k<g.i then k else g.j:Nat):Int):=h2;rw[h3];have:=h.ij;have:=h.j;refine decide_eq_true ⟨ac,?_⟩;split <;> omega
theorem gol_dup{n q:Nat}{g:Cd}(h:EL n q g):G8 g.tl=false:=by
 cases hd:G8 g.tl with
 | false=>rfl
 | true=>
  obtain⟨i,j,h1,h2,e⟩:=LB.1 hd;rw[AP]at h2;rw[CY g ac,CY g ac]at e;have:=h.ij;split at e <;> split at e <;> omega
theorem gol_fac{n q:Nat}{g:Cd}(h:EL n q g):Iz q g.sl=0:=
 TX fun i hi=>⟨if i<g.i then 1 else g.a,Fx g (by rw[BL]at hi;omega),by have:=h.a1;split <;> omega,by have:=h.a1;have:=h.a;split <;> omega⟩
theorem Se{p m n:Int}{ml:List Int}{N q:Nat}(hn:n=N){g:Cd}(h:EL N q g):F5 0 0 (CE p m ml p m ml) n n g.tl g.sl q=0:=by
 subst hn;unfold F5;rw[if_neg ag,if_neg ag,if_neg (by rw[Dd.2 ⟨rfl,rfl,rfl⟩];simp),if_neg (by rw[AP,BL];have:=h.ij;have:=h.j;omega)];unfold FP;rw[gol_rng h,gol_dup h];rw[if_neg ae];exact gol_fac h
def Vb:List C7->List (Value × Value)->List Value
 | M :: Ms,c :: cs=>c.1 :: c.2 :: .int .i64 M.frob :: Vb Ms cs
 | _,_=> []
theorem Ts:∀(L:List C7) (os:List (Value × Value)) (i:Nat) (l:C7) (o:Value × Value),L[i]?=some l->os[i]?=some o->(Vb L os)[3*i]?=some o.1/\(Vb L os)[3*i+1]?=some o.2/\(Vb L os)[3*i+2]?=some (.int .i64 l.frob)
 | l' :: L,o' :: os,0,l,o,h,k=>by
  simp at h k;subst h k;exact⟨rfl,rfl,rfl⟩
 | l' :: L,o' :: os,i+1,l,o,h,k=>by
  have:=Ts L os i l o ay (by simpa using k);rw[show 3*(i+1)=3*i+3 by omega,show 3*i+3+1=3*i+1+3 by omega,show 3*i+3+2=3*i+2+3 by omega];simpa[Vb]using this
 | [],os,i,l,o,h,k=>by simp at h
 | l' :: L, [],i,l,o,h,k=>by simp at k
theorem Tt:∀(L:List C7) (os:List (Value × Value)) (l:C7) (o:Value × Value),os.length=L.length->Vb (L ++ [l]) (os ++ [o])=Vb L os ++ [o.1,o.2,.int .i64 l.frob]
 | [], [],l,o,_=>rfl
 | l' :: L,o' :: os,l,o,h=>by
  have:=Tt L os l o ay;simp only[List.cons_append,Vb,this]
 | [],o' :: os,l,o,h=>by simp at h
 | l' :: L, [],l,o,h=>by simp at h
def Pb(w:World)(v:Value)(Ms:List C7):Prop:=∃cs:List (Value × Value),cs.length=Ms.length/\Sl w v Ms.length 3 (Vb Ms cs)/\∀(i:Nat) (M:C7) (c:Value × Value),Ms[i]?=some M->cs[i]?=some c->Ak w c.1 M.perm/\Ak w c.2 M.scale
theorem zbW{P:Prop}(h:P:=by
 obtain⟨os,h1,h2,h3⟩:=h;exact⟨os,h1,h2.ex hx,fun i l o a b=>⟨(h3 i l o a b).1.ex hx,(h3 i l o a b).2.ex hx⟩⟩):P:=h
theorem Pb.ex{w w':World}{v:Value}{L:List C7}(h:Pb w v L)(hx:Ex w w'):Pb w' v L:=by
 exact zbW
theorem zcr{P:Prop}(h:P:=by
 obtain⟨k1,k2⟩:=h7 i l _ hl ho;exact⟨_,_,h9 _ _ g1,h9 _ _ g2,h9 _ _ g3,k1,k2⟩):P:=h
theorem Pb.open{w:World}{v:Value}{L:List C7}(h:Pb w v L):∃a cap,v= .slice a L.length cap/\L.length<=cap/\cap<=maxLen/\
  (0<L.length->∃b o,a=some ⟨b,o,none⟩/\∀(i:Nat) (l:C7),L[i]?=some l->∃u r,w.cell? ⟨b,o+3*i,none⟩=some u/\w.cell? ⟨b,o+(3*i+1),none⟩=some r/\w.cell? ⟨b,o+(3*i+2),none⟩=some (.int .i64 l.frob)/\Ak w u l.perm/\Ak w r l.scale):=by
 obtain⟨os,h1,⟨h2,a,cap,h3,h4,h5,h6⟩,h7⟩:=h;refine⟨a,cap,h3,h4,h5,fun hn=>?_⟩;obtain⟨b,o,h8,h9⟩:=h6 hn;refine⟨b,o,h8,fun i l hl=>?_⟩;have hi:=(θ.1 hl).1;have ho:os[i]?=some (os[i]'ac):=γ _;obtain⟨g1,g2,g3⟩:=Ts L os i l _ hl ho;exact zcr
theorem Fu{w w':World}{base:Nat}{e:TypeId}{size n:Nat}{v v' c:Value}{xs news:List Value}(ha:Bz w w' base e size v v' n xs news){l:List Int}(h:Ak w c l)(aB:l≠ []->AD c v):Ak w' c l/\(l≠ []->AD c v'):=by
 obtain⟨a,cap,rfl,h1,h2,h3⟩:=h.open;by_cases hl:l= []
 .subst hl;refine⟨?_,fun h=>absurd rfl h⟩;unfold Ak at *;exact⟨rfl,a,cap,rfl,h1,h2,fun h=>by simp at h⟩
 .obtain⟨B,o,rfl,h4⟩:=h3 (List.length_pos_iff.2 hl);obtain⟨x,l',rfl⟩:=List.exists_cons_of_ne_nil hl;have hlt:B<w.heap.size:=η _ _ (h4 0 x rfl);have aA:some B≠v.ownBlock:=by
   rcases aB hl with h5|h5
   .cases h5
   .exact h5
  refine⟨⟨h.1,_,cap,rfl,h1,h2,fun _=>⟨B,o,rfl,fun j u hu=>?_⟩⟩,fun _=>?_⟩
  .unfold Aj at hu;rw[List.getElem?_map]at hu
   cases hx:(x :: l')[j]? with
   | none=>rw[hx]at hu;cases hu
   | some y=>
    rw[hx]at hu;injection hu with hu;subst hu;exact ha.cell (h4 j y hx) aA
  .unfold AD;right;rcases ha.at_ with h5|h5
   .rw[h5];exact aA
   .rw[h5];intro e;injection e with e;have e2:B=w.heap.size+1:=e;omega
structure Rb(b0:Nat)(w1 wr:World)(mv nv:Value)(Ms:List C7)(cs:List (Value × Value))(ns:List Cd)(ds:List (Value × Value)):Prop where
 ex:Ex w1 wr
 mlen:cs.length=Ms.length
 mown:wr.ownsRow w1.heap.size 26 3 mv Ms.length (Vb Ms cs)
 mat:∀(i:Nat) (M:C7) (c:Value × Value),Ms[i]?=some M->cs[i]?=some c->(Ak wr c.1 M.perm/\(M.perm≠ []->AD c.1 mv/\AD c.1 nv))/\(Ak wr c.2 M.scale/\(M.scale≠ []->AD c.2 mv/\AD c.2 nv))
 nlen:ds.length=ns.length
 nown:wr.ownsRow w1.heap.size 129 5 nv ns.length (Fy ns ds)
 nat:∀(i:Nat) (g:Cd) (c:Value × Value),ns[i]?=some g->ds[i]?=some c->(Ak w1 c.1 g.tl/\Ak w1 c.2 g.sl)/\(∀X,c.1.ownBlock=some X->b0<=X)/\∀X,c.2.ownBlock=some X->b0<=X
 ap:AD mv nv
section
variable {b0:Nat} {w1 wr w':World} {mv nv v' u r:Value} {Ms:List C7} {cs ds:List (Value × Value)} {ns:List Cd}
theorem Rb.nil(b0:Nat)(w1:World):Rb b0 w1 w1 (.slice none 0 0) (.slice none 0 0) [] [] [] []:=
 ⟨Ex.refl _,rfl,ϋ _ _ _ _,fun i M c h=>by simp at h,rfl,ϋ _ _ _ _,fun i M c h=>by simp at h,AD.nil _⟩
theorem Rb.later(h:Rb b0 w1 wr mv nv Ms cs ns ds)(hx:Ex wr w'):Rb b0 w1 w' mv nv Ms cs ns ds:=
 ⟨h.ex.trans hx,h.mlen,Ag h.mown hx,fun i M c a b=>⟨⟨(h.mat i M c a b).1.1.ex hx,(h.mat i M c a b).1.2⟩,⟨(h.mat i M c a b).2.1.ex hx,(h.mat i M c a b).2.2⟩⟩,h.nlen,Ag h.nown hx,h.nat,h.ap⟩
theorem Rb.msl(h:Rb b0 w1 wr mv nv Ms cs ns ds):Pb wr mv Ms:=⟨cs,h.mlen,Sl.own h.mown,fun i M c a b=>⟨(h.mat i M c a b).1.1,(h.mat i M c a b).2.1⟩⟩
theorem Rb.nsl(h:Rb b0 w1 wr mv nv Ms cs ns ds):YK b0 wr nv ns:=⟨ds,h.nlen,Sl.own h.nown,fun i M c a b=>⟨⟨(h.nat i M c a b).1.1.ex h.ex,(h.nat i M c a b).1.2.ex h.ex⟩,(h.nat i M c a b).2⟩⟩
theorem Rb.appM(h:Rb b0 w1 wr mv nv Ms cs ns ds){M:C7}(hu:Ak wr u M.perm)(hr:Ak wr r M.scale)(aA:AD u mv/\AD u nv)(aB:AD r mv/\AD r nv)
  (ha:Bz wr w' w1.heap.size 26 3 mv v' Ms.length (Vb Ms cs) [u,r,.int .i64 M.frob]):Rb b0 w1 w' v' nv (Ms ++ [M]) (cs ++ [(u,r)]) ns ds:=by
 have hn:=ha.row h.nown h.ap.symm;refine⟨ha.ex h.ex (ζ _),by simp[h.mlen],?_,fun i x c a b=>?_,h.nlen,hn.1,h.nat,hn.2.symm⟩
 .have:=ha.own;rw[Tt Ms cs M (u,r) h.mlen,ν];exact this
 .by_cases hi:i<Ms.length
  .rw[ο hi]at a;rw[ο (by rw[h.mlen];exact hi)]at b;obtain⟨⟨p1,p2⟩,⟨p3,p4⟩⟩:=h.mat i x c a b;obtain⟨q1,q2⟩:=Fu ha p1 fun e=>(p2 e).1;obtain⟨q3,q4⟩:=Fu ha p3 fun e=>(p4 e).1;exact⟨⟨q1,fun e=>⟨q2 e,(p2 e).2⟩⟩,⟨q3,fun e=>⟨q4 e,(p4 e).2⟩⟩⟩
  .have aC:i=Ms.length:=by
    exact zc8
   subst aC;rw[τ (ζ _)]at a;rw[τ (by rw[h.mlen];exact ζ _),h.mlen]at b;simp at a b;subst a b;obtain⟨q1,q2⟩:=Fu ha hu fun e=>aA.1;obtain⟨q3,q4⟩:=Fu ha hr fun e=>aB.1;exact⟨⟨q1,fun e=>⟨q2 e,aA.2⟩⟩,⟨q3,fun e=>⟨q4 e,aB.2⟩⟩⟩
theorem Rb.appN(h:Rb b0 w1 wr mv nv Ms cs ns ds){g:Cd}(hu:Ak w1 u g.tl)(hr:Ak w1 r g.sl)(aB:∀X,u.ownBlock=some X->b0<=X)(aC:∀X,r.ownBlock=some X->b0<=X)
  (ha:Bz wr w' w1.heap.size 129 5 nv v' ns.length (Fy ns ds) [.int .i64 g.i,.int .i64 g.j,.int .i64 g.a,u,r]):Rb b0 w1 w' mv v' Ms cs (ns ++ [g]) (ds ++ [(u,r)]):=by
 have hm:=ha.row h.mown h.ap;refine⟨ha.ex h.ex (ζ _),h.mlen,hm.1,fun i x c a b=>?_,by simp[h.nlen],?_,fun i x c a b=>?_,hm.2⟩
 .obtain⟨⟨p1,p2⟩,⟨p3,p4⟩⟩:=h.mat i x c a b;obtain⟨q1,q2⟩:=Fu ha p1 fun e=>(p2 e).2;obtain⟨q3,q4⟩:=Fu ha p3 fun e=>(p4 e).2;exact⟨⟨q1,fun e=>⟨(p2 e).1,q2 e⟩⟩,⟨q3,fun e=>⟨(p4 e).1,q4 e⟩⟩⟩
 .have:=ha.own;rw[Lp ns ds g (u,r) h.nlen,ν];exact this
 .by_cases hi:i<ns.length
  .rw[ο hi]at a;rw[ο (by rw[h.nlen];exact hi)]at b;exact h.nat i x c a b
  .have aA:i=ns.length:=by
    exact zc8
   subst aA;rw[τ (ζ _)]at a;rw[τ (by rw[h.nlen];exact ζ _),h.nlen]at b;simp at a b;subst a b;exact⟨⟨hu,hr⟩,aB,aC⟩
end
theorem Ew{α:Type}{l:List α}{i:Nat}{x:α}(h:l[i]?=some x):l.take (i+1)=l.take i ++ [x]:=by rw[List.take_add_one,h];rfl
theorem zcj{P:Prop}(h:P:=by
 rw[Ew h];unfold Di JH;rw[List.filter_append,List.filter_append,List.map_append];simp[he]):P:=h
theorem Zn{c:AX}{gs:List Cd}{i:Nat}{g:Cd}(h:gs[i]?=some g)(he:gE c g=0):Di c (gs.take (i+1))=Di c (gs.take i) ++ [gM c g]/\JH c (gs.take (i+1))=JH c (gs.take i):=by
 exact zcj
theorem Zm{c:AX}{gs:List Cd}{i:Nat}{g:Cd}(h:gs[i]?=some g)(he:gE c g=11):Di c (gs.take (i+1))=Di c (gs.take i)/\JH c (gs.take (i+1))=JH c (gs.take i) ++ [g]:=by
 exact zcj
theorem Wn{c:AX}{gs:List Cd}{i:Nat}{g:Cd}(h:gs[i]?=some g)(hb:NZ c (gs.take i)=none)(he:gE c g=0∨gE c g=11):NZ c (gs.take (i+1))=none:=by
 rw[Ew h];unfold NZ at *;rw[μn,hb];rcases he with he|he <;> simp[he]
theorem Zo{c:AX}{gs:List Cd}{i:Nat}{g:Cd}(h:gs[i]?=some g)(hb:NZ c (gs.take i)=none)(h0:gE c g≠0)(aA:gE c g≠11):YE c gs=gE c g:=by
 have hs:gs=gs.take i++(g :: gs.drop (i+1)):=by
  have h1:=(θ.1 h).1;have h2:gs.drop i=g :: gs.drop (i+1):=by
   rw[List.drop_eq_getElem_cons h1]
   congr 1
   exact(θ.1 h).2
  rw[<-h2,List.take_append_drop]
 have h3:NZ c gs=some g:=by
  unfold NZ at *;rw[hs,μn,hb];simp[h0,aA]
 unfold YE;rw[h3]
theorem appd_of{w w':World}{o:Obj}{base:Nat}{e:TypeId}{size:Nat}{v v':Value}{n:Nat}{xs news:List Value}(aB:w.ownsRow base e size v n xs)(aA:w'.ownsRow base e size v' (n+1) (xs++news))
  (hg:((w.alloc o).drew).grownBy w' v.ownBlock) (ha:v'.ownBlock=v.ownBlock∨v'.ownBlock=some ((w.alloc o).drew).heap.size):Bz w w' base e size v v' n xs news:=
 ⟨aA,⟨o,⟨hg.os,hg.tape,hg.output,hg.size,hg.block⟩⟩,by simpa using ha,aB⟩
def VE(w:World)(base n tb rb gb:Nat)(rr:Nat->Nat)(mb:List Nat)(t:Tw):Prop:=∃gv V,SG w base n tb rb gb rr gv V mb t
def G7(n:Nat)(t:Tw)(b:Nat):Nat:=(ξ n).countP fun x=>(t.R b x).isNone
def Tp(n:Nat)(t:Tw)(b:Nat):Nat:=(n-b)*(n+1)+G7 n t b
theorem Tn(n:Nat)(t:Tw)(b:Nat):G7 n t b<=n:=by
 unfold G7;have:=List.countP_le_length (p:=fun x=>(t.R b x).isNone) (l:=ξ n);simpa using this
theorem GQ{t t':Tw}(h:ST t t')(b:Nat):∀n,G7 n t' b<=G7 n t b
 | 0=>ζ _
 | n+1=>by
  have ih:=GQ h b n;unfold G7 at *;rw[γg,ζl,ζl,ηm,ηm]
  cases h1:t.R b n with
  | none=>simp;split <;> omega
  | some r=>rw[h b n r h1];simp;exact ih
theorem P5{n:Nat}{t t':Tw}(h:ST t t')(b:Nat):Tp n t' b<=Tp n t b:=Nat.add_le_add_left (GQ h b n) _
theorem PZ{t:Tw}{b x:Nat}{q:Nat->Nat}(h:t.R b x=none):∀n,(x<n->G7 n (Ml t b x q) b+1=G7 n t b)/\(n<=x->G7 n (Ml t b x q) b=G7 n t b)
 | 0=>⟨fun h=>by omega,fun _=>rfl⟩
 | n+1=>by
  obtain⟨h1,h2⟩:=PZ (q:=q) h n;unfold G7 at *;have aA:(Ml t b x q).R b n=if n=x then some q else t.R b n:=by
   show(if b=b/\n=x then some q else t.R b n)=_
   by_cases e:n=x <;> simp[e]
  rw[γg,ζl,ζl,ηm,ηm,aA];constructor
  .intro hx;by_cases e:n=x
   .rw[if_pos e];subst e;rw[h,h2 (ζ _)];simp
   .rw[if_neg e];have:=h1 ac;omega
  .intro hx;have e:¬n=x:=by omega
   rw[if_neg e,h2 ac]
theorem ZL{n:Nat}{t:Tw}{b x:Nat}{q:Nat->Nat}(h:t.R b x=none)(hx:x<n):Tp n (Ml t b x q) b+1=Tp n t b:=by
 unfold Tp;have:=(PZ (q:=q) h n).1 hx;omega
theorem muT_up{n:Nat}{t:Tw}{b:Nat}(hb:b+1<n):Tp n t (b+1)+1<=Tp n t b:=by
 unfold Tp;have h1:=Tn n t (b+1);rw[show n-b=n-(b+1)+1 by omega,Nat.succ_mul];omega
def PY(n:Nat)(t:Tw)(c:Nat):Nat:=((ξ n).map fun d=>if c<=d then G7 n t d else 0).sum
theorem FI{f g:Nat->Nat}:∀l:List Nat,(∀d∈l,f d<=g d)->(l.map f).sum<=(l.map g).sum
 | [],_=>ζ _
 | d :: l,h=>by
  have h1:=h d (Θ ..);have h2:=FI l fun e he=>h e (ω _ he);simp only[ηk,μb];omega
theorem U7{n:Nat}{t t':Tw}(h:ST t t')(c:Nat):PY n t' c<=PY n t c:=
 FI _ fun d _=>by
  split
  .exact GQ h d n
  .exact ζ _
theorem ZI(n:Nat)(t:Tw)(c:Nat):PY n t c<=n*n:=by
 have h1:=FI (f:=fun d=>if c<=d then G7 n t d else 0) (g:=fun _=>n) (ξ n) fun d _=>by
  split
  .exact Tn n t d
  .exact Nat.zero_le _
 have h2:((ξ n).map fun _=>n).sum=n*n:=by
  rw[List.map_const',List.sum_replicate_nat,List.length_range]
 unfold PY;omega
theorem Kq{f g:Nat->Nat}:∀l:List Nat,(∀d∈l,f d<=g d)->(l.map g).sum<=(l.map f).sum->∀d∈l,f d=g d
 | [],_,_,d,hd=>absurd hd (γx)
 | e :: l,h,hs,d,hd=>by
  have h1:=h e (Θ ..);have h2:=FI l fun e he=>h e (ω _ he);simp only[ηk,μb]at hs;rcases ϒ.1 hd with h3|h3
  .subst h3;omega
  .exact Kq l (fun e he=>h e (ω _ he)) ac d h3
theorem Nq{p q:Nat->Bool}:∀l:List Nat,(∀x∈l,q x=true->p x=true)->l.countP p<=l.countP q->∀x∈l,p x=q x
 | [],_,_,x,hx=>absurd hx (γx)
 | e :: l,h,hs,x,hx=>by
  have h2:l.countP q<=l.countP p:=List.countP_mono_left fun y hy=>h y (ω _ hy);have h1:=h e (Θ ..);rw[ιs,ιs]at hs;have aA:p e=q e/\l.countP p<=l.countP q:=by
   cases hp:p e <;> cases hq:q e <;> simp[hp,hq]at hs h1 ⊢ <;> omega
  rcases ϒ.1 hx with h3|h3
  .subst h3;exact aA.1
  .exact Nq l (fun y hy=>h y (ω _ hy)) aA.2 x h3
theorem ZH{n:Nat}{t t':Tw}(hG:Db n t)(aA:Db n t')(h:ST t t'){b:Nat}{p:Nat->Nat}(h1:¬Sf n t.R (n-b) b p)(h2:Sf n t'.R (n-b) b p):PY n t' b+1<=PY n t b:=by
 apply Classical.byContradiction;intro hn;refine h1 (Sf.congr (c:=b) (R:=t'.R) (fun c x hc=>?_) (ζ _) h2);by_cases hcx:c<n/\x<n
 .have e1:=Kq (f:=fun d=>if b<=d then G7 n t' d else 0) (g:=fun d=>if b<=d then G7 n t d else 0) (ξ n) (fun d _=>by
   split
   .exact GQ h d n
   .exact ζ _) (by unfold PY at hn;omega) c (κ.2 hcx.1)
  simp only[if_pos hc]at e1;have e2:=Nq (p:=fun x=>(t.R c x).isNone) (q:=fun x=>(t'.R c x).isNone) (ξ n) (fun y _ hy=>by
   cases hr:t.R c y with
   | none=>rfl
   | some r=>rw[h c y r hr]at hy;cases hy) (by unfold G7 at e1;omega) x (κ.2 hcx.2)
  cases hr:t.R c x with
  | some r=>exact h c x r hr
  | none=>
   simp only[hr,Option.isNone]at e2
   cases hr':t'.R c x with
   | none=>rfl
   | some r=>rw[hr']at e2;cases e2
 .cases hr:t.R c x with
  | some r=>exact absurd ⟨(hG.rep _ _ _ hr).1,(hG.rep _ _ _ hr).2.1⟩ hcx
  | none=>
   cases hr':t'.R c x with
   | none=>rfl
   | some r=>exact absurd ⟨(aA.rep _ _ _ hr').1,(aA.rep _ _ _ hr').2.1⟩ hcx
def Rj(n:Nat)(t:Tw)(b:Nat):Prop:=∀c,b<=c->c<n->(t.g c).length+PY n t c<=n*n
theorem Rj.up{n:Nat}{t:Tw}{b c:Nat}(h:Rj n t b)(hc:b<=c):Rj n t c:=fun d hd=>h d ac
theorem Rj.mono{n:Nat}{t t':Tw}{b:Nat}(h:Rj n t b)(hl:ST t t')(hg:∀c,b<=c->t'.g c=t.g c):Rj n t' b:=fun c hc aA=>by
 rw[hg c hc];have:=h c hc aA;have:=U7 (n:=n) hl c;omega
def Ur(base n tb rb gb:Nat)(rr:Nat->Nat)(m:Nat):Prop:=∀(w:World) (mb:List Nat) (t:Tw) (q:Nat->Nat) (u:Value) (b:Nat),Tp n t b<=m->b<n->VE w base n tb rb gb rr mb t->Db n t->(∀c,b+1<=c->c<n->DP n t c)->CC w mb n u q->Bo n q->AU b q->base<=w.heap.size->(t.g b).length<=n*n+1->Rj n t (b+1)->
 Calls Tryz.prog 210 #[(tb,0),u,b] w fun r w'=>(∃z,r= .returned z)/\∃aA t',VE w' base n tb rb gb rr aA t'/\Yp n b q t t'/\Mx mb aA w w'/\Rj n t' (b+1)
def Yv(base n tb rb gb:Nat)(rr:Nat->Nat)(m:Nat):Prop:=∀(w:World) (mb:List Nat) (t:Tw) (p:Nat->Nat) (u:Value) (b:Nat),(b<n->Tp n t b<=m)->b<=n->VE w base n tb rb gb rr mb t->Db n t->(∀c,b<=c->c<n->DP n t c)->CC w mb n u p->Bo n p->AU b p->base<=w.heap.size->Rj n t b->
 Calls Tryz.prog 174 #[(tb,0),u,b] w fun r w'=>(∃z,r= .returned z)/\∃aA t',VE w' base n tb rb gb rr aA t'/\Re n b p t t'/\Mx mb aA w w'/\Rj n t' b
theorem Ma.one{w:World}{mb:List Nat}{n:Nat}{o:Option (Nat->Nat)}{u:Value}(h:Ma w mb n o u):u.oneCell'=true:=by
 cases o with
 | none=>have h:u= .slice none 0 0:=h;rw[h];rfl
 | some r=>
  have h:CC w mb n u r:=h;obtain⟨b,o,cap,rfl,_⟩:=h.at_;rfl
theorem Li{base n tb rb gb:Nat}{rr:Nat->Nat}(bJ:1<=n)(hn:n<=64)(m:Nat)(hv:Ur base n tb rb gb rr m):Yv base n tb rb gb rr m:=by
 intro w mb t p u b bV hb aL hG hC hu hP hF cA cB;have HV:=Aa hv;have aZ:=Aa cB;have hnn:n*n<=4096:=γo hn hn;obtain⟨gv,V,hM⟩:=aL;obtain⟨HM,HG,HC,HU,HP,HF,dE,bN⟩:=OK hM hG hC hu hP hF bV (UD w hM hG bJ hn u p b hb hu.sl hP);obtain⟨ub,uo,uc,rfl,_,_,_,_⟩:=hu.at_;obtain⟨E,hE⟩:=nA ((DR n t.R (n-b) b p).2);have HE:=Aa hE;have cL:=Aa (MT n t.R (n-b) b p);rw[hE]at bN cL;clear hv cB hM hG hC hu hP hF bV hE;by_cases hen:E=n
 .have cS:((E:Int)==(n:Int))=true:=by simp;omega
  have cR:(E==n)=true:=by simpa using hen
  have aN:=Aa (Re.same HG.o HC.o ((Rq n t.R (n-b) b p).2 (by rw[HE.o];omega)));clear hen;go_enter Tryz.func174,Tryz.ntmps174
  go_wp2_with fail
  refine bN.o.mono ?_;rintro e w1⟨z,rfl,aH⟩;have c0:=aH.cell HM.o.c0;have bD:=Aa aH;clear aH;go_wp2_with fail
  ((try simp only[Exit.inBlock,Exit.then]);refine bodyPost_ret (results_none rfl _ _ _) rfl ?_)
  exact⟨⟨_,rfl⟩,mb,t,⟨gv,V,HM.o.ex bD.o⟩,aN.o,Mx.ofEx bD.o mb,aZ.o⟩
 .have aB:b<n:=by
   apply Classical.byContradiction;intro h;have h1:=cL.o;omega
  have cS:((E:Int)==(n:Int))=false:=aq;have cR:(E==n)=false:=by simpa using hen
  have dI:=Aa (show(t.g b).length<=4096 from by have:=aZ.o b (ζ _) aB;omega);have dC:Hia (¬Sf n t.R (n-b) b p):=Aa (fun h=>hen (by have:=(Rq n t.R (n-b) b p).1 h;rw[HE.o]at this;omega));clear hen;go_enter Tryz.func174,Tryz.ntmps174
  go_wp2_with fail
  refine bN.o.mono ?_;rintro e w1⟨z,rfl,aH⟩;obtain⟨bD,HM,HU,dP⟩:=Of aH (HM.o.ex aH) (HU.o.ex aH) (μ cA aH.size);clear aH;obtain⟨vals,bX,bW⟩:=HM.o.gro b aB;have bR:=Aa bX;have cK:=Aa bW;clear bX bW;have hgl:=dI.o;have c0:=HM.o.c0;have c2:=HM.o.c2;have c4:=HM.o.go.cell aB;have i1:(0:Int)<=(b:Int):=ac;have i2:(b:Int)<(n:Int):=ac;have EA:=(Ex.refl w1).alloc (.cells #[.slice (some (ub,uo)) n uc] 22);have cV:=EA.cell c2;have cT:=EA.cell c4;have bQ:=Aa (show(gv b).ownBlock≠some gb from fun e=>(HM.o.gvm b _ aB e).2.1 rfl);have cI:Hia (some tb≠(gv b).ownBlock):=Aa (fun e=>HM.o.tm (HM.o.gvm b tb aB e.symm).1);have cO:Hia (base<=((w1.alloc (.cells #[.slice (some (ub,uo)) n uc] 22)).drew).heap.size):=Aa (by have:=dP.o;simp;omega);go_upto_region 2 with fail
  go_cut [2] from 23 to 39 (fun s2 wx=>s2= .int .i64 b/\Hia (∃aK,VE wx base n tb rb gb rr aK (SF t b p)/\Mx mb aK w1 wx))
  case first=>
   go_region_law
   ((refine Cq bp _ _ _ bp base 22 (.slice none 0 0) 1 24 Tryz.underlying37 BZ rfl ae (gv b) (t.g b).length vals bp (Ag bR.o (((Ex.refl w1).alloc (.cells #[.slice (some (ub,uo)) n uc] 22)).drew)) _ 1 [.slice (some (ub,uo)) n uc] bp (Sl.own (Ee w1 (.slice (some (ub,uo)) n uc) 22)) aj ai ac (cO.o) ?_;intro v8 w8 aD bY cC;have bH:=Aa (appd_of bR.o aD bY cC);have dN:=(bH.o.arr HM.o.go bQ.o).1.cell aB;have dM:=(bH.o.arr HM.o.go bQ.o).1.frz b;have cU:=bH.o.cell c2 cI.o;obtain⟨va,vc,cP⟩:=Ad aD;subst cP;clear aD bY cC))
   all_goals
   have bO:Hia (∃aK,VE (w8.setCell (gb,b) (.slice va ((t.g b).length+1) vc)) base n tb rb gb rr aK (SF t b p)/\Mx mb aK w1 (w8.setCell (gb,b) (.slice va ((t.g b).length+1) vc))):=Aa (by
    obtain⟨aK,h1,h2⟩:=HM.o.addGen aB HU.o cK.o bH.o;exact⟨aK,⟨_,_,h1⟩,h2⟩)
   clear dN dM cU;go_wp2_with fail
   go_meet
   exact⟨rfl,bO⟩
  case rest=>
   obtain⟨rfl,aR⟩:=hcut;obtain⟨aM,⟨gv1,V1,cD⟩,aI⟩:=aR.o;have aJ:=Aa cD;have bF:=Aa aI;have cG:=Aa (HU.o.mx aI);clear aR cD aI c0 c2 c4 cV cT bR cK bQ cI cO HM HU EA;have c1:=aJ.o.c1;have c3:=aJ.o.ro b aB;have cM:=Aa (SY wc n (V1 b) _ (aJ.o.row b aB).sl bJ ac (fun j hj=>(aJ.o.rep b j aB hj).one));have bG:=Aa (J0.start HG.o (fun c h1 h2=>HC.o c ac h2) HP.o HF.o);have dF:Hia (Tp n t b<=m):=Aa (dE.o aB);have cN:=Aa (show Rj n (SF t b p) (b+1) from(aZ.o.up (by omega:b<=b+1)).mono (fun _ _ _ h=>h) fun c hc=>by
    show(if c=b then t.g c ++ [p] else t.g c)=t.g c
    rw[if_neg ac])
   go_wp2_with (go_at_call 209;refine cM.o.mono ?_;rintro e w9⟨g9,cap9,rfl,aE,bT⟩;have bP:=Aa aE;have aV:=Aa bT;clear aE bT)
   obtain⟨aY,aX,bE,cF,cH,aW⟩:=Ty (show ∀j,j<n->w9.cell? ⟨g9,j,none⟩=some (V1 b j) from fun j hj=>bP.o.cell hj) (show g9 ∉ aM from fun h=>by have:=aJ.o.low g9 h;have:=bP.o.lt.1;omega) (show ∀y,y<n->Ma w9 aM n (t.R b y) (V1 b y) from fun y hy=>(aJ.o.rep b y aB hy).mx (Mx.ofEx aV.o aM)) (cG.o.ex aV.o) (show VE w9 base n tb rb gb rr aM (SF t b p) from⟨_,_,aJ.o.ex aV.o⟩) ((Mx.ofEx bD.o mb).trans (bF.o.trans (Mx.ofEx aV.o aM)));clear c1 c3 cM bP aJ bF cG aV
   go_loopw [48,9] (fun x' r' wr=>∃(x:Nat) (aC:List Nat) (tc:Tw),x<=n/\x'= .int .i64 x/\Hia (VE wr base n tb rb gb rr aC tc)/\Hia (J0 n b p t tc x)/\Hia (Mx mb aC w wr)/\Hia (∀j,j<n->wr.cell? ⟨g9,j,none⟩=some (V1 b j))/\Hia (g9 ∉ aC)/\Hia (∀y,y<n->Ma wr aC n (t.R b y) (V1 b y))/\Hia (CC wr aC n (.slice (some (ub,uo)) n uc) p)/\Hia (Rj n tc (b+1))) (fun x' _ _=>n-(intOf x').toNat)
   case atStart=>exact⟨0,aM,SF t b p,ac,rfl,cH,bG,aW,aY,aX,bE,cF,cN⟩
   case round=>
    clear cH bG aW aY aX bE cF cN;obtain⟨x,aC,tc,hx,rfl,aL,aF,aI,bC,bK,bB,bA,aT⟩:=hrel;by_cases hxn:x<n
    .have d1:=bC.o x hxn;have aA:=bB.o x hxn;have i3:(0:Int)<=(x:Int):=by omega
     have i4:(x:Int)<(n:Int):=ac
     cases hR:t.R b x with
     | none=>
      rw[hR]at aA;have aA:V1 b x= .slice none 0 0:=aA;rw[aA]at d1;have dK:=Aa (aF.o.skip hR);clear aA hR aF;go_wp2_with fail
      go_roundw
      case rel=>exact⟨x+1,aC,tc,ac,by go_num,aL,dK,aI,bC,bK,bB,bA,aT⟩
      case measure=>exact Ωm
     | some r=>
      rw[hR]at aA;have aA:CC wr aC n (V1 b x) r:=aA;obtain⟨vb,vo,vc,hV,_,_,_,_⟩:=aA.at_;obtain⟨_,_,bI,bU,cQ⟩:=HG.o.rep _ _ _ hR;have cJ:=Aa aA.sl;rw[hV]at d1 cJ;obtain⟨cZ,cW,dH,dA,bG,bF,aY,aX,bE,cX⟩:=Ha2 (Gj wr n r p _ _ cJ.o bA.o.sl ac bI.lt) (fun w2 (aO:Ex wr w2) z (hz:CC w2 aC n z (Ap r p))=>HV.o w2 aC tc (Ap r p) z b (μ (P5 aF.o.le b) dF.o) aB (by obtain⟨gv',V',h⟩:=aL.o;exact⟨gv',V',h.ex aO⟩) aF.o.good aF.o.comp hz (bI.comp HP.o) (bU.comp HF.o) (μ cA (μ aI.o.size aO.size)) (by have h1:=aZ.o b (ζ _) aB;rw[aF.o.gb,ν];simp;omega) aT.o) (show ∀B∈aC,B<wr.heap.size from by obtain⟨gv',V',h⟩:=aL.o;exact h.low) hR aF.o aI.o bC.o bK.o bB.o bA.o;clear aA hR aF aI bC bK bB bA aT hV bI bU cQ aL;go_wp2_with (first|(go_at_call 108;refine cZ.o.mono ?_;rintro e w2⟨g2,rfl,aE,aO⟩;have dD:=Aa (CC.new bJ aE dH.o);have cE:=Aa aO;clear aE aO)|(go_at_call 210;refine(cW.o _ cE.o _ dD.o).mono ?_;rintro e w3⟨⟨zz,rfl⟩,mb3,t3,aQ,aP,aS,aU⟩;have bS:=Aa aU;clear aU;have bM:=Aa aQ;have bL:=Aa aP;have aG:=Aa ((Mx.ofEx cE.o aC).trans aS);clear aQ aP aS))
      have dJ:=Aa (bG.o.step dA.o bL.o);have dO:Hia (∀j,j<n->w3.cell? ⟨g9,j,none⟩=some (V1 b j)):=Aa (fun j hj=>aG.o.cell (aY.o j hj) aX.o);have dL:Hia (g9 ∉ mb3):=Aa (fun h=>by
       rcases aG.o.mb g9 h with h1|h1
       .exact aX.o h1
       .have:=η _ _ (aY.o 0 ac);dsimp only at this;omega)
      have dB:Hia (∀y,y<n->Ma w3 mb3 n (t.R b y) (V1 b y)):=Aa (fun y hy=>(bE.o y hy).mx aG.o);have cY:=Aa (cX.o.mx aG.o);have dG:=Aa (bF.o.trans aG.o);go_roundw
      case rel=>exact⟨x+1,mb3,t3,ac,by go_num,bM,dJ,dG,dO,dL,dB,cY,bS⟩
      case measure=>exact Ωm
    .obtain rfl:x=n:=by omega
     have aN:=Aa (aF.o.fin aB HG.o HC.o HP.o HF.o (ζ _));have dQ:Hia (Rj x tc b):=Aa (fun c hc bZ=>by
      by_cases e:c=b
      .subst e;have h1:=aZ.o c (ζ _) bZ;have h2:=ZH HG.o aN.o.good aN.o.le dC.o aN.o.mem;rw[aF.o.gb,ν];simp;omega
      .exact aT.o c ac bZ)
     clear aF aT;go_wp2_with fail
     ((try simp only[Exit.inBlock,Exit.then]);first|refine bodyPost_ret (results_none rfl _ _ _) rfl ?_|refine bodyPost_end (results_none rfl _ _ _) rfl ?_)
     exact⟨⟨_,rfl⟩,aC,tc,aL.o,aN.o,aI.o,dQ.o⟩
theorem VW{base n tb rb gb:Nat}{rr:Nat->Nat}(cF:1<=n)(hn:n<=64)(m:Nat)(hv:Ur base n tb rb gb rr m)(hi:Yv base n tb rb gb rr m):Ur base n tb rb gb rr (m+1):=by
 intro w mb t q u b cG aC aQ hG hC hu hP hF aJ bE bF;have hnn:n*n<=4096:=γo hn hn;have HV:=Aa hv;have HI:=Aa hi;obtain⟨gv,V,hM⟩:=aQ;obtain⟨HM,HG,HC,HU,HP,HF,dE,cO⟩:=OK hM hG hC hu hP hF bF bE;obtain⟨ub,uo,uc,rfl,_,_,_,bJ⟩:=hu.at_;have bC:=hP.lt b aC;have d1:=bJ b aC;have c1:=hM.c1;have c3:=hM.ro b aC;have d3:=(hM.row b aC).cell bC;have aA:=hM.rep b (q b) aC bC;have i1:(0:Int)<=(b:Int):=ac;have i2:(b:Int)<(n:Int):=ac;have i3:(0:Int)<=(q b:Int):=ac;have i4:(q b:Int)<(n:Int):=ac
 cases hR:t.R b (q b) with
 | some r=>
  rw[hR]at aA;have aA:CC w mb n (V b (q b)) r:=aA;obtain⟨vb,vo,vc,hV,_,_,_,_⟩:=aA.at_;obtain⟨_,_,bB,cE,cD⟩:=hG.rep _ _ _ hR;have cM:=Aa aA.sl;rw[hV]at d3 cM;obtain⟨cZ,bR,bU,cN,cU⟩:=On (JM w n r _ cM.o ac bB) (fun w1 (cP:Ex w w1) z hz=>Gj w1 n q (A8 n r) _ z (HU.o.sl.ex cP) hz ac hP.lt) hM.low (fun w2 (aD:Ex w w2) z (hz:CC w2 mb n z (Ap q (A8 n r)))=>HI.o w2 mb t (Ap q (A8 n r)) z (b+1) (fun h=>by have:=muT_up (t:=t) h;omega) aC ⟨gv,V,HM.o.ex aD⟩ HG.o HC.o hz (hP.comp bB.inv) (hF.div bB cE cD) (μ aJ aD.size) dE.o) hR;have i5:IntKind.i64.wrap ((b:Int)+1)=(b:Int)+1:=IntWalk.i64_in _ ac;have aH:((b+1:Nat):Int)=(b:Int)+1:=by omega
  rw[aH]at cN;clear aA hR hV bB cE cD hG hC hu hP hF bF bE bJ hM hv hi aH cG;go_enter Tryz.func210,Tryz.ntmps210
  go_wp2_with (first|(go_at_call 109;refine cZ.o.mono ?_;rintro e w2⟨g2,rfl,aB,aD⟩;have dB:=Aa aB.li;have aM:=Aa aD;clear aB aD)|(go_at_call 108;refine(bR.o _ aM.o _ dB.o).mono ?_;rintro e w3⟨g3,rfl,aB,cA⟩;have dA:=Aa (CC.new cF aB (fun B hB=>Nat.lt_of_lt_of_le (bU.o B hB) aM.o.size));have cJ:=Aa (aM.o.trans cA);clear aB cA)|(go_at_call 174;refine(cN.o _ cJ.o _ dA.o).mono ?_;rintro e w4⟨⟨zz,rfl⟩,mb4,t4,aO,aT,aR,aV⟩;have bP:=Aa aO;have bW:=Aa aT;have bT:=Aa ((Mx.ofEx cJ.o mb).trans aR);have bY:=Aa aV;clear aO aT aR aV))
  ((try simp only[Exit.inBlock,Exit.then]);first|refine bodyPost_ret (results_none rfl _ _ _) rfl ?_|refine bodyPost_end (results_none rfl _ _ _) rfl ?_)
  exact⟨⟨_,rfl⟩,mb4,t4,bP.o,bW.o.vis aC HG.o cU.o,bT.o,bY.o⟩
 | none=>
  rw[hR]at aA;have aA:V b (q b)= .slice none 0 0:=aA;rw[aA]at d3;have f3:=(hM.row b aC).frz (q b);obtain⟨cI,aI⟩:=hM.setRep aC bC HU.o;obtain⟨aZ,aL,cK,aX⟩:=Of (show VE (w.setCell (rr b,q b) (.slice (some (ub,uo)) n uc)) base n tb rb gb rr mb (Ml t b (q b) q) from⟨_,_,cI⟩) aI (HU.o.mx aI) (O7.start aC hG hC hP hF hR);have bA:=Aa (bF.mono aX.o.le fun _ _=>rfl);have cX:Hia (Tp n (Ml t b (q b) q) b<=m):=Aa (by have:=ZL (q:=q) hR bC;omega);have dD:=Aa aJ;clear aA hR hG hC hu hP hF bF bE bJ hM hv hi cG cI aI aJ;go_enter Tryz.func210,Tryz.ntmps210
  go_wp2_with fail
  have cL:Hia (base<=(w.setCell (rr b,q b) (.slice (some (ub,uo)) n uc)).heap.size):=Aa (μ dD.o aL.o.size);generalize w.setCell (rr b,q b) (.slice (some (ub,uo)) n uc)=w1 at *;clear d1 c1 c3 d3 f3
  go_loopw [7] (fun k' wr=>∃(k:Nat) (aE:List Nat) (tc:Tw),k<=(t.g b).length/\k'= .int .i64 k/\Hia (VE wr base n tb rb gb rr aE tc)/\Hia (O7 n b q t tc k)/\Hia (ST (Ml t b (q b) q) tc)/\Hia (Mx mb aE w wr)/\Hia (CC wr aE n (.slice (some (ub,uo)) n uc) q)/\Hia (Rj n tc (b+1))/\Hia (base<=wr.heap.size)) (fun k' _=>(t.g b).length-(intOf k').toNat)
  case atStart=>exact⟨0,mb,_,ac,rfl,aZ,aX,Aa (fun _ _ _ h=>h),aL,cK,bA,cL⟩
  case round=>
   clear aZ aX aL cK bA cL;obtain⟨k,aE,tc,hk,rfl,aQ,aF,bL,bK,bH,bM,aJ⟩:=hrel;obtain⟨gv,V,hM⟩:=aQ.o;obtain⟨vals,aG,bD⟩:=hM.gro b aC;rw[aF.o.gb]at aG bD;have c2:=hM.c2;have c4:=hM.go.cell aC;have bE:=cO.o;by_cases hkn:k<(t.g b).length
   .obtain⟨s,hs⟩:∃s,(t.g b)[k]?=some s:=⟨_,γ hkn⟩;obtain⟨v,bG⟩:∃v,vals[k]?=some v:=⟨_,γ (by have:=aG.1;omega)⟩;have bI:=bD k s v hs bG;obtain⟨sb,so,sc,rfl,_,_,_,_⟩:=bI.at_;obtain⟨cR,gc,aU,_,cQ⟩:=Dz aG ac;unfold maxLen at cQ;rw[aU]at aG c4;have d5:wr.cell? (cR,k)=some (.slice (some (sb,so)) n sc):=by
     rw[World.ownsRow.cellAt aG k ac];exact bG
    have i5:(0:Int)<=(k:Int):=ac;have i6:(k:Int)<((t.g b).length:Int):=ac;obtain⟨cB,cC⟩:=HG.o.gen b s (List.mem_of_getElem? hs);obtain⟨bR,bU,cS,aX,HS,cY,cW,cT,bX⟩:=Ha0 (Gj wr n q s _ _ bH.o.sl bI.sl ac HP.o.lt) hM.low (fun w2 (aD:Ex wr w2) z (hz:CC w2 aE n z (Ap q s))=>HV.o w2 aE tc (Ap q s) z b (μ (P5 bL.o b) cX.o) aC ⟨gv,V,hM.ex aD⟩ aF.o.good aF.o.comp hz (HP.o.comp cB) (HF.o.comp cC) (μ aJ.o aD.size) (by rw[aF.o.gb];exact cO.o) bM.o) aF.o hs bL.o bK.o bH.o aJ.o;clear aF bL bK bH bM aJ hs bG bI aG bD cB cC aQ hM aU;go_wp2_with (first|(go_at_call 108;refine bR.o.mono ?_;rintro e w2⟨g2,rfl,aB,aD⟩;have cV:=Aa (CC.new cF aB bU.o);have aM:=Aa aD;clear aB aD)|(go_at_call 210;refine(cS.o _ aM.o _ cV.o).mono ?_;rintro e w3⟨⟨zz,rfl⟩,mb3,t3,aP,aN,aS,aW⟩;have bQ:=Aa aP;have aY:=Aa aN;have aK:=Aa ((Mx.ofEx aM.o aE).trans aS);have bZ:=Aa aW;clear aP aN aS aW))
    obtain⟨bN,bV,bS,bO,dF⟩:=On (aX.o.step HS.o aY.o) (cY.o.trans aY.o.le) (cW.o.trans aK.o) (cT.o.mx aK.o) (μ bX.o aK.o.size);go_roundw
    case rel=>exact⟨k+1,mb3,t3,ac,by go_num,bQ,bN,bV,bS,bO,bZ,dF⟩
    case measure=>exact Ωm
   .obtain rfl:k=(t.g b).length:=by omega
    obtain⟨ga,gc,cH⟩:=Ad aG;rw[cH]at c4;have dC:=Aa (aF.o.fin aC HP.o (ζ _));clear aF aG bD cH hM;go_wp2_with fail
    ((try simp only[Exit.inBlock,Exit.then]);first|refine bodyPost_ret (results_none rfl _ _ _) rfl ?_|refine bodyPost_end (results_none rfl _ _ _) rfl ?_)
    exact⟨⟨_,rfl⟩,aE,tc,aQ.o,dC.o,bK.o,bM.o⟩
theorem NO{base n tb rb gb:Nat}{rr:Nat->Nat}(aA:1<=n)(hn:n<=64):∀m,Ur base n tb rb gb rr m
 | 0=>fun w mb t q u b aB hb=>by
  have h1:1*(n+1)<=(n-b)*(n+1):=Nat.mul_le_mul_right _ ac;unfold Tp at aB;omega
 | m+1=>VW aA hn m (NO aA hn m) (Li aA hn m (NO aA hn m))
theorem ZZ{base n tb rb gb:Nat}{rr:Nat->Nat}(aA:1<=n)(hn:n<=64)(m:Nat):Yv base n tb rb gb rr m:=Li aA hn m (NO aA hn m)
theorem Sa:(Tryz.prog.info? 37).map (fun i=>(i.zero,i.size,i.bytes))=some (some (.slice none 0 0),1,24):=ah
structure NT(w0 wr:World)(n tb rb gb b:Nat)(rr:Nat->Nat)(V:Nat->Nat->Value):Prop where
 c0:wr.cell? (tb,0)=some (.int .i64 n)
 c1:wr.cell? (tb,1)=some (.slice (some (rb,0)) n n)
 c2:wr.cell? (tb,2)=some (.slice (some (gb,0)) n n)
 ro:AJ wr w0.heap.size 37 rb n (fun c=>if c<b then .slice (some ⟨rr c,0,none⟩) n n else .slice none 0 0)
 row:∀c,c<b->AJ wr w0.heap.size 22 (rr c) n (V c)
 nilv:∀c x,c<b->x<n->x≠c->V c x= .slice none 0 0
 idv:∀c,c<b->∃g,V c c= .slice (some ⟨g,0,none⟩) n n/\AJ wr w0.heap.size 3 g n (iv fun i=>(Ep i:Int))/\g≠gb/\g≠rb/\∀d,d<b->g≠rr d
 go:AJ wr w0.heap.size 37 gb n (fun _=> .slice none 0 0)
 d1:tb≠rb/\tb≠gb/\rb≠gb
 d2:∀c,c<b->rr c≠tb/\rr c≠rb/\rr c≠gb
 d3:∀c d,c<b->d<b->rr c=rr d->c=d
 ex:Ex w0 wr
theorem NT.next{w0 wr w2 w4:World}{n tb rb gb b rx gi:Nat}{rr:Nat->Nat}{V:Nat->Nat->Value}(h:NT w0 wr n tb rb gb b rr V)(hb:b<n)
  (aB:Ex wr w2) (hr:AJ w2 wr.heap.size 22 rx n (fun _=> .slice none 0 0))
  (aA:Ex (w2.setCell (rb,b) (.slice (some (rx,0)) n n)) w4) (hi:AJ w4 (w2.setCell (rb,b) (.slice (some (rx,0)) n n)).heap.size 3 gi n (iv fun i=>(Ep i:Int))):
  NT w0 (w4.setCell (rx,b) (.slice (some (gi,0)) n n)) n tb rb gb (b+1) (Ay rr b rx) (fun c=>if c=b then Ay (fun _=> .slice none 0 0) b (.slice (some (gi,0)) n n) else V c):=by
 have aG:(w2.setCell (rb,b) (.slice (some (rx,0)) n n)).heap.size=w2.heap.size:=cd;have hrl:=hr.lt;have aL:=hi.lt;rw[aG]at aL;have hz2:=aB.size;have aJ:=h.ex.size;have aI:∀ {a:Addr} {u:Value},wr.cell? a=some u->a.block<wr.heap.size:=fun k=>η _ _ k;have aK:=aI h.c0;have hrb:=h.ro.lt.2;have hgb:=h.go.lt.2;have aD:rx≠tb/\rx≠rb/\rx≠gb:=by dsimp only at aK;omega
 have aC:∀ {a:Addr} {u:Value},wr.cell? a=some u->a.block≠rb->(w4.setCell (rx,b) (.slice (some (gi,0)) n n)).cell? a=some u:=fun {a u} k k2=>by
  have k3:=aI k;rw[ό _ _ _ _ (by
    intro e;have:rx=a.block:=by rw[<-e]
    omega)]
  refine aA.cell ?_;rw[ό _ _ _ _ (by intro e;exact k2 (by rw[<-e]))];exact aB.cell k
 have own:∀ {e:TypeId} {g m:Nat} {c:Nat->Value},AJ wr w0.heap.size e g m c->g≠rb->AJ (w4.setCell (rx,b) (.slice (some (gi,0)) n n)) w0.heap.size e g m c:=fun {e g m c} k k2=>by
  have k3:=k.lt.2;exact(((k.ex aB).other (a:=⟨rb,b,none⟩) k2 _).ex aA).other (a:=⟨rx,b,none⟩) (by show g≠rx;omega) _
 have aE:AJ w4 w0.heap.size 22 rx n (fun _=> .slice none 0 0):=((hr.other (a:=⟨rb,b,none⟩) aD.2.1 _).ex aA).mono aJ;have aM:Ex w0 w4:=((h.ex.trans aB).setCell (p:=⟨rb,b,none⟩) h.ro.lt.1 _).trans aA;refine⟨aC h.c0 h.d1.1,aC h.c1 h.d1.1,aC h.c2 h.d1.1,?_,fun c hc=>?_,fun c x hc hx aF=>?_,fun c hc=>?_,own h.go (Ne.symm h.d1.2.2),h.d1,fun c hc=>?_,fun c d hc hd e=>?_,aE.exSet (ζ _) aM b _⟩
 .have k:=(((h.ro.ex aB).set b (.slice (some (rx,0)) n n)).ex aA).other (a:=⟨rx,b,none⟩) (by show rb≠rx;exact Ne.symm aD.2.1) (.slice (some (gi,0)) n n);refine k.congr fun j hj=>?_;unfold Ay;dsimp only;by_cases e:j=b
  .subst e;rw[if_pos rfl,if_pos ac,if_pos rfl]
  .rw[if_neg e,if_neg e];by_cases e2:j<b
   .rw[if_pos e2,if_pos ac]
   .rw[if_neg e2,if_neg ac]
 .by_cases e:c=b
  .subst e;rw[Ab,if_pos rfl];exact aE.set c _
  .rw[Ac _ _ e,if_neg e];exact own (h.row c ac) (h.d2 c ac).2.1
 .show(if c=b then Ay (fun _=> .slice none 0 0) b (.slice (some (gi,0)) n n) else V c) x=_
  by_cases e:c=b
  .subst e;rw[if_pos rfl,Ac _ _ aF]
  .rw[if_neg e];exact h.nilv c x ac hx aF
 .show ∃g,(if c=b then Ay (fun _=> .slice none 0 0) b (.slice (some (gi,0)) n n) else V c) c=_/\_
  have aH:gi≠rx:=ac;by_cases e:c=b
  .subst e;rw[if_pos rfl,Ab];refine⟨gi,rfl,(hi.mono (by rw[aG];omega)).other (a:=⟨rx,c,none⟩) aH _,ac,ac,fun d hd=>?_⟩;unfold Ay;split
   .exact aH
   .have:=(h.row d ac).lt.2;omega
  .rw[if_neg e];obtain⟨g,g1,g2,g3,g4,g5⟩:=h.idv c ac;refine⟨g,g1,own g2 g4,g3,g4,fun d hd=>?_⟩;unfold Ay;split
   .have:=g2.lt.2;omega
   .exact g5 d ac
 .unfold Ay;split
  .exact aD
  .exact h.d2 c ac
 .unfold Ay at e;split at e <;> split at e
  .omega
  .have:=(h.row d ac).lt.2;omega
  .have:=(h.row c ac).lt.2;omega
  .exact h.d3 c d ac ac e
theorem NT.fin{w0 wr:World}{n tb rb gb:Nat}{rr:Nat->Nat}{V:Nat->Nat->Value}(hn:1<=n)(h:NT w0 wr n tb rb gb n rr V):∃mb,SG wr w0.heap.size n tb rb gb rr (fun _=> .slice none 0 0) V mb (Og n):=by
 have aA:∀B,B∈gb :: (ξ n).map rr↔B=gb∨∃c,c<n/\rr c=B:=fun B=>by
  rw[ϒ,ψ];simp only[κ]
 refine⟨gb :: (ξ n).map rr,h.c0,h.c1,h.c2,fun hm=>?_,fun b hb=>?_,fun hm=>?_,h.row,fun b x hb hx=>?_,h.go,fun b hb=>⟨[],ϋ _ _ _ _,fun i f u h1=>by simp[Og]at h1⟩,(aA gb).2 (.inl rfl),fun b hb=>(aA _).2 (.inr ⟨b,hb,rfl⟩),fun b B hb e=>(by cases e),fun b hb=>Ne.symm (h.d2 b hb).2.2,h.d3,fun b c B hb hc e=>(by cases e),fun B hB=>?_⟩
 .rcases (aA tb).1 hm with e|⟨c,hc,e⟩
  .exact h.d1.2.1 e
  .exact(h.d2 c hc).1 e
 .have:=h.ro.cell hb;rw[this,if_pos hb]
 .rcases (aA rb).1 hm with e|⟨c,hc,e⟩
  .exact h.d1.2.2 e
  .exact(h.d2 c hc).2.1 e
 .show Ma wr _ n (if b<n/\x=b then some Ep else none) (V b x)
  by_cases e:x=b
  .subst e;rw[if_pos ⟨hb,rfl⟩];obtain⟨g,g1,g2,g3,g4,g5⟩:=h.idv x hb;rw[g1];exact CC.of g2.li hn fun B e=>by
    injection e with e;have e:g=B:=e;subst e;intro hm;rcases (aA g).1 hm with e|⟨c,hc,e⟩
    .exact g3 e
    .exact g5 c hc e.symm
  .rw[if_neg (fun h=>e h.2)];exact h.nilv b x hb hx e
 .rcases (aA B).1 hB with e|⟨c,hc,e⟩
  .subst e;exact h.go.lt
  .subst e;exact(h.row c hc).lt
theorem NT.start{w a c:World}{n rb gb:Nat}(aB:Ex w a)(aA:Ex a c)(hr:AJ c w.heap.size 37 rb n (fun _=> .slice none 0 0))(hg:AJ c w.heap.size 37 gb n (fun _=> .slice none 0 0))(aC:rb≠gb):
  NT w (c.alloc (.cells #[n,.slice (some (rb,0)) n n,.slice (some (gb,0)) n n] 243)) n c.heap.size rb gb 0 (fun _=>0) (fun _ _=> .slice none 0 0):=by
 have h1:=hr.lt.2;have h2:=hg.lt.2;refine⟨ag,ag,ag,(hr.alloc _).congr fun j hj=>by rw[if_neg ac],fun c hc=>ac,fun c x hc=>ac,fun c hc=>ac,hg.alloc _,⟨ac,ac,aC⟩,fun c hc=>ac,fun c d hc=>ac,(aB.trans aA).alloc _⟩
theorem Oe(w:World)(n:Nat)(aJ:1<=n)(hn:n<=64):
  Calls Tryz.prog 173 #[n] w fun r w'=>∃tb rb gb rr mb,r= .returned (.pointer (some ⟨tb,0,none⟩))/\VE w' w.heap.size n tb rb gb rr mb (Og n)/\Ex w w':=by
 go_enter Tryz.func173,Tryz.ntmps173
 go_upto_region 1 with fail
 go_cut [3] from 5 to 12 (fun s3 wx=>∃tb rb gb,s3= .pointer (some ⟨tb,0,none⟩)/\Hia (NT w wx n tb rb gb 0 (fun _=>0) (fun _ _=> .slice none 0 0)))
 case first=>
  have H0:Hia True:=trivial
  go_region_held3 (fun w'=>True) (exact trivial)
   ((refine E4 241 37 (.slice none 0 0) 24 Tryz.underlying241 Sa rfl n ac ai ?_;intro wm aA hx;(first|(clear H0;have O1:=Aa aA;have X1:=Aa hx;clear aA hx)|(have O2:=Aa aA;have X2:=Aa hx;clear aA hx));go_simp))
  all_goals
   have Y1:=((Ex.refl w).drew).trans X1.o;have L1:=O1.o.lt.2;have P1:=O1.o.ex X2.o;have P2:=O2.o.mono (Y1.size);go_wp2_with fail
   go_meet
   first
      | exact⟨_,_,_,rfl,Aa (NT.start Y1 X2.o P1 P2 (by show w.heap.size≠_;have:=Y1.size;have h9:w.heap.size<_:=L1;omega))⟩
      | exact⟨_,_,_,rfl,Aa (NT.start Y1 X2.o P2 P1 (by show _≠w.heap.size;have:=Y1.size;have h9:w.heap.size<_:=L1;omega))⟩
 case rest=>
  obtain⟨tb,rb,gb,rfl,aB⟩:=hcut;go_wp2_with fail
  go_loopw [13] (fun b' wr=>∃(b:Nat) (rr:Nat->Nat) (V:Nat->Nat->Value),b<=n/\b'= .int .i64 b/\Hia (NT w wr n tb rb gb b rr V)) (fun b' _=>n-(intOf b').toNat)
  case atStart=>exact⟨0,_,_,ac,rfl,aB⟩
  case round=>
   clear aB;obtain⟨b,rr,V,hb,rfl,aB⟩:=hrel;by_cases hbn:b<n
   .have c1:=aB.o.c1;have c3:wr.cell? (rb,b)=some (.slice none 0 0):=by rw[aB.o.ro.cell hbn,if_neg ac]
    have f3:=aB.o.ro.frz b;have i1:(0:Int)<=(b:Int):=ac;have i2:(b:Int)<(n:Int):=ac;have E0:Ex wr wr.drew:=(Ex.refl wr).drew;go_upto_region 5 with fail
    go_cut [4] from 16 to 24 (fun s4 wx=>s4= .int .i64 b/\Hia (∃rx w2,wx=w2.setCell (rb,b) (.slice (some ⟨rx,0,none⟩) n n)/\Ex wr w2/\AJ w2 wr.heap.size 22 rx n (fun _=> .slice none 0 0)))
    case first=>
     go_region_with (refine E4 37 22 (.slice none 0 0) 24 Tryz.underlying37 BZ rfl n ac ai ?_;intro wm aA hx;have E1:=E0.trans hx;have aE:=Aa aA;have k1:=E1.cell c1;have k3:=E1.cell c3;have g3:=E1.frz c3 f3;clear aA;go_simp)
     all_goals
      go_wp2_with fail
      go_meet
      exact⟨rfl,Aa ⟨wr.heap.size,wm,rfl,E1,aE.o⟩⟩
    case rest=>
     obtain⟨rfl,aF⟩:=hcut;obtain⟨rx,w2,rfl,aC,hr⟩:=aF.o;have aK:=Aa aC;have HR:=Aa hr;have aM:=Aa aB.o;have hrx:=hr.lt;have aI:rx≠rb:=by have:=aB.o.ro.lt.2;omega
     have c1:=aC.cell c1;have c6:(w2.setCell (rb,b) (.slice (some (rx,0)) n n)).cell? (tb,1)=some (.slice (some (rb,0)) n n):=by
      rw[ό _ _ _ _ (by intro e;exact aB.o.d1.1 (by injection e with e;exact e.symm))];exact c1
     have c7:(w2.setCell (rb,b) (.slice (some (rx,0)) n n)).cell? (rb,b)=some (.slice (some (rx,0)) n n):=by
      rw[((aB.o.ro.ex aC).set b _).cell hbn,Ab]
     have aD:=hr.other (a:=⟨rb,b,none⟩) aI (.slice (some (rx,0)) n n);have c8:=aD.cell hbn;have f8:=aD.frz b;clear aF aC hr c1 c3 f3 E0;generalize hW3:w2.setCell (rb,b) (.slice (some (rx,0)) n n)=w3 at *;have aG:=Aa hW3;have E0:Ex w3 w3.drew:=(Ex.refl w3).drew;have aN:=Aa (fun w4=>OA w4 n ac);clear hW3;go_wp2_with fail
     go_region_with (go_at_call 102;(with_reducible refine(aN.o _).mono ?_);rintro e wx1⟨gi,rfl,aA,aH⟩;have E1:=E0.trans aH;have aE:=Aa aA;have k6:=E1.cell c6;have k7:=E1.cell c7;have k8:=E1.cell c8;have g8:=E1.frz c8 f8;clear aA)
     all_goals
      have aL:=Aa (aM.o.next (gi:=gi) (w4:=wx1) hbn aK.o HR.o (by rw[aG.o];exact E1) (by rw[aG.o];exact aE.o));clear c6 c7 c8 f8 k6 k7 k8 g8 aD;go_wp2_with fail
      go_roundw
      case rel=>exact⟨b+1,_,_,ac,by go_num,aL⟩
      case measure=>exact Ωm
   .obtain rfl:b=n:=by omega
    have aO:=Aa (aB.o.fin aJ);have HX:=Aa aB.o.ex;clear aB;go_wp2_with fail
    go_ret;obtain⟨mb,hm⟩:=aO.o;exact⟨tb,rb,gb,rr,mb,rfl,⟨_,_,hm⟩,HX.o⟩
end Go.Proofs.YtehieobniamagaaGreat
