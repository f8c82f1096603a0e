/- Walk of equivalence.Compose. -/
import Derived.Deep.AppendLies
import Derived.Test.YtehieobniamagaaGreatZd10
namespace Go.Proofs.YtehieobniamagaaGreat
open Go.RowKit
set_option linter.all false
set_option maxRecDepth 100000
set_option maxHeartbeats 4000000
theorem Ay(w:World)(a b:Addr)(u:Value):(w.setCell a u).frozen? b=w.frozen? b:=ag
structure GT(w1 wr:World)(B:Nat)(bk:Int)(pv sv:Value)(L0 L1:List Int):Prop where
 b0:wr.cell? ⟨B,0,none⟩=some pv
 b1:wr.cell? ⟨B,1,none⟩=some sv
 b2:wr.cell? ⟨B,2,none⟩=some (.int .i64 bk)
 f0:wr.frozen? ⟨B,0,none⟩=false
 f1:wr.frozen? ⟨B,1,none⟩=false
 o0:wr.ownsRow w1.heap.size 3 1 pv L0.length (Ao L0)
 o1:wr.ownsRow w1.heap.size 3 1 sv L1.length (Ao L1)
 ap:AQ pv sv
 n0:∀X,pv.ownBlock=some X->X≠B
 n1:∀X,sv.ownBlock=some X->X≠B
 lb:w1.heap.size<=B
 ex:Ex w1 wr
section
variable {w1 wr w':World} {B:Nat} {bk:Int} {pv sv v':Value} {L0 L1:List Int} {x:Int}
theorem GT.later(h:GT w1 wr B bk pv sv L0 L1)(hx:Ex wr w'):GT w1 w' B bk pv sv L0 L1:=
 ⟨hx.cell h.b0,hx.cell h.b1,hx.cell h.b2,hx.frz h.b0 h.f0,hx.frz h.b1 h.f1,Aj h.o0 hx,Aj h.o1 hx,h.ap,h.n0,h.n1,h.lb,h.ex.trans hx⟩
theorem GT.no0(h:GT w1 wr B bk pv sv L0 L1):some B≠pv.ownBlock:=fun e=>h.n0 B e.symm rfl
theorem GT.no1(h:GT w1 wr B bk pv sv L0 L1):some B≠sv.ownBlock:=fun e=>h.n1 B e.symm rfl
theorem zbw{P:Prop}(h:P:=by
 have aA:=World.block_lt_of_cell? _ _ hB;rcases ha.at_ with h1|h1
 .rw[h1]at e;exact h X e
 .rw[h1]at e;injection e with e;have:B<wr.heap.size:=aA;omega):P:=h
theorem GT.blk{b:Nat}{u:Value}{e:TypeId}{n:Nat}{xs news:List Value}(ha:Bn wr w' b e 1 u v' n xs news)(hB:wr.cell? ⟨B,0,none⟩=some pv)(h:∀X,u.ownBlock=some X->X≠B):∀X,v'.ownBlock=some X->X≠B:=fun X e=>by
 exact zbw
end
section
variable {w1 wr w':World} {B:Nat} {bk:Int} {pv sv v':Value} {L0 L1:List Int} {x:Int}
theorem GT.at0g(h:GT w1 wr B bk pv sv L0 L1)(ha:RZ wr w' w1.heap.size 3 1 pv v' L0.length (Ao L0) [.int .i64 x]):
  w'.cell? ⟨B,0,none⟩=some pv/\w'.frozen? ⟨B,0,none⟩=false:=⟨ha.cell h.b0 h.no0,ha.frz h.b0 h.f0 h.no0⟩
theorem GT.at1g(h:GT w1 wr B bk pv sv L0 L1)(ha:RZ wr w' w1.heap.size 3 1 sv v' L1.length (Ao L1) [.int .i64 x]):
  w'.cell? ⟨B,1,none⟩=some sv/\w'.frozen? ⟨B,1,none⟩=false:=⟨ha.cell h.b1 h.no1,ha.frz h.b1 h.f1 h.no1⟩
theorem GT.blkg{b:Nat}{u:Value}{e:TypeId}{n:Nat}{xs news:List Value}(ha:RZ wr w' b e 1 u v' n xs news)(hB:wr.cell? ⟨B,0,none⟩=some pv)(h:∀X,u.ownBlock=some X->X≠B):∀X,v'.ownBlock=some X->X≠B:=fun X e=>by
 exact zbw
theorem zbV{P:Prop}(h:P:=by
 rw[List.length_append,show Ao (L0 ++ [x])=Ao L0 ++ [.int .i64 x] from by unfold Ao;simp];exact this):P:=h
theorem GT.app0g(h:GT w1 wr B bk pv sv L0 L1)(ha:RZ wr w' w1.heap.size 3 1 pv v' L0.length (Ao L0) [.int .i64 x]):
  GT w1 (w'.setCell ⟨B,0,none⟩ v') B bk v' sv (L0 ++ [x]) L1:=by
 have hn:=GT.blkg ha h.b0 h.n0;have hr:=ha.row h.o1 h.ap.symm;refine⟨World.cell?_setCell_same _ _ _ (ha.cell h.b0 h.no0),?_,?_,?_,?_,?_,?_,hr.2.symm,hn,h.n1,h.lb,(ha.ex h.ex (Nat.le_refl _)).setCell (p:=⟨B,0,none⟩) h.lb _⟩
 .rw[Af ae];exact ha.cell h.b1 h.no0
 .rw[Af ae];exact ha.cell h.b2 h.no0
 .rw[Ay];exact ha.frz h.b0 h.f0 h.no0
 .rw[Ay];exact ha.frz h.b1 h.f1 h.no0
 .have:=Ac (a:=⟨B,0,none⟩) ha.own (fun e=>hn B e rfl) v';exact zbV
 .exact Ac (a:=⟨B,0,none⟩) hr.1 (fun e=>h.n1 B e rfl) v'
theorem zbW{P:Prop}(h:P:=by
 rw[List.length_append,show Ao (L1 ++ [x])=Ao L1 ++ [.int .i64 x] from by unfold Ao;simp];exact this):P:=h
theorem GT.app1g(h:GT w1 wr B bk pv sv L0 L1)(ha:RZ wr w' w1.heap.size 3 1 sv v' L1.length (Ao L1) [.int .i64 x]):
  GT w1 (w'.setCell ⟨B,1,none⟩ v') B bk pv v' L0 (L1 ++ [x]):=by
 have hn:=GT.blkg ha h.b0 h.n1;have hr:=ha.row h.o0 h.ap;refine⟨?_,World.cell?_setCell_same _ _ _ (ha.cell h.b1 h.no1),?_,?_,?_,?_,?_,hr.2,h.n0,hn,h.lb,(ha.ex h.ex (Nat.le_refl _)).setCell (p:=⟨B,1,none⟩) h.lb _⟩
 .rw[Af ae];exact ha.cell h.b0 h.no1
 .rw[Af ae];exact ha.cell h.b2 h.no1
 .rw[Ay];exact ha.frz h.b0 h.f0 h.no1
 .rw[Ay];exact ha.frz h.b1 h.f1 h.no1
 .exact Ac (a:=⟨B,1,none⟩) hr.1 (fun e=>h.n0 B e rfl) v'
 .have:=Ac (a:=⟨B,1,none⟩) ha.own (fun e=>hn B e rfl) v';exact zbW
end
theorem GT.new(w1:World)(bk:Int):GT w1 (w1.alloc (.cells #[.slice none 0 0,.slice none 0 0,.int .i64 bk] 26)) w1.heap.size bk (.slice none 0 0) (.slice none 0 0) [] []:=
 ⟨ag,ag,ag,ag,ag,World.ownsRow_nil _ _ _ _,World.ownsRow_nil _ _ _ _,AQ.nil _,by simp[Value.ownBlock],by simp[Value.ownBlock],Nat.le_refl _,(Ex.refl _).alloc _⟩
def cP(al bl:List Int)(i:Nat):Int:=bl.getD (BV al i) 0
def cS(p m:Nat)(ml al aB bs:List Int)(aA i:Nat):Int:=
 ((Ai p m (lw ml) (Au (p^m) (bs.getD (BV al i) 0)) (SV p m (lw ml) (Au (p^m) (aB.getD i 0)) aA):Nat):Int)
theorem DV:∀(n:Nat) (f:Nat->Nat),(∀i,i<n->f i<n)->(∀i j,i<n->j<n->f i=f j->i=j)->∀y,y<n->∃x,x<n/\f x=y
 | 0,f,_,_,y,hy=>absurd hy (by omega)
 | n+1,f,h1,h2,y,hy=>by
  have hn:=h1 n ac;by_cases hm:f n=n
  .by_cases hyn:y=n
   .exact⟨n,ac,ac⟩
   .obtain⟨x,hx,e⟩:=DV n f (fun i hi=>by
     have h3:=h1 i ac;have h4:f i≠n:=fun e=>by
      have:=h2 i n ac ac ac;omega
     omega) (fun i j hi hj e=>h2 i j ac ac e) y ac
    exact⟨x,ac,e⟩
  .have aA:=DV n (fun i=>if f i=n then f n else f i) (fun i hi=>by
     split
     .omega
     .have:=h1 i ac;omega) (fun i j hi hj e=>by
     split at e <;> split at e
     .exact h2 i j ac ac ac
     .have:=h2 n j ac ac e;omega
     .have:=h2 i n ac ac e;omega
     .exact h2 i j ac ac e)
   by_cases hy1:y=f n
   .exact⟨n,ac,hy1.symm⟩
   .by_cases hyn:y=n
    .obtain⟨x,hx,e⟩:=aA (f n) ac;split at e
     .rename_i h;exact⟨x,ac,ac⟩
     .have:=h2 x n ac ac e;omega
    .obtain⟨x,hx,e⟩:=aA y ac;split at e
     .omega
     .exact⟨x,ac,e⟩
structure Bw(n:Nat)(f:Nat->Nat):Prop where
 lt:∀i,i<n->f i<n
 off:∀i,n<=i->f i=i
 inj:∀i j,f i=f j->i=j
def EN:Nat->Nat:=fun i=>i
def Ar(f g:Nat->Nat):Nat->Nat:=fun i=>g (f i)
def A8(n:Nat)(f:Nat->Nat):Nat->Nat:=fun j=>if j<n then((List.range n).find? fun i=>f i==j).getD 0 else j
theorem FD(n:Nat):Bw n EN:=⟨fun _ h=>h,fun _ _=>rfl,fun _ _ h=>h⟩
theorem Bw.of_inj{n:Nat}{f:Nat->Nat}(h1:∀i,i<n->f i<n)(h2:∀i,n<=i->f i=i)(h3:∀i j,i<n->j<n->f i=f j->i=j):Bw n f:=
 ⟨h1,h2,fun i j e=>by
  by_cases hi:i<n <;> by_cases hj:j<n
  .exact h3 i j hi hj e
  .have:=h1 i hi;have:=h2 j ac;omega
  .have:=h1 j hj;have:=h2 i ac;omega
  .have:=h2 i ac;have:=h2 j ac;omega⟩
theorem Bw.comp{n:Nat}{f g:Nat->Nat}(hf:Bw n f)(hg:Bw n g):Bw n (Ar f g):=
 ⟨fun i hi=>hg.lt _ (hf.lt i hi),fun i hi=>by show g (f i)=i;rw[hf.off i hi,hg.off i hi],fun i j e=>hf.inj i j (hg.inj _ _ e)⟩
theorem Bw.surj{n:Nat}{f:Nat->Nat}(hf:Bw n f){y:Nat}(hy:y<n):∃x,x<n/\f x=y:=
 DV n f hf.lt (fun i j _ _ e=>hf.inj i j e) y hy
theorem Bw.lt_iff{n:Nat}{f:Nat->Nat}(hf:Bw n f)(i:Nat):f i<n↔i<n:=
 ⟨fun h=>by
  by_cases hi:i<n
  .exact hi
  .have:=hf.off i ac;omega,hf.lt i⟩
theorem Bw.inv_l{n:Nat}{f:Nat->Nat}(hf:Bw n f)(i:Nat):A8 n f (f i)=i:=by
 unfold A8;by_cases hi:i<n
 .rw[if_pos (hf.lt i hi)]
  cases h:(List.range n).find? fun k=>f k==f i with
  | none=>
   have:=List.find?_eq_none.1 h i (List.mem_range.2 hi);simp at this
  | some k=>
   have:=List.find?_some h;exact hf.inj k i dv
 .rw[if_neg (by rw[hf.off i ac];exact hi),hf.off i ac]
theorem Bw.inv_r{n:Nat}{f:Nat->Nat}(hf:Bw n f)(j:Nat):f (A8 n f j)=j:=by
 by_cases hj:j<n
 .obtain⟨x,hx,rfl⟩:=hf.surj hj;rw[hf.inv_l]
 .have h1:A8 n f j=j:=by unfold A8;rw[if_neg hj]
  rw[h1,hf.off j ac]
theorem Bw.inv{n:Nat}{f:Nat->Nat}(hf:Bw n f):Bw n (A8 n f):=
 ⟨fun i hi=>by
   have:=(hf.lt_iff (A8 n f i)).1 (by rw[hf.inv_r];exact hi);exact this,fun i hi=>by unfold A8;rw[if_neg ac],fun i j e=>by
   have:=congrArg f e
   rwa[hf.inv_r,hf.inv_r]at this⟩
theorem EH(f g h:Nat->Nat):Ar (Ar f g) h=Ar f (Ar g h):=rfl
theorem Bw.then_inv{n:Nat}{f:Nat->Nat}(hf:Bw n f):Ar f (A8 n f)=EN:=funext fun i=>hf.inv_l i
theorem Bw.inv_then{n:Nat}{f:Nat->Nat}(hf:Bw n f):Ar (A8 n f) f=EN:=funext fun i=>hf.inv_r i
theorem Bw.inv_unique{n:Nat}{f g:Nat->Nat}(hf:Bw n f)(h:Ar f g=EN):g=A8 n f:=by
 have:Ar (A8 n f) (Ar f g)=Ar (A8 n f) EN:=by rw[h]
 rw[<-EH,hf.inv_then]at this;exact this
theorem NM(n:Nat):A8 n EN=EN:=((FD n).inv_unique rfl).symm
theorem Bw.cancel{n:Nat}{f r:Nat->Nat}(hr:Bw n r):Ar (Ar f (A8 n r)) r=f:=by
 rw[EH,hr.inv_then];rfl
theorem Hx{n:Nat}{f g:Nat->Nat}(hf:Bw n f)(hg:Bw n g)(h:∀i,i<n->f i=g i):f=g:=
 funext fun i=>by
  by_cases hi:i<n
  .exact h i hi
  .rw[hf.off i ac,hg.off i ac]
def Kg(f:Nat->Nat):Nat->Nat->Nat
 | 0=>EN
 | k+1=>Ar (Kg f k) f
theorem Nq(f:Nat->Nat)(a b:Nat):Kg f (a+b)=Ar (Kg f a) (Kg f b):=by
 induction b with
 | zero=>rfl
 | succ b ih=>show Ar (Kg f (a+b)) f=_;rw[ih];rfl
theorem Ky{n:Nat}{f:Nat->Nat}(hf:Bw n f):∀k,Bw n (Kg f k)
 | 0=>FD n
 | k+1=>(Ky hf k).comp hf
theorem Ji{f:Nat->Nat}{i k:Nat}(h:Kg f k i=i):∀m,Kg f (k*m) i=i
 | 0=>rfl
 | m+1=>by
  rw[Nat.mul_succ,Nq];show Kg f k (Kg f (k*m) i)=i
  rw[Ji h m,h]
theorem Bw.back{n:Nat}{f:Nat->Nat}(hf:Bw n f){i:Nat}(hi:i<n):∃k,1<=k/\k<=n/\Kg f k i=i:=by
 have aE:¬∀a b,a<n+1->b<n+1->Kg f a i=Kg f b i->a=b:=fun aA=>by
  obtain⟨x,hx,e⟩:=DV (n+1) (fun a=>Kg f a i) (fun a _=>by have:=(Ky hf a).lt i hi;omega) aA n ac;have:=(Ky hf x).lt i hi;omega
 have aD:∃a b,a<b/\b<n+1/\Kg f a i=Kg f b i:=by
  apply Classical.byContradiction;intro aB;refine aE fun a b ha hb e=>?_;apply Classical.byContradiction;intro aC;rcases Nat.lt_or_gt_of_ne aC with h|h
  .exact aB ⟨a,b,h,hb,e⟩
  .exact aB ⟨b,a,h,ha,e.symm⟩
 obtain⟨a,b,aC,hb,e⟩:=aD;refine⟨b-a,ac,ac,?_⟩;have h1:Kg f b=Ar (Kg f (b-a)) (Kg f a):=by rw[<-Nq];congr 1;omega
 rw[h1]at e;exact((Ky hf a).inj _ _ e).symm
def PU:Nat->Nat
 | 0=>1
 | k+1=>(k+1)*PU k
theorem PS:∀k,1<=PU k
 | 0=>Nat.le_refl _
 | k+1=>Nat.mul_pos (by omega) (PS k)
theorem PT:∀n k,1<=k->k<=n->k ∣ PU n
 | 0,k,h1,h2=>by omega
 | n+1,k,h1,h2=>by
  by_cases h:k=n+1
  .subst h;exact Nat.dvd_mul_right _ _
  .exact Nat.dvd_trans (PT n k h1 (by omega)) (Nat.dvd_mul_left _ _)
theorem Bw.pw_fac{n:Nat}{f:Nat->Nat}(hf:Bw n f):Kg f (PU n)=EN:=by
 refine Hx (Ky hf _) (FD n) fun i hi=>?_;obtain⟨k,h1,h2,h3⟩:=hf.back hi;obtain⟨m,hm⟩:=PT n k h1 h2;rw[hm];exact Ji h3 m
inductive Gn(S:List (Nat->Nat)):(Nat->Nat)->Prop
 | one:Gn S EN
 | step {f g:Nat->Nat}:Gn S f->g∈S->Gn S (Ar f g)
structure WT(n:Nat)(H:(Nat->Nat)->Prop):Prop where
 one:H EN
 mul:∀f g,H f->H g->H (Ar f g)
 inv:∀f,H f->H (A8 n f)
 isP:∀f,H f->Bw n f
theorem Gn.mul{S:List (Nat->Nat)}{f g:Nat->Nat}(hf:Gn S f)(hg:Gn S g):Gn S (Ar f g):=by
 induction hg with
 | one=>exact hf
 | step _ h ih=>exact ih.step h
theorem Gn.of{S:List (Nat->Nat)}{g:Nat->Nat}(h:g∈S):Gn S g:=Gn.one.step h
theorem Gn.isP{n:Nat}{S:List (Nat->Nat)}(hS:∀s∈S,Bw n s){f:Nat->Nat}(h:Gn S f):Bw n f:=by
 induction h with
 | one=>exact FD n
 | step _ h ih=>exact ih.comp (hS _ h)
theorem Gn.pw{S:List (Nat->Nat)}{f:Nat->Nat}(h:Gn S f):∀k,Gn S (Kg f k)
 | 0=>Gn.one
 | k+1=>(h.pw k).mul h
theorem Gn.inv{n:Nat}{S:List (Nat->Nat)}(hS:∀s∈S,Bw n s){f:Nat->Nat}(h:Gn S f):Gn S (A8 n f):=by
 have hf:=h.isP hS;have h1:Ar f (Kg f (PU n-1))=EN:=by
  have:Kg f (1+(PU n-1))=EN:=by
   rw[show 1+(PU n-1)=PU n from by have:=PS n;omega];exact hf.pw_fac
  rw[Nq]at this;exact this
 rw[<-hf.inv_unique h1];exact h.pw _
theorem Gn.grp{n:Nat}{S:List (Nat->Nat)}(hS:∀s∈S,Bw n s):WT n (Gn S):=
 ⟨.one,fun _ _=> .mul,fun _=> .inv hS,fun _ h=>Gn.isP hS h⟩
theorem Gn.sub{n:Nat}{S:List (Nat->Nat)}{H:(Nat->Nat)->Prop}(hH:WT n H)(hS:∀s∈S,H s){f:Nat->Nat}(h:Gn S f):H f:=by
 induction h with
 | one=>exact hH.one
 | step _ h ih=>exact hH.mul _ _ ih (hS _ h)
theorem Gn.mono{S T:List (Nat->Nat)}(hS:∀s∈S,Gn T s){f:Nat->Nat}(h:Gn S f):Gn T f:=by
 induction h with
 | one=>exact .one
 | step _ h ih=>exact ih.mul (hS _ h)
def AW(b:Nat)(f:Nat->Nat):Prop:=∀i,i<b->f i=i
theorem KR(b:Nat):AW b EN:=fun _ _=>rfl
theorem AW.comp{b:Nat}{f g:Nat->Nat}(hf:AW b f)(hg:AW b g):AW b (Ar f g):=fun i hi=>by
 show g (f i)=i;rw[hf i hi,hg i hi]
theorem AW.inv{n b:Nat}{f:Nat->Nat}(hP:Bw n f)(hf:AW b f):AW b (A8 n f):=fun i hi=>by
 have:=hP.inv_l i;rw[hf i hi]at this;exact this
theorem AW.all{n:Nat}{f:Nat->Nat}(hP:Bw n f)(hf:AW n f):f=EN:=Hx hP (FD n) hf
theorem AW.div{n b:Nat}{f r:Nat->Nat}(hr:Bw n r)(hf:AW b f)(aA:AW b r)(e:r b=f b):AW (b+1) (Ar f (A8 n r)):=fun i hi=>by
 by_cases h:i=b
 .subst h;show A8 n r (f i)=i;rw[<-e];exact hr.inv_l i
 .exact AW.comp hf (AW.inv hr aA) i ac
theorem Y7{p m:Int}{ml:List Int}(h:¬EG p m ml):Cp p m ml=1:=by
 have h1:Cp p m ml≠0:=fun e=>h ((Cg p m ml).1 e);unfold Cp at h1 ⊢;split
 .rename_i h2;rw[if_pos h2]at h1;exact absurd rfl h1
 .rfl
theorem RU(w:World)(p m:Int)(ml:List Int)(mv:Value)(aD:Am w mv ml):
  Calls Tryz.prog 147 #[.agg #[.int .i64 p,.int .i64 m,mv]] w fun r w'=>r= .returned (.int .i64 (Cp p m ml))/\Ex w w':=by
 obtain⟨a0,a1,a2,ea,-⟩:=AC w p m mv;have HE:=Aa ea;have aE:=Aa (aD.ex ea);have aC:=Aa (fun w' (h:Am w' mv ml)=>Mf p m ml mv w' h);have aA:=II p m;obtain⟨R,hR⟩:=nA (Cp p m ml);rw[hR];by_cases hs:J0 p m ml=true
 .obtain⟨pn,mn,rfl,rfl,hf,aH,ho⟩:=M9 hs;rw[ho]at aA;rw[hs]at aC;have aJ:=Aa aA;have aK:=Aa (fun w' (h:Am w' mv ml)=>GQ pn mn ml mv w' hf h);obtain⟨B,hB⟩:∃B:Bool,(B=true↔R=1)/\(B=false↔R=0)/\∀w' v,Ox pn mn ml w' v->∃ga gn gc,v= .slice ga gn gc/\ga.isNone=B:=by
   by_cases hF:FZ pn mn (lw ml)
   .have h0:=(Cg _ _ _).2 ⟨pn,mn,rfl,rfl,hf,aH,hF⟩;rw[hR]at h0;subst h0;refine⟨false,ag,ag,fun w' v h=>?_⟩;rcases h with⟨x,x1,x2,hgx,hgv⟩|⟨hno,rfl⟩
    .obtain⟨ga,gc,rfl,g1,g2,g3⟩:=hgv.open;obtain⟨gb,gof,rfl,g4⟩:=g3 (by rw[An];have:=Bb hf.p2 hf.m1;omega);exact⟨_,_,_,rfl,rfl⟩
    .exact absurd hF hno
   .have h0:Cp pn mn ml=1:=Y7 fun ⟨a,b,e1,e2,_,_,h⟩=>by
     have aO:pn=a:=ac;have aN:mn=b:=ac;subst aO;subst aN;exact hF h
    rw[hR]at h0;subst h0;refine⟨true,ag,ag,fun w' v h=>?_⟩;rcases h with⟨x,x1,x2,hgx,hgv⟩|⟨hno,rfl⟩
    .exact absurd ⟨x,x1,x2,hgx⟩ hF
    .exact⟨_,_,_,rfl,rfl⟩
  have HB:=Aa hB;have hE:=fun w (a:Option Addr) (l c:Nat)=>AP (P:=Tryz.prog) w 22 3 a l c Tryz.underlying22;clear aA hf aH ho hs hB hR aD ea;obtain⟨q,aG⟩:=nA (pn^mn);rw[aG]at aJ aK;clear aG;go_enter Tryz.func147,Tryz.ntmps147
  go_wp2_with fail
  obtain⟨xb,aB⟩:=nA w.heap.size;rw[aB]at a0 a1 a2
  try simp only[aB]
  clear aB;generalize w.alloc (.cells #[.int .i64 pn,.int .i64 mn,mv] 24)=w1 at *;have G0:Ex w1 w1.drew:=(Ex.refl w1).drew;have A0:=Aa a0;have A1:=Aa a1;have A2:=Aa a2
  first|go_region_with ((first
        | (go_at_call 111;(with_reducible refine(aC.o _ (aE.o.ex G0)).mono ?_);rintro e w2⟨rfl,h2⟩;have X2:=G0.trans h2;have b0:=X2.cell A0.o;have b1:=X2.cell A1.o;have b2:=X2.cell A2.o;clear h2)
        | (go_at_call 112;(with_reducible refine(aJ.o _).mono ?_);rintro e w3⟨rfl,rfl⟩)
        | (go_at_call 113;(with_reducible refine(aK.o _ (aE.o.ex X2)).mono ?_);rintro e w3⟨gv,rfl,aI,aF⟩;have X3:=X2.trans aF;obtain⟨ga,gn,gc,rfl,aL⟩:=HB.o.2.2 _ _ aI;have aM:=fun w=>hE w ga gn gc;rw[aL]at aM;clear aI aF)))|fail
  all_goals
   cases B with
   | true=>
    obtain rfl:=HB.o.1.1 rfl;go_wp2_with fail
    go_ret;exact⟨rfl,HE.o.trans X3⟩
   | false=>
    obtain rfl:=HB.o.2.1.1 rfl;go_wp2_with fail
    go_ret;exact⟨rfl,HE.o.trans X3⟩
 .have hs:J0 p m ml=false:=by simpa using hs
  rw[hs]at aC;have hr:=Tc (p:=p) (m:=m) hs;rw[hR]at hr;subst hr;clear hs aA hR aD ea;go_enter Tryz.func147,Tryz.ntmps147
  go_wp2_with fail
  obtain⟨xb,aB⟩:=nA w.heap.size;rw[aB]at a0 a1 a2
  try simp only[aB]
  clear aB;generalize w.alloc (.cells #[.int .i64 p,.int .i64 m,mv] 24)=w1 at *;have G0:Ex w1 w1.drew:=(Ex.refl w1).drew
  first|go_region_with ((go_at_call 111;(with_reducible refine(aC.o _ (aE.o.ex G0)).mono ?_);rintro e w2⟨rfl,h2⟩;have X2:=G0.trans h2;clear h2))|fail
  all_goals
   go_wp2_with fail
   go_ret;exact⟨rfl,HE.o.trans X2⟩
theorem JX(w:World)(p m:Int)(ml:List Int)(mv:Value)(aB:Am w mv ml)(aA:Int)(rows:List (List Int))(v:Value)(hv:BO w v rows)(h0:Dp p m ml aA rows=0->1<=aA):
  Calls Tryz.prog 149 #[.agg #[.int .i64 p,.int .i64 m,mv],.agg #[.int .i64 aA,v]] w fun r w'=>(∃e:Int,r= .returned (.int .i64 e)/\LF p m ml aA rows e)/\Ex w w':=by
 obtain⟨g0,g1,g2,e0,aD⟩:=AC w p m mv;have aC:=Aa (fun (w':World) (h:Ex w w')=>Lr w' p m ml mv (aB.ex h) aA rows v (hv.ex h) h0);obtain⟨za,zc,rfl,-,z2,-⟩:=hv.open;unfold maxLen at z2;obtain⟨ma,mc,rfl,-,m2,-⟩:=aB.open;unfold maxLen at m2;clear aB hv h0;go_enter Tryz.func149,Tryz.ntmps149
 go_wp2_with fail
 refine(aC.o _ (e0.trans ((Ex.refl _).alloc _))).mono ?_;rintro e w2⟨⟨g,c,a1,a2,n1,k1,n2,k2,e',rfl,hs⟩,hx⟩;have HX:=Aa ((e0.trans ((Ex.refl _).alloc (.cells #[.int .i64 aA,.slice za rows.length zc] 137))).trans hx);clear hx g0 g1 g2 e0 aD aC;go_wp2_with fail
 go_ret;exact⟨⟨e',rfl,hs⟩,HX.o.alloc _⟩
def BN(p m:Int)(ml:List Int)(n:Int)(rows:List (List Int))(e:Int):Prop:=
 (Cp p m ml≠0/\e=1)∨(Cp p m ml=0/\Ec n≠0/\e=Ec n)∨(Cp p m ml=0/\Ec n=0/\LF p m ml n rows e)
theorem CZ(w:World)(p m:Int)(ml:List Int)(mv:Value)(aE:Am w mv ml)(n:Int)(rows:List (List Int))(v:Value)(hv:BO w v rows):
  Calls Tryz.prog 90 #[.agg #[.int .i64 p,.int .i64 m,mv,.int .i64 n,v]] w fun r w'=>(∃e:Int,r= .returned (.int .i64 e)/\BN p m ml n rows e)/\Ex w w':=by
 obtain⟨a0,a1,a2,a3,a4,ea⟩:=DP w p m mv n v;have aH:=Aa (fun (w':World) (h:Ex w w')=>RU w' p m ml mv (aE.ex h));have aM:=Aa (fun (w':World) (h:Ex w w')=>SL w' p m mv n rows v (hv.ex h));have aJ:=Aa (fun (h1:Ec n=0) (w':World) (h:Ex w w')=>JX w' p m ml mv (aE.ex h) n rows v (hv.ex h) fun _=>by
  unfold Ec at h1;split at h1
  .cases h1
  .omega)
 have aK:=Aa (fun (w':World)=>Kw w' n);obtain⟨za,zc,rfl,-,z2,-⟩:=hv.open;unfold maxLen at z2;obtain⟨ma,mc,rfl,-,m2,-⟩:=aE.open;unfold maxLen at m2;have HE:=Aa ea;obtain⟨F,hF⟩:=nA (Cp p m ml);obtain⟨L,hL⟩:=nA (Ec n);have aI:=Aa (show ∀e,((F≠0/\e=1)∨(F=0/\L≠0/\e=L)∨(F=0/\L=0/\LF p m ml n rows e))->BN p m ml n rows e from fun e h=>by unfold BN;rw[hF,hL];exact h);rw[hF]at aH;rw[hL]at aJ aK;clear aE hv ea hF hL;go_enter Tryz.func90,Tryz.ntmps90
 go_wp2_with fail
 obtain⟨xb,aF⟩:=nA w.heap.size;rw[aF]at a0 a1 a2 a3 a4
 try simp only[aF]
 clear aF;generalize w.alloc (.cells #[.int .i64 p,.int .i64 m,.slice ma ml.length mc,.int .i64 n,.slice za rows.length zc] 39)=w1 at *;refine(aH.o w1 HE.o).mono ?_;rintro e w2⟨rfl,aB⟩;obtain⟨A0,A1,A2,A3,A4,aD⟩:=To (aB.cell a0) (aB.cell a1) (aB.cell a2) (aB.cell a3) (aB.cell a4) (HE.o.trans aB);clear a0 a1 a2 a3 a4 aB aH HE;by_cases h1:F=0
 .subst h1;have a3:=A3.o;go_wp2_with fail
  refine(aK.o w2).mono ?_;rintro e w3⟨rfl,rfl⟩;by_cases h2:L=0
  .subst h2;have aG:=Aa (aJ.o rfl);have aA:=Aa (fun e h=>aI.o e (.inr (.inr ⟨by trivial,by trivial,h⟩)));go_wp2_with fail
   have aC:=Aa (fun (w':World) (h':Ex w3 w')=>(⟨h'.cell A0.o,h'.cell A1.o,h'.cell A2.o,h'.cell A3.o,h'.cell A4.o⟩:w'.cell? ⟨xb,0,none⟩=some (.int .i64 p)/\w'.cell? ⟨xb,1,none⟩=some (.int .i64 m)/\w'.cell? ⟨xb,2,none⟩=some (.slice ma ml.length mc)/\w'.cell? ⟨xb,3,none⟩=some (.int .i64 n)/\w'.cell? ⟨xb,4,none⟩=some (.slice za rows.length zc)));have G0:Ex w3 w3.drew:=(Ex.refl w3).drew;clear a3
   go_region_held3 (fun w'=>w'.cell? ⟨xb,0,none⟩=some (.int .i64 p)/\w'.cell? ⟨xb,1,none⟩=some (.int .i64 m)/\w'.cell? ⟨xb,2,none⟩=some (.slice ma ml.length mc)/\w'.cell? ⟨xb,3,none⟩=some (.int .i64 n)/\w'.cell? ⟨xb,4,none⟩=some (.slice za rows.length zc))
    (first|with_reducible exact aC.o _ X4|with_reducible exact aC.o _ X3|with_reducible exact aC.o _ G0)
    (first|(go_at_call 104;(with_reducible refine(aM.o _ (aD.o.trans G0)).mono ?_);rintro e w5⟨rfl,h3⟩;have X3:=G0.trans h3;clear h3)|(go_at_call 149;(with_reducible refine(aG.o _ (aD.o.trans X3)).mono ?_);rintro e w4⟨⟨e4,rfl,aL⟩,h4⟩;have X4:=X3.trans h4;clear h4))
   go_wp2_with fail
   go_ret;exact⟨⟨_,rfl,aA.o _ aL⟩,aD.o.trans X4⟩
  .have hb:(L !=0)=true:=by simpa using h2
   have aA:=Aa (aI.o L (.inr (.inl ⟨by trivial,h2,rfl⟩)));clear h2 a3;go_wp2_with fail
   go_ret;exact⟨⟨_,rfl,aA.o⟩,aD.o⟩
 .have hb:(F !=0)=true:=by simpa using h1
  have aA:=Aa (aI.o 1 (.inl ⟨h1,rfl⟩));clear h1;go_wp2_with fail
  go_ret;exact⟨⟨_,rfl,aA.o⟩,aD.o⟩
structure Xc(w:World)(b:Nat):Prop where
 c0:w.cell? ⟨b,0,none⟩=some (.int .i64 0)
 c1:w.cell? ⟨b,1,none⟩=some (.int .i64 0)
 c2:w.cell? ⟨b,2,none⟩=some (.slice none 0 0)
 c3:w.cell? ⟨b,3,none⟩=some (.int .i64 0)
 c4:w.cell? ⟨b,4,none⟩=some (.slice none 0 0)
 f0:w.frozen? ⟨b,0,none⟩=false
 f1:w.frozen? ⟨b,1,none⟩=false
 f2:w.frozen? ⟨b,2,none⟩=false
 f3:w.frozen? ⟨b,3,none⟩=false
 f4:w.frozen? ⟨b,4,none⟩=false
theorem Xc.new(w:World):Xc (w.alloc (.cells #[.int .i64 0,.int .i64 0,.slice none 0 0,.int .i64 0,.slice none 0 0] 39)) w.heap.size:=⟨ag,ag,ag,ag,ag,ag,ag,ag,ag,ag⟩
theorem Xc.ex{w w':World}{b:Nat}(h:Xc w b)(hx:Ex w w'):Xc w' b:=⟨hx.cell h.c0,hx.cell h.c1,hx.cell h.c2,hx.cell h.c3,hx.cell h.c4,hx.frz h.c0 h.f0,hx.frz h.c1 h.f1,hx.frz h.c2 h.f2,hx.frz h.c3 h.f3,hx.frz h.c4 h.f4⟩
@[reducible] def ZZ(w:World)(q:Nat)(a b c d e:Value):World:=((((w.setCell ⟨q,0,none⟩ a).setCell ⟨q,1,none⟩ b).setCell ⟨q,2,none⟩ c).setCell ⟨q,3,none⟩ d).setCell ⟨q,4,none⟩ e
theorem C9{w0 w:World}{q:Nat}(hx:Ex w0 w)(hq:w0.heap.size<=q)(a b c d e:Value):Ex w0 (ZZ w q a b c d e):=
 ((((hx.setCell (p:=⟨q,0,none⟩) hq _).setCell (p:=⟨q,1,none⟩) hq _).setCell (p:=⟨q,2,none⟩) hq _).setCell (p:=⟨q,3,none⟩) hq _).setCell (p:=⟨q,4,none⟩) hq _
theorem Hm{w:World}{q:Nat}{v:Value}{l:List Int}(h:Am w v l)(hq:∀B,v.ownBlock=some B->B≠q)(a b c d e:Value):Am (ZZ w q a b c d e) v l:=
 Sl.other (Sl.other (Sl.other (Sl.other (Sl.other h (fun B e=>hq B e) _) (fun B e=>hq B e) _) (fun B e=>hq B e) _) (fun B e=>hq B e) _) (fun B e=>hq B e) _
def OfR(p m:Int)(ml:List Int)(aA:Int)(v:Value)(e:Int)(r:Ending)(w':World)(base:Nat):Prop:=
 (e≠0/\r= .returned (.tuple #[.agg #[.int .i64 0,.int .i64 0,.slice none 0 0,.int .i64 0,.slice none 0 0],.int .i64 e]))∨
 (e=0/\∃v',r= .returned (.tuple #[.agg #[.int .i64 p,.int .i64 m,v',.int .i64 aA,v],.int .i64 0])/\Am w' v' ml/\∀B,v'.ownBlock=some B->base<=B)
theorem Hd(w:World)(p m:Int)(ml:List Int)(mv:Value)(aG:Am w mv ml)(hn:ml.length<=1000)(aA:Int)(rows:List (List Int))(v:Value)(hv:BO w v rows)(e:Int):
  Calls Tryz.prog 105 #[.agg #[.int .i64 p,.int .i64 m,mv],.agg #[.int .i64 aA,v],.int .i64 e] w fun r w'=>OfR p m ml aA v e r w' w.heap.size/\Ex w w':=by
 obtain⟨g0,g1,g2,e0,aC⟩:=AC w p m mv;have aV:=Aa (fun (w':World) (h:Ex w w')=>X8 w' p m ml mv (aG.ex h) hn);obtain⟨za,zc,rfl,-,z2,-⟩:=hv.open;unfold maxLen at z2;obtain⟨ma,mc,rfl,-,m2,-⟩:=aG.open;unfold maxLen at m2;obtain⟨xb,aD⟩:=nA w.heap.size;rw[aD]at g0 g1 g2 aC;clear aG hv hn;go_enter Tryz.func105,Tryz.ntmps105
 by_cases h1:e=0
 .subst h1;go_wp2_with fail
  generalize w.alloc (.cells #[.int .i64 p,.int .i64 m,.slice ma ml.length mc] 24)=wA at *;obtain⟨a0,a1,ea⟩:=Dl wA aA (.slice za rows.length zc);have aE:(wA.alloc (.cells #[.int .i64 aA,.slice za rows.length zc] 137)).heap.size=xb+1+1:=by simp[aC]
  rw[aC]at a0 a1;generalize wA.alloc (.cells #[.int .i64 aA,.slice za rows.length zc] 137)=wB at *;have bq:=Xc.new wB;rw[aE]at bq;have eb:Ex wB _:=(Ex.refl wB).alloc (.cells #[.int .i64 0,.int .i64 0,.slice none 0 0,.int .i64 0,.slice none 0 0] 39);obtain⟨A0,A1,G0,G1,G2,EB,aU,BQ,HE⟩:=Ty a0 a1 (ea.cell g0) (ea.cell g1) (ea.cell g2) eb (show wB.heap.size<=xb+1+1 from Nat.le_of_eq aE) bq ((e0.trans ea).trans eb);have aK:(wB.alloc (.cells #[.int .i64 0,.int .i64 0,.slice none 0 0,.int .i64 0,.slice none 0 0] 39)).heap.size=xb+1+1+1:=by simp[aE]
  generalize wB.alloc (.cells #[.int .i64 0,.int .i64 0,.slice none 0 0,.int .i64 0,.slice none 0 0] 39)=wC at *;clear g0 g1 g2 a0 a1 bq e0 ea eb aE aC;have aS:=Aa aD;have aW:=Aa aK;clear aD aK;have X0:Ex wC wC.drew:=(Ex.refl wC).drew;have aB:=Aa (fun (w':World) (h':Ex wB w')=>(⟨h'.cell G0.o,h'.cell G1.o,h'.cell G2.o,h'.cell A0.o,h'.cell A1.o⟩:w'.cell? ⟨xb,0,none⟩=some (.int .i64 p)/\w'.cell? ⟨xb,1,none⟩=some (.int .i64 m)/\w'.cell? ⟨xb,2,none⟩=some (.slice ma ml.length mc)/\w'.cell? ⟨xb+1,0,none⟩=some (.int .i64 aA)/\w'.cell? ⟨xb+1,1,none⟩=some (.slice za rows.length zc)));have aH:=Aa (fun (w':World) (h':Ex wB w') (a b c d e:Value)=>aB.o _ (C9 h' aU.o a b c d e));have Y0:=Aa (EB.o.trans X0)
  go_region_held3 (fun w'=>w'.cell? ⟨xb,0,none⟩=some (.int .i64 p)/\w'.cell? ⟨xb,1,none⟩=some (.int .i64 m)/\w'.cell? ⟨xb,2,none⟩=some (.slice ma ml.length mc)/\w'.cell? ⟨xb+1,0,none⟩=some (.int .i64 aA)/\w'.cell? ⟨xb+1,1,none⟩=some (.slice za rows.length zc))
   (first|with_reducible exact aB.o _ Y5.o|with_reducible exact aH.o _ Y5.o _ _ _ _ _|with_reducible exact aB.o _ Y0.o)
   (first|(go_at_call 159;(with_reducible refine(aV.o _ (HE.o.trans X0)).mono ?_);rintro e w5⟨v',rfl,aF,aI,h5⟩;have X5:=X0.trans h5;have Y5:=Aa (EB.o.trans X5);obtain⟨q0,q1,q2,q3,q4,aQ,aP,aO,aN,aM⟩:=BQ.o.ex X5;have aT:=Aa aF;have aL:=Aa aI;obtain⟨va,vc,rfl,-,-,-⟩:=aF.open;clear h5 aF aI))
  all_goals
   go_wp2_with fail
   have hsz:wC.drew.heap.size=xb+1+1+1:=aW.o;have hwx:=aS.o;exact bodyPost_ret (v:= .tuple #[.agg #[.int .i64 p,.int .i64 m,.slice va ml.length vc,.int .i64 aA,.slice za rows.length zc],.int .i64 0]) (by simp[results,Tryz.results105,go_sem,q0,q1,q2,q3,q4]) rfl ⟨.inr ⟨rfl,_,rfl,Hm aT.o (fun B h=>by have:=aL.o B h;omega) _ _ _ _ _,fun B h=>by have:=aL.o B h;omega⟩,C9 (HE.o.trans X5) ac _ _ _ _ _⟩
 .have hb:(e !=0)=true:=by simpa using h1
  have HH:=Aa h1;have aJ:=Dl (w.alloc (.cells #[.int .i64 p,.int .i64 m,.slice ma ml.length mc] 24)) aA (.slice za rows.length zc);have aR:((w.alloc (.cells #[.int .i64 p,.int .i64 m,.slice ma ml.length mc] 24)).alloc (.cells #[.int .i64 aA,.slice za rows.length zc] 137)).heap.size=xb+1+1:=by simp[aC]
  have bq:=Xc.new ((w.alloc (.cells #[.int .i64 p,.int .i64 m,.slice ma ml.length mc] 24)).alloc (.cells #[.int .i64 aA,.slice za rows.length zc] 137));have HE:=Aa ((e0.trans aJ.2.2).alloc (.cells #[.int .i64 0,.int .i64 0,.slice none 0 0,.int .i64 0,.slice none 0 0] 39));rw[aR]at bq;obtain⟨q0,q1,q2,q3,q4,aQ,aP,aO,aN,aM⟩:=bq;clear h1 aJ g0 g1 g2 e0;go_wp2_with fail
  exact bodyPost_ret (v:= .tuple #[.agg #[.int .i64 0,.int .i64 0,.slice none 0 0,.int .i64 0,.slice none 0 0],.int .i64 e]) (by simp[results,Tryz.results105,go_sem,q0,q1,q2,q3,q4,aD]) rfl ⟨.inl ⟨HH.o,rfl⟩,by first|exact HE.o|exact C9 HE.o ac _ _ _ _ _⟩
def Kq(p m:Int)(ml:List Int)(aA:Int)(rows:List (List Int)):Int:=if Dp p m ml aA rows≠0 then Dp p m ml aA rows else Ec aA
def ZK(p m:Int)(ml:List Int)(aA:Int)(rows:List (List Int))(b0:Nat)(r:Ending)(w':World):Prop:=
 (Kq p m ml aA rows≠0/\r= .returned (.tuple #[.agg #[.int .i64 0,.int .i64 0,.slice none 0 0,.int .i64 0,.slice none 0 0],.int .i64 (Kq p m ml aA rows)]))∨
 (Kq p m ml aA rows=0/\∃(pn mn N:Nat) (piv:List Nat) (a':Nat->Nat->Int) (rv v':Value),p=pn/\m=mn/\aA=N/\EG p m ml/\BL (pn^mn) N rows=0/\r= .returned (.tuple #[.agg #[.int .i64 p,.int .i64 m,v',.int .i64 N,rv],.int .i64 0])/\Iq pn mn ml N rows.length (Ak rows) a' piv/\Am w' v' ml/\BO w' rv (Av N piv.length a')/\(∀B,v'.ownBlock=some B->b0<=B)/\∃g blk cap base,b0<=base/\rv= .slice (some ⟨g,0,none⟩) piv.length piv.length/\EM w' base g rows.length N blk cap a' []/\piv.length<=rows.length/\rows.length<=256)
theorem cq{P:Prop}(h:P:=by simp[results,Tryz.results93,go_sem,q0,q1,q2,q3,q4]):P:=h
theorem P7(w:World)(p m:Int)(ml:List Int)(mv:Value)(aG:Am w mv ml)(hn:ml.length<=1000)(aA:Int)(rows:List (List Int))(v:Value)(hv:BO w v rows)(h0:Dp p m ml aA rows=0->1<=aA):
  Calls Tryz.prog 93 #[.agg #[.int .i64 p,.int .i64 m,mv],.agg #[.int .i64 aA,v]] w fun r w'=>ZK p m ml aA rows w.heap.size r w'/\Ex w w':=by
 obtain⟨g0,g1,g2,e0,aH⟩:=AC w p m mv;have aY:=Aa (fun (w':World) (h:Ex w w')=>GU w' p m ml mv (aG.ex h) aA rows v (hv.ex h) h0);have aV:=Aa aG;obtain⟨za,zc,rfl,-,z2,-⟩:=hv.open;unfold maxLen at z2;obtain⟨ma,mc,rfl,-,m2,-⟩:=aG.open;unfold maxLen at m2;obtain⟨xb,aL⟩:=nA w.heap.size;rw[aL]at g0 g1 g2 aH;clear aG hv h0;go_enter Tryz.func93,Tryz.ntmps93
 go_wp2_with fail
 generalize w.alloc (.cells #[.int .i64 p,.int .i64 m,.slice ma ml.length mc] 24)=wA at *;obtain⟨a0,a1,ea⟩:=Dl wA aA (.slice za rows.length zc);have aM:(wA.alloc (.cells #[.int .i64 aA,.slice za rows.length zc] 137)).heap.size=xb+1+1:=by simp[aH]
 rw[aH]at a0 a1;generalize wA.alloc (.cells #[.int .i64 aA,.slice za rows.length zc] 137)=wB at *;have bq:=Xc.new wB;rw[aM]at bq;have eb:Ex wB _:=(Ex.refl wB).alloc (.cells #[.int .i64 0,.int .i64 0,.slice none 0 0,.int .i64 0,.slice none 0 0] 39);obtain⟨A0,G0,G1,G2,BQ,HE⟩:=To (eb.cell a0) ((ea.trans eb).cell g0) ((ea.trans eb).cell g1) ((ea.trans eb).cell g2) bq ((e0.trans ea).trans eb);have aT:(wB.alloc (.cells #[.int .i64 0,.int .i64 0,.slice none 0 0,.int .i64 0,.slice none 0 0] 39)).heap.size=xb+1+1+1:=by simp[aM]
 generalize wB.alloc (.cells #[.int .i64 0,.int .i64 0,.slice none 0 0,.int .i64 0,.slice none 0 0] 39)=wC at *;have aP:=Aa aT;have aU:=Aa aL;refine(aY.o wC HE.o).mono ?_;clear g0 g1 g2 a0 a1 bq e0 ea eb aM aH aT aL;rintro e w2⟨hc,aD⟩;obtain⟨aI,aZ,bA,A0,G0,G1,G2⟩:=OK (HE.o.trans aD) aD (BQ.o.ex aD) (aD.cell A0.o) (aD.cell G0.o) (aD.cell G1.o) (aD.cell G2.o);clear aD BQ HE aY;rcases hc with⟨hce,pn,mn,N,piv,a',rv,pv,rfl,rfl,rfl,hfb,hmk,rfl,hel,hrv,hpv,g,blk,cap,base,hbase,rfl,hem⟩|⟨hce,rfl⟩
 .have aF:Kq pn mn ml N rows=Ec N:=by unfold Kq;rw[if_neg (by simp[hce])]
  have HN:=Aa aF;have aW:=Aa (fun (w':World)=>Kw w' (N:Int));obtain⟨L,hL⟩:=nA (Ec N);rw[hL]at HN aW;have aS:=(Eu hel).1;have aR:=(DJ hmk).2.2.1;obtain⟨bI,aJ,aE,aN⟩:=Eq hem (show piv.length<=rows.length/\rows.length<=256 from⟨aS,aR⟩) (show xb+1+1<base from by have:=aP.o;omega) (show EG pn mn ml/\BL (pn^mn) N rows=0/\Iq pn mn ml N rows.length (Ak rows) a' piv from⟨hfb,hmk,hel⟩);obtain⟨pa,pc,rfl,-,-,-⟩:=hpv.open;have aB:=Aa ((Ex.refl w2).alloc (.cells #[.int .i64 N,.slice (some ⟨g,0,none⟩) piv.length piv.length] 137));have aO:=Aa (Hd _ pn mn ml _ (aV.o.ex (aI.o.trans aB.o)) hn N (Av N piv.length a') _ (hrv.ex aB.o) L);have g0:=aB.o.cell G0.o;have g1:=aB.o.cell G1.o;have g2:=aB.o.cell G2.o;have a0:=aB.o.cell A0.o;have aQ:=Aa (bA.o.ex aB.o);clear aF hL hce hfb hmk hel hrv hpv hbase hem aS aR;go_wp2_with fail
  refine(aW.o _).mono ?_;rintro e w3⟨rfl,bG⟩;subst bG;go_wp2_with fail
  refine aO.o.mono ?_;rintro e w4⟨ho,aC⟩;have X4:=Aa ((aI.o.trans aB.o).trans aC);have bK:=Aa (bI.o.ex (aB.o.trans aC));have hw:=aU.o;obtain⟨q0,q1,q2,q3,q4,bF,bE,bD,bC,bB⟩:=aQ.o.ex aC;clear aC g0 g1 g2 a0;rcases ho with⟨hz,rfl⟩|⟨hz,v',rfl,hv',hb'⟩
  .have aK:=Aa hz;clear hz;go_wp2_with fail
   exact bodyPost_ret (v:= .tuple #[.agg #[.int .i64 0,.int .i64 0,.slice none 0 0,.int .i64 0,.slice none 0 0],.int .i64 L]) cq rfl ⟨.inl ⟨by rw[HN.o];exact aK.o,by rw[HN.o]⟩,C9 X4.o ac _ _ _ _ _⟩
  .subst hz;have HV:=Aa hv';have HB:=Aa (show ∀B,v'.ownBlock=some B->B≠xb+1+1 from fun B h=>by
    have h1:=hb' B h;have h2:=aZ.o.size;have h3:=aP.o;simp at h1;omega)
   have bJ:=Aa (show ∀B,v'.ownBlock=some B->w.heap.size<=B from fun B h=>by
    have h1:=hb' B h;have h2:=aZ.o.size;have h3:=aP.o;simp at h1;omega)
   obtain⟨va,vc,rfl,-,-,-⟩:=hv'.open;clear hv' hb';have aX:=Aa ((((((bK.o.low (A:=⟨xb+1+1,0,none⟩) aE.o (.int .i64 pn)).low (A:=⟨xb+1+1,1,none⟩) aE.o (.int .i64 mn)).low (A:=⟨xb+1+1,2,none⟩) aE.o (.slice va ml.length vc)).low (A:=⟨xb+1+1,3,none⟩) aE.o (.int .i64 N)).low (A:=⟨xb+1+1,4,none⟩) aE.o (.slice (some ⟨g,0,none⟩) piv.length piv.length)));have bH:=Aa (aX.o.msl aJ.o.1 aJ.o.2);go_wp2_with fail
   exact bodyPost_ret (v:= .tuple #[.agg #[.int .i64 pn,.int .i64 mn,.slice va ml.length vc,.int .i64 N,.slice (some ⟨g,0,none⟩) piv.length piv.length],.int .i64 0]) cq rfl ⟨.inr ⟨HN.o,pn,mn,N,piv,a',_,_,rfl,rfl,rfl,aN.o.1,aN.o.2.1,rfl,aN.o.2.2,Hm HV.o HB.o _ _ _ _ _,bH.o,bJ.o,g,blk,cap,base,by have:=aE.o;omega,rfl,aX.o,aJ.o.1,aJ.o.2⟩,C9 X4.o ac _ _ _ _ _⟩
 .have aF:Kq p m ml aA rows=Dp p m ml aA rows:=by unfold Kq;rw[if_pos hce]
  have HN:=Aa aF;obtain⟨E,hE⟩:=nA (Dp p m ml aA rows);rw[hE]at HN hce ⊢;have hb:(E==0)=false:=by simpa using hce
  have aK:=Aa hce;have aB:=Aa ((Ex.refl w2).alloc (.cells #[.int .i64 0,.slice none 0 0] 137));have aO:=Aa (Hd _ p m ml _ (aV.o.ex (aI.o.trans aB.o)) hn 0 [] (.slice none 0 0) ⟨[],Sl.nil _ 1,fun i r u h=>by simp at h⟩ E);have g0:=aB.o.cell G0.o;have g1:=aB.o.cell G1.o;have g2:=aB.o.cell G2.o;have aQ:=Aa (bA.o.ex aB.o);clear aF hE hce;go_wp2_with fail
  refine aO.o.mono ?_;rintro e w4⟨ho,aC⟩;rcases ho with⟨_,rfl⟩|⟨h,_⟩
  .obtain⟨q0,q1,q2,q3,q4,bF,bE,bD,bC,bB⟩:=aQ.o.ex aC;have X4:=Aa ((aI.o.trans aB.o).trans aC);have hw:=aU.o;clear aC g0 g1 g2;go_wp2_with fail
   exact bodyPost_ret (v:= .tuple #[.agg #[.int .i64 0,.int .i64 0,.slice none 0 0,.int .i64 0,.slice none 0 0],.int .i64 E]) cq rfl ⟨.inl ⟨by rw[HN.o];exact aK.o,by rw[HN.o]⟩,C9 X4.o ac _ _ _ _ _⟩
  .exact absurd h aK.o
section
variable (p m:Nat) (ml:List Int)
def Kb(x:Int)(u r:Nat->Int)(j:Nat):Int:=if r j=0 then u j else((AI p m (Au (p^m) (u j)) (Ct p m (Ai p m (lw ml) (Au (p^m) x) (Au (p^m) (r j)))):Nat):Int)
def Ga(x:Int)(u r:Nat->Int)(c j:Nat):Int:=if j<c then Kb p m ml x u r j else u j
def Lw(u:Nat->Int)(pl:Nat)(r:Nat->Int):Nat->Int:=if u pl=0 then u else Kb p m ml (u pl) u r
def Nm(a:Nat->Nat->Int)(pl:Nat->Nat)(v:Nat->Int):Nat->Nat->Int
 | 0=>v
 | k+1=>Lw p m ml (Nm a pl v k) (pl k) (a k)
def Ly(t:Nat)(v:Nat->Int):Int:=Cz (fun j=>v j !=0) t
def ivz(z:Nat):Nat:=if z=0 then 0 else DY p m ml z
structure Ln where
 n:Nat
 a:Nat->Nat->Int
 pl:Nat->Nat
def Ln.red(e:Ln)(v:Nat->Int):Nat->Int:=Nm p m ml e.a e.pl v e.n
def F7(t:Nat)(e:Ln)(r:Nat->Int):Ln:=
 if 0<=Ly t (e.red p m ml r) then⟨e.n+1,Az e.a e.n (BR p m ml (ivz p m ml (Au (p^m) (e.red p m ml r (Ly t (e.red p m ml r)).toNat))) (e.red p m ml r)),Az e.pl e.n (Ly t (e.red p m ml r)).toNat⟩ else e
def GO(t:Nat)(rows:Nat->Nat->Int):Nat->Ln
 | 0=>⟨0,fun _ _=>0,fun _=>0⟩
 | k+1=>F7 p m ml t (GO t rows k) (rows k)
def IK(t:Nat)(e:Ln)(rows:Nat->Nat->Int)(n:Nat):Int:=Cz (fun i=>decide (0<=Ly t (e.red p m ml (rows i)))) n
def Gd(sc:List Int)(x:Nat->Int)(i:Nat):Int:=((Ai p m (lw ml) (Au (p^m) (sc.getD i 0)) (Au (p^m) (x i)):Nat):Int)
def Ix(tl:List Int)(y:Nat->Int)(i:Nat):Int:=y (tl.getD i 0).toNat
def EV(l1 l2:List (List Int))(tl sc:List Int):Int × Int:=
 let i:=IK p m ml tl.length (GO p m ml tl.length (fun i=>Ix tl (Ak l2 i)) l2.length) (fun i=>Gd p m ml sc (Ak l1 i)) l1.length
 if 0<=i then(0,i) else
 let k:=IK p m ml tl.length (GO p m ml tl.length (fun i=>Gd p m ml sc (Ak l1 i)) l1.length) (fun i=>Ix tl (Ak l2 i)) l2.length
 if 0<=k then(1,k) else(-1,-1)
end
def R4(i n:Nat):List Int:=il n (Az (fun _=>0) i 1)
def Jr(R1 R2:Nat)(s:Int × Int):List Int:=if s.1=0 then R4 s.2.toNat R1 else if s.1=1 then R4 s.2.toNat R2 else []
theorem Ia{N j:Nat}(h:j<N)(f:Nat->Int):(il N f).getD j 0=f j:=by
 rw[List.getD_eq_getElem?_getD,AH h];rfl
theorem NW(pr:Nat->Bool)(n:Nat):Cz pr n<n/\-1<=Cz pr n:=by
 unfold Cz;split
 .rename_i i h;have:=List.mem_range.1 (List.mem_of_find?_eq_some h);omega
 .omega
theorem VF(t:Nat)(v:Nat->Int):Ly t v<t/\-1<=Ly t v:=NW _ _
section
variable {p m:Nat} {ml:List Int}
theorem Xz{t:Nat}{e:Ln}{r:Nat->Int}(h:∀i,i<e.n->e.pl i<t):∀i,i<(F7 p m ml t e r).n->(F7 p m ml t e r).pl i<t:=by
 have hz:=VF t (e.red p m ml r);unfold F7;split
 .intro i hi;simp only at hi ⊢;by_cases e1:i=e.n
  .subst e1;rw[Ab];omega
  .rw[Ae _ _ e1];exact h i ac
 .exact h
theorem JV(t:Nat)(rows:Nat->Nat->Int):∀k i,i<(GO p m ml t rows k).n->(GO p m ml t rows k).pl i<t
 | 0=>fun i hi=>by simp only[GO]at hi;omega
 | k+1=>Xz (JV t rows k)
theorem ZU{t:Nat}{e:Ln}{r:Nat->Int}:(F7 p m ml t e r).n<=e.n+1:=by
 unfold F7;split
 .simp
 .omega
theorem Zq(t:Nat)(rows:Nat->Nat->Int):∀k,(GO p m ml t rows k).n<=k
 | 0=>by simp[GO]
 | k+1=>by
  have:=Zq t rows k;have:=ZU (p:=p) (m:=m) (ml:=ml) (t:=t) (e:=GO p m ml t rows k) (r:=rows k);show(F7 p m ml t _ _).n<=_
  omega
end
structure Nd where
 tl:List Int
 sc:List Int
 side:Int
 msg:List Int
def FV{σ:Type}(step:σ->List Int->List Int->σ × Int)(tl sc:List Int)(j:Nat):Nat->σ->σ × Int
 | 0,s=>(s,0)
 | c+1,s=>if (FV step tl sc j c s).2≠0 then FV step tl sc j c s else step (FV step tl sc j c s).1 (tl ++ [(j:Int)]) (sc ++ [((c+1:Nat):Int)])
def D9{σ:Type}(step:σ->List Int->List Int->σ × Int)(q:Nat)(tl sc:List Int):Nat->σ->σ × Int
 | 0,s=>(s,0)
 | j+1,s=>if (D9 step q tl sc j s).2≠0 then D9 step q tl sc j s else if tl.contains (j:Int) then D9 step q tl sc j s else FV step tl sc j (q-1) (D9 step q tl sc j s).1
def Lq(p m:Nat)(ml:List Int)(l1 l2:List (List Int))(n:Nat):Nat->Nat × List Nd->List Int->List Int->(Nat × List Nd) × Int
 | d,s,tl,sc=>
  if s.1=65536 then(s,8) else
  let w:=EV p m ml l1 l2 tl sc
  let s1:=(s.1+1,s.2 ++ [⟨tl,sc,w.1,Jr l1.length l2.length w⟩])
  if 0<=w.1 then(s1,0) else if tl.length=n then(s1,18) else
  match d with
  | 0=>(s1,0)
  | d+1=>D9 (Lq p m ml l1 l2 n d) (p^m) tl sc n s1
def Fr(f:Nat->Int)(i j:Nat):Int:=if j<i then f j else 0
theorem MD(f:Nat->Int):Fr f 0=fun _=>0:=by funext j;unfold Fr;rw[if_neg ac]
theorem MF(f:Nat->Int)(i:Nat):Az (Fr f i) i (f i)=Fr f (i+1):=by
 funext j;by_cases e:j=i
 .subst e;rw[Ab];unfold Fr;rw[if_pos ac]
 .rw[Ae _ _ e];unfold Fr;by_cases h:j<i
  .exact za2
  .exact za3
theorem PP{f:Nat->Int}{n j:Nat}(h:j<n):Fr f n j=f j:=by unfold Fr;rw[if_pos h]
theorem AT(w:World)(u v:Value):(w.alloc (.cells #[u,v] 71)).cell? ⟨w.heap.size,0,none⟩=some u/\(w.alloc (.cells #[u,v] 71)).cell? ⟨w.heap.size,1,none⟩=some v/\Ex w (w.alloc (.cells #[u,v] 71))/\(w.alloc (.cells #[u,v] 71)).heap.size=w.heap.size+1:=
 ⟨ag,ag,(Ex.refl w).alloc _,ag⟩
section
variable {b p m x0:Nat} {ml:List Int}
theorem Kt(w:World)(hg:A9 w b p m ml x0)(A:Nat)(hA:w.cell? ⟨A,0,none⟩=some (.pointer (some ⟨b,0,none⟩)))(N:Nat)(hN:N<=1000)(tl sl x:List Int)(tv sv xv:Value)(ht:Am w tv tl)(hs:Am w sv sl)(hx:Am w xv x)(aP:tl.length=N)(aK:sl.length=N)(hxl:N<=x.length):
  Calls Tryz.prog 228 #[.pointer (some ⟨A,0,none⟩),.agg #[tv,sv],xv] w fun r w'=>∃g,r= .returned (.slice (some ⟨g,0,none⟩) N N)/\AG w' w.heap.size 3 g N (iv (Gd p m ml sl fun j=>x.getD j 0))/\Ex w w':=by
 obtain⟨b0,b1,eb,aD⟩:=AT w tv sv;have aZ:=Aa (fun (w1:World) (h1:Ex w w1) (y z:Int)=>ET w1 (hg.ex h1) y z);obtain⟨ta,tc,rfl,_,t2,_⟩:=ht.open;obtain⟨sa,sc,rfl,_,s2,s3⟩:=hs.open;obtain⟨xa,xc,rfl,_,x2,x3⟩:=hx.open;unfold maxLen at t2 s2 x2;rw[aK]at s3;rw[aP,aK]at b0 b1 eb aD ⊢;obtain⟨S3,X3,bC,bB,aB,HA⟩:=To s3 x3 (fun i (hi:i<N)=>Bc (l:=sl) (i:=i) ac) (fun i (hi:i<N)=>Bc (l:=x) (i:=i) ac) eb hA;obtain⟨F,hF⟩:∃F,(Gd p m ml sl fun j=>x.getD j 0)=F:=⟨_,rfl⟩;have bD:=Aa (fun i=>congrFun hF i);rw[hF];clear hg ht hs hx s3 x3 eb aP aK hA hF;go_enter Tryz.func228,Tryz.ntmps228
 go_wp2_with (at_make;refine Aq _ rfl _ _ 22 rfl 3 (.int .i64 0) 8 Tryz.underlying22 AA rfl _ N rfl rfl rfl ac ai ?_)
 obtain⟨B,hB⟩:=nA w.heap.size;rw[hB]at b0 b1 aD
 try simp only[hB]
 have bF:=Aa hB;clear hB;generalize w.alloc (.cells #[.slice ta N tc,.slice sa N sc] 71)=w1 at *;intro w3 aA aJ;have B0:=Aa b0;have B1:=Aa b1;obtain⟨g,aE⟩:=nA (B+1);have aS:=Aa (show AG w3 g 3 g N (iv (Fr F 0)) from by rw[<-aE,MD];exact aA)
 try simp only[aE]
 have aX:=Aa aJ;have aU:=Aa (show w1.heap.size=g from by rw[<-aE,<-aD]);have aW:=aJ.cell b1;clear aA aJ b0 b1 aE aD;go_wp2_with fail
 go_loopw [17] (fun i' wr=>∃(i:Nat),i<=N/\i'= .int .i64 i/\Hia (AG wr g 3 g N (iv (Fr F i)))/\Hia (Ex w1 wr)) (fun i' _=>N-(intOf i').toNat)
 case atStart=>exact⟨0,ac,rfl,aS,aX⟩
 case round=>
  clear aS aW;obtain⟨i,hi,rfl,aA,aF⟩:=hrel;by_cases hin:i<N
  .obtain⟨sb,so,rfl,aQ⟩:=S3.o ac;obtain⟨xb,xo,rfl,aO⟩:=X3.o ac;have aI:=Aa (aB.o.trans aF.o);obtain⟨s,hs⟩:=nA (sl.getD i 0);have aM:=bC.o i hin;rw[hs]at aM;have cs:=aI.o.cell (aQ i _ aM);obtain⟨z,hz⟩:=nA (x.getD i 0);have aL:=bB.o i hin;rw[hz]at aL;have aV:=Aa (aO i _ aL);have i1:(0:Int)<=(i:Int):=by omega
   have i2:(i:Int)<(N:Int):=ac;have i3:(i:Int)<(x.length:Int):=ac;have aT:=Aa (fun (w5:World) (h5:Ex wr w5)=>aZ.o w5 (aI.o.trans h5) s z);obtain⟨u,hu⟩:=nA (Ai p m (lw ml) (Au (p^m) s) (Au (p^m) z));rw[hu]at aT;have aY:=Aa (show Az (Fr F i) i (u:Int)=Fr F (i+1) from by
    rw[<-MF,<-bD.o i];show _=Az (Fr F i) i ((Ai p m (lw ml) (Au (p^m) (sl.getD i 0)) (Au (p^m) (x.getD i 0)):Nat):Int)
    rw[hs,hz,hu])
   have aH:=Aa aA.o;have bE:=Aa aF.o;have aG:=Aa (fun (w5:World) (h5:Ex wr w5)=>(aH.o.ex h5).exSet (a:=w1) (Nat.le_of_eq aU.o) (bE.o.trans h5) i (.int .i64 (u:Int)));have aR:=Aa (fun (w5:World) (h5:Ex wr w5)=>show AG (w5.setCell ⟨g,i,none⟩ (.int .i64 (u:Int))) g 3 g N (iv (Fr F (i+1))) from by
    rw[<-aY.o,<-Cn];exact(aH.o.ex h5).set i _)
   have bA:=Aa hin;have aC:=Aa (fun (w5:World) (h5:Ex wr w5)=>(⟨(aI.o.trans h5).cell HA.o,(aI.o.trans h5).cell aV.o⟩:w5.cell? ⟨A,0,none⟩=some (.pointer (some ⟨b,0,none⟩))/\w5.cell? ⟨xb,xo+i,none⟩=some (.int .i64 z)));have aN:=Aa (fun (w5:World) (h5:Ex wr w5)=>(⟨(aB.o.trans (aG.o w5 h5)).cell HA.o,(aB.o.trans (aG.o w5 h5)).cell aV.o⟩:(w5.setCell ⟨g,i,none⟩ (.int .i64 (u:Int))).cell? ⟨A,0,none⟩=some (.pointer (some ⟨b,0,none⟩))/\(w5.setCell ⟨g,i,none⟩ (.int .i64 (u:Int))).cell? ⟨xb,xo+i,none⟩=some (.int .i64 z)));clear hs aM hz aL hu aQ aO aA aF;go_wp2_with fail
   have G0:Ex wr wr.drew:=(Ex.refl wr).drew
   go_region_held3 (fun w'=>w'.cell? ⟨A,0,none⟩=some (.pointer (some ⟨b,0,none⟩))/\w'.cell? ⟨xb,xo+i,none⟩=some (.int .i64 z))
    (first|with_reducible exact aC.o _ G0|with_reducible exact aC.o _ X6|with_reducible exact aN.o _ X6)
    (first|(go_at_call 106;(with_reducible refine(aT.o _ G0).mono ?_);rintro e w6⟨rfl,n6,rfl⟩;have X6:Ex wr (wr.drewN (1+n6)):=(Ex.refl wr).drewN (1+n6);have co6:=(aH.o.ex X6).cell bA.o;have cf6:=(aH.o.ex X6).frz i))
   go_wp2_with fail
   go_roundw
   case rel=>first|exact⟨i+1,ac,by go_num,Aa (aR.o _ X6),Aa (aG.o _ X6)⟩|((repeat apply Exists.intro);exact⟨⟨i+1,ac,by go_num,Aa (aR.o _ X6),Aa (aG.o _ X6)⟩,rfl⟩)
   case measure=>simp[intOf];omega
  .obtain rfl:i=N:=by omega
   go_wp2_with fail
   go_ret;exact⟨g,rfl,(aA.o.mono (by have:=aU.o;have:=bF.o;have:=aB.o.size;omega)).icongr fun j hj=>PP hj,aB.o.trans aF.o⟩
end
theorem J5(w:World)(A:Nat)(N:Nat)(hN:N<=1000)(tl y:List Int)(tv sv yv:Value)(ht:Am w tv tl)(hy:Am w yv y)(aF:tl.length=N)(hr:BU tl y.length=true):
  Calls Tryz.prog 227 #[.pointer (some ⟨A,0,none⟩),.agg #[tv,sv],yv] w fun r w'=>∃g,r= .returned (.slice (some ⟨g,0,none⟩) N N)/\AG w' w.heap.size 3 g N (iv (Ix tl fun j=>y.getD j 0))/\Ex w w':=by
 obtain⟨b0,b1,eb,aB⟩:=AT w tv sv;obtain⟨ta,tc,rfl,_,t2,t3⟩:=ht.open;obtain⟨ya,yc,rfl,_,y2,y3⟩:=hy.open;unfold maxLen at t2 y2;rw[aF]at t3;rw[aF]at b0 b1 eb aB ⊢;obtain⟨T3,Y3,aW,aY,aX,aI⟩:=To t3 y3 (fun i (hi:i<N)=>EJ hr (i:=i) ac) (fun i (hi:i<N)=>Bc (l:=tl) (i:=i) ac) (fun i (hi:i<y.length)=>Bc (l:=y) (i:=i) hi) eb;obtain⟨F,hF⟩:∃F,(Ix tl fun j=>y.getD j 0)=F:=⟨_,rfl⟩;have aZ:=Aa (fun i=>congrFun hF i);rw[hF];clear ht hy t3 y3 eb aF hF hr;go_enter Tryz.func227,Tryz.ntmps227
 go_wp2_with (at_make;refine Aq _ rfl _ _ 22 rfl 3 (.int .i64 0) 8 Tryz.underlying22 AA rfl _ N rfl rfl rfl ac ai ?_)
 obtain⟨B,hB⟩:=nA w.heap.size;rw[hB]at b0 b1 aB
 try simp only[hB]
 have bA:=Aa hB;clear hB;generalize w.alloc (.cells #[.slice ta N tc,sv] 71)=w1 at *;intro w3 aA aE;have B0:=Aa b0;obtain⟨g,aC⟩:=nA (B+1);have aO:=Aa (show AG w3 g 3 g N (iv (Fr F 0)) from by rw[<-aC,MD];exact aA)
 try simp only[aC]
 have aU:=Aa aE;have aP:=Aa (show w1.heap.size=g from by rw[<-aC,<-aB]);have aT:=aE.cell b0;clear aA aE b0 b1 aC aB;go_wp2_with fail
 go_loopw [17] (fun i' wr=>∃(i:Nat),i<=N/\i'= .int .i64 i/\Hia (AG wr g 3 g N (iv (Fr F i)))/\Hia (Ex w1 wr)) (fun i' _=>N-(intOf i').toNat)
 case atStart=>exact⟨0,ac,rfl,aO,aU⟩
 case round=>
  clear aO aT;obtain⟨i,hi,rfl,aA,aD⟩:=hrel;by_cases hin:i<N
  .obtain⟨tb,to_,rfl,aK⟩:=T3.o ac;have aQ:=Aa (aI.o.trans aD.o);have aR:=aW.o i hin;obtain⟨k,hk⟩:=nA ((tl.getD i 0).toNat);have aL:tl.getD i 0=(k:Int):=by omega
   have aS:k<y.length:=ac;obtain⟨yb,yo,rfl,aJ⟩:=Y3.o ac;have aH:=aY.o i hin;rw[aL]at aH;have ct:=aQ.o.cell (aK i _ aH);obtain⟨z,hz⟩:=nA (y.getD k 0);have aG:=aX.o k aS;rw[hz]at aG;have cy:=aQ.o.cell (aJ k _ aG);have i1:(0:Int)<=(i:Int):=br;have i2:(i:Int)<(N:Int):=ac;have i3:(0:Int)<=(k:Int):=ac;have i4:(k:Int)<(y.length:Int):=ac;have aV:=Aa (show Az (Fr F i) i z=Fr F (i+1) from by
    rw[<-MF,<-aZ.o i];show _=Az (Fr F i) i (y.getD (tl.getD i 0).toNat 0)
    rw[hk,hz])
   have co:=aA.o.cell hin;have cf:=aA.o.frz i;have aM:=Aa (aA.o.exSet (a:=w1) (Nat.le_of_eq aP.o) aD.o i (.int .i64 z));have aN:=Aa (show AG (wr.setCell ⟨g,i,none⟩ (.int .i64 z)) g 3 g N (iv (Fr F (i+1))) from by
    rw[<-aV.o,<-Cn];exact aA.o.set i _)
   clear aR hk aL aH hz aG aK aJ aA aD;go_wp2_with fail
   go_roundw
   case rel=>first|exact⟨i+1,ac,by go_num,aN,aM⟩|((repeat apply Exists.intro);exact⟨⟨i+1,ac,by go_num,aN,aM⟩,rfl⟩)
   case measure=>simp[intOf];omega
  .obtain rfl:i=N:=by omega
   go_wp2_with fail
   go_ret;exact⟨g,rfl,(aA.o.mono (by have:=aP.o;have:=bA.o;have:=aI.o.size;omega)).icongr fun j hj=>PP hj,aI.o.trans aD.o⟩
def CR(p m:Int)(ml:List Int)(p' m':Int)(aA:List Int):Bool:=p==p'&&m==m'&&ml==aA
theorem F8{p m:Int}{ml:List Int}{p' m':Int}{ml':List Int}:CR p m ml p' m' ml'=true↔p=p'/\m=m'/\ml=ml':=by
 unfold CR;simp[and_assoc]
theorem zc1{P:Prop}(h:P:=by
 go_wp2_with fail
 go_ret;exact⟨rfl,HE.o⟩):P:=h
theorem Ux(w:World)(p m:Int)(ml:List Int)(mv:Value)(aJ:Am w mv ml)(p' m':Int)(aA:List Int)(aF:Value)(aC:Am w aF aA):
  Calls Tryz.prog 191 #[.agg #[.int .i64 p,.int .i64 m,mv],.agg #[.int .i64 p',.int .i64 m',aF]] w fun r w'=>r= .returned (.bool (CR p m ml p' m' aA))/\Ex w w':=by
 obtain⟨a0,a1,a2,ea,-⟩:=AC w p m mv;obtain⟨b0,b1,b2,eb,-⟩:=AC (w.alloc (.cells #[.int .i64 p,.int .i64 m,mv] 24)) p' m' aF;replace a0:=eb.cell a0;replace a1:=eb.cell a1;replace a2:=eb.cell a2;have aH:(w.alloc (.cells #[.int .i64 p,.int .i64 m,mv] 24)).heap.size=w.heap.size+1:=ag;rw[aH]at b0 b1 b2;have HE:=Aa (ea.trans eb);obtain⟨ma,mc,rfl,m1',m2,m3⟩:=aJ.open;obtain⟨na,nc,rfl,-,n2,n3⟩:=aC.open;unfold maxLen at m2 n2;obtain⟨R,hR⟩:=nA (CR p m ml p' m' aA);rw[hR];have M3:=Aa m3;have N3:=Aa n3;have HR:=Aa hR;clear aJ aC aH ea eb m3 n3 hR;go_enter Tryz.func191,Tryz.ntmps191
 by_cases h1:p=p'
 .have aQ:(p !=p')=false:=by simpa using h1
  by_cases h2:m=m'
  .have aP:(m !=m')=false:=by simpa using h2
   by_cases h3:ml.length=aA.length
   .have b3:((ml.length:Int) !=(aA.length:Int))=false:=by simp;omega
    subst h1;subst h2;have hn:∃n,ml.length=n:=⟨_,rfl⟩;have aL:=Aa (show R=true↔ml=aA from by rw[<-HR.o,F8];simp);have H3:=Aa h3;rw[<-h3]at a0 a1 a2 b0 b1 b2 HE ⊢;clear h3 b3 hn;go_wp2_with fail
    generalize (w.alloc (.cells #[.int .i64 p,.int .i64 m,.slice ma ml.length mc] 24)).alloc (.cells #[.int .i64 p,.int .i64 m,.slice na ml.length nc] 24)=w1 at *;have A2:=Aa a2;have B2:=Aa b2
    go_loopw [31] (fun i' wr=>∃(i:Nat),i<=ml.length/\i'= .int .i64 i/\(∀j,j<i->ml.getD j 0=aA.getD j 0)/\Hia (Ex w1 wr)) (fun i' _=>ml.length-(intOf i').toNat)
    case atStart=>exact⟨0,ac,rfl,fun j hj=>ac,Aa (Ex.refl _)⟩
    case round=>
     obtain⟨i,hi,rfl,aD,aB⟩:=hrel;have aM:=Aa aD;clear aD a0 a1 b0 b1;by_cases hin:i<ml.length
     .obtain⟨mb,mo,rfl,aK⟩:=M3.o ac;obtain⟨nb,no,rfl,aI⟩:=N3.o (by have:=H3.o;omega);have c1:=aB.o.cell (HE.o.cell (aK i _ (show ml[i]?=some (ml.getD i 0) from by rw[List.getD_eq_getElem?_getD,List.getElem?_eq_getElem hin];rfl)));have c2:=aB.o.cell (HE.o.cell (aI i _ (show aA[i]?=some (aA.getD i 0) from by rw[List.getD_eq_getElem?_getD,List.getElem?_eq_getElem (by have:=H3.o;omega)];rfl)));have f2:=aB.o.cell A2.o;have g2:=aB.o.cell B2.o;have j1:(0:Int)<=(i:Int):=by omega
      have j2:(i:Int)<(ml.length:Int):=ac;have aO:m2=m2:=rfl;obtain⟨x,hx⟩:=nA (ml.getD i 0);obtain⟨y,hy⟩:=nA (aA.getD i 0);rw[hx]at c1;rw[hy]at c2;have aE:=Aa (show x=ml.getD i 0/\y=aA.getD i 0 from⟨hx.symm,hy.symm⟩);clear hx hy aK aI a2 b2 aO;by_cases hxy:x=y
      .have aN:=Aa (show ∀j,j<i+1->ml.getD j 0=aA.getD j 0 from fun j hj=>by
        by_cases e:j=i
        .subst e;rw[<-aE.o.1,<-aE.o.2,hxy]
        .exact aM.o j ac)
       have bb:(y !=x)=false:=by simp[hxy]
       have aG:y=x:=hxy.symm;subst aG;clear hxy;go_wp2_with fail
       go_roundw
       case rel=>first|exact⟨i+1,ac,by go_num,aN.o,aB⟩|((repeat apply Exists.intro);exact⟨⟨i+1,ac,by go_num,aN.o,aB⟩,rfl⟩)
       case measure=>simp[intOf];omega
      .have bb:(y !=x)=true:=by simpa using fun h=>hxy h.symm
       have hr:R=false:=Bool.eq_false_iff.2 fun h=>hxy (by rw[aE.o.1,aE.o.2,aL.o.1 h]);subst hr;have aG:¬y=x:=fun h=>hxy h.symm;clear hxy;go_wp2_with fail
       go_ret;exact⟨rfl,HE.o.trans aB.o⟩
     .obtain rfl:i=ml.length:=by omega
      have hr:R=true:=aL.o.2 (List.ext_getElem? fun j=>by
       by_cases hj:j<ml.length
       .have:=aM.o j hj;rw[List.getElem?_eq_getElem hj,List.getElem?_eq_getElem (by have:=H3.o;omega)];rw[List.getD_eq_getElem?_getD,List.getElem?_eq_getElem hj,List.getD_eq_getElem?_getD,List.getElem?_eq_getElem (by have:=H3.o;omega)]at this;simpa using this
       .rw[List.getElem?_eq_none ac,List.getElem?_eq_none (by have:=H3.o;omega)])
      subst hr;go_wp2_with fail
      go_ret;exact⟨rfl,HE.o.trans aB.o⟩
   .have b3:((ml.length:Int) !=(aA.length:Int))=true:=by simp;omega
    have hr:R=false:=by
     rw[<-HR.o];exact Bool.eq_false_iff.2 fun h=>h3 (by rw[(F8.1 h).2.2])
    subst hr;have h3':¬((ml.length:Int)=(aA.length:Int)):=ac;clear h3 h1 h2;exact zc1
  .have aP:(m !=m')=true:=by simpa using h2
   have hr:R=false:=by
    rw[<-HR.o];exact Bool.eq_false_iff.2 fun h=>h2 (F8.1 h).2.1
   subst hr;clear h1 h2;exact zc1
 .have aQ:(p !=p')=true:=by simpa using h1
  have hr:R=false:=by
   rw[<-HR.o];exact Bool.eq_false_iff.2 fun h=>h1 (F8.1 h).1
  subst hr;clear h1;exact zc1
theorem TM(p m:Int)(ml:List Int)(mv:Value)(w:World)(aP:Am w mv ml)(cols:Int)(rows:List (List Int))(v:Value)(hv:BO w v rows):
  Calls Tryz.prog 145 #[.agg #[.int .i64 p,.int .i64 m,mv],.agg #[.int .i64 cols,v]] w fun r w'=>∃e,r= .returned (.int .i64 e)/\Lj p m ml cols rows e/\Ex w w':=by
 obtain⟨g0,g1,g2,e0,aH⟩:=AC w p m mv;have aV:=Aa aP;have HV:=Aa hv;obtain⟨za,zc,rfl,z1,z2,z3⟩:=hv.open;have Z3:=Aa z3;unfold maxLen at z2;obtain⟨xb,aJ⟩:=nA w.heap.size;rw[aJ]at g0 g1 g2 aH;have aT:=Aa (fun w' h=>Ke p m ml mv w' h);have aI:=Aa (Cg p m ml);have aE:=Aa (show Cp p m ml=0∨Cp p m ml=1 by unfold Cp;split <;> simp);clear aP hv z3;go_enter Tryz.func145,Tryz.ntmps145
 go_wp2_with fail
 try simp only[aJ]
 generalize w.alloc (.cells #[.int .i64 p,.int .i64 m,mv] 24)=wA at *;have a0:(wA.alloc (.cells #[.int .i64 cols,.slice za rows.length zc] 137)).cell? ⟨xb+1,0,none⟩=some (.int .i64 cols):=by rw[<-aH];simp
 have a1:(wA.alloc (.cells #[.int .i64 cols,.slice za rows.length zc] 137)).cell? ⟨xb+1,1,none⟩=some (.slice za rows.length zc):=by rw[<-aH];simp
 have eA:Ex wA (wA.alloc (.cells #[.int .i64 cols,.slice za rows.length zc] 137)):=(Ex.refl _).alloc _;generalize wA.alloc (.cells #[.int .i64 cols,.slice za rows.length zc] 137)=wB at *;have b0:=eA.cell g0;have b1:=eA.cell g1;have b2:=eA.cell g2;have eB:=e0.trans eA;clear g0 g1 g2 e0 eA aH aJ wA;refine(aT.o wB (aV.o.ex eB)).mono ?_;rintro r w4⟨rfl,aD⟩;have c0:=aD.cell b0;have c1:=aD.cell b1;have c2:=aD.cell b2;have c3:=aD.cell a0;have c4:=aD.cell a1;have aC:=Aa (eB.trans aD);clear b0 b1 b2 a0 a1 aD eB;by_cases h0:Cp p m ml=0
 .obtain⟨pn,mn,rfl,rfl,aK,aO,aQ⟩:=aI.o.1 h0;have aW:=Aa (show EG pn mn ml from⟨pn,mn,rfl,rfl,aK,aO,aQ⟩);have aY:=Aa (fun w' l v (h:Am w' v l)=>Np (mv:=mv) w' aK l v h);have aB:=Aa (show ∀e,e=BL (pn^mn) cols rows->Lj pn mn ml cols rows e from fun e h=> .inl ⟨pn,mn,rfl,rfl,aW.o,h⟩);have HE:=Aa (show BL (pn^mn) cols rows=if cols<0∨256<cols∨256<(rows.length:Int) then 3
 else if (rows.all fun r=>decide ((r.length:Int)=cols))=true then(if (rows.all fun r=>B3 (pn^mn) r==0)=true then 0 else 2) else 3 from rfl)
  rw[h0];clear h0 aK aO aQ aI aE;by_cases h:cols<0∨256<cols∨256<(rows.length:Int)
  .have HR:=Aa (aB.o 3 (by rw[HE.o,if_pos h]));have hc:cols<0∨(0<=cols/\256<cols)∨(0<=cols/\cols<=256/\256<(rows.length:Int)):=by omega
   clear h HE;rcases hc with hc|⟨h1,h2⟩|⟨h1,h2,h3⟩
   all_goals
    go_wp2_with fail
    go_ret;exact⟨_,rfl,HR.o,aC.o⟩
  .have h1:0<=cols:=by omega
   have h2:cols<=256:=ac;have h3:(rows.length:Int)<=256:=ac;have d1:decide (cols<0)=false:=aq;have d2:decide (256<cols)=false:=aq;have d3:decide (256<(rows.length:Int))=false:=aq;have aS:=Aa (show BL (pn^mn) cols rows=if (rows.all fun r=>decide ((r.length:Int)=cols))=true then(if (rows.all fun r=>B3 (pn^mn) r==0)=true then 0 else 2) else 3 by rw[HE.o,if_neg h]);have aU:Ex w4 w4:=Ex.refl _;clear h HE;go_wp2_with fail
   go_loopw [6] (fun i' wr=>∃i:Nat,i<=rows.length/\i'= .int .i64 i/\Hia (∀(j:Nat) (r:List Int),j<i->rows[j]?=some r->(r.length:Int)=cols)/\Ex w4 wr) (fun i' _=>rows.length-(intOf i').toNat)
   case atStart=>exact⟨0,ac,rfl,Aa (fun j x h=>ac),aU⟩
   case round=>
    clear aU;obtain⟨i,hi,rfl,aA,hx⟩:=hrel;have r0:=hx.cell c3;have r1:=hx.cell c4;by_cases hlt:i<rows.length
    .obtain⟨r,hr⟩:∃r,rows[i]?=some r:=⟨_,List.getElem?_eq_getElem hlt⟩;obtain⟨bb,o,rfl,hc⟩:=Z3.o ac;obtain⟨u,e1,hu⟩:=hc i r hr;obtain⟨ua,uc,rfl,u1,u2,u3⟩:=hu.open;have e2:=(aC.o.trans hx).cell e1;have i1:(0:Int)<=(i:Int):=by omega
     have i2:(i:Int)<(rows.length:Int):=ac;unfold maxLen at u2;by_cases hl:(r.length:Int)=cols
     .have hb:((r.length:Int) !=cols)=false:=by simpa using hl
      have HA:=Aa (show ∀(j:Nat) (s:List Int),j<i+1->rows[j]?=some s->(s.length:Int)=cols from fun j s hj hs=>by
       by_cases e:j=i
       .exact zaQ
       .exact aA.o j s ac hs)
      clear hl hc e1 hu u3 hr;go_wp2_with fail
      go_quiet (fail)
      go_wp2_with fail
      go_roundw
      case rel=>exact⟨i+1,ac,by go_num,HA,hx.drewN _⟩
      case measure=>simp[intOf];omega
     .have hb:((r.length:Int) !=cols)=true:=by simpa using hl
      have HF:=Aa (aB.o 3 (by
       rw[aS.o,if_neg];intro h;have:=List.all_eq_true.1 h r (List.mem_of_getElem? hr);exact hl dv))
      clear hl hc e1 hu u3 hr;go_wp2_with fail
      go_quiet (fail)
      go_wp2_with fail
      go_ret;exact⟨_,rfl,HF.o,(aC.o.trans hx).drewN _⟩
    .obtain rfl:i=rows.length:=by omega
     have aR:=Aa (show BL (pn^mn) cols rows=if (rows.all fun r=>B3 (pn^mn) r==0)=true then 0 else 2 by
      rw[aS.o,if_pos];rw[List.all_eq_true];intro r hr;obtain⟨j,hj,e⟩:=List.getElem_of_mem hr;exact decide_eq_true (aA.o j r hj ar))
     clear aA;go_wp2_with fail
     obtain⟨wo,rfl⟩:∃wo:World,wo=wr:=⟨_,rfl⟩;clear r0 r1
     go_loopw [5,7] (fun e' i' wr=>∃i:Nat,i<=rows.length/\i'= .int .i64 i/\e'= .int .i64 0/\Hia (∀(j:Nat) (r:List Int),j<i->rows[j]?=some r->B3 (pn^mn) r=0)/\Ex w4 wr) (fun _ i' _=>rows.length-(intOf i').toNat)
     case atStart=>exact⟨0,ac,rfl,rfl,Aa (fun j x h=>ac),hx⟩
     case round=>
      clear hx;obtain⟨i,hi,rfl,rfl,aA,hx⟩:=hrel;have r0:=hx.cell c3;have r1:=hx.cell c4;have s0:=hx.cell c0;have s1:=hx.cell c1;have s2:=hx.cell c2;by_cases hlt:i<rows.length
      .obtain⟨r,hr⟩:∃r,rows[i]?=some r:=⟨_,List.getElem?_eq_getElem hlt⟩;obtain⟨bb,o,rfl,hc⟩:=Z3.o ac;obtain⟨u,e1,hu⟩:=hc i r hr;have aN:=hu.ex (aC.o.trans hx);obtain⟨ua,uc,rfl,u1,u2,u3⟩:=hu.open;have e2:=(aC.o.trans hx).cell e1;have i1:(0:Int)<=(i:Int):=by omega
       have i2:(i:Int)<(rows.length:Int):=ac;have aG:=Aa (aY.o wr.drew r _ aN);have aM:=hx.drew;unfold maxLen at u2;obtain⟨ev,aF⟩:=nA (B3 (pn^mn) r);have aL:ev=0∨ev=2:=by rw[<-aF];exact S0
       rw[aF]at aG;have HA:=Aa (show ev=0->∀(j:Nat) (s:List Int),j<i+1->rows[j]?=some s->B3 (pn^mn) s=0 from fun h0 j s hj hs=>by
        by_cases e:j=i
        .subst e;rw[hr]at hs;injection hs with hs;subst hs;rw[aF,h0]
        .exact aA.o j s ac hs)
       have HF:=Aa (show ev≠0->Lj pn mn ml cols rows 2 from fun h0=>aB.o 2 (by
        rw[aR.o,if_neg];intro h;have:=List.all_eq_true.1 h r (List.mem_of_getElem? hr);rw[aF]at this;exact h0 dv))
       clear hc e1 hu aN u3 hr aF;go_wp2_with fail
       go_region_held3 (fun w'=>w'.cell? ⟨xb,0,none⟩=some (.int .i64 pn)/\w'.cell? ⟨xb,1,none⟩=some (.int .i64 mn)/\w'.cell? ⟨xb,2,none⟩=some mv/\w'.cell? ⟨xb+1,1,none⟩=some (.slice (some ⟨bb,o,none⟩) rows.length zc)/\w'.cell? ⟨bb,o+i,none⟩=some (.slice ua r.length uc))
        (first|exact⟨s0,s1,s2,r1,e2⟩|exact⟨hx5.cell s0,hx5.cell s1,hx5.cell s2,hx5.cell r1,hx5.cell e2⟩)
        ((go_at_call 153;refine aG.o.mono ?_;rintro e w5⟨rfl,hx5⟩))
       rcases aL with h0|h0
       .subst h0;have aZ:=Aa (HA.o rfl);go_wp2_with fail
        go_roundw
        case rel=>exact⟨i+1,ac,by go_num,rfl,aZ,aM.trans hx5⟩
        case measure=>simp[intOf];omega
       .subst h0;have aX:=Aa (HF.o ac);go_wp2_with fail
        go_ret;exact⟨_,rfl,aX.o,aC.o.trans (aM.trans hx5)⟩
      .obtain rfl:i=rows.length:=by omega
       have HF:=Aa (aB.o 0 (by
        rw[aR.o,if_pos];rw[List.all_eq_true];intro r hr;obtain⟨j,hj,e⟩:=List.getElem_of_mem hr;rw[aA.o j r hj ar];rfl))
       go_wp2_with fail
       go_ret;exact⟨_,rfl,HF.o,aC.o.trans hx⟩
 .have h1:Cp p m ml=1:=by rcases aE.o with h|h;exact absurd h h0;exact h
  have HN:=Aa (show Lj p m ml cols rows 1 from .inr ⟨fun h=>h0 (aI.o.2 h),rfl⟩);rw[h1];clear h0 h1 aI aE aT;go_wp2_with fail
  go_ret;exact⟨_,rfl,HN.o,aC.o⟩
def D4(S:List (Nat->Nat))(x y:Nat):Prop:=∃f,Gn S f/\f x=y
theorem D4.refl(S:List (Nat->Nat))(x:Nat):D4 S x x:=⟨EN,.one,rfl⟩
theorem D4.trans{S:List (Nat->Nat)}{x y z:Nat}(h:D4 S x y)(k:D4 S y z):D4 S x z:=by
 obtain⟨f,hf,rfl⟩:=h;obtain⟨g,hg,rfl⟩:=k;exact⟨_,hf.mul hg,rfl⟩
theorem D4.symm{n:Nat}{S:List (Nat->Nat)}(hS:∀s∈S,Bw n s){x y:Nat}(h:D4 S x y):D4 S y x:=by
 obtain⟨f,hf,rfl⟩:=h;exact⟨_,hf.inv hS,(hf.isP hS).inv_l x⟩
theorem D4.of{S:List (Nat->Nat)}{s:Nat->Nat}(h:s∈S)(x:Nat):D4 S x (s x):=⟨s,Gn.of h,rfl⟩
theorem D4.lt{n:Nat}{S:List (Nat->Nat)}(hS:∀s∈S,Bw n s){x y:Nat}(hx:x<n)(h:D4 S x y):y<n:=by
 obtain⟨f,hf,rfl⟩:=h;exact(hf.isP hS).lt x hx
theorem D4.closed{S:List (Nat->Nat)}{C:Nat->Prop}(hC:∀s∈S,∀x,C x->C (s x)){x y:Nat}(hx:C x)(h:D4 S x y):C y:=by
 obtain⟨f,hf,rfl⟩:=h
 induction hf with
 | one=>exact hx
 | step _ hs ih=>exact hC _ hs _ ih
def Oq(S:List (Nat->Nat))(i:Nat):Prop:=∀y,D4 S i y->i<=y
open Classical in
noncomputable def Vp (n:Nat) (S:List (Nat->Nat)) (i:Nat):List Nat:=(List.range n).filter fun y=>decide (D4 S i y)
noncomputable def Q6(n:Nat)(S:List (Nat->Nat))(i:Nat):List Int:=(Vp n S i).map fun (y:Nat)=>(y:Int)
open Classical in
noncomputable def Dq (n:Nat) (S:List (Nat->Nat)) (m:Nat):List (List Int):=((List.range m).filter fun i=>decide (Oq S i)).map (Q6 n S)
open Classical in
theorem VC {n:Nat} {S:List (Nat->Nat)} {i y:Nat}:y∈Vp n S i↔y<n/\D4 S i y:=by
 unfold Vp;rw[List.mem_filter,List.mem_range,decide_eq_true_eq]
theorem Vo(n:Nat)(S:List (Nat->Nat))(i:Nat):(Vp n S i).Pairwise (·< ·):=List.Pairwise.filter _ List.pairwise_lt_range
theorem Qi:∀ {l k:List Nat},l.Pairwise (·< ·)->k.Pairwise (·< ·)->(∀x,x∈l↔x∈k)->l=k
 | [], [],_,_,_=>rfl
 | [],b :: k,_,_,h=>absurd ((h b).2 (List.mem_cons_self ..)) (List.not_mem_nil)
 | a :: l, [],_,_,h=>absurd ((h a).1 (List.mem_cons_self ..)) (List.not_mem_nil)
 | a :: l,b :: k,hl,hk,h=>by
  obtain⟨aA,aC⟩:=List.pairwise_cons.1 hl;obtain⟨aB,aD⟩:=List.pairwise_cons.1 hk;have aE:a=b:=by
   rcases List.mem_cons.1 ((h a).1 (List.mem_cons_self ..)) with h1|h1
   .exact h1
   .rcases List.mem_cons.1 ((h b).2 (List.mem_cons_self ..)) with h2|h2
    .exact h2.symm
    .have:=aB a h1;have:=aA b h2;omega
  subst aE
  congr 1
  refine Qi aC aD fun x=>?_;constructor
  .intro hx;rcases List.mem_cons.1 ((h x).1 (List.mem_cons_of_mem _ hx)) with h1|h1
   .have:=aA x hx;omega
   .exact h1
  .intro hx;rcases List.mem_cons.1 ((h x).2 (List.mem_cons_of_mem _ hx)) with h1|h1
   .have:=aB x hx;omega
   .exact h1
theorem Km(n:Nat)(S:List (Nat->Nat))(m:Nat):(Oq S m->Dq n S (m+1)=Dq n S m ++ [Q6 n S m])/\(¬Oq S m->Dq n S (m+1)=Dq n S m):=by
 unfold Dq;rw[List.range_succ,List.filter_append,List.map_append];constructor
 .intro h;simp[List.filter,h]
 .intro h;simp[List.filter,h]
theorem TP(n:Nat)(S:List (Nat->Nat))(m:Nat):(Dq n S m).length<=m:=by
 unfold Dq;rw[List.length_map];exact Nat.le_trans (List.length_filter_le _ _) ag
def FT(S:List (Nat->Nat))(i x:Nat):Prop:=∃y,D4 S x y/\y<i
theorem GV{S:List (Nat->Nat)}{i:Nat}:FT S i i↔¬Oq S i:=by
 constructor
 .rintro⟨y,h1,h2⟩ h3;have:=h3 y h1;omega
 .intro h;apply Classical.byContradiction;intro h2;refine h fun y hy=>?_;apply Classical.byContradiction;intro h3;exact h2 ⟨y,hy,ac⟩
theorem J4{n:Nat}{S:List (Nat->Nat)}(hS:∀s∈S,Bw n s){i x:Nat}:FT S (i+1) x↔FT S i x∨D4 S i x:=by
 constructor
 .rintro⟨y,h1,h2⟩;by_cases h:y<i
  .exact .inl ⟨y,h1,h⟩
  .have:y=i:=by omega
   subst this;exact .inr (h1.symm hS)
 .rintro (⟨y,h1,h2⟩|h)
  .exact⟨y,h1,ac⟩
  .exact⟨i,h.symm hS,ac⟩
theorem UX{n:Nat}{S:List (Nat->Nat)}(hS:∀s∈S,Bw n s){i x:Nat}(h:¬Oq S i):FT S (i+1) x↔FT S i x:=by
 rw[J4 hS];constructor
 .rintro (h1|h1)
  .exact h1
  .obtain⟨y,h2,h3⟩:=GV.2 h;exact⟨y,(h1.symm hS).trans h2,h3⟩
 .exact .inl
structure ED(n:Nat)(S:List (Nat->Nat))(i:Nat)(q:List Nat)(k g:Nat):Prop where
 pos:q[0]?=some i
 nd:q.Nodup
 rch:∀x∈q,D4 S i x
 old:∀j x s,j<k->q[j]?=some x->s∈S->s x∈q
 cur:∀j x s,j<g->q[k]?=some x->S[j]?=some s->s x∈q
theorem ED.lt{n:Nat}{S:List (Nat->Nat)}(hS:∀s∈S,Bw n s){i:Nat}{q:List Nat}{k g:Nat}(hi:i<n)(h:ED n S i q k g):∀x∈q,x<n:=fun x hx=>(h.rch x hx).lt hS hi
theorem TW{q:List Nat}(aA:q.Nodup){i j:Nat}(hi:i<q.length)(hj:j<q.length)(e:q[i]=q[j]):i=j:=by
 have h:=List.pairwise_iff_getElem.1 (List.nodup_iff_pairwise_ne.1 aA);rcases Nat.lt_trichotomy i j with h1|h1|h1
 .exact absurd e (h i j hi hj h1)
 .exact h1
 .exact absurd e.symm (h j i hj hi h1)
theorem TV:∀(n:Nat) (q:List Nat),q.Nodup->(∀x∈q,x<n)->q.length<=n:=by
 intro n q aB aC;apply Classical.byContradiction;intro hn;have aA:∀i,i<n+1->q.getD i 0<n:=fun i hi=>by
  rw[List.getD_eq_getElem?_getD,List.getElem?_eq_getElem ac];exact aC _ (List.getElem_mem _)
 obtain⟨x,hx,e⟩:=DV (n+1) (fun i=>q.getD i 0) (fun i hi=>by have:=aA i hi;omega) (fun i j hi hj e=>by
  simp only[List.getD_eq_getElem?_getD]at e;rw[List.getElem?_eq_getElem ac,List.getElem?_eq_getElem ac]at e;injection (show some q[i]=some q[j] from congrArg some e) with e;exact TW aB ac ac e) n ac
 have:=aA x hx;omega
theorem ED.len{n:Nat}{S:List (Nat->Nat)}(hS:∀s∈S,Bw n s){i:Nat}{q:List Nat}{k g:Nat}(hi:i<n)(h:ED n S i q k g):1<=q.length/\q.length<=n:=
 ⟨by have:=(List.getElem?_eq_some_iff.1 h.pos).1;omega,TV n q h.nd (h.lt hS hi)⟩
theorem ED.start(n:Nat)(S:List (Nat->Nat))(i:Nat):ED n S i [i] 0 0:=
 ⟨rfl,ag,fun x hx=>by rw[List.mem_singleton.1 hx];exact .refl _ _,fun j x s h=>ac,fun j x s h=>ac⟩
theorem ED.hit{n:Nat}{S:List (Nat->Nat)}{i:Nat}{q:List Nat}{k g x:Nat}{s:Nat->Nat}(h:ED n S i q k g)(hx:q[k]?=some x)(hs:S[g]?=some s)(hm:s x∈q):ED n S i q k (g+1):=
 ⟨h.pos,h.nd,h.rch,h.old,fun j y t hj hy ht=>by
  by_cases e:j=g
  .subst e;rw[hs]at ht;injection ht with ht;rw[hx]at hy;injection hy with hy;subst ht hy;exact hm
  .exact h.cur j y t ac hy ht⟩
theorem ED.new{n:Nat}{S:List (Nat->Nat)}{i:Nat}{q:List Nat}{k g x:Nat}{s:Nat->Nat}(h:ED n S i q k g)(hx:q[k]?=some x)(hs:S[g]?=some s)(hm:¬s x∈q):ED n S i (q ++ [s x]) k (g+1):=by
 have hk:=(List.getElem?_eq_some_iff.1 hx).1;have h0:=(List.getElem?_eq_some_iff.1 h.pos).1;refine⟨by rw[List.getElem?_append_left ac];exact h.pos,?_,fun y hy=>?_,fun j y t hj hy ht=>?_,fun j y t hj hy ht=>?_⟩
 .rw[List.nodup_append];exact⟨h.nd,ag,fun a ha b hb e=>by rw[List.mem_singleton.1 hb]at e;subst e;exact hm ha⟩
 .rcases List.mem_append.1 hy with h1|h1
  .exact h.rch y h1
  .rw[List.mem_singleton.1 h1];exact(h.rch x (List.mem_of_getElem? hx)).trans (.of (List.mem_of_getElem? hs) x)
 .rw[List.getElem?_append_left ac]at hy;exact List.mem_append_left _ (h.old j y t hj hy ht)
 .rw[List.getElem?_append_left hk]at hy;by_cases e:j=g
  .subst e;rw[hs]at ht;injection ht with ht;rw[hx]at hy;injection hy with hy;subst ht hy;simp
  .exact List.mem_append_left _ (h.cur j y t ac hy ht)
theorem ED.next{n:Nat}{S:List (Nat->Nat)}{i:Nat}{q:List Nat}{k g:Nat}(h:ED n S i q k g)(hg:S.length<=g):ED n S i q (k+1) 0:=
 ⟨h.pos,h.nd,h.rch,fun j y t hj hy ht=>by
  by_cases e:j=k
  .subst e;obtain⟨m,hm,e2⟩:=List.getElem_of_mem ht;exact h.cur m y t ac hy (by rw[List.getElem?_eq_getElem hm,e2])
  .exact h.old j y t ac hy ht,fun j y t hj=>ac⟩
theorem ED.fin{n:Nat}{S:List (Nat->Nat)}{i:Nat}{q:List Nat}{k g:Nat}(h:ED n S i q k g)(hk:q.length<=k)(y:Nat):y∈q↔D4 S i y:=by
 refine⟨h.rch y,fun hr=>?_⟩;refine D4.closed (C:=fun x=>x∈q) (fun s hs x hx=>?_) (List.mem_of_getElem? h.pos) hr;obtain⟨j,hj,e⟩:=List.getElem_of_mem hx;exact h.old j x s ac ar hs
theorem ED.seen{n:Nat}{S:List (Nat->Nat)}{i:Nat}{q:List Nat}{k g x:Nat}{s:Nat->Nat}(hl:Oq S i)(h:ED n S i q k g)(hx:q[k]?=some x)(hs:S[g]?=some s)(hm:FT S i (s x)∨s x∈q):s x∈q:=by
 rcases hm with⟨y,h1,h2⟩|h1
 .have:=hl y (((h.rch x (List.mem_of_getElem? hx)).trans (.of (List.mem_of_getElem? hs) x)).trans h1);omega
 .exact h1
end Go.Proofs.YtehieobniamagaaGreat
