/- Slices of slices; the reference's SameInts, SameRows, Few; slices.Index and Clone at Am. -/
import Derived.StillTailTactics
import Derived.Deep.LoopGhost
import Derived.Deep.CutRange
import Derived.BigQuiet
import Derived.Deep.RegionHeld3
import Derived.Lib.SmallJoins
import Derived.Deep.Matrix
import Derived.Deep.Slices
import Derived.OpenShut
import Derived.ProofKit
import Derived.ChangeOld
import Derived.Test.YtehieobniamagaaGreatZp01
import Derived.Test.YtehieobniamagaaGreatZp05
import Derived.Test.YtehieobniamagaaGreatZp06
import Derived.Test.YtehieobniamagaaGreatZp07
import Derived.Test.YtehieobniamagaaGreatZp08
import Derived.Test.YtehieobniamagaaGreatZp10
import Derived.Test.YtehieobniamagaaGreatZp12
import Derived.Test.YtehieobniamagaaGreatZp13
import Derived.Test.YtehieobniamagaaGreatZp14
import Derived.Test.YtehieobniamagaaGreatZp15
import Derived.Test.YtehieobniamagaaGreatZp17
import Derived.Test.YtehieobniamagaaGreatZp20
import Derived.Test.YtehieobniamagaaGreatZp21
import Derived.Test.YtehieobniamagaaGreatZp22
import Derived.Test.YtehieobniamagaaGreatZp23
namespace Go.Proofs.YtehieobniamagaaGreat
set_option linter.unusedVariables false
set_option linter.unusedSimpArgs false
set_option maxRecDepth 100000
set_option maxHeartbeats 4000000
section
open Go.RowKit
end
section
open Go.RowKit
theorem Ks(w:World)(p0:Value)(v:Value)(n:Nat)(us:List Value)(hv:Sl w v n 1 us)(pr:Nat->Bool)
  (hp:∀(q i:Nat) (u:Value),us[i]?=some u->Calls Tryz.prog 117 #[u,p0] (w.drewN q) fun e w'=>e= .returned (.bool (pr i))/\∃q',w'=(w.drewN q).drewN q'):
  Calls Tryz.prog 169 #[v,.func (.func 117) #[] #[p0]] w fun r w'=>r= .returned (.int .i64 (CM pr n))/\∃q,w'=w.drewN q:=by
 obtain⟨hl,a,cap,rfl,s1,s2,s3⟩:=hv;rw[Nat.mul_one]at hl;have S3:=Aa s3;have HP:=Aa hp;have HL:=Aa hl;unfold maxLen at s2;clear s3 hp hl;go_enter Tryz.func169,Tryz.ntmps169
 go_wp2_with fail
 go_loopg [5,8] n (fun gg _ i' wr=>∃i q:Nat,i<=n/\n-i<=gg/\i'= .int .i64 i/\wr=w.drewN q/\Hia (∀j,j<i->pr j=false))
 case atStart=>exact⟨0,0,ac,ac,rfl,rfl,Aa (fun j hj=>ac)⟩
 case round=>
  obtain⟨i,q,hi,hg,rfl,rfl,aA⟩:=hrel;by_cases hlt:i<n
  .obtain⟨u,hu⟩:∃u,us[i]?=some u:=⟨_,List.getElem?_eq_getElem az⟩;obtain⟨bb,o,rfl,hc⟩:=S3.o ac;have c1:=hc i u hu;have HC:=Aa (HP.o q i u hu);have hlt':(i:Int)<(n:Int):=by omega
   clear hc hu
   cases hb:pr i with
   | true=>
    rw[hb]at HC;have HF:=Aa (Co hlt hb aA.o);clear hb;go_wp2_with (go_at_call 117;refine HC.o.mono ?_;rintro e w'⟨rfl,q',rfl⟩)
    go_ret;exact⟨Af HF.o.symm,q+q',rfl⟩
   | false=>
    rw[hb]at HC;have HA:=Aa (show ∀j,j<i+1->pr j=false from fun j hj=>by
     by_cases e:j=i
     .subst e;exact hb
     .exact aA.o j ac)
    clear hb;go_wp2_with (go_at_call 117;refine HC.o.mono ?_;rintro e w'⟨rfl,q',rfl⟩)
    go_roundg (n-(i+1))
    case measure=>omega
    case rel=>exact⟨i+1,q+q',ac,ac,by go_num,rfl,HA⟩
  .obtain rfl:i=n:=by omega
   have HF:=Aa (BM aA.o);go_wp2_with fail
   go_ret;exact⟨Af HF.o.symm,q,rfl⟩
theorem Hw(w:World)(p0:Value)(v:Value)(n:Nat)(us:List Value)(hv:Sl w v n 1 us)(pr:Nat->Bool)
  (hp:∀(q i:Nat) (u:Value),us[i]?=some u->Calls Tryz.prog 117 #[u,p0] (w.drewN q) fun e w'=>e= .returned (.bool (pr i))/\∃q',w'=(w.drewN q).drewN q'):
  Calls Tryz.prog 116 #[v,.func (.func 117) #[] #[p0]] w fun r w'=>r= .returned (.bool ((List.range n).any pr))/\∃q,w'=w.drewN q:=by
 have HC:=Aa (Ks w p0 v n us hv pr hp);have HB:=Aa (DW pr n);obtain⟨z,hz⟩:=nA (CM pr n);rw[hz]at HC HB;clear hz hp hv;go_enter Tryz.func116,Tryz.ntmps116
 go_wp2_with (go_at_call 169;refine HC.o.mono ?_;rintro e w'⟨rfl,q,rfl⟩)
 go_ret;exact⟨Ao HB.o.symm,q,rfl⟩
theorem Kw(w:World)(p0:Value)(v:Value)(n:Nat)(us:List Value)(hv:Sl w v n 1 us)(pr:Nat->Bool)
  (hp:∀(q i:Nat) (u:Value),us[i]?=some u->Calls Tryz.prog 176 #[u,p0] (w.drewN q) fun e w'=>e= .returned (.bool (pr i))/\∃q',w'=(w.drewN q).drewN q'):
  Calls Tryz.prog 129 #[v,.func (.func 176) #[] #[p0]] w fun r w'=>r= .returned (.int .i64 (CM pr n))/\∃q,w'=w.drewN q:=by
 obtain⟨hl,a,cap,rfl,s1,s2,s3⟩:=hv;rw[Nat.mul_one]at hl;have S3:=Aa s3;have HP:=Aa hp;have HL:=Aa hl;unfold maxLen at s2;clear s3 hp hl;go_enter Tryz.func129,Tryz.ntmps129
 go_wp2_with fail
 go_loopg [5,8] n (fun gg _ i' wr=>∃i q:Nat,i<=n/\n-i<=gg/\i'= .int .i64 i/\wr=w.drewN q/\Hia (∀j,j<i->pr j=false))
 case atStart=>exact⟨0,0,ac,ac,rfl,rfl,Aa (fun j hj=>ac)⟩
 case round=>
  obtain⟨i,q,hi,hg,rfl,rfl,aA⟩:=hrel;by_cases hlt:i<n
  .obtain⟨u,hu⟩:∃u,us[i]?=some u:=⟨_,List.getElem?_eq_getElem az⟩;obtain⟨bb,o,rfl,hc⟩:=S3.o ac;have c1:=hc i u hu;have HC:=Aa (HP.o q i u hu);have hlt':(i:Int)<(n:Int):=by omega
   clear hc hu
   cases hb:pr i with
   | true=>
    rw[hb]at HC;have HF:=Aa (Co hlt hb aA.o);clear hb;go_wp2_with (go_at_call 176;refine HC.o.mono ?_;rintro e w'⟨rfl,q',rfl⟩)
    go_ret;exact⟨Af HF.o.symm,q+q',rfl⟩
   | false=>
    rw[hb]at HC;have HA:=Aa (show ∀j,j<i+1->pr j=false from fun j hj=>by
     by_cases e:j=i
     .subst e;exact hb
     .exact aA.o j ac)
    clear hb;go_wp2_with (go_at_call 176;refine HC.o.mono ?_;rintro e w'⟨rfl,q',rfl⟩)
    go_roundg (n-(i+1))
    case measure=>omega
    case rel=>exact⟨i+1,q+q',ac,ac,by go_num,rfl,HA⟩
  .obtain rfl:i=n:=by omega
   have HF:=Aa (BM aA.o);go_wp2_with fail
   go_ret;exact⟨Af HF.o.symm,q,rfl⟩
theorem Hx(w:World)(p0:Value)(v:Value)(n:Nat)(us:List Value)(hv:Sl w v n 1 us)(pr:Nat->Bool)
  (hp:∀(q i:Nat) (u:Value),us[i]?=some u->Calls Tryz.prog 176 #[u,p0] (w.drewN q) fun e w'=>e= .returned (.bool (pr i))/\∃q',w'=(w.drewN q).drewN q'):
  Calls Tryz.prog 71 #[v,.func (.func 176) #[] #[p0]] w fun r w'=>r= .returned (.bool ((List.range n).any pr))/\∃q,w'=w.drewN q:=by
 have HC:=Aa (Kw w p0 v n us hv pr hp);have HB:=Aa (DW pr n);obtain⟨z,hz⟩:=nA (CM pr n);rw[hz]at HC HB;clear hz hp hv;go_enter Tryz.func71,Tryz.ntmps71
 go_wp2_with (go_at_call 129;refine HC.o.mono ?_;rintro e w'⟨rfl,q,rfl⟩)
 go_ret;exact⟨Ao HB.o.symm,q,rfl⟩
end
section
open Go.RowKit
section
variable {p m:Nat} {ml:List Int} {mv:Value}
end
end
section
open Go.RowKit
section
variable {p m:Nat} {ml:List Int} {N:Nat}
end
end
section
open Go.RowKit
theorem Ir(w:World)(pl sl ql tl:List Int)(pv sv qv tv:Value)(hp:Ak w pv pl)(hs:Ak w sv sl)(hq:Ak w qv ql)(ht:Ak w tv tl)(fr fs:Int):
  Calls Tryz.prog 20 #[.agg #[pv,sv,.int .i64 fr],.agg #[qv,tv,.int .i64 fs]] w fun r w'=>r= .returned (.bool (decide (fr=fs/\pl=ql/\sl=tl)))/\Ex w w':=by
 obtain⟨a0,a1,a2,ea⟩:=Az w pv sv fr;obtain⟨b0,b1,b2,eb⟩:=Az (w.alloc (.cells #[pv,sv,.int .i64 fr] 26)) qv tv fs;have aF:(w.alloc (.cells #[pv,sv,.int .i64 fr] 26)).heap.size=w.heap.size+1:=ag;rw[aF]at b0 b1 b2;replace a0:=eb.cell a0;replace a1:=eb.cell a1;replace a2:=eb.cell a2;have HX:=Aa (ea.trans eb);have HP:=Aa hp;have HS:=Aa hs;have HQ:=Aa hq;have HT:=Aa ht;obtain⟨pa,pc,rfl,-,q1,-⟩:=hp.open;obtain⟨sa,sc,rfl,-,q2,-⟩:=hs.open;obtain⟨qa,qc,rfl,-,q3,-⟩:=hq.open;obtain⟨ta,tc,rfl,-,q4,-⟩:=ht.open;unfold maxLen at q1 q2 q3 q4;obtain⟨B,hB⟩:=nA w.heap.size;rw[hB]at a0 a1 a2 b0 b1 b2;clear hp hs hq ht ea eb aF;go_enter Tryz.func20,Tryz.ntmps20
 go_upto_region 1 with fail
 try simp only[hB]
 clear hB;generalize (w.alloc (.cells #[.slice pa pl.length pc,.slice sa sl.length sc,.int .i64 fr] 26)).alloc (.cells #[.slice qa ql.length qc,.slice ta tl.length tc,.int .i64 fs] 26)=w1 at *;have aE:=Aa (fun w' (h:Ex w1 w')=>(⟨h.cell a0,h.cell a1,h.cell b0,h.cell b1⟩:_/\_/\_/\_));have aD:=Aa (C9 w1 pl ql _ _ (HP.o.ex HX.o) (HQ.o.ex HX.o));have aI:=Aa (fun (w2:World) (h:Ex w1 w2)=>C9 w2 sl tl _ _ (HS.o.ex (HX.o.trans h)) (HT.o.ex (HX.o.trans h)));by_cases h1:fr=fs
 .have k1:(fr==fs)=true:=by simpa using h1
  by_cases h2:pl=ql
  .have aA:=Aa aD.o;rw[show decide (pl=ql)=true from by simpa using h2]at aA;have aG:=Aa (And.intro h1 h2);clear h1 h2 aD;go_wp2_with fail
   refine aA.o.mono ?_;rintro e w2⟨rfl,n2,rfl⟩;have aC:=Aa ((Ex.refl w1).drewN n2);clear a0 a1 b0 b1;obtain⟨a0,a1,b0,b1⟩:=aE.o _ aC.o;have aB:=Aa (aI.o _ aC.o);obtain⟨D,hD⟩:=nA (decide (sl=tl));rw[hD]at aB;have HD:=Aa hD;clear hD;go_wp2_with fail
   refine aB.o.mono ?_;rintro e w3⟨rfl,n3,rfl⟩;have aH:=Aa ((Ex.refl w1).drewN (n2+n3));go_wp2_with fail
   go_ret;refine⟨?_,HX.o.trans aH.o⟩;have:=HD.o;have:=aG.o.1;have:=aG.o.2
   simp_all
  .have aA:=Aa aD.o;rw[show decide (pl=ql)=false from by simpa using h2]at aA;have H2:=Aa h2;clear h2 aD;go_wp2_with fail
   refine aA.o.mono ?_;rintro e w2⟨rfl,n2,rfl⟩;have aC:=Aa ((Ex.refl w1).drewN n2);go_wp2_with fail
   go_ret;refine⟨?_,HX.o.trans aC.o⟩;have:=H2.o
   simp_all
 .have k1:(fr==fs)=false:=by simpa using h1
  have H1:=Aa h1;clear h1;go_wp2_with fail
  go_ret;refine⟨?_,HX.o⟩;have:=H1.o
  simp_all
end
section
open Go.RowKit
end
section
open Go.RowKit
end
section
open Go.RowKit
end
section
open Go.RowKit
end
section
open Go.RowKit
end
section
open Go.RowKit
end
section
open Go.RowKit
end
section
open Go.RowKit
section
variable {w w':World} {base g R N cap:Nat} {vals:Nat->Value} {a:Nat->Nat->Int}
variable {w1 wr:World} {piv:List Nat} {pv pv' u:Value} {f:Nat->Int}
end
end
section
def Dx(S:List (Nat->Nat))(x y:Nat):Prop:=∃f,Gn S f/\f x=y
theorem Dx.refl(S:List (Nat->Nat))(x:Nat):Dx S x x:=⟨ED,.one,rfl⟩
theorem Dx.trans{S:List (Nat->Nat)}{x y z:Nat}(h:Dx S x y)(k:Dx S y z):Dx S x z:=by
 obtain⟨f,hf,rfl⟩:=h;obtain⟨g,hg,rfl⟩:=k;exact⟨_,hf.mul hg,rfl⟩
theorem Dx.symm{n:Nat}{S:List (Nat->Nat)}(hS:∀s∈S,Bj n s){x y:Nat}(h:Dx S x y):Dx S y x:=by
 obtain⟨f,hf,rfl⟩:=h;exact⟨_,hf.inv hS,(hf.isP hS).inv_l x⟩
theorem Dx.of{S:List (Nat->Nat)}{s:Nat->Nat}(h:s∈S)(x:Nat):Dx S x (s x):=⟨s,Gn.of h,rfl⟩
theorem Dx.lt{n:Nat}{S:List (Nat->Nat)}(hS:∀s∈S,Bj n s){x y:Nat}(hx:x<n)(h:Dx S x y):y<n:=by
 obtain⟨f,hf,rfl⟩:=h;exact(hf.isP hS).lt x hx
theorem Dx.closed{S:List (Nat->Nat)}{C:Nat->Prop}(hC:∀s∈S,∀x,C x->C (s x)){x y:Nat}(hx:C x)(h:Dx S x y):C y:=by
 obtain⟨f,hf,rfl⟩:=h
 induction hf with
 | one=>exact hx
 | step _ hs ih=>exact hC _ hs _ ih
def MU(S:List (Nat->Nat))(i:Nat):Prop:=∀y,Dx S i y->i<=y
open Classical in
noncomputable def S9 (n:Nat) (S:List (Nat->Nat)) (i:Nat):List Nat:=(List.range n).filter fun y=>decide (Dx S i y)
noncomputable def O9(n:Nat)(S:List (Nat->Nat))(i:Nat):List Int:=(S9 n S i).map fun (y:Nat)=>(y:Int)
open Classical in
noncomputable def CW (n:Nat) (S:List (Nat->Nat)) (m:Nat):List (List Int):=((List.range m).filter fun i=>decide (MU S i)).map (O9 n S)
open Classical in
theorem Tm {n:Nat} {S:List (Nat->Nat)} {i y:Nat}:y∈S9 n S i↔y<n/\Dx S i y:=by
 unfold S9;rw[List.mem_filter,List.mem_range,decide_eq_true_eq]
theorem S8(n:Nat)(S:List (Nat->Nat))(i:Nat):(S9 n S i).Pairwise (·< ·):=List.Pairwise.filter _ List.pairwise_lt_range
theorem Oj:∀ {l k:List Nat},l.Pairwise (·< ·)->k.Pairwise (·< ·)->(∀x,x∈l↔x∈k)->l=k
 | [], [],_,_,_=>rfl
 | [],b :: k,_,_,h=>absurd ((h b).2 (List.mem_cons_self ..)) (List.not_mem_nil)
 | a :: l, [],_,_,h=>absurd ((h a).1 (List.mem_cons_self ..)) (List.not_mem_nil)
 | a :: l,b :: k,hl,hk,h=>by
  obtain⟨aA,aC⟩:=List.pairwise_cons.1 hl;obtain⟨aB,aD⟩:=List.pairwise_cons.1 hk;have aE:a=b:=by
   rcases List.mem_cons.1 ((h a).1 (List.mem_cons_self ..)) with h1|h1
   .exact h1
   .rcases List.mem_cons.1 ((h b).2 (List.mem_cons_self ..)) with h2|h2
    .exact h2.symm
    .have:=aB a h1;have:=aA b h2;omega
  subst aE
  congr 1
  refine Oj aC aD fun x=>?_;constructor
  .intro hx;rcases List.mem_cons.1 ((h x).1 (List.mem_cons_of_mem _ hx)) with h1|h1
   .have:=aA x hx;omega
   .exact h1
  .intro hx;rcases List.mem_cons.1 ((h x).2 (List.mem_cons_of_mem _ hx)) with h1|h1
   .have:=aB x hx;omega
   .exact h1
theorem Jq(n:Nat)(S:List (Nat->Nat))(m:Nat):(MU S m->CW n S (m+1)=CW n S m ++ [O9 n S m])/\(¬MU S m->CW n S (m+1)=CW n S m):=by
 unfold CW;rw[List.range_succ,List.filter_append,List.map_append];constructor
 .intro h;simp[List.filter,h]
 .intro h;simp[List.filter,h]
theorem Rs(n:Nat)(S:List (Nat->Nat))(m:Nat):(CW n S m).length<=m:=by
 unfold CW;rw[List.length_map];exact Nat.le_trans (List.length_filter_le _ _) ag
def Fd(S:List (Nat->Nat))(i x:Nat):Prop:=∃y,Dx S x y/\y<i
theorem Gg{S:List (Nat->Nat)}{i:Nat}:Fd S i i↔¬MU S i:=by
 constructor
 .rintro⟨y,h1,h2⟩ h3;have:=h3 y h1;omega
 .intro h;apply Classical.byContradiction;intro h2;refine h fun y hy=>?_;apply Classical.byContradiction;intro h3;exact h2 ⟨y,hy,ac⟩
theorem Jd{n:Nat}{S:List (Nat->Nat)}(hS:∀s∈S,Bj n s){i x:Nat}:Fd S (i+1) x↔Fd S i x∨Dx S i x:=by
 constructor
 .rintro⟨y,h1,h2⟩;by_cases h:y<i
  .exact .inl ⟨y,h1,h⟩
  .have:y=i:=by omega
   subst this;exact .inr (h1.symm hS)
 .rintro (⟨y,h1,h2⟩|h)
  .exact⟨y,h1,ac⟩
  .exact⟨i,h.symm hS,ac⟩
theorem SH{n:Nat}{S:List (Nat->Nat)}(hS:∀s∈S,Bj n s){i x:Nat}(h:¬MU S i):Fd S (i+1) x↔Fd S i x:=by
 rw[Jd hS];constructor
 .rintro (h1|h1)
  .exact h1
  .obtain⟨y,h2,h3⟩:=Gg.2 h;exact⟨y,(h1.symm hS).trans h2,h3⟩
 .exact .inl
structure D7(n:Nat)(S:List (Nat->Nat))(i:Nat)(q:List Nat)(k g:Nat):Prop where
 pos:q[0]?=some i
 nd:q.Nodup
 rch:∀x∈q,Dx S i x
 old:∀j x s,j<k->q[j]?=some x->s∈S->s x∈q
 cur:∀j x s,j<g->q[k]?=some x->S[j]?=some s->s x∈q
theorem D7.lt{n:Nat}{S:List (Nat->Nat)}(hS:∀s∈S,Bj n s){i:Nat}{q:List Nat}{k g:Nat}(hi:i<n)(h:D7 n S i q k g):∀x∈q,x<n:=fun x hx=>(h.rch x hx).lt hS hi
theorem Rz{q:List Nat}(aA:q.Nodup){i j:Nat}(hi:i<q.length)(hj:j<q.length)(e:q[i]=q[j]):i=j:=by
 have h:=List.pairwise_iff_getElem.1 (List.nodup_iff_pairwise_ne.1 aA);rcases Nat.lt_trichotomy i j with h1|h1|h1
 .exact absurd e (h i j hi hj h1)
 .exact h1
 .exact absurd e.symm (h j i hj hi h1)
theorem Ry:∀(n:Nat) (q:List Nat),q.Nodup->(∀x∈q,x<n)->q.length<=n:=by
 intro n q aB aC;apply Classical.byContradiction;intro hn;have aA:∀i,i<n+1->q.getD i 0<n:=fun i hi=>by
  rw[List.getD_eq_getElem?_getD,List.getElem?_eq_getElem ac];exact aC _ (List.getElem_mem _)
 obtain⟨x,hx,e⟩:=Dp (n+1) (fun i=>q.getD i 0) (fun i hi=>by have:=aA i hi;omega) (fun i j hi hj e=>by
  simp only[List.getD_eq_getElem?_getD]at e;rw[List.getElem?_eq_getElem ac,List.getElem?_eq_getElem ac]at e;injection (show some q[i]=some q[j] from congrArg some e) with e;exact Rz aB ac ac e) n ac
 have:=aA x hx;omega
theorem D7.len{n:Nat}{S:List (Nat->Nat)}(hS:∀s∈S,Bj n s){i:Nat}{q:List Nat}{k g:Nat}(hi:i<n)(h:D7 n S i q k g):1<=q.length/\q.length<=n:=
 ⟨by have:=(List.getElem?_eq_some_iff.1 h.pos).1;omega,Ry n q h.nd (h.lt hS hi)⟩
theorem D7.start(n:Nat)(S:List (Nat->Nat))(i:Nat):D7 n S i [i] 0 0:=
 ⟨rfl,ag,fun x hx=>by rw[List.mem_singleton.1 hx];exact .refl _ _,fun j x s h=>ac,fun j x s h=>ac⟩
theorem D7.hit{n:Nat}{S:List (Nat->Nat)}{i:Nat}{q:List Nat}{k g x:Nat}{s:Nat->Nat}(h:D7 n S i q k g)(hx:q[k]?=some x)(hs:S[g]?=some s)(hm:s x∈q):D7 n S i q k (g+1):=
 ⟨h.pos,h.nd,h.rch,h.old,fun j y t hj hy ht=>by
  by_cases e:j=g
  .subst e;rw[hs]at ht;injection ht with ht;rw[hx]at hy;injection hy with hy;subst ht hy;exact hm
  .exact h.cur j y t ac hy ht⟩
theorem D7.new{n:Nat}{S:List (Nat->Nat)}{i:Nat}{q:List Nat}{k g x:Nat}{s:Nat->Nat}(h:D7 n S i q k g)(hx:q[k]?=some x)(hs:S[g]?=some s)(hm:¬s x∈q):D7 n S i (q ++ [s x]) k (g+1):=by
 have hk:=(List.getElem?_eq_some_iff.1 hx).1;have h0:=(List.getElem?_eq_some_iff.1 h.pos).1;refine⟨by rw[List.getElem?_append_left ac];exact h.pos,?_,fun y hy=>?_,fun j y t hj hy ht=>?_,fun j y t hj hy ht=>?_⟩
 .rw[List.nodup_append];exact⟨h.nd,ag,fun a ha b hb e=>by rw[List.mem_singleton.1 hb]at e;subst e;exact hm ha⟩
 .rcases List.mem_append.1 hy with h1|h1
  .exact h.rch y h1
  .rw[List.mem_singleton.1 h1];exact(h.rch x (List.mem_of_getElem? hx)).trans (.of (List.mem_of_getElem? hs) x)
 .rw[List.getElem?_append_left ac]at hy;exact List.mem_append_left _ (h.old j y t hj hy ht)
 .rw[List.getElem?_append_left hk]at hy;by_cases e:j=g
  .subst e;rw[hs]at ht;injection ht with ht;rw[hx]at hy;injection hy with hy;subst ht hy;simp
  .exact List.mem_append_left _ (h.cur j y t ac hy ht)
theorem D7.next{n:Nat}{S:List (Nat->Nat)}{i:Nat}{q:List Nat}{k g:Nat}(h:D7 n S i q k g)(hg:S.length<=g):D7 n S i q (k+1) 0:=
 ⟨h.pos,h.nd,h.rch,fun j y t hj hy ht=>by
  by_cases e:j=k
  .subst e;obtain⟨m,hm,e2⟩:=List.getElem_of_mem ht;exact h.cur m y t ac hy (by rw[List.getElem?_eq_getElem hm,e2])
  .exact h.old j y t ac hy ht,fun j y t hj=>ac⟩
theorem D7.fin{n:Nat}{S:List (Nat->Nat)}{i:Nat}{q:List Nat}{k g:Nat}(h:D7 n S i q k g)(hk:q.length<=k)(y:Nat):y∈q↔Dx S i y:=by
 refine⟨h.rch y,fun hr=>?_⟩;refine Dx.closed (C:=fun x=>x∈q) (fun s hs x hx=>?_) (List.mem_of_getElem? h.pos) hr;obtain⟨j,hj,e⟩:=List.getElem_of_mem hx;exact h.old j x s ac au hs
theorem D7.seen{n:Nat}{S:List (Nat->Nat)}{i:Nat}{q:List Nat}{k g x:Nat}{s:Nat->Nat}(hl:MU S i)(h:D7 n S i q k g)(hx:q[k]?=some x)(hs:S[g]?=some s)(hm:Fd S i (s x)∨s x∈q):s x∈q:=by
 rcases hm with⟨y,h1,h2⟩|h1
 .have:=hl y (((h.rch x (List.mem_of_getElem? hx)).trans (.of (List.mem_of_getElem? hs) x)).trans h1);omega
 .exact h1
end
section
open Go.RowKit Go.ChangeShapes Go.WideShapes Go.ChangeAt
section
variable {H:Type} {enc:TypeId × Value->H} {W:World} {held:Bool}
theorem GZ{x:Addr}{w:World}{u:Value}(h:w.cell? x=some u)(hu:(∃k n,u= .int k n)∨∃a l c,u= .slice a l c):x=⟨x.block,x.off,none⟩:=by
 have hs:x.spot=none:=by
  rcases hs:x.spot with _|s
  .rfl
  .exfalso;simp only[World.cell?,hs]at h;split at h
   .rcases hu with⟨k,n,rfl⟩|⟨a,l,c,rfl⟩ <;> simp at h
   .simp at h
 cases x;simp_all
theorem MP(b o j:Nat):(⟨b,o,none⟩:Addr).add j=⟨b,o+j,none⟩:=dd
theorem K3{w:World}{a:Option Addr}{len cap:Nat}{zs:List Int}(h1:len<=cap)(h2:cap<=maxLen)(h3:zs.length=cap)(h4:a=none->cap=0)(h5:∀x,a=some x->∀i,i<cap->w.cell? (x.add i)=some (.int .i64 (zs.getD i 0))):
  Ak w (.slice a len cap) (zs.take len):=by
 have hl:(zs.take len).length=len:=b9;unfold Ak;rw[hl];refine⟨by rw[AP];omega,a,cap,rfl,h1,h2,fun hn=>?_⟩;rcases a with _|x
 .have:=h4 rfl;omega
 .have h0:=h5 x rfl 0 ac;have hx:=GZ h0 (.inl ⟨_,_,rfl⟩);have aA:(x.add 0)=x:=by simp[Addr.add]
  rw[aA]at hx;refine⟨x.block,x.off,congrArg some hx,fun j u hu=>?_⟩;simp only[Am,List.getElem?_map,List.getElem?_take]at hu;split at hu
  .have h6:=h5 x rfl j ac;rw[hx,MP]at h6;rw[h6];obtain⟨y,hy,rfl⟩:=Option.map_eq_some_iff.1 hu;rw[List.getD_eq_getElem?_getD,hy];rfl
  .cases hu
theorem DV{aA:Nat}{v:Value}{y:DataW H × List MemPlace}(h:DataW.trod enc Tryz.prog W 0 (fun _=>true) held aA 22 [v]=some y):∃l,Ak W v l:=by
 rcases open_ints Tryz.underlying22 Tryz.underlying3 ah h with⟨hcs,_⟩|⟨x,l,c,zs,hcs,_,hl,hm,hz,_,hcell,hwz⟩
 .simp at hcs;subst hcs;exact⟨[],Sl.nil W 1⟩
 .simp at hcs;subst hcs;simp only[if_true]at hz;exact⟨_,K3 hl hm hz (fun h=>by cases h) (fun x' hx i hi=>by injection hx with hx;subst hx;exact hcell i ac)⟩
theorem Tj{aA:Nat}{v:Value}{y:DataW H × List MemPlace}(h:DataW.trod enc Tryz.prog W 0 (fun _=>true) held aA 37 [v]=some y):∃rows,B6 W v rows:=by
 rcases Go.Deep.open_int_rows Tryz.underlying37 Tryz.underlying22 Tryz.underlying3 ah ah h with⟨hcs,_⟩|⟨x,len,cap,A,L,C,Z,hcs,_,hl,hm,_,hr⟩
 .simp at hcs;subst hcs;exact⟨[], [],Sl.nil W 1,fun i r u hr=>by simp at hr⟩
 .simp at hcs;subst hcs;refine⟨(List.range len).map fun r=>(Z r).take (L r),(List.range len).map fun r=> .slice (A r) (L r) (C r),?_,fun i r u h1 h2=>?_⟩
  .refine⟨ag,some x,cap,ag,by simpa using hl,hm,fun hn=>?_⟩;simp at hn;have h0:=(hr 0 ac).1;have hx:=GZ h0 (.inr ⟨_,_,_,rfl⟩);have aB:(x.add 0)=x:=by simp[Addr.add]
   rw[aB]at hx;refine⟨x.block,x.off,congrArg some hx,fun j u hu=>?_⟩;simp only[List.getElem?_map]at hu;obtain⟨k,hk,rfl⟩:=Option.map_eq_some_iff.1 hu;have hj:j<len:=by have:=(List.getElem?_eq_some_iff.1 hk).1;simpa using this
   have e:k=j:=by simp[hj]at hk;exact hk.symm
   subst e;have:=(hr k ac).1;rw[hx,MP]at this;exact this
  .have hi:i<len:=by have:=(List.getElem?_eq_some_iff.1 h1).1;simpa using this
   simp[hi]at h1 h2;subst h1 h2;obtain⟨_,a1,a2,a3,_,a4,a5⟩:=hr i ac;exact K3 a1 a2 a3 a4 (fun x' hx j hj=>(a5 x' hx).2 j hj)
theorem Uw:Tryz.prog.cellsOf 3=1:=ah
theorem PA:Tryz.prog.cellsOf 22=1:=ah
theorem Ya:Tryz.prog.cellsOf 37=1:=ah
theorem WU:Tryz.prog.cellsOf 24=3:=ah
theorem Za:Tryz.prog.cellsOf 26=3:=ah
theorem K8{aA:Nat}{c0 c1 c2:Value}{y:DataW H × List MemPlace}(h:DataW.trod enc Tryz.prog W 0 (fun _=>true) held aA 24 [c0,c1,c2]=some y):
  ∃(P M:Int) (ml:List Int),c0= .int .i64 P/\c1= .int .i64 M/\Ak W c2 ml:=by
 obtain⟨xs,k,_,_,_,aB,hf⟩:=DataW.trod_struct Tryz.underlying24 h;have g0:=hf 0 _ rfl;have g1:=hf 1 _ rfl;have g2:=hf 2 _ rfl
 match xs,aB with
 | [y0,y1,y2],_=>
  simp[Uw,PA]at g0 g1 g2;obtain⟨P,e0,_,_⟩:=DataW.trod_int Tryz.underlying3 g0;obtain⟨M,e1,_,_⟩:=DataW.trod_int Tryz.underlying3 g1;obtain⟨l,hl⟩:=DV g2;simp at e0 e1;exact⟨P,M,l,e0,e1,hl⟩
theorem RE{aA:Nat}{c0 c1 c2:Value}{y:DataW H × List MemPlace}(h:DataW.trod enc Tryz.prog W 0 (fun _=>true) held aA 26 [c0,c1,c2]=some y):
  ∃(pl sl:List Int) (fr:Int),Ak W c0 pl/\Ak W c1 sl/\c2= .int .i64 fr:=by
 obtain⟨xs,k,_,_,_,aB,hf⟩:=DataW.trod_struct Tryz.underlying26 h;have g0:=hf 0 _ rfl;have g1:=hf 1 _ rfl;have g2:=hf 2 _ rfl
 match xs,aB with
 | [y0,y1,y2],_=>
  simp[Uw,PA]at g0 g1 g2;obtain⟨P,e0,_,_⟩:=DataW.trod_int Tryz.underlying3 g2;obtain⟨l,hl⟩:=DV g0;obtain⟨l',aC⟩:=DV g1;simp at e0;exact⟨l,l',P,hl,aC,e0⟩
theorem ET{r:Reach}{b0:Nat}{t:TypeId}{fs:Array Field}{v:Value}(ht:Tryz.prog.underlying t=some (.struct fs))(h:Value.okWide Tryz.prog W r b0 t v):∃cs,v= .agg cs/\cs.size=Tryz.prog.cellsOf t:=by
 simp only[Value.okWide,ht]at h;obtain⟨cs,h1,h2,_⟩:=h;exact⟨cs,h1,h2⟩
theorem VB{r:Reach}{b0:Nat}{t e:TypeId}{n:Nat}{v:Value}(ht:Tryz.prog.underlying t=some (.array n e))(h:Value.okWide Tryz.prog W r b0 t v):∃cs,v= .agg cs/\cs.size=Tryz.prog.cellsOf t:=by
 simp only[Value.okWide,ht]at h;obtain⟨cs,h1,h2,_⟩:=h;exact⟨cs,h1,h2⟩
theorem dk{P:Prop}(h:P:=by simpa[Value.cells]using hf):P:=h
theorem Pa{r:Reach}{b0:Nat}{v:Value}{d:DataW H}{p:List MemPlace}(hv:Value.okWide Tryz.prog W r b0 24 v)(h:DataW.Trod enc Tryz.prog W 0 (fun _=>true) held 24 v d p):
  ∃(P M:Int) (mv:Value) (ml:List Int),v= .agg #[.int .i64 P,.int .i64 M,mv]/\Ak W mv ml:=by
 obtain⟨cs,rfl,aA⟩:=ET Tryz.underlying24 hv;obtain⟨c0,c1,c2,rfl⟩:=Go.Joins.array3 (aA.trans WU);obtain⟨fuel,hf⟩:=h;obtain⟨P,M,ml,rfl,rfl,hl⟩:=K8 dk;exact⟨P,M,_,ml,rfl,hl⟩
theorem Tb{r:Reach}{b0:Nat}{v:Value}{d:DataW H}{p:List MemPlace}(hv:Value.okWide Tryz.prog W r b0 26 v)(h:DataW.Trod enc Tryz.prog W 0 (fun _=>true) held 26 v d p):
  ∃(pv sv:Value) (pl sl:List Int) (fr:Int),v= .agg #[pv,sv,.int .i64 fr]/\Ak W pv pl/\Ak W sv sl:=by
 obtain⟨cs,rfl,aA⟩:=ET Tryz.underlying26 hv;obtain⟨c0,c1,c2,rfl⟩:=Go.Joins.array3 (aA.trans Za);obtain⟨fuel,hf⟩:=h;obtain⟨pl,sl,fr,h1,h2,rfl⟩:=RE dk;exact⟨_,_,pl,sl,fr,rfl,h1,h2⟩
theorem Z0{α:Type}{cs:Array α}(h:cs.size=6):∃c0 c1 c2 c3 c4 c5,cs= #[c0,c1,c2,c3,c4,c5]:=by
 obtain⟨l⟩:=cs
 match l,h with
 | [c0,c1,c2,c3,c4,c5],_=>exact⟨c0,c1,c2,c3,c4,c5,rfl⟩
theorem Yk{α:Type}{cs:Array α}(h:cs.size=5):∃c0 c1 c2 c3 c4,cs= #[c0,c1,c2,c3,c4]:=by
 obtain⟨l⟩:=cs
 match l,h with
 | [c0,c1,c2,c3,c4],_=>exact⟨c0,c1,c2,c3,c4,rfl⟩
theorem Ru{v:Value}{d:DataW H}{p:List MemPlace}(h:DataW.Trod enc Tryz.prog W 0 (fun _=>true) held 22 v d p)(hv:∃a l c,v= .slice a l c):∃l,Ak W v l:=by
 obtain⟨fuel,hf⟩:=h;obtain⟨a,l,c,rfl⟩:=hv;exact DV dk
end
end
end Go.Proofs.YtehieobniamagaaGreat
