/- Small helpers over any program: worlds that only grow, slices that read as lists of cells. -/
import Derived.Test.YtehieobniamagaaGreatRows
import Derived.WalkKit
import Derived.WalkSpells
import Derived.Deep.RegionWith
import Derived.Deep.QuietTactic
import Derived.BigQuiet
import Derived.WalkLawsBesides
namespace Go.Proofs.YtehieobniamagaaGreat
set_option linter.all false
instance(b i:Nat):CoeDep (Nat×Nat) (b,i) Addr:=⟨⟨b,i,none⟩⟩
instance:Coe Int Value:=⟨fun x=>.int .i64 x⟩
instance:Coe Nat Value:=⟨fun x=>.int .i64 (x:Int)⟩
theorem nA{A:Sort _}(x:A):∃y,x=y:=⟨x,rfl⟩
section
open Go.RowKit
def Hia(p:Prop):Prop:=p
theorem Hia.o{p:Prop}(h:Hia p):p:=h
theorem Aa{p:Prop}(h:p):Hia p:=h
theorem Eq{p0 p1 p2 p3:Prop}(h0:p0)(h1:p1)(h2:p2)(h3:p3):Hia p0/\Hia p1/\Hia p2/\Hia p3:=⟨h0,h1,h2,h3⟩
theorem Of{p0 p1 p2 p3 p4:Prop}(h0:p0)(h1:p1)(h2:p2)(h3:p3)(h4:p4):Hia p0/\Hia p1/\Hia p2/\Hia p3/\Hia p4:=⟨h0,h1,h2,h3,h4⟩
theorem To{p0 p1 p2 p3 p4 p5:Prop}(h0:p0)(h1:p1)(h2:p2)(h3:p3)(h4:p4)(h5:p5):Hia p0/\Hia p1/\Hia p2/\Hia p3/\Hia p4/\Hia p5:=⟨h0,h1,h2,h3,h4,h5⟩
theorem OK{p0 p1 p2 p3 p4 p5 p6:Prop}(h0:p0)(h1:p1)(h2:p2)(h3:p3)(h4:p4)(h5:p5)(h6:p6):Hia p0/\Hia p1/\Hia p2/\Hia p3/\Hia p4/\Hia p5/\Hia p6:=⟨h0,h1,h2,h3,h4,h5,h6⟩
theorem On{p0 p1 p2 p3 p4 p5 p6 p7:Prop}(h0:p0)(h1:p1)(h2:p2)(h3:p3)(h4:p4)(h5:p5)(h6:p6)(h7:p7):Hia p0/\Hia p1/\Hia p2/\Hia p3/\Hia p4/\Hia p5/\Hia p6/\Hia p7:=⟨h0,h1,h2,h3,h4,h5,h6,h7⟩
theorem Ty{p0 p1 p2 p3 p4 p5 p6 p7 p8:Prop}(h0:p0)(h1:p1)(h2:p2)(h3:p3)(h4:p4)(h5:p5)(h6:p6)(h7:p7)(h8:p8):Hia p0/\Hia p1/\Hia p2/\Hia p3/\Hia p4/\Hia p5/\Hia p6/\Hia p7/\Hia p8:=⟨h0,h1,h2,h3,h4,h5,h6,h7,h8⟩
theorem Ha1{p0 p1 p2 p3 p4 p5 p6 p7 p8 p9:Prop}(h0:p0)(h1:p1)(h2:p2)(h3:p3)(h4:p4)(h5:p5)(h6:p6)(h7:p7)(h8:p8)(h9:p9):Hia p0/\Hia p1/\Hia p2/\Hia p3/\Hia p4/\Hia p5/\Hia p6/\Hia p7/\Hia p8/\Hia p9:=⟨h0,h1,h2,h3,h4,h5,h6,h7,h8,h9⟩
theorem Ha0{p0 p1 p2 p3 p4 p5 p6 p7 p8 p9 p10:Prop}(h0:p0)(h1:p1)(h2:p2)(h3:p3)(h4:p4)(h5:p5)(h6:p6)(h7:p7)(h8:p8)(h9:p9)(h10:p10):Hia p0/\Hia p1/\Hia p2/\Hia p3/\Hia p4/\Hia p5/\Hia p6/\Hia p7/\Hia p8/\Hia p9/\Hia p10:=⟨h0,h1,h2,h3,h4,h5,h6,h7,h8,h9,h10⟩
theorem Af{k:IntKind}{a b:Int}(h:a=b):Ending.returned (.int k a)= .returned (.int k b):=by rw[h]
theorem Aq{a b:Bool}(h:a=b):Ending.returned (.bool a)= .returned (.bool b):=by rw[h]
def Ex(w w':World):Prop:=Below w.heap.size w w'
theorem Ex.refl(w:World):Ex w w:=Below.refl _ _
theorem Ex.trans{a b c:World}(h:Ex a b)(k:Ex b c):Ex a c:=Below.trans h (Below.mono k h.size)
theorem Ex.drew{a b:World}(h:Ex a b):Ex a b.drew:=Below.drew h
theorem Ex.drewN{a b:World}(h:Ex a b)(n:Nat):Ex a (b.drewN n):=below_drewN h n
theorem Ex.alloc{a b:World}(h:Ex a b)(o:Obj):Ex a (b.alloc o):=Below.alloc h h.size o
theorem Ex.setCell{a b:World}(h:Ex a b){p:Addr}(hp:a.heap.size<=p.block)(u:Value):Ex a (b.setCell p u):=Below.setCell h hp u
theorem Ex.cell{w w':World}(h:Ex w w'){p:Addr}{u:Value}(hc:w.cell? p=some u):w'.cell? p=some u:=
 (Below.cell h (World.block_lt_of_cell? w _ hc)).trans hc
def Sl(w:World)(v:Value)(n size:Nat)(xs:List Value):Prop:=
 xs.length=n*size/\∃a cap,v= .slice a n cap/\n<=cap/\cap<=maxLen/\
  (0<n->∃b o,a=some ⟨b,o,none⟩/\∀j u,xs[j]?=some u->w.cell? ⟨b,o+j,none⟩=some u)
theorem Sl.ex{w w':World}{v:Value}{n size:Nat}{xs:List Value}(h:Sl w v n size xs)(hx:Ex w w'):Sl w' v n size xs:=by
 obtain⟨h1,a,cap,h2,h3,h4,h5⟩:=h;refine⟨h1,a,cap,h2,h3,h4,fun hn=>?_⟩;obtain⟨b,o,h6,h7⟩:=h5 hn;exact⟨b,o,h6,fun j u hu=>hx.cell (h7 j u hu)⟩
theorem ac{P:Prop}(h:P:=by omega):P:=h
theorem ag{P:Prop}(h:P:=by simp):P:=h
theorem Sl.nil(w:World)(size:Nat):Sl w (.slice none 0 0) 0 size []:=⟨ag,none,0,rfl,Nat.le_refl _,by unfold maxLen;omega,fun h=>absurd h ac⟩
theorem Sl.own{w:World}{base:Nat}{e:TypeId}{size:Nat}{v:Value}{n:Nat}{xs:List Value}(h:w.ownsRow base e size v n xs):Sl w v n size xs:=by
 refine⟨h.1,?_⟩;rcases h.2 with⟨h2,h3⟩|⟨g,cap,cur,hv,hb,hg,h1,h2,h3,h4⟩
 .exact⟨none,0,by rw[h2,h3],ac,by unfold maxLen;omega,fun h=>ac⟩
 .refine⟨some ⟨g,0,none⟩,cap,hv,h1,h2,fun _=>⟨g,0,rfl,fun j u hu=>?_⟩⟩;rw[Nat.zero_add,cell_of_row w g j cur e (0,0) hg];rw[<-h4,List.getElem?_take]at hu;split at hu
  .simpa using hu
  .cases hu
theorem cw{P:Prop}(h:P:=by rw[e]):P:=h
theorem Ac{w:World}{base:Nat}{e:TypeId}{size:Nat}{v:Value}{n:Nat}{xs:List Value}(h:w.ownsRow base e size v n xs){a:Addr}(ha:v.ownBlock≠some a.block)(u:Value):(w.setCell a u).ownsRow base e size v n xs:=by
 refine h.kept (row:=some a.block) ⟨rfl,rfl,rfl,by simp[World.setCell],fun k _ hk=>Below.heap_setCell _ _ _ _ (fun e=>hk cw)⟩ ?_;exact .inr ha
theorem Ai{w w':World}{base:Nat}{e:TypeId}{size:Nat}{v:Value}{n:Nat}{xs:List Value}(h:w.ownsRow base e size v n xs)(hx:Ex w w'):w'.ownsRow base e size v n xs:=by
 refine h.kept (row:=none) ⟨hx.os,hx.tape,hx.output,hx.size,fun k hk _=>hx.block k hk⟩ ?_;cases v.ownBlock <;> simp
theorem Ex.grown{a w w':World}{base:Nat}{e:TypeId}{size:Nat}{v:Value}{n:Nat}{xs:List Value}(h:Ex a w)(aA:w.ownsRow base e size v n xs)(hb:a.heap.size<=base)(hg:w.grownBy w' v.ownBlock):Ex a w':=
 Below.grown h hg h.size (fun k hk=>Nat.le_trans hb (aA.lt k hk).1)
theorem Ag{w:World}{B i j:Nat}{u:Value}(h:i≠j):(w.setCell (B,i) u).cell? (B,j)=w.cell? (B,j):=
 World.cell?_setCell_other _ _ _ _ (by intro e;injection e;omega)
theorem w64{x:Int}(h1:-9223372036854775808<=x)(h2:x<=9223372036854775807):wrap64 x=x:=IntWalk.wrap64_in _ ⟨h1,h2⟩
def Ap(l:List Int):List Value:=l.map (Value.int .i64)
theorem Bf(l:List Int):(Ap l).length=l.length:=List.length_map _
theorem Qn{l:List Int}{j:Nat}{x:Int}(h:l[j]?=some x):(Ap l)[j]?=some (.int .i64 x):=by simp[Ap,h]
def Aj(w:World)(v:Value)(l:List Int):Prop:=Sl w v l.length 1 (Ap l)
theorem Aj.ex{w w':World}{v:Value}{l:List Int}(h:Aj w v l)(hx:Ex w w'):Aj w' v l:=Sl.ex h hx
theorem Aj.open{w:World}{v:Value}{l:List Int}(h:Aj w v l):∃a cap,v= .slice a l.length cap/\l.length<=cap/\cap<=maxLen/\
  (0<l.length->∃b o,a=some ⟨b,o,none⟩/\∀j x,l[j]?=some x->w.cell? ⟨b,o+j,none⟩=some (.int .i64 x)):=by
 obtain⟨h1,a,cap,h2,h3,h4,h5⟩:=h;refine⟨a,cap,h2,h3,h4,fun hn=>?_⟩;obtain⟨b,o,h6,h7⟩:=h5 hn;exact⟨b,o,h6,fun j x hx=>h7 j _ (Qn hx)⟩
theorem Ld{P:Program}{f:FuncId}{aA:Array Value}{w:World}{n:Nat}{v:Value}
  (h:Calls P f aA (w.drewN n) fun e w'=>e= .returned v/\∃k,w'=(w.drewN n).drewN k):Calls P f aA (w.drewN n) fun e w''=>e= .returned v/\∃m,w''=w.drewN m:=
 h.mono fun _ _ ⟨he,k,hm⟩=>⟨he,n+k,by rw[hm,World.drewN_drewN]⟩
theorem W6(w:World)(l:List Int)(t:TypeId)(hl:l.length<=1000):Aj (w.alloc (.cells (Ap l).toArray t)) (.slice (some (w.heap.size,0)) l.length l.length) l:=by
 refine⟨by rw[Bf];omega,some ⟨w.heap.size,0,none⟩,l.length,rfl,Nat.le_refl _,by unfold maxLen;omega,fun _=>⟨_,_,rfl,fun j u h=>?_⟩⟩;rw[Nat.zero_add];simpa using h
end
section
abbrev Vc:=Nat->Int
def sX(m:Nat)(low:Vc)(v:Vc):Vc:=fun j=>if j<m then(if j=0 then 0 else v (j-1))-v (m-1)*low j else 0
def Dv(m:Nat)(low:Vc):Nat->Vc->Vc
 | 0,v=>v
 | k+1,v=>sX m low (Dv m low k v)
def ap(m:Nat)(low:Vc):Nat->Vc->Vc->Vc
 | 0,_,_=>fun _=>0
 | n+1,y,x=>fun j=>ap m low n y x j+y n*Dv m low n x j
def Aw:Vc:=fun j=>if j=0 then 1 else 0
def Fn(m:Nat)(low:Vc)(x y:Vc):Vc:=ap m low m y x
def SG(T:Vc->Vc):Prop:=∀(a b:Int) (v w:Vc),T (fun j=>a*v j+b*w j)=fun j=>a*T v j+b*T w j
variable {m:Nat} {low:Vc}
theorem H6:SG (sX m low):=by
 intro a b v w;funext j;unfold sX;split
 .split <;> grind
 .simp
theorem SG.comp{T U:Vc->Vc}(h:SG T)(k:SG U):SG (fun v=>T (U v)):=by
 intro a b v w;show T (U _)=_
 rw[k,h]
theorem Fb:∀k,SG (Dv m low k)
 | 0=>fun _ _ _ _=>rfl
 | k+1=>by
  have:=SG.comp (H6 (m:=m) (low:=low)) (Fb k);exact this
theorem SG.zero{T:Vc->Vc}(h:SG T):T (fun _=>0)=fun _=>0:=by
 have:=h 0 0 (fun _=>0) (fun _=>0);simp at this;exact this
theorem SG.add{T:Vc->Vc}(h:SG T)(v w:Vc):T (fun j=>v j+w j)=fun j=>T v j+T w j:=by
 have:=h 1 1 v w;simpa using this
theorem SG.add_smul{T:Vc->Vc}(h:SG T)(v w:Vc)(b:Int):T (fun j=>v j+b*w j)=fun j=>T v j+b*T w j:=by
 have:=h 1 b v w;simpa using this
theorem Mo:∀n y,SG (ap m low n y)
 | 0,y=>by intro a b v w;funext j;simp[ap]
 | n+1,y=>by
  intro a b v w;funext j;simp only[ap];rw[Mo n y,Fb n]
  grind
theorem Ke:∀i k v,Dv m low (i+k) v=Dv m low i (Dv m low k v)
 | 0,k,v=>by simp[Dv]
 | i+1,k,v=>by rw[Nat.add_right_comm];simp only[Dv];rw[Ke i k v]
theorem O7{T:Vc->Vc}(h:SG T)(hc:∀v,T (sX m low v)=sX m low (T v)):∀n y x,T (ap m low n y x)=ap m low n y (T x)
 | 0,y,x=>by simp only[ap];exact h.zero
 | n+1,y,x=>by
  have hk:∀k v,T (Dv m low k v)=Dv m low k (T v):=by
   intro k
   induction k with
   | zero=>intro v;rfl
   | succ k ih=>intro v;simp only[Dv];rw[hc,ih]
  simp only[ap];rw[h.add_smul,O7 h hc n y x,hk]
theorem ap_sX(n:Nat)(y x:Vc):ap m low n y (sX m low x)=sX m low (ap m low n y x):=(O7 H6 (fun _=>rfl) n y x).symm
theorem ap_ap(n k:Nat)(y z x:Vc):ap m low n y (ap m low k z x)=ap m low k z (ap m low n y x):=
 O7 (Mo n y) (fun v=>ap_sX n y v) k z x
theorem N8:∀i,i<m->Dv m low i Aw=fun j=>if j=i then 1 else 0
 | 0,_=>rfl
 | i+1,h=>by
  simp only[Dv];rw[N8 i (by omega)];funext j;unfold sX;show(if j<m then(if j=0 then 0 else if j-1=i then(1:Int) else 0)-(if m-1=i then(1:Int) else 0)*low j else 0)=_
  rw[show(if m-1=i then(1:Int) else 0)=0 by rw[if_neg (by omega)]];by_cases h1:j=i+1
  .subst h1;simp[h]
  .rw[if_neg h1];by_cases h2:j<m
   .rw[if_pos h2];by_cases h3:j=0
    .simp[h3]
    .rw[if_neg h3,if_neg (by omega)];simp
   .rw[if_neg h2]
theorem Mn:∀n (y:Vc),n<=m->ap m low n y Aw=fun j=>if j<n then y j else 0
 | 0,y,_=>by simp[ap]
 | n+1,y,h=>by
  simp only[ap];rw[Mn n y (by omega),N8 n (by omega)];funext j;show(if j<n then y j else 0)+y n*(if j=n then 1 else 0)=_
  by_cases h1:j<n
  .rw[if_pos h1,if_neg (show ¬j=n by omega),if_pos (by omega)];simp
  .rw[if_neg h1];by_cases h2:j=n
   .subst h2;simp
   .rw[if_neg h2,if_neg (by omega)];simp
def I0(m:Nat)(v:Vc):Prop:=∀j,m<=j->v j=0
theorem I0.ap_one{y:Vc}(h:I0 m y):ap m low m y Aw=y:=by
 rw[Go.Proofs.YtehieobniamagaaGreat.Mn m y (Nat.le_refl _)];funext j;by_cases h1:j<m
 .rw[if_pos h1]
 .rw[if_neg h1,h j ac]
theorem sX_sup(v:Vc):I0 m (sX m low v):=fun j h=>by unfold sX;rw[if_neg ac]
theorem Zc{v:Vc}(h:I0 m v):∀k,I0 m (Dv m low k v)
 | 0=>h
 | k+1=>sX_sup _
theorem O6{x:Vc}(h:I0 m x):∀n y,I0 m (ap m low n y x)
 | 0,y=>fun _ _=>rfl
 | n+1,y=>fun j hj=>by simp only[ap];rw[O6 h n y j hj,Zc h n j hj];simp
theorem FC{x y:Vc}(hx:I0 m x)(hy:I0 m y):Fn m low x y=Fn m low y x:=by
 unfold Fn
 conv=>lhs;rw[<-hx.ap_one (low:=low),ap_ap,hy.ap_one]
theorem FA{x y:Vc}(hx:I0 m x):I0 m (Fn m low x y):=O6 hx _ _
theorem RO{x y z:Vc}(hx:I0 m x)(hy:I0 m y)(hz:I0 m z):Fn m low (Fn m low x y) z=Fn m low x (Fn m low y z):=by
 rw[FC hx (FA hy),FC hx hy];unfold Fn;rw[ap_ap]
theorem WE{x:Vc}(hx:I0 m x)(hm:1<=m):Fn m low x Aw=x:=by
 have h1:I0 m Aw:=fun j hj=>by unfold Aw;rw[if_neg ac]
 rw[FC hx h1];exact hx.ap_one
theorem WF(x y z:Vc):Fn m low (fun j=>x j+y j) z=fun j=>Fn m low x z j+Fn m low y z j:=(Mo m z).add x y
def DX(m:Nat)(low:Vc)(x:Vc):Nat->Vc->Vc
 | 0,_=>fun _=>0
 | k+1,y=>fun j=>sX m low (DX m low x k (fun t=>y (t+1))) j+y 0*x j
theorem QV:∀n (y x:Vc),ap m low (n+1) y x=fun j=>y 0*x j+sX m low (ap m low n (fun t=>y (t+1)) x) j
 | 0,y,x=>by
  have h0:sX m low (fun _=>0)=fun _=>0:=H6.zero;funext j;simp only[ap,Dv];rw[h0];simp
 | n+1,y,x=>by
  funext j;rw[ap,QV n y x];rw[ap,H6.add_smul];simp only[Dv];exact Int.add_assoc _ _ _
theorem OJ:∀n (y x:Vc),DX m low x n y=ap m low n y x
 | 0,y,x=>rfl
 | n+1,y,x=>by
  funext j;rw[QV,DX,OJ n];exact Int.add_comm _ _
def Cv(p:Int)(v w:Vc):Prop:=∀j,v j%p=w j%p
theorem Cv.refl(p:Int)(v:Vc):Cv p v v:=fun _=>rfl
theorem Cv.symm{p:Int}{v w:Vc}(h:Cv p v w):Cv p w v:=fun j=>(h j).symm
theorem Cv.trans{p:Int}{u v w:Vc}(h:Cv p u v)(k:Cv p v w):Cv p u w:=fun j=>(h j).trans (k j)
theorem Cy{p a b:Int}:a%p=b%p↔∃c,a=b+p*c:=by
 constructor
 .intro h;have:=Int.emod_emod_of_dvd a (Int.dvd_refl p);have h1:=Int.mul_ediv_add_emod a p;have h2:=Int.mul_ediv_add_emod b p;exact⟨a/p-b/p,by rw[Int.mul_sub];omega⟩
 .rintro⟨c,rfl⟩;exact Int.add_mul_emod_self_left b p c
theorem ED{p a b c d:Int}(h:a%p=b%p)(k:c%p=d%p):(a+c)%p=(b+d)%p:=by
 obtain⟨x,rfl⟩:=Cy.1 h;obtain⟨y,rfl⟩:=Cy.1 k;exact Cy.2 ⟨x+y,by grind⟩
theorem F9{p a b c d:Int}(h:a%p=b%p)(k:c%p=d%p):(a*c)%p=(b*d)%p:=by
 obtain⟨x,rfl⟩:=Cy.1 h;obtain⟨y,rfl⟩:=Cy.1 k;exact Cy.2 ⟨x*d+b*y+p*x*y,by grind⟩
theorem IP{p a b c d:Int}(h:a%p=b%p)(k:c%p=d%p):(a-c)%p=(b-d)%p:=by
 obtain⟨x,rfl⟩:=Cy.1 h;obtain⟨y,rfl⟩:=Cy.1 k;exact Cy.2 ⟨x-y,by grind⟩
theorem Cv.sX{p:Int}{v w:Vc}(h:Cv p v w):Cv p (sX m low v) (sX m low w):=fun j=>by
 unfold Go.Proofs.YtehieobniamagaaGreat.sX;split
 .refine IP ?_ (F9 (h _) rfl);split
  .rfl
  .exact h _
 .rfl
theorem Cv.sXn{p:Int}{v w:Vc}(h:Cv p v w):∀k,Cv p (Dv m low k v) (Dv m low k w)
 | 0=>h
 | k+1=>(Cv.sXn h k).sX
theorem Cv.ap{p:Int}{v w y z:Vc}(h:Cv p v w)(k:Cv p y z):∀n,Cv p (ap m low n y v) (ap m low n z w)
 | 0=>fun _=>rfl
 | n+1=>fun j=>by
  simp only[Go.Proofs.YtehieobniamagaaGreat.ap];exact ED (Cv.ap h k n j) (F9 (k n) (h.sXn n j))
theorem Cv.mulV{p:Int}{v w y z:Vc}(h:Cv p v w)(k:Cv p y z):Cv p (Fn m low v y) (Fn m low w z):=h.ap k m
def AK(p m x:Nat):Vc:=fun j=>if j<m then((x/p^j%p:Nat):Int) else 0
def EJ(p:Nat):Nat->Vc->Int
 | 0,_=>0
 | n+1,v=>EJ p n v+v n*((p^n:Nat):Int)
theorem Bq(p m x:Nat):I0 m (AK p m x):=fun j h=>by unfold AK;rw[if_neg ac]
theorem DF{p:Nat}(hp:1<=p)(m x j:Nat):0<=AK p m x j/\AK p m x j<p:=by
 unfold AK;split
 .have:=Nat.mod_lt (x/p^j) hp;omega
 .omega
def IsD(p m:Nat)(v:Vc):Prop:=I0 m v/\∀j,0<=v j/\v j<p
theorem Di{p:Nat}{v:Vc}(h:∀j,0<=v j/\v j<p):∀n,0<=EJ p n v/\EJ p n v<((p^n:Nat):Int)
 | 0=>by simp[EJ]
 | n+1=>by
  obtain⟨h1,h2⟩:=Di h n;obtain⟨h3,h4⟩:=h n;simp only[EJ];have h5:0<=v n*((p^n:Nat):Int):=Int.mul_nonneg h3 ac;have h6:(v n+1)*((p^n:Nat):Int)<=p*((p^n:Nat):Int):=Int.mul_le_mul_of_nonneg_right ac ac;have h7:((p^(n+1):Nat):Int)=p*((p^n:Nat):Int):=by rw[Nat.pow_succ,Int.natCast_mul,Int.mul_comm]
  rw[Int.add_mul]at h6;omega
theorem DY{p:Nat}{v w:Vc}:∀n,(∀j,j<n->v j=w j)->EJ p n v=EJ p n w
 | 0,_=>rfl
 | n+1,h=>by simp only[EJ];rw[DY n fun j hj=>h j (by omega),h n (by omega)]
theorem T6{p:Nat}(hp:1<=p)(m x:Nat):∀n,n<=m->EJ p n (AK p m x)=((x%p^n:Nat):Int)
 | 0,_=>by simp[EJ,Nat.mod_one]
 | n+1,h=>by
  simp only[EJ];rw[T6 hp m x n (by omega)];unfold AK;rw[if_pos (by omega),Nat.pow_succ,Nat.mod_mul,Int.natCast_add,Int.natCast_mul,Int.mul_comm (((x/p^n%p:Nat)):Int)]
theorem XS{p m x:Nat}(hp:1<=p)(h:x<p^m):EJ p m (AK p m x)=x:=by
 rw[T6 hp m x m (Nat.le_refl _),Nat.mod_eq_of_lt h]
theorem T4{p:Nat}(hp:1<=p){v:Vc}(h:∀j,0<=v j/\v j<p):∀n j,j<n->(EJ p n v).toNat/p^j%p=(v j).toNat
 | 0,j,hj=>by omega
 | n+1,j,hj=>by
  obtain⟨h1,h2⟩:=Di h n;obtain⟨h3,h4⟩:=h n;have ih:=T4 hp h n;simp only[EJ];obtain⟨a,ha⟩:=Int.eq_ofNat_of_zero_le h1;obtain⟨b,hb⟩:=Int.eq_ofNat_of_zero_le h3;have aC:(EJ p n v+v n*((p^n:Nat):Int)).toNat=a+b*p^n:=by rw[ha,hb,<-Int.natCast_mul,<-Int.natCast_add,Int.toNat_natCast]
  have aB:a<p^n:=ac;have aA:1<=p^n:=Nat.pow_pos hp;rw[aC];rcases Nat.eq_or_lt_of_le (show j<=n by omega) with e|e
  .subst e;rw[hb,Nat.add_mul_div_right _ _ aA,Nat.div_eq_of_lt aB,Nat.zero_add,Nat.mod_eq_of_lt ac];rfl
  .rw[<-ih j e,ha,Int.toNat_natCast];obtain⟨c,rfl⟩:∃c,n=j+(c+1):=⟨n-j-1,ac⟩;rw[show b*p^(j+(c+1))=b*p^c*p*p^j by rw[Nat.pow_add,Nat.pow_succ];ac_rfl,Nat.add_mul_div_right _ _ (Nat.pow_pos hp),Nat.add_mul_mod_self_right]
theorem Md{p m:Nat}{v:Vc}(hp:1<=p)(h:IsD p m v):AK p m (EJ p m v).toNat=v:=by
 funext j;unfold AK;split
 .rw[T4 hp h.2 m j ‹_›];have:=(h.2 j).1;omega
 .exact(h.1 j ac).symm
end
def rep(p m:Nat)(v:Vc):Nat:=(EJ p m (fun j=>v j%p)).toNat
section
variable {p m:Nat}
theorem Zk(hp:1<=p){v:Vc}(h:I0 m v):IsD p m (fun j=>v j%p):=
 ⟨fun j hj=>by show v j%p=0;rw[h j hj];simp,fun j=>⟨Int.emod_nonneg _ ac,Int.emod_lt_of_pos _ ac⟩⟩
theorem Rs(hp:1<=p)(v:Vc):rep p m v<p^m:=by
 have h:∀j,0<=v j%(p:Int)/\v j%(p:Int)<p:=fun j=>⟨Int.emod_nonneg _ ac,Int.emod_lt_of_pos _ ac⟩;have:=Di (v:=fun j=>v j%(p:Int)) h m;unfold rep;omega
theorem dig_rep(hp:1<=p){v:Vc}(h:I0 m v):AK p m (rep p m v)=fun j=>v j%p:=Md hp (Zk hp h)
theorem Ck(hp:1<=p){v:Vc}(h:I0 m v):Cv p (AK p m (rep p m v)) v:=by
 rw[dig_rep hp h];exact fun j=>Int.emod_emod_of_dvd _ (Int.dvd_refl _)
theorem Fv{v w:Vc}(h:Cv p v w):rep p m v=rep p m w:=by
 unfold rep
 congr 1
 exact DY m fun j _=>h j
theorem Kf(hp:1<=p){x:Nat}(h:x<p^m):rep p m (AK p m x)=x:=by
 unfold rep;rw[DY (w:=AK p m x) m fun j _=>Int.emod_eq_of_lt (DF hp m x j).1 (DF hp m x j).2,XS hp h];rfl
def AH(p m x y:Nat):Nat:=rep p m (fun j=>AK p m x j+AK p m y j)
def CI(p m x:Nat):Nat:=rep p m (fun j=>-AK p m x j)
def Al(p m:Nat)(low:Vc)(x y:Nat):Nat:=rep p m (Fn m low (AK p m x) (AK p m y))
variable {low:Vc}
theorem G9(hp:1<=p)(x y:Nat):AH p m x y<p^m:=Rs hp _
theorem Dg(hp:1<=p)(x:Nat):CI p m x<p^m:=Rs hp _
theorem Bc(hp:1<=p)(x y:Nat):Al p m low x y<p^m:=Rs hp _
theorem O8{v w:Vc}(hv:I0 m v)(hw:I0 m w):I0 m (fun j=>v j+w j):=fun j hj=>by show v j+w j=0;rw[hv j hj,hw j hj];rfl
theorem ZC{v:Vc}(hv:I0 m v):I0 m (fun j=>-v j):=fun j hj=>by show-v j=0;rw[hv j hj];rfl
theorem Cv.add{p:Int}{v v' w w':Vc}(h:Cv p v v')(k:Cv p w w'):Cv p (fun j=>v j+w j) (fun j=>v' j+w' j):=fun j=>ED (h j) (k j)
theorem DU(x y:Nat):AH p m x y=AH p m y x:=by
 unfold AH;congr 1;funext j;exact Int.add_comm _ _
theorem BI(hp:1<=p)(x y z:Nat):AH p m (AH p m x y) z=AH p m x (AH p m y z):=by
 unfold AH;refine Fv ?_;refine((Ck hp (O8 (Bq p m x) (Bq p m y))).add (Cv.refl _ _)).trans ?_;refine Cv.symm (((Cv.refl _ _).add (Ck hp (O8 (Bq p m y) (Bq p m z)))).trans ?_);intro j;show(_+(_+_))%(p:Int)=(_+_+_)%(p:Int)
 rw[Int.add_assoc]
theorem IT(p m:Nat):AK p m 0=fun _=>0:=by
 funext j;unfold AK;split <;> simp
theorem Cg(hp:1<=p){x:Nat}(h:x<p^m):AH p m x 0=x:=by
 unfold AH;rw[IT];simp only[Int.add_zero];exact Kf hp h
theorem DO(hp:1<=p){x:Nat}(h:x<p^m):AH p m 0 x=x:=by rw[DU,Cg hp h]
theorem PR(hp:1<=p):rep p m (fun _=>0)=0:=by
 have:=Kf (m:=m) hp (x:=0) (Nat.pow_pos hp)
 rwa[IT]at this
theorem CR(hp:1<=p)(x:Nat):AH p m x (CI p m x)=0:=by
 unfold AH CI;refine(Fv ?_).trans (PR hp);refine((Cv.refl _ _).add (Ck hp (ZC (Bq p m x)))).trans ?_;intro j;show(_ +-_)%(p:Int)=_
 rw[Int.add_right_neg]
theorem A5(x y:Nat):Al p m low x y=Al p m low y x:=by
 unfold Al;rw[FC (Bq p m x) (Bq p m y)]
theorem Bp(hp:1<=p)(x y z:Nat):Al p m low (Al p m low x y) z=Al p m low x (Al p m low y z):=by
 unfold Al;refine Fv ?_;refine((Ck hp (FA (Bq p m x))).mulV (Cv.refl _ _)).trans ?_;rw[RO (Bq p m x) (Bq p m y) (Bq p m z)];exact(Cv.refl _ _).mulV (Ck hp (FA (Bq p m y))).symm
theorem O0(hp:2<=p)(hm:1<=m):AK p m 1=Aw:=by
 funext j;unfold AK Aw;rcases j with _|j
 .rw[if_pos (show 0<m by omega),if_pos rfl,Nat.pow_zero,Nat.div_one,Nat.mod_eq_of_lt ac];rfl
 .rw[if_neg (show ¬j+1=0 by omega)];split
  .have:1<p^(j+1):=Nat.one_lt_pow ac ac;rw[Nat.div_eq_of_lt this];simp
  .rfl
theorem Bw(hp:2<=p)(hm:1<=m):1<p^m:=Nat.one_lt_pow ac ac
theorem Bz(hp:2<=p)(hm:1<=m){x:Nat}(h:x<p^m):Al p m low x 1=x:=by
 unfold Al;rw[O0 hp hm,WE (Bq p m x) hm,Kf ac h]
theorem Cr(hp:2<=p)(hm:1<=m){x:Nat}(h:x<p^m):Al p m low 1 x=x:=by rw[A5,Bz hp hm h]
theorem BY(hp:1<=p)(x:Nat):Al p m low 0 x=0:=by
 unfold Al Fn;rw[IT,(Mo m _).zero,PR hp]
theorem Js(hp:1<=p)(x y z:Nat):Al p m low (AH p m x y) z=AH p m (Al p m low x z) (Al p m low y z):=by
 unfold Al AH;refine Fv ?_;refine((Ck hp (O8 (Bq p m x) (Bq p m y))).mulV (Cv.refl _ _)).trans ?_;rw[WF];exact((Ck hp (FA (Bq p m x))).add (Ck hp (FA (Bq p m y)))).symm
def BO(p m:Nat)(low:Vc)(x:Nat):Nat->Nat
 | 0=>1
 | k+1=>Al p m low (BO p m low x k) x
theorem Dn(hp:2<=p)(hm:1<=m)(x:Nat):∀k,BO p m low x k<p^m
 | 0=>Bw hp hm
 | k+1=>Bc (by omega) _ _
theorem CQ(hp:2<=p)(hm:1<=m)(x i:Nat):∀k,BO p m low x (i+k)=Al p m low (BO p m low x i) (BO p m low x k)
 | 0=>by rw[Nat.add_zero,BO,Bz hp hm (Dn hp hm x i)]
 | k+1=>by rw[<-Nat.add_assoc,BO,CQ hp hm x i k,Bp (by omega)];rfl
def De(p m:Nat)(low:Vc)(x:Nat):Prop:=BO p m low x (p^m-1)=1/\∀k,1<=k->k<p^m-1->BO p m low x k≠1
theorem De.inj(hp:2<=p)(hm:1<=m){x:Nat}(h:De p m low x){i j:Nat}(hj:j<p^m-1)(hij:i<j):BO p m low x i≠BO p m low x j:=fun e=>by
 have h1:BO p m low x (i+(p^m-1-i))=BO p m low x (j+(p^m-1-i)):=by rw[CQ hp hm,CQ hp hm,e]
 rw[show i+(p^m-1-i)=p^m-1 by omega,show j+(p^m-1-i)=(j-i)+(p^m-1) by omega,CQ hp hm,h.1,Bz hp hm (Dn hp hm x _)]at h1;exact h.2 (j-i) ac ac h1.symm
theorem De.ne(hp:2<=p)(hm:1<=m){x:Nat}(h:De p m low x){i:Nat}(hi:i<=p^m-1):BO p m low x i≠0:=fun e=>by
 have h1:=CQ (low:=low) hp hm x i (p^m-1-i);rw[e,BY ac,show i+(p^m-1-i)=p^m-1 by omega,h.1]at h1;omega
theorem RG:∀(n:Nat) (L:List Nat),L.Nodup->L.length=n->(∀x∈L,1<=x/\x<=n)->∀x,1<=x->x<=n->x∈L:=by
 intro n
 induction n with
 | zero=>intro L _ _ _ x h1 h2;omega
 | succ n ih=>
  intro L hd hl hr x h1 h2;by_cases hm:n+1∈L
  .have aD:=hd.erase (n+1);have aA:∀y,y∈L.erase (n+1)↔y≠n+1/\y∈L:=fun y=>hd.mem_erase_iff;by_cases hx:x=n+1
   .exact hx ▸ hm
   .have:=ih (L.erase (n+1)) aD (by rw[List.length_erase_of_mem hm,hl];rfl) (fun y hy=>by
     obtain⟨a,b⟩:=(aA y).1 hy;have:=hr y b;omega) x h1 ac
    exact((aA x).1 this).2
  .exfalso;rcases L with _|⟨a,L⟩
   .simp at hl
   .have aC:=List.nodup_cons.1 hd;have aB:∀y∈a :: L,1<=y/\y<=n:=fun y hy=>by
     have:=hr y hy;have:y≠n+1:=fun e=>hm (e ▸ hy);omega
    have ha:=aB a (List.mem_cons_self ..);exact aC.1 (ih L aC.2 (by simpa using hl) (fun y hy=>aB y (List.mem_cons_of_mem _ hy)) a ha.1 ha.2)
theorem Df{f:Nat->Nat}{n:Nat}(h:∀i j,j<n->i<j->f i≠f j):((List.range n).map f).Nodup:=by
 rw[List.nodup_iff_pairwise_ne,List.pairwise_map];refine List.Pairwise.imp_of_mem ?_ List.pairwise_lt_range;intro a b ha hb aA;exact h a b (List.mem_range.1 hb) aA
theorem De.all(hp:2<=p)(hm:1<=m){x:Nat}(h:De p m low x){y:Nat}(h1:1<=y)(h2:y<p^m):∃k,k<p^m-1/\BO p m low x k=y:=by
 have:=RG (p^m-1) ((List.range (p^m-1)).map (BO p m low x)) (Df fun i j hj aA=>h.inj hp hm hj aA) ag (fun z hz=>by
  obtain⟨k,hk,rfl⟩:=List.mem_map.1 hz;have:=h.ne hp hm (i:=k) (by have:=List.mem_range.1 hk;omega);have:=Dn (low:=low) hp hm x k;omega) y h1 ac
 obtain⟨k,hk,e⟩:=List.mem_map.1 this;exact⟨k,List.mem_range.1 hk,e⟩
def Hr(p m:Nat)(low:Vc):Prop:=∃x,1<=x/\x<p^m/\De p m low x
theorem De.mod(hp:2<=p)(hm:1<=m){x:Nat}(h:De p m low x)(k:Nat):BO p m low x (k%(p^m-1))=BO p m low x k:=by
 have aA:∀c r,BO p m low x (c*(p^m-1)+r)=BO p m low x r:=by
  intro c
  induction c with
  | zero=>intro r;simp
  | succ c ih=>intro r;rw[Nat.succ_mul,Nat.add_assoc,ih,CQ hp hm,h.1,Cr hp hm (Dn hp hm x r)]
 have:=aA (k/(p^m-1)) (k%(p^m-1));rw[Nat.mul_comm,Nat.div_add_mod]at this;exact this.symm
theorem Hr.inv(hp:2<=p)(hm:1<=m)(h:Hr p m low){y:Nat}(h1:1<=y)(h2:y<p^m):∃z,1<=z/\z<p^m/\Al p m low y z=1:=by
 obtain⟨x,_,_,hx⟩:=h;obtain⟨k,hk,rfl⟩:=hx.all hp hm h1 h2;refine⟨BO p m low x (p^m-1-k),?_,Dn hp hm x _,?_⟩
 .have:=hx.ne hp hm (i:=p^m-1-k) ac;omega
 .rw[<-CQ hp hm,show k+(p^m-1-k)=p^m-1 by omega,hx.1]
theorem Hr.cancel(hp:2<=p)(hm:1<=m)(h:Hr p m low){y a b:Nat}(h1:1<=y)(h2:y<p^m)(ha:a<p^m)(hb:b<p^m)(e:Al p m low a y=Al p m low b y):a=b:=by
 obtain⟨z,_,_,hz⟩:=h.inv hp hm h1 h2;have:Al p m low (Al p m low a y) z=Al p m low (Al p m low b y) z:=cw
 rwa[Bp ac,Bp ac,hz,Bz hp hm ha,Bz hp hm hb]at this
theorem Hr.ne_zero(hp:2<=p)(hm:1<=m)(h:Hr p m low){a b:Nat}(ha:1<=a)(aB:a<p^m)(hb:1<=b)(aA:b<p^m):1<=Al p m low a b:=by
 rcases Nat.eq_zero_or_pos (Al p m low a b) with e|e
 .have:=h.cancel hp hm hb aA aB (Nat.pow_pos ac) (e.trans (BY ac b).symm);omega
 .exact e
theorem De.inv(hp:2<=p)(hm:1<=m){x:Nat}(h:De p m low x){k:Nat}(hk:k<p^m-1):Al p m low (BO p m low x k) (BO p m low x ((p^m-1-k)%(p^m-1)))=1:=by
 rw[h.mod hp hm,<-CQ hp hm,show k+(p^m-1-k)=p^m-1 by omega,h.1]
def JB(p m:Nat)(low:Vc)(x k:Nat):Prop:=∀i,i<k->BO p m low x i≠0/\∀j,j<i->BO p m low x j≠BO p m low x i
def Mr(p m:Nat)(low:Vc)(x L:Nat):Prop:=1<=L/\L<=p^m-1/\JB p m low x L/\(BO p m low x L=0∨∃i,i<L/\BO p m low x i=BO p m low x L)
theorem JB.succ{x k:Nat}(h:JB p m low x k)(h0:BO p m low x k≠0)(hn:∀j,j<k->BO p m low x j≠BO p m low x k):JB p m low x (k+1):=fun i hi=>by
 rcases Nat.eq_or_lt_of_le (show i<=k by omega) with e|e
 .subst e;exact⟨h0,hn⟩
 .exact h i e
theorem JB.one(hp:2<=p)(hm:1<=m)(x:Nat):JB p m low x 1:=fun i hi=>by
 obtain rfl:i=0:=ac;exact⟨by simp[BO],fun j hj=>ac⟩
theorem JB.len(hp:2<=p)(hm:1<=m){x k:Nat}(h:JB p m low x k):k<=p^m-1:=by
 rcases Nat.lt_or_ge (p^m-1) k with hk|hk
 .exfalso;have h1:JB p m low x (p^m-1):=fun i hi=>h i ac;have:=RG (p^m-1) ((List.range (p^m-1)).map (BO p m low x)) (Df fun i j hj aA=>(h1 j hj).2 i aA) ag (fun z hz=>by
   obtain⟨i,hi,rfl⟩:=List.mem_map.1 hz;have:=(h1 i (List.mem_range.1 hi)).1;have:=Dn (low:=low) hp hm x i;omega) (BO p m low x (p^m-1)) (by have:=(h _ hk).1;omega) (by have:=Dn (low:=low) hp hm x (p^m-1);omega)
  obtain⟨i,hi,e⟩:=List.mem_map.1 this;exact(h _ hk).2 i (List.mem_range.1 hi) e
 .exact hk
theorem Mr.gen(hp:2<=p)(hm:1<=m){x L:Nat}(h:Mr p m low x L):De p m low x↔L=p^m-1/\BO p m low x (p^m-1)=1:=by
 obtain⟨h1,h2,h3,h4⟩:=h;constructor
 .intro hg;refine⟨?_,hg.1⟩;rcases Nat.eq_or_lt_of_le h2 with e|e
  .exact e
  .exfalso;rcases h4 with h4|⟨i,hi,h4⟩
   .exact hg.ne hp hm ac h4
   .exact hg.inj hp hm e hi h4
 .rintro⟨rfl,h5⟩;refine⟨h5,fun k k1 k2 e=>?_⟩;exact(h3 k k2).2 0 ac (by rw[e];rfl)
end
def Iv(c:Vc)(k:Nat)(v:Int):Vc:=fun j=>if j=k then v else c j
section
variable {m:Nat} {low:Vc}
theorem IZ{n:Nat}{c d x:Vc}(h:∀j,j<n->c j=d j):ap m low n c x=ap m low n d x:=by
 induction n with
 | zero=>rfl
 | succ n ih=>simp only[ap];rw[ih fun j hj=>h j ac,h n ac]
theorem NJ{n k:Nat}{c x:Vc}{v:Int}(h:n<=k):ap m low n (Iv c k v) x=ap m low n c x:=
 IZ fun j hj=>by unfold Iv;rw[if_neg ac]
theorem Sx{c x:Vc}{v:Int}{k:Nat}:∀n,k<n->ap m low n (Iv c k v) x=fun j=>ap m low n c x j+(v-c k)*Dv m low k x j
 | 0,h=>by omega
 | n+1,h=>by
  funext j;simp only[ap];rcases Nat.eq_or_lt_of_le (show k<=n by omega) with e|e
  .subst e;rw[NJ (Nat.le_refl _)];unfold Iv;rw[if_pos rfl]
   grind
  .rw[Sx n e];rw[show Iv c k v n=c n by unfold Iv;rw[if_neg (by omega)]]
   grind
theorem Vm{p:Int}{n i j:Nat}{a b c:Vc}(hk:i+j<n)
  (h:Cv p (ap m low n c Aw) (fun t=>ap m low i a b t+a i*Dv m low i (ap m low j b Aw) t)):
  Cv p (ap m low n (Iv c (i+j) ((c (i+j)+a i*b j)%p)) Aw) (fun t=>ap m low i a b t+a i*Dv m low i (ap m low (j+1) b Aw) t):=by
 intro t;rw[Sx n hk];dsimp only;have e1:Dv m low i (ap m low (j+1) b Aw) t=Dv m low i (ap m low j b Aw) t+b j*Dv m low (i+j) Aw t:=by
  simp only[ap];rw[(Fb i).add_smul,Ke]
 rw[e1];have e2:=h t;dsimp only at e2;generalize ap m low n c Aw t=A at *;generalize ap m low i a b t=B at *;generalize Dv m low i (ap m low j b Aw) t=C at *;generalize Dv m low (i+j) Aw t=D at *;have e3:((c (i+j)+a i*b j)%p-c (i+j))%p=(a i*b j)%p:=by
  have:((c (i+j)+a i*b j)%p-c (i+j))%p=((c (i+j)+a i*b j)-c (i+j))%p:=IP (Int.emod_emod_of_dvd _ (Int.dvd_refl _)) rfl;rw[this];congr 1;omega
 refine(ED e2 (F9 e3 rfl)).trans ?_
 congr 1
 grind
theorem Vl(p:Int)(n:Nat)(a b:Vc):Cv p (ap m low n (fun _=>0) Aw) (fun t=>ap m low 0 a b t+a 0*Dv m low 0 (ap m low 0 b Aw) t):=by
 intro t;have:∀n,ap m low n (fun _=>0) Aw=fun _=>0:=by
  intro n
  induction n with
  | zero=>rfl
  | succ n ih=>simp only[ap];rw[ih];funext j;simp
 rw[this n];simp[ap,Dv]
theorem XR{p:Int}{n i:Nat}{a b c:Vc}(hb:I0 m b)
  (h:Cv p (ap m low n c Aw) (fun t=>ap m low i a b t+a i*Dv m low i (ap m low m b Aw) t)):
  Cv p (ap m low n c Aw) (fun t=>ap m low (i+1) a b t+a (i+1)*Dv m low (i+1) (ap m low 0 b Aw) t):=by
 intro t;rw[h t];dsimp only;have e:Dv m low (i+1) (ap m low 0 b Aw) t=0:=by
  simp only[ap];rw[(Fb (i+1)).zero]
 rw[e,hb.ap_one];simp only[ap]
 congr 1
 omega
theorem S2(hm:1<=m):Dv m low m Aw=fun j=>-ap m low m low Aw j:=by
 rw[Mn m low (Nat.le_refl _)];obtain⟨k,rfl⟩:∃k,m=k+1:=⟨m-1,ac⟩;rw[show Dv (k+1) low (k+1) Aw=sX (k+1) low (Dv (k+1) low k Aw) from rfl,N8 k ac];funext j;show(if j<k+1 then(if j=0 then 0 else if j-1=k then(1:Int) else 0)-(if k+1-1=k then(1:Int) else 0)*low j else 0)=- (if j<k+1 then low j else 0)
 by_cases hj:j<k+1
 .have e:(if j=0 then(0:Int) else if j-1=k then 1 else 0)=0:=by
   split
   .rfl
   .rw[if_neg ac]
  rw[if_pos hj,if_pos hj,e,show(if k+1-1=k then(1:Int) else 0)=1 by rw[if_pos ac]];omega
 .rw[if_neg hj,if_neg hj];rfl
theorem PS{p:Int}{i j:Nat}{c c0:Vc}{T:Vc}(hi:m<=i)(hj:j<m)
  (h:Cv p (fun t=>ap m low i c Aw t) (fun t=>ap m low i c0 Aw t-c0 i*Dv m low (i-m) (ap m low j low Aw) t)) (hc:c i=c0 i):
  Cv p (fun t=>ap m low i (Iv c (i-m+j) ((c (i-m+j)+(p-c i)*low j)%p)) Aw t) (fun t=>ap m low i c0 Aw t-c0 i*Dv m low (i-m) (ap m low (j+1) low Aw) t):=by
 intro t;show ap m low i (Iv c (i-m+j) ((c (i-m+j)+(p-c i)*low j)%p)) Aw t%p=_
 rw[Sx i ac];have e1:Dv m low (i-m) (ap m low (j+1) low Aw) t=Dv m low (i-m) (ap m low j low Aw) t+low j*Dv m low (i-m+j) Aw t:=by
  simp only[ap];rw[(Fb (i-m)).add_smul,Ke]
 have e2:=h t;dsimp only at e2 ⊢;rw[e1];have e3:((c (i-m+j)+(p-c i)*low j)%p-c (i-m+j))%p=(- (c0 i*low j))%p:=by
  have:((c (i-m+j)+(p-c i)*low j)%p-c (i-m+j))%p=((c (i-m+j)+(p-c i)*low j)-c (i-m+j))%p:=IP (Int.emod_emod_of_dvd _ (Int.dvd_refl _)) rfl;rw[this,hc];refine Cy.2 ⟨low j,by grind⟩
 refine(ED e2 (F9 e3 rfl)).trans ?_
 congr 1
 generalize ap m low i c0 Aw t=A at *;generalize Dv m low (i-m) (ap m low j low Aw) t=B at *;generalize Dv m low (i-m+j) Aw t=C at *
 grind
theorem S8{p:Int}{i:Nat}{c c0 T:Vc}(hm:1<=m)(hi:m<=i)(h0:Cv p (ap m low (i+1) c0 Aw) T)
  (h:Cv p (fun t=>ap m low i c Aw t) (fun t=>ap m low i c0 Aw t-c0 i*Dv m low (i-m) (ap m low m low Aw) t)):Cv p (ap m low i c Aw) T:=by
 intro t;rw[<-h0 t];have e:=h t;dsimp only at e;rw[e]
 congr 1
 simp only[ap];have e2:Dv m low i Aw t=- Dv m low (i-m) (ap m low m low Aw) t:=by
  rw[show i=(i-m)+m by omega,Ke,S2 hm];have e3:=Fb (m:=m) (low:=low) (i-m) (-1) 0 (ap m low m low Aw) (fun _=>0);have e4:=congrFun e3 t;simp only[Int.zero_mul,Int.add_zero,Int.neg_mul,Int.one_mul]at e4;rw[show i-m+m-m=i-m by omega];exact e4
 rw[e2]
 grind
theorem Nm(p:Int){i:Nat}(c:Vc):Cv p (fun t=>ap m low i c Aw t) (fun t=>ap m low i c Aw t-c i*Dv m low (i-m) (ap m low 0 low Aw) t):=by
 intro t;have e:Dv m low (i-m) (ap m low 0 low Aw) t=0:=by simp only[ap];rw[(Fb (i-m)).zero]
 dsimp only;rw[e];simp
theorem Zl{p m:Nat}{low:Vc}(hp:1<=p){x y:Nat}{c:Vc}(hc:∀j,j<m->0<=c j/\c j<p)(h:Cv p (ap m low m c Aw) (ap m low m (AK p m x) (AK p m y))):
  EJ p m c=((Al p m low x y:Nat):Int):=by
 unfold Al rep;rw[FC (Bq p m x) (Bq p m y)];unfold Fn;rw[Int.toNat_of_nonneg (Di (fun j=>⟨Int.emod_nonneg _ ac,Int.emod_lt_of_pos _ ac⟩) m).1];refine DY m fun j hj=>?_;have h1:=h j;rw[Mn m c (Nat.le_refl _)]at h1;dsimp only at h1;rw[if_pos hj]at h1;rw[<-h1];exact(Int.emod_eq_of_lt (hc j hj).1 (hc j hj).2).symm
end
section
variable {m d:Nat} {f low:Vc}
def pj(m d:Nat)(low v:Vc):Vc:=ap d low m v Aw
theorem JZ{n:Nat}{x:Vc}(a b:Int)(v w:Vc):ap d low n (fun j=>a*v j+b*w j) x=fun t=>a*ap d low n v x t+b*ap d low n w x t:=by
 induction n with
 | zero=>funext t;simp[ap]
 | succ n ih=>funext t;simp only[ap];rw[ih];grind
theorem J0{n:Nat}{x:Vc}(v w:Vc)(b:Int):ap d low n (fun j=>v j+b*w j) x=fun t=>ap d low n v x t+b*ap d low n w x t:=by
 have:=JZ (d:=d) (low:=low) (n:=n) (x:=x) 1 b v w;simpa using this
theorem NK(v x:Vc):∀n,ap d low (n+1) (fun j=>if j=0 then 0 else v (j-1)) x=sX d low (ap d low n v x)
 | 0=>by
  have:sX d low (fun _=>0)=fun _=>0:=H6.zero;simp only[ap];rw[this];funext t;simp
 | n+1=>by
  rw[ap,NK v x n];rw[ap,H6.add_smul];funext t;simp only[Dv];rw[if_neg ac,Nat.add_sub_cancel]
theorem pj_sX{p:Int}(hm:1<=m)(h0:Cv p (fun t=>ap d low m f Aw t+Dv d low m Aw t) (fun _=>0))(v:Vc):
  Cv p (pj m d low (sX m f v)) (sX d low (pj m d low v)):=by
 obtain⟨n,rfl⟩:∃n,m=n+1:=⟨m-1,ac⟩;intro t;unfold pj;have e1:ap d low (n+1) (sX (n+1) f v) Aw=ap d low (n+1) (fun j=>(if j=0 then 0 else v (j-1))+(- v n)*f j) Aw:=IZ fun j hj=>by
  unfold sX;rw[if_pos hj,Nat.add_sub_cancel]
  grind
 rw[e1,J0,NK];have e2:sX d low (ap d low (n+1) v Aw)=fun t=>sX d low (ap d low n v Aw) t+v n*Dv d low (n+1) Aw t:=by
  rw[ap,H6.add_smul];rfl
 rw[e2];have e3:=h0 t;dsimp only at e3 ⊢;generalize sX d low (ap d low n v Aw) t=A at *;generalize ap d low (n+1) f Aw t=B at *;generalize Dv d low (n+1) Aw t=C at *;obtain⟨k,hk⟩:=Cy.1 e3;refine Cy.2 ⟨- v n*k,?_⟩
 grind
theorem Wn{p:Int}(hm:1<=m)(h0:Cv p (fun t=>ap d low m f Aw t+Dv d low m Aw t) (fun _=>0))(v:Vc):∀k,Cv p (pj m d low (Dv m f k v)) (Dv d low k (pj m d low v))
 | 0=>Cv.refl _ _
 | k+1=>(pj_sX hm h0 _).trans (Cv.sX (Wn hm h0 v k))
theorem pj_ap{p:Int}(hm:1<=m)(h0:Cv p (fun t=>ap d low m f Aw t+Dv d low m Aw t) (fun _=>0))(y x:Vc):∀n,Cv p (pj m d low (ap m f n y x)) (ap d low n y (pj m d low x))
 | 0=>by
  intro t;show ap d low m (fun _=>0) Aw t%p=_
  have e:=JZ (d:=d) (low:=low) (n:=m) (x:=Aw) 0 0 (fun _=>0) (fun _=>0);simp only[Int.zero_mul,Int.add_zero]at e;rw[e];rfl
 | n+1=>by
  intro t;have e:pj m d low (ap m f (n+1) y x)=fun t=>pj m d low (ap m f n y x) t+y n*pj m d low (Dv m f n x) t:=by
   unfold pj;simp only[ap];exact J0 _ _ _
  rw[e];simp only[ap];exact ED (pj_ap hm h0 y x n t) (F9 rfl (Wn hm h0 x n t))
theorem Wo{p:Int}{v w:Vc}(h:Cv p v w):Cv p (pj m d low v) (pj m d low w):=Cv.ap (Cv.refl _ _) h m
theorem UU{p:Nat}(hp:2<=p)(hd:1<=d)(hdm:d<m)(hl:∀j,0<=low j/\low j<p)
  (h0:Cv p (fun t=>ap d low m f Aw t+Dv d low m Aw t) (fun _=>0)):¬Hr p m f:=fun hF=>by
 obtain⟨D,hD⟩:∃D:Vc,(fun j=>if j<d then low j else if j=d then 1 else 0)=D:=⟨_,rfl⟩;have aC:IsD p m D:=by
  rw[<-hD];refine⟨fun j hj=>by dsimp only;rw[if_neg ac,if_neg ac],fun j=>?_⟩;dsimp only;split
  .exact hl j
  .split <;> omega
 have aD:pj m d low D=fun _=>0:=by
  unfold pj;have e1:ap d low m D Aw=ap d low (d+1) D Aw:=by
   have aB:∀c,ap d low (d+1+c) D Aw=ap d low (d+1) D Aw:=by
    intro c
    induction c with
    | zero=>rfl
    | succ c ih=>
     rw[<-Nat.add_assoc,ap,ih];have:D (d+1+c)=0:=by rw[<-hD];dsimp only;rw[if_neg ac,if_neg ac]
     rw[this];funext t;simp
   have:=aB (m-(d+1))
   rwa[show d+1+(m-(d+1))=m by omega]at this
  rw[e1,ap,S2 hd];have e2:ap d low d D Aw=ap d low d low Aw:=IZ fun j hj=>by rw[<-hD];dsimp only;rw[if_pos hj]
  have e3:D d=1:=by rw[<-hD];dsimp only;rw[if_neg ac,if_pos rfl]
  rw[e2,e3];funext t;simp;omega
 have aA:=Md (show 1<=p by omega) aC;obtain⟨c,hc⟩:=nA ((EJ p m D).toNat);rw[hc]at aA;have hr:=Di aC.2 m;have aE:c<p^m:=by omega
 have aF:1<=c:=by
  rcases Nat.eq_zero_or_pos c with e|e
  .exfalso;rw[e,IT]at aA;have:=congrFun aA d;rw[<-hD]at this;dsimp only at this;rw[if_neg ac,if_pos rfl]at this;omega
  .exact e
 obtain⟨z,_,_,hz⟩:=hF.inv hp ac aF aE;unfold Al at hz;rw[aA]at hz;have h1:Cv p (Fn m f D (AK p m z)) Aw:=by
  have:=Ck (p:=p) (m:=m) ac (FA (low:=f) (y:=AK p m z) aC.1);rw[hz,O0 hp ac]at this;exact this.symm
 have h2:=Wo (m:=m) (d:=d) (low:=low) h1;have h3:=pj_ap (m:=m) ac h0 (AK p m z) D m;rw[aD,(Mo m (AK p m z)).zero]at h3;have h4:=(h3.symm.trans h2) 0;have h5:pj m d low Aw 0=1:=by
  unfold pj;obtain⟨n,rfl⟩:∃n,m=n+1:=⟨m-1,ac⟩;have aB:∀k,ap d low (k+1) Aw Aw=Aw:=by
   intro k
   induction k with
   | zero=>funext t;simp[ap,Dv,Aw]
   | succ k ih=>rw[ap,ih];funext t;simp[Aw]
  rw[aB];rfl
 rw[h5]at h4;have:(1:Int)%(p:Int)=1:=Int.emod_eq_of_lt ac ac;simp at h4;omega
end
noncomputable section
def hdC(l:List Nat):Nat:=@List.rec Nat (fun _=>Nat) 0 (fun x _ _=>x) l
def tlC(l:List Nat):List Nat:=@List.rec Nat (fun _=>List Nat) [] (fun _ t _=>t) l
def VC(p c b:Nat)(aA:List Nat):List Nat->List Nat->Nat->List Nat:=
 @List.rec Nat (fun _=>List Nat->List Nat->Nat->List Nat) (fun _ _ _=> [])
  (fun a _ ih os ls s=>Nat.mod (Nat.add (Nat.add s (Nat.mul c (hdC ls))) (Nat.mul b a)) p :: ih (tlC os) (tlC ls) (hdC os)) aA
def WS(l:List Nat):Nat->Nat:=@List.rec Nat (fun _=>Nat->Nat) (fun d=>d) (fun x _ ih _=>ih x) l
def Px(p:Nat)(low a:List Nat)(b:Nat)(aA:List Nat):List Nat:=VC p (Nat.sub p (WS aA 0)) b a aA low 0
def P7(p:Nat)(low z a:List Nat)(bs:List Nat):List Nat:=@List.rec Nat (fun _=>List Nat) z (fun b _ ih=>Px p low a b ih) bs
def Im(p:Nat)(n:Nat):Nat->List Nat:=@Nat.rec (fun _=>Nat->List Nat) (fun _=> []) (fun _ ih x=>Nat.mod x p :: ih (Nat.div x p)) n
def QM(p:Nat)(l:List Nat):Nat:=@List.rec Nat (fun _=>Nat) 0 (fun x _ ih=>Nat.add x (Nat.mul p ih)) l
def Yu(p m:Nat)(low z:List Nat)(x y:Nat):Nat:=QM p (P7 p low z (Im p m x) (Im p m y))
def lf(l:List Nat):Vc:=fun j=>((l.getD j 0:Nat):Int)
theorem Xk(l:List Nat):hdC l=l.getD 0 0:=by cases l <;> rfl
theorem SS(l:List Nat)(j:Nat):(tlC l).getD j 0=l.getD (j+1) 0:=by cases l <;> simp[tlC]
theorem I9(p c b a:Nat)(aA os ls:List Nat)(s:Nat):VC p c b (a :: aA) os ls s=(s+c*hdC ls+b*a)%p :: VC p c b aA (tlC os) (tlC ls) (hdC os):=rfl
theorem Pl(p c b:Nat):∀(aA os ls:List Nat) (s:Nat),(VC p c b aA os ls s).length=aA.length
 | [],_,_,_=>rfl
 | a :: aA,os,ls,s=>by rw[I9,List.length_cons,Pl p c b aA,List.length_cons]
theorem ay{P:Prop}(h:P:=by simpa using h):P:=h
theorem Pm(p c b:Nat):∀(aA os ls:List Nat) (s j:Nat),j<aA.length->
  (VC p c b aA os ls s).getD j 0=((if j=0 then s else os.getD (j-1) 0)+c*ls.getD j 0+b*aA.getD j 0)%p
 | [],_,_,_,j,h=>by simp at h
 | a :: aA,os,ls,s,0,_=>by rw[I9,Xk];simp
 | a :: aA,os,ls,s,j+1,h=>by
  rw[I9];simp only[List.getD_cons_succ];have e:(if j=0 then hdC os else(tlC os).getD (j-1) 0)=os.getD j 0:=by
   by_cases hj:j=0
   .rw[if_pos hj,Xk,hj]
   .rw[if_neg hj,SS,show j-1+1=j by omega]
  rw[Pm p c b aA _ _ _ j ay,e,SS,if_neg (show ¬j+1=0 by omega),Nat.add_sub_cancel]
theorem Qf:∀(l:List Nat) (d:Nat),WS l d=if l= [] then d else l.getD (l.length-1) 0
 | [],d=>rfl
 | x :: l,d=>by
  show WS l x=_
  rw[Qf l x]
  cases l with
  | nil=>simp
  | cons y l=>simp
theorem Lq{p m:Nat}{low z a:List Nat}(hp:1<=p)(hm:1<=m)(hl:low.length=m)(ha:a.length=m)(hz:z=List.replicate m 0):
  ∀bs:List Nat,(P7 p low z a bs).length=m/\∀j,j<m->(((P7 p low z a bs).getD j 0:Nat):Int)=DX m (lf low) (lf a) bs.length (lf bs) j%(p:Int)
 | []=>by
  subst hz;refine⟨List.length_replicate ..,fun j hj=>?_⟩;show(((List.replicate m 0).getD j 0:Nat):Int)=0%(p:Int)
  rw[List.getD_eq_getElem?_getD,List.getElem?_replicate,if_pos hj];simp
 | b :: bs=>by
  obtain⟨h1,h2⟩:=Lq hp hm hl ha hz bs;show(Px p low a b (P7 p low z a bs)).length=m/\_
  refine⟨by unfold Px;rw[Pl,ha],fun j hj=>?_⟩;show(((Px p low a b (P7 p low z a bs)).getD j 0:Nat):Int)=_
  generalize P7 p low z a bs=o at *;unfold Px;rw[Pm _ _ _ _ _ _ _ _ ac,Qf,if_neg (show ¬o= [] by intro e;rw[e]at h1;simp at h1;omega),h1];have aA:=h2 (m-1) ac;have hlp:o.getD (m-1) 0<=p:=by
   have:=Int.emod_lt_of_pos (DX m (lf low) (lf a) bs.length (lf bs) (m-1)) (show 0<(p:Int) by omega);omega
  rw[List.length_cons,DX];have e1:(fun t=>lf (b :: bs) (t+1))=lf bs:=by funext t;simp[lf]
  have e2:lf (b :: bs) 0=(b:Int):=by simp[lf]
  rw[e1,e2];unfold sX;dsimp only;rw[if_pos hj];have e3:((Nat.sub p (o.getD (m-1) 0):Nat):Int)=(p:Int)-((o.getD (m-1) 0:Nat):Int):=by
   show((p-o.getD (m-1) 0:Nat):Int)=_
   omega
  rw[Int.natCast_emod,Int.natCast_add,Int.natCast_add,Int.natCast_mul,Int.natCast_mul,e3,aA];have e4:(((if j=0 then 0 else o.getD (j-1) 0:Nat)):Int)%(p:Int)=(if j=0 then 0 else DX m (lf low) (lf a) bs.length (lf bs) (j-1))%(p:Int):=by
   by_cases h0:j=0
   .rw[if_pos h0,if_pos h0];rfl
   .rw[if_neg h0,if_neg h0,h2 (j-1) ac];exact Int.emod_emod_of_dvd _ (Int.dvd_refl _)
  generalize DX m (lf low) (lf a) bs.length (lf bs)=H at *;refine ED ?_ rfl;have e5:((if j=0 then 0 else H (j-1))-H (m-1)*lf low j)%(p:Int)=((if j=0 then 0 else H (j-1))+((p:Int)-H (m-1))*lf low j)%(p:Int):=by
   refine Cy.2 ⟨- lf low j,?_⟩;generalize (if j=0 then 0 else H (j-1))=zz
   grind
  rw[e5];exact ED e4 (F9 (IP rfl (Int.emod_emod_of_dvd _ (Int.dvd_refl _))) rfl)
theorem T5(p:Nat):∀(n x j:Nat),j<n->(Im p n x).getD j 0=x/p^j%p
 | 0,x,j,h=>by omega
 | n+1,x,0,h=>by show x%p=_;simp
 | n+1,x,j+1,h=>by
  show(Im p n (x/p)).getD j 0=_
  rw[T5 p n (x/p) j (by omega),Nat.div_div_eq_div_mul,Nat.pow_succ,Nat.mul_comm p]
theorem Dh(p:Nat):∀(n x:Nat),(Im p n x).length=n
 | 0,x=>rfl
 | n+1,x=>by show(Im p n (x/p)).length+1=_;rw[Dh p n]
theorem Jq(p m x:Nat):lf (Im p m x)=AK p m x:=by
 funext j;unfold lf AK;by_cases h:j<m
 .rw[if_pos h,T5 p m x j h]
 .rw[if_neg h,List.getD_eq_getElem?_getD,List.getElem?_eq_none (by rw[Dh];omega)];rfl
theorem NF(p:Nat)(v:Vc):∀n,EJ p (n+1) v=v 0+(p:Int)*EJ p n (fun j=>v (j+1))
 | 0=>by simp[EJ]
 | n+1=>by
  rw[EJ,NF p v n];simp only[EJ];rw[Nat.pow_succ,Int.natCast_mul]
  grind
theorem T7(p:Nat):∀l:List Nat,((QM p l:Nat):Int)=EJ p l.length (lf l)
 | []=>rfl
 | x :: l=>by
  show((x+p*QM p l:Nat):Int)=_
  rw[List.length_cons,NF,Int.natCast_add,Int.natCast_mul,T7 p l];have:(fun j=>lf (x :: l) (j+1))=lf l:=by funext j;simp[lf]
  rw[this];simp[lf]
theorem WY{p m:Nat}{low:List Nat}(hp:1<=p)(hm:1<=m)(hl:low.length=m)(x y:Nat):Yu p m low (List.replicate m 0) x y=Al p m (lf low) x y:=by
 have h:=Lq (z:=List.replicate m 0) hp hm hl (Dh p m x) rfl (Im p m y);have h1:((Yu p m low (List.replicate m 0) x y:Nat):Int)=((Al p m (lf low) x y:Nat):Int):=by
  unfold Yu;rw[T7,h.1];unfold Al rep Fn;rw[Int.toNat_of_nonneg (Di (fun j=>⟨Int.emod_nonneg _ ac,Int.emod_lt_of_pos _ ac⟩) m).1];refine DY m fun j hj=>?_;show(((P7 p low (List.replicate m 0) (Im p m x) (Im p m y)).getD j 0:Nat):Int)=_
  rw[h.2 j hj,Dh,Jq,Jq,OJ]
 omega
section
variable {p m:Nat} {low:Vc}
theorem GK(hp:2<=p)(hm:1<=m){x i:Nat}(h:BO p m low x i=1):∀k,BO p m low x (i*k)=1
 | 0=>rfl
 | k+1=>by rw[Nat.mul_succ,CQ hp hm,GK hp hm h k,h,Bz hp hm (Bw hp hm)]
theorem Qh(hp:2<=p)(hm:1<=m){x i j:Nat}(hi:BO p m low x i=1)(hj:BO p m low x j=1):BO p m low x (j%i)=1:=by
 have h:BO p m low x (i*(j/i)+j%i)=1:=by rw[Nat.div_add_mod];exact hj
 rw[CQ hp hm,GK hp hm hi,Cr hp hm (Dn hp hm x _)]at h;exact h
theorem Qi(hp:2<=p)(hm:1<=m){x:Nat}:∀(i j:Nat),BO p m low x i=1->BO p m low x j=1->BO p m low x (Nat.gcd i j)=1:=by
 intro i
 induction i using Nat.strongRecOn with
 | _ i ih=>
  intro j hi hj;rcases Nat.eq_zero_or_pos i with e|e
  .subst e;rwa[Nat.gcd_zero_left]
  .rw[Nat.gcd_rec];exact ih (j%i) (Nat.mod_lt _ e) i (Qh hp hm hi hj) hi
theorem Xp(hp:2<=p)(hm:1<=m){x:Nat}{D:List Nat}(h1:BO p m low x (p^m-1)=1)(hD:∀y∈D,BO p m low x y≠1)
  (hC:∀e,e<p^m-1->e ∣ p^m-1->∃y∈D,e ∣ y):De p m low x:=by
 refine⟨h1,fun k k1 k2 hk=>?_⟩;have hg:=Qi hp hm _ _ hk h1;have aA:Nat.gcd k (p^m-1)<p^m-1:=Nat.lt_of_le_of_lt (Nat.le_of_dvd ac (Nat.gcd_dvd_left _ _)) k2;obtain⟨y,hy,c,rfl⟩:=hC _ aA (Nat.gcd_dvd_right _ _);exact hD _ hy (GK hp hm hg c)
end
noncomputable section
def pwC(p m:Nat)(low z:List Nat)(x:Nat)(bs:List Bool):Nat->Nat:=@List.rec Bool (fun _=>Nat->Nat) (fun y=>y)
 (fun b _ ih y=>ih (match b with|true=>Yu p m low z (Yu p m low z y y) x|false=>Yu p m low z y y)) bs
end
def DT:Nat->List Bool->Nat
 | n, []=>n
 | n,b :: bs=>DT (2*n+if b then 1 else 0) bs
theorem RA{p m:Nat}{low:List Nat}(hp:2<=p)(hm:1<=m)(hl:low.length=m)(x:Nat)(hx:x<p^m):∀(bs:List Bool) (n:Nat),pwC p m low (List.replicate m 0) x bs (BO p m (lf low) x n)=BO p m (lf low) x (DT n bs)
 | [],n=>rfl
 | b :: bs,n=>by
  have e:Yu p m low (List.replicate m 0) (BO p m (lf low) x n) (BO p m (lf low) x n)=BO p m (lf low) x (2*n):=by
   rw[WY ac hm hl,<-CQ hp hm,Nat.two_mul]
  cases b with
  | true=>
   show pwC p m low (List.replicate m 0) x bs (Yu p m low (List.replicate m 0) (Yu p m low (List.replicate m 0) (BO p m (lf low) x n) (BO p m (lf low) x n)) x)=_
   rw[e,WY ac hm hl];exact RA hp hm hl x hx bs (2*n+1)
  | false=>
   show pwC p m low (List.replicate m 0) x bs (Yu p m low (List.replicate m 0) (BO p m (lf low) x n) (BO p m (lf low) x n))=_
   rw[e];exact RA hp hm hl x hx bs (2*n)
end
end Go.Proofs.YtehieobniamagaaGreat
