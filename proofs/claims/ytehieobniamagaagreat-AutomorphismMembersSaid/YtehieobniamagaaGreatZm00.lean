/- Small helpers over any program: worlds that only grow, slices that read as lists of cells. -/
import Derived.Test.YtehieobniamagaaGreatRows
import Derived.WalkKit
import Derived.WalkSpells
import Derived.Deep.RegionWith
import Derived.Deep.QuietTactic
import Derived.BigQuiet
import Derived.WalkLawsBesides
namespace Go.Proofs.YtehieobniamagaaGreat
set_option linter.all false
theorem nA{A:Sort _}(x:A):∃y,x=y:=⟨x,rfl⟩
section
open Go.RowKit
def Hia(p:Prop):Prop:=p
theorem Hia.o{p:Prop}(h:Hia p):p:=h
theorem Aa{p:Prop}(h:p):Hia p:=h
theorem Eq{p0 p1 p2 p3:Prop}(h0:p0)(h1:p1)(h2:p2)(h3:p3):Hia p0/\Hia p1/\Hia p2/\Hia p3:=⟨h0,h1,h2,h3⟩
theorem Of{p0 p1 p2 p3 p4:Prop}(h0:p0)(h1:p1)(h2:p2)(h3:p3)(h4:p4):Hia p0/\Hia p1/\Hia p2/\Hia p3/\Hia p4:=⟨h0,h1,h2,h3,h4⟩
theorem To{p0 p1 p2 p3 p4 p5:Prop}(h0:p0)(h1:p1)(h2:p2)(h3:p3)(h4:p4)(h5:p5):Hia p0/\Hia p1/\Hia p2/\Hia p3/\Hia p4/\Hia p5:=⟨h0,h1,h2,h3,h4,h5⟩
theorem OK{p0 p1 p2 p3 p4 p5 p6:Prop}(h0:p0)(h1:p1)(h2:p2)(h3:p3)(h4:p4)(h5:p5)(h6:p6):Hia p0/\Hia p1/\Hia p2/\Hia p3/\Hia p4/\Hia p5/\Hia p6:=⟨h0,h1,h2,h3,h4,h5,h6⟩
theorem On{p0 p1 p2 p3 p4 p5 p6 p7:Prop}(h0:p0)(h1:p1)(h2:p2)(h3:p3)(h4:p4)(h5:p5)(h6:p6)(h7:p7):Hia p0/\Hia p1/\Hia p2/\Hia p3/\Hia p4/\Hia p5/\Hia p6/\Hia p7:=⟨h0,h1,h2,h3,h4,h5,h6,h7⟩
theorem Ty{p0 p1 p2 p3 p4 p5 p6 p7 p8:Prop}(h0:p0)(h1:p1)(h2:p2)(h3:p3)(h4:p4)(h5:p5)(h6:p6)(h7:p7)(h8:p8):Hia p0/\Hia p1/\Hia p2/\Hia p3/\Hia p4/\Hia p5/\Hia p6/\Hia p7/\Hia p8:=⟨h0,h1,h2,h3,h4,h5,h6,h7,h8⟩
theorem Ha1{p0 p1 p2 p3 p4 p5 p6 p7 p8 p9:Prop}(h0:p0)(h1:p1)(h2:p2)(h3:p3)(h4:p4)(h5:p5)(h6:p6)(h7:p7)(h8:p8)(h9:p9):Hia p0/\Hia p1/\Hia p2/\Hia p3/\Hia p4/\Hia p5/\Hia p6/\Hia p7/\Hia p8/\Hia p9:=⟨h0,h1,h2,h3,h4,h5,h6,h7,h8,h9⟩
theorem Ha0{p0 p1 p2 p3 p4 p5 p6 p7 p8 p9 p10:Prop}(h0:p0)(h1:p1)(h2:p2)(h3:p3)(h4:p4)(h5:p5)(h6:p6)(h7:p7)(h8:p8)(h9:p9)(h10:p10):Hia p0/\Hia p1/\Hia p2/\Hia p3/\Hia p4/\Hia p5/\Hia p6/\Hia p7/\Hia p8/\Hia p9/\Hia p10:=⟨h0,h1,h2,h3,h4,h5,h6,h7,h8,h9,h10⟩
theorem Af{k:IntKind}{a b:Int}(h:a=b):Ending.returned (.int k a)= .returned (.int k b):=by rw[h]
theorem Ap{a b:Bool}(h:a=b):Ending.returned (.bool a)= .returned (.bool b):=by rw[h]
def Ex(w w':World):Prop:=Below w.heap.size w w'
theorem Ex.refl(w:World):Ex w w:=Below.refl _ _
theorem Ex.trans{a b c:World}(h:Ex a b)(k:Ex b c):Ex a c:=Below.trans h (Below.mono k h.size)
theorem Ex.drew{a b:World}(h:Ex a b):Ex a b.drew:=Below.drew h
theorem Ex.drewN{a b:World}(h:Ex a b)(n:Nat):Ex a (b.drewN n):=below_drewN h n
theorem Ex.alloc{a b:World}(h:Ex a b)(o:Obj):Ex a (b.alloc o):=Below.alloc h h.size o
theorem Ex.setCell{a b:World}(h:Ex a b){p:Addr}(hp:a.heap.size<=p.block)(u:Value):Ex a (b.setCell p u):=Below.setCell h hp u
theorem Ex.cell{w w':World}(h:Ex w w'){p:Addr}{u:Value}(hc:w.cell? p=some u):w'.cell? p=some u:=
 (Below.cell h (World.block_lt_of_cell? w _ hc)).trans hc
def Sl(w:World)(v:Value)(n size:Nat)(xs:List Value):Prop:=
 xs.length=n*size/\∃a cap,v= .slice a n cap/\n<=cap/\cap<=maxLen/\
  (0<n->∃b o,a=some ⟨b,o,none⟩/\∀j u,xs[j]?=some u->w.cell? ⟨b,o+j,none⟩=some u)
theorem Sl.ex{w w':World}{v:Value}{n size:Nat}{xs:List Value}(h:Sl w v n size xs)(hx:Ex w w'):Sl w' v n size xs:=by
 obtain⟨h1,a,cap,h2,h3,h4,h5⟩:=h;refine⟨h1,a,cap,h2,h3,h4,fun hn=>?_⟩;obtain⟨b,o,h6,h7⟩:=h5 hn;exact⟨b,o,h6,fun j u hu=>hx.cell (h7 j u hu)⟩
theorem ac{P:Prop}(h:P:=by omega):P:=h
theorem ag{P:Prop}(h:P:=by simp):P:=h
theorem Sl.nil(w:World)(size:Nat):Sl w (.slice none 0 0) 0 size []:=⟨ag,none,0,rfl,Nat.le_refl _,by unfold maxLen;omega,fun h=>absurd h ac⟩
theorem Sl.own{w:World}{base:Nat}{e:TypeId}{size:Nat}{v:Value}{n:Nat}{xs:List Value}(h:w.ownsRow base e size v n xs):Sl w v n size xs:=by
 refine⟨h.1,?_⟩;rcases h.2 with⟨h2,h3⟩|⟨g,cap,cur,hv,hb,hg,h1,h2,h3,h4⟩
 .exact⟨none,0,by rw[h2,h3],ac,by unfold maxLen;omega,fun h=>ac⟩
 .refine⟨some ⟨g,0,none⟩,cap,hv,h1,h2,fun _=>⟨g,0,rfl,fun j u hu=>?_⟩⟩;rw[Nat.zero_add,cell_of_row w g j cur e (0,0) hg];rw[<-h4,List.getElem?_take]at hu;split at hu
  .simpa using hu
  .cases hu
theorem cq{P:Prop}(h:P:=by rw[e]):P:=h
theorem Ac{w:World}{base:Nat}{e:TypeId}{size:Nat}{v:Value}{n:Nat}{xs:List Value}(h:w.ownsRow base e size v n xs){a:Addr}(ha:v.ownBlock≠some a.block)(u:Value):(w.setCell a u).ownsRow base e size v n xs:=by
 refine h.kept (row:=some a.block) ⟨rfl,rfl,rfl,by simp[World.setCell],fun k _ hk=>Below.heap_setCell _ _ _ _ (fun e=>hk cq)⟩ ?_;exact .inr ha
theorem Ai{w w':World}{base:Nat}{e:TypeId}{size:Nat}{v:Value}{n:Nat}{xs:List Value}(h:w.ownsRow base e size v n xs)(hx:Ex w w'):w'.ownsRow base e size v n xs:=by
 refine h.kept (row:=none) ⟨hx.os,hx.tape,hx.output,hx.size,fun k hk _=>hx.block k hk⟩ ?_;cases v.ownBlock <;> simp
theorem Ex.grown{a w w':World}{base:Nat}{e:TypeId}{size:Nat}{v:Value}{n:Nat}{xs:List Value}(h:Ex a w)(aA:w.ownsRow base e size v n xs)(hb:a.heap.size<=base)(hg:w.grownBy w' v.ownBlock):Ex a w':=
 Below.grown h hg h.size (fun k hk=>Nat.le_trans hb (aA.lt k hk).1)
theorem Ag{w:World}{B i j:Nat}{u:Value}(h:i≠j):(w.setCell ⟨B,i,none⟩ u).cell? ⟨B,j,none⟩=w.cell? ⟨B,j,none⟩:=
 World.cell?_setCell_other _ _ _ _ (by intro e;injection e;omega)
theorem w64{x:Int}(h1:-9223372036854775808<=x)(h2:x<=9223372036854775807):wrap64 x=x:=IntWalk.wrap64_in _ ⟨h1,h2⟩
def An(l:List Int):List Value:=l.map (Value.int .i64)
theorem Bb(l:List Int):(An l).length=l.length:=List.length_map _
theorem PF{l:List Int}{j:Nat}{x:Int}(h:l[j]?=some x):(An l)[j]?=some (.int .i64 x):=by simp[An,h]
def Aj(w:World)(v:Value)(l:List Int):Prop:=Sl w v l.length 1 (An l)
theorem Aj.ex{w w':World}{v:Value}{l:List Int}(h:Aj w v l)(hx:Ex w w'):Aj w' v l:=Sl.ex h hx
theorem Aj.open{w:World}{v:Value}{l:List Int}(h:Aj w v l):∃a cap,v= .slice a l.length cap/\l.length<=cap/\cap<=maxLen/\
  (0<l.length->∃b o,a=some ⟨b,o,none⟩/\∀j x,l[j]?=some x->w.cell? ⟨b,o+j,none⟩=some (.int .i64 x)):=by
 obtain⟨h1,a,cap,h2,h3,h4,h5⟩:=h;refine⟨a,cap,h2,h3,h4,fun hn=>?_⟩;obtain⟨b,o,h6,h7⟩:=h5 hn;exact⟨b,o,h6,fun j x hx=>h7 j _ (PF hx)⟩
theorem Ko{P:Program}{f:FuncId}{aA:Array Value}{w:World}{n:Nat}{v:Value}
  (h:Calls P f aA (w.drewN n) fun e w'=>e= .returned v/\∃k,w'=(w.drewN n).drewN k):Calls P f aA (w.drewN n) fun e w''=>e= .returned v/\∃m,w''=w.drewN m:=
 h.mono fun _ _ ⟨he,k,hm⟩=>⟨he,n+k,by rw[hm,World.drewN_drewN]⟩
theorem Wb(w:World)(l:List Int)(t:TypeId)(hl:l.length<=1000):Aj (w.alloc (.cells (An l).toArray t)) (.slice (some ⟨w.heap.size,0,none⟩) l.length l.length) l:=by
 refine⟨by rw[Bb];omega,some ⟨w.heap.size,0,none⟩,l.length,rfl,Nat.le_refl _,by unfold maxLen;omega,fun _=>⟨_,_,rfl,fun j u h=>?_⟩⟩;rw[Nat.zero_add];simpa using h
end
section
abbrev Vc:=Nat->Int
def sX(m:Nat)(low:Vc)(v:Vc):Vc:=fun j=>if j<m then(if j=0 then 0 else v (j-1))-v (m-1)*low j else 0
def Dr(m:Nat)(low:Vc):Nat->Vc->Vc
 | 0,v=>v
 | k+1,v=>sX m low (Dr m low k v)
def ap(m:Nat)(low:Vc):Nat->Vc->Vc->Vc
 | 0,_,_=>fun _=>0
 | n+1,y,x=>fun j=>ap m low n y x j+y n*Dr m low n x j
def Av:Vc:=fun j=>if j=0 then 1 else 0
def E9(m:Nat)(low:Vc)(x y:Vc):Vc:=ap m low m y x
def RV(T:Vc->Vc):Prop:=∀(a b:Int) (v w:Vc),T (fun j=>a*v j+b*w j)=fun j=>a*T v j+b*T w j
variable {m:Nat} {low:Vc}
theorem Hd:RV (sX m low):=by
 intro a b v w;funext j;unfold sX;split
 .split <;> grind
 .simp
theorem RV.comp{T U:Vc->Vc}(h:RV T)(k:RV U):RV (fun v=>T (U v)):=by
 intro a b v w;show T (U _)=_
 rw[k,h]
theorem EU:∀k,RV (Dr m low k)
 | 0=>fun _ _ _ _=>rfl
 | k+1=>by
  have:=RV.comp (Hd (m:=m) (low:=low)) (EU k);exact this
theorem RV.zero{T:Vc->Vc}(h:RV T):T (fun _=>0)=fun _=>0:=by
 have:=h 0 0 (fun _=>0) (fun _=>0);simp at this;exact this
theorem RV.add{T:Vc->Vc}(h:RV T)(v w:Vc):T (fun j=>v j+w j)=fun j=>T v j+T w j:=by
 have:=h 1 1 v w;simpa using this
theorem RV.add_smul{T:Vc->Vc}(h:RV T)(v w:Vc)(b:Int):T (fun j=>v j+b*w j)=fun j=>T v j+b*T w j:=by
 have:=h 1 b v w;simpa using this
theorem Lo:∀n y,RV (ap m low n y)
 | 0,y=>by intro a b v w;funext j;simp[ap]
 | n+1,y=>by
  intro a b v w;funext j;simp only[ap];rw[Lo n y,EU n]
  grind
theorem JL:∀i k v,Dr m low (i+k) v=Dr m low i (Dr m low k v)
 | 0,k,v=>by simp[Dr]
 | i+1,k,v=>by rw[Nat.add_right_comm];simp only[Dr];rw[JL i k v]
theorem Om{T:Vc->Vc}(h:RV T)(hc:∀v,T (sX m low v)=sX m low (T v)):∀n y x,T (ap m low n y x)=ap m low n y (T x)
 | 0,y,x=>by simp only[ap];exact h.zero
 | n+1,y,x=>by
  have hk:∀k v,T (Dr m low k v)=Dr m low k (T v):=by
   intro k
   induction k with
   | zero=>intro v;rfl
   | succ k ih=>intro v;simp only[Dr];rw[hc,ih]
  simp only[ap];rw[h.add_smul,Om h hc n y x,hk]
theorem ap_sX(n:Nat)(y x:Vc):ap m low n y (sX m low x)=sX m low (ap m low n y x):=(Om Hd (fun _=>rfl) n y x).symm
theorem Z2(n k:Nat)(y z x:Vc):ap m low n y (ap m low k z x)=ap m low k z (ap m low n y x):=
 Om (Lo n y) (fun v=>ap_sX n y v) k z x
theorem Nm:∀i,i<m->Dr m low i Av=fun j=>if j=i then 1 else 0
 | 0,_=>rfl
 | i+1,h=>by
  simp only[Dr];rw[Nm i (by omega)];funext j;unfold sX;show(if j<m then(if j=0 then 0 else if j-1=i then(1:Int) else 0)-(if m-1=i then(1:Int) else 0)*low j else 0)=_
  rw[show(if m-1=i then(1:Int) else 0)=0 by rw[if_neg (by omega)]];by_cases h1:j=i+1
  .subst h1;simp[h]
  .rw[if_neg h1];by_cases h2:j<m
   .rw[if_pos h2];by_cases h3:j=0
    .simp[h3]
    .rw[if_neg h3,if_neg (by omega)];simp
   .rw[if_neg h2]
theorem Ln:∀n (y:Vc),n<=m->ap m low n y Av=fun j=>if j<n then y j else 0
 | 0,y,_=>by simp[ap]
 | n+1,y,h=>by
  simp only[ap];rw[Ln n y (by omega),Nm n (by omega)];funext j;show(if j<n then y j else 0)+y n*(if j=n then 1 else 0)=_
  by_cases h1:j<n
  .rw[if_pos h1,if_neg (show ¬j=n by omega),if_pos (by omega)];simp
  .rw[if_neg h1];by_cases h2:j=n
   .subst h2;simp
   .rw[if_neg h2,if_neg (by omega)];simp
def Iy(m:Nat)(v:Vc):Prop:=∀j,m<=j->v j=0
theorem Iy.ap_one{y:Vc}(h:Iy m y):ap m low m y Av=y:=by
 rw[Go.Proofs.YtehieobniamagaaGreat.Ln m y (Nat.le_refl _)];funext j;by_cases h1:j<m
 .rw[if_pos h1]
 .rw[if_neg h1,h j ac]
theorem sX_sup(v:Vc):Iy m (sX m low v):=fun j h=>by unfold sX;rw[if_neg ac]
theorem X9{v:Vc}(h:Iy m v):∀k,Iy m (Dr m low k v)
 | 0=>h
 | k+1=>sX_sup _
theorem Ol{x:Vc}(h:Iy m x):∀n y,Iy m (ap m low n y x)
 | 0,y=>fun _ _=>rfl
 | n+1,y=>fun j hj=>by simp only[ap];rw[Ol h n y j hj,X9 h n j hj];simp
theorem Fo{x y:Vc}(hx:Iy m x)(hy:Iy m y):E9 m low x y=E9 m low y x:=by
 unfold E9
 conv=>lhs;rw[<-hx.ap_one (low:=low),Z2,hy.ap_one]
theorem Fn{x y:Vc}(hx:Iy m x):Iy m (E9 m low x y):=Ol hx _ _
theorem Rh{x y z:Vc}(hx:Iy m x)(hy:Iy m y)(hz:Iy m z):E9 m low (E9 m low x y) z=E9 m low x (E9 m low y z):=by
 rw[Fo hx (Fn hy),Fo hx hy];unfold E9;rw[Z2]
theorem VK{x:Vc}(hx:Iy m x)(hm:1<=m):E9 m low x Av=x:=by
 have h1:Iy m Av:=fun j hj=>by unfold Av;rw[if_neg ac]
 rw[Fo hx h1];exact hx.ap_one
theorem VL(x y z:Vc):E9 m low (fun j=>x j+y j) z=fun j=>E9 m low x z j+E9 m low y z j:=(Lo m z).add x y
def DR(m:Nat)(low:Vc)(x:Vc):Nat->Vc->Vc
 | 0,_=>fun _=>0
 | k+1,y=>fun j=>sX m low (DR m low x k (fun t=>y (t+1))) j+y 0*x j
theorem Qk:∀n (y x:Vc),ap m low (n+1) y x=fun j=>y 0*x j+sX m low (ap m low n (fun t=>y (t+1)) x) j
 | 0,y,x=>by
  have h0:sX m low (fun _=>0)=fun _=>0:=Hd.zero;funext j;simp only[ap,Dr];rw[h0];simp
 | n+1,y,x=>by
  funext j;rw[ap,Qk n y x];rw[ap,Hd.add_smul];simp only[Dr];exact Int.add_assoc _ _ _
theorem NY:∀n (y x:Vc),DR m low x n y=ap m low n y x
 | 0,y,x=>rfl
 | n+1,y,x=>by
  funext j;rw[Qk,DR,NY n];exact Int.add_comm _ _
def Cs(p:Int)(v w:Vc):Prop:=∀j,v j%p=w j%p
theorem Cs.refl(p:Int)(v:Vc):Cs p v v:=fun _=>rfl
theorem Cs.symm{p:Int}{v w:Vc}(h:Cs p v w):Cs p w v:=fun j=>(h j).symm
theorem Cs.trans{p:Int}{u v w:Vc}(h:Cs p u v)(k:Cs p v w):Cs p u w:=fun j=>(h j).trans (k j)
theorem Cv{p a b:Int}:a%p=b%p↔∃c,a=b+p*c:=by
 constructor
 .intro h;have:=Int.emod_emod_of_dvd a (Int.dvd_refl p);have h1:=Int.mul_ediv_add_emod a p;have h2:=Int.mul_ediv_add_emod b p;exact⟨a/p-b/p,by rw[Int.mul_sub];omega⟩
 .rintro⟨c,rfl⟩;exact Int.add_mul_emod_self_left b p c
theorem Em{p a b c d:Int}(h:a%p=b%p)(k:c%p=d%p):(a+c)%p=(b+d)%p:=by
 obtain⟨x,rfl⟩:=Cv.1 h;obtain⟨y,rfl⟩:=Cv.1 k;exact Cv.2 ⟨x+y,by grind⟩
theorem FQ{p a b c d:Int}(h:a%p=b%p)(k:c%p=d%p):(a*c)%p=(b*d)%p:=by
 obtain⟨x,rfl⟩:=Cv.1 h;obtain⟨y,rfl⟩:=Cv.1 k;exact Cv.2 ⟨x*d+b*y+p*x*y,by grind⟩
theorem Iq{p a b c d:Int}(h:a%p=b%p)(k:c%p=d%p):(a-c)%p=(b-d)%p:=by
 obtain⟨x,rfl⟩:=Cv.1 h;obtain⟨y,rfl⟩:=Cv.1 k;exact Cv.2 ⟨x-y,by grind⟩
theorem Cs.sX{p:Int}{v w:Vc}(h:Cs p v w):Cs p (sX m low v) (sX m low w):=fun j=>by
 unfold Go.Proofs.YtehieobniamagaaGreat.sX;split
 .refine Iq ?_ (FQ (h _) rfl);split
  .rfl
  .exact h _
 .rfl
theorem Cs.sXn{p:Int}{v w:Vc}(h:Cs p v w):∀k,Cs p (Dr m low k v) (Dr m low k w)
 | 0=>h
 | k+1=>(Cs.sXn h k).sX
theorem Cs.ap{p:Int}{v w y z:Vc}(h:Cs p v w)(k:Cs p y z):∀n,Cs p (ap m low n y v) (ap m low n z w)
 | 0=>fun _=>rfl
 | n+1=>fun j=>by
  simp only[Go.Proofs.YtehieobniamagaaGreat.ap];exact Em (Cs.ap h k n j) (FQ (k n) (h.sXn n j))
theorem Cs.mulV{p:Int}{v w y z:Vc}(h:Cs p v w)(k:Cs p y z):Cs p (E9 m low v y) (E9 m low w z):=h.ap k m
def AI(p m x:Nat):Vc:=fun j=>if j<m then((x/p^j%p:Nat):Int) else 0
def Ep(p:Nat):Nat->Vc->Int
 | 0,_=>0
 | n+1,v=>Ep p n v+v n*((p^n:Nat):Int)
theorem Bp(p m x:Nat):Iy m (AI p m x):=fun j h=>by unfold AI;rw[if_neg ac]
theorem Dw{p:Nat}(hp:1<=p)(m x j:Nat):0<=AI p m x j/\AI p m x j<p:=by
 unfold AI;split
 .have:=Nat.mod_lt (x/p^j) hp;omega
 .omega
def IsD(p m:Nat)(v:Vc):Prop:=Iy m v/\∀j,0<=v j/\v j<p
theorem Dg{p:Nat}{v:Vc}(h:∀j,0<=v j/\v j<p):∀n,0<=Ep p n v/\Ep p n v<((p^n:Nat):Int)
 | 0=>by simp[Ep]
 | n+1=>by
  obtain⟨h1,h2⟩:=Dg h n;obtain⟨h3,h4⟩:=h n;simp only[Ep];have h5:0<=v n*((p^n:Nat):Int):=Int.mul_nonneg h3 ac;have h6:(v n+1)*((p^n:Nat):Int)<=p*((p^n:Nat):Int):=Int.mul_le_mul_of_nonneg_right ac ac;have h7:((p^(n+1):Nat):Int)=p*((p^n:Nat):Int):=by rw[Nat.pow_succ,Int.natCast_mul,Int.mul_comm]
  rw[Int.add_mul]at h6;omega
theorem DS{p:Nat}{v w:Vc}:∀n,(∀j,j<n->v j=w j)->Ep p n v=Ep p n w
 | 0,_=>rfl
 | n+1,h=>by simp only[Ep];rw[DS n fun j hj=>h j (by omega),h n (by omega)]
theorem Te{p:Nat}(hp:1<=p)(m x:Nat):∀n,n<=m->Ep p n (AI p m x)=((x%p^n:Nat):Int)
 | 0,_=>by simp[Ep,Nat.mod_one]
 | n+1,h=>by
  simp only[Ep];rw[Te hp m x n (by omega)];unfold AI;rw[if_pos (by omega),Nat.pow_succ,Nat.mod_mul,Int.natCast_add,Int.natCast_mul,Int.mul_comm (((x/p^n%p:Nat)):Int)]
theorem WW{p m x:Nat}(hp:1<=p)(h:x<p^m):Ep p m (AI p m x)=x:=by
 rw[Te hp m x m (Nat.le_refl _),Nat.mod_eq_of_lt h]
theorem Tc{p:Nat}(hp:1<=p){v:Vc}(h:∀j,0<=v j/\v j<p):∀n j,j<n->(Ep p n v).toNat/p^j%p=(v j).toNat
 | 0,j,hj=>by omega
 | n+1,j,hj=>by
  obtain⟨h1,h2⟩:=Dg h n;obtain⟨h3,h4⟩:=h n;have ih:=Tc hp h n;simp only[Ep];obtain⟨a,ha⟩:=Int.eq_ofNat_of_zero_le h1;obtain⟨b,hb⟩:=Int.eq_ofNat_of_zero_le h3;have aC:(Ep p n v+v n*((p^n:Nat):Int)).toNat=a+b*p^n:=by rw[ha,hb,<-Int.natCast_mul,<-Int.natCast_add,Int.toNat_natCast]
  have aB:a<p^n:=ac;have aA:1<=p^n:=Nat.pow_pos hp;rw[aC];rcases Nat.eq_or_lt_of_le (show j<=n by omega) with e|e
  .subst e;rw[hb,Nat.add_mul_div_right _ _ aA,Nat.div_eq_of_lt aB,Nat.zero_add,Nat.mod_eq_of_lt ac];rfl
  .rw[<-ih j e,ha,Int.toNat_natCast];obtain⟨c,rfl⟩:∃c,n=j+(c+1):=⟨n-j-1,ac⟩;rw[show b*p^(j+(c+1))=b*p^c*p*p^j by rw[Nat.pow_add,Nat.pow_succ];ac_rfl,Nat.add_mul_div_right _ _ (Nat.pow_pos hp),Nat.add_mul_mod_self_right]
theorem Ld{p m:Nat}{v:Vc}(hp:1<=p)(h:IsD p m v):AI p m (Ep p m v).toNat=v:=by
 funext j;unfold AI;split
 .rw[Tc hp h.2 m j ‹_›];have:=(h.2 j).1;omega
 .exact(h.1 j ac).symm
end
def rep(p m:Nat)(v:Vc):Nat:=(Ep p m (fun j=>v j%p)).toNat
section
variable {p m:Nat}
theorem Yi(hp:1<=p){v:Vc}(h:Iy m v):IsD p m (fun j=>v j%p):=
 ⟨fun j hj=>by show v j%p=0;rw[h j hj];simp,fun j=>⟨Int.emod_nonneg _ ac,Int.emod_lt_of_pos _ ac⟩⟩
theorem QT(hp:1<=p)(v:Vc):rep p m v<p^m:=by
 have h:∀j,0<=v j%(p:Int)/\v j%(p:Int)<p:=fun j=>⟨Int.emod_nonneg _ ac,Int.emod_lt_of_pos _ ac⟩;have:=Dg (v:=fun j=>v j%(p:Int)) h m;unfold rep;omega
theorem Zo(hp:1<=p){v:Vc}(h:Iy m v):AI p m (rep p m v)=fun j=>v j%p:=Ld hp (Yi hp h)
theorem Cd(hp:1<=p){v:Vc}(h:Iy m v):Cs p (AI p m (rep p m v)) v:=by
 rw[Zo hp h];exact fun j=>Int.emod_emod_of_dvd _ (Int.dvd_refl _)
theorem Fi{v w:Vc}(h:Cs p v w):rep p m v=rep p m w:=by
 unfold rep
 congr 1
 exact DS m fun j _=>h j
theorem JM(hp:1<=p){x:Nat}(h:x<p^m):rep p m (AI p m x)=x:=by
 unfold rep;rw[DS (w:=AI p m x) m fun j _=>Int.emod_eq_of_lt (Dw hp m x j).1 (Dw hp m x j).2,WW hp h];rfl
def AG(p m x y:Nat):Nat:=rep p m (fun j=>AI p m x j+AI p m y j)
def CE(p m x:Nat):Nat:=rep p m (fun j=>-AI p m x j)
def Ak(p m:Nat)(low:Vc)(x y:Nat):Nat:=rep p m (E9 m low (AI p m x) (AI p m y))
variable {low:Vc}
theorem GH(hp:1<=p)(x y:Nat):AG p m x y<p^m:=QT hp _
theorem De(hp:1<=p)(x:Nat):CE p m x<p^m:=QT hp _
theorem A5(hp:1<=p)(x y:Nat):Ak p m low x y<p^m:=QT hp _
theorem Oo{v w:Vc}(hv:Iy m v)(hw:Iy m w):Iy m (fun j=>v j+w j):=fun j hj=>by show v j+w j=0;rw[hv j hj,hw j hj];rfl
theorem YC{v:Vc}(hv:Iy m v):Iy m (fun j=>-v j):=fun j hj=>by show-v j=0;rw[hv j hj];rfl
theorem Cs.add{p:Int}{v v' w w':Vc}(h:Cs p v v')(k:Cs p w w'):Cs p (fun j=>v j+w j) (fun j=>v' j+w' j):=fun j=>Em (h j) (k j)
theorem DP(x y:Nat):AG p m x y=AG p m y x:=by
 unfold AG;congr 1;funext j;exact Int.add_comm _ _
theorem BF(hp:1<=p)(x y z:Nat):AG p m (AG p m x y) z=AG p m x (AG p m y z):=by
 unfold AG;refine Fi ?_;refine((Cd hp (Oo (Bp p m x) (Bp p m y))).add (Cs.refl _ _)).trans ?_;refine Cs.symm (((Cs.refl _ _).add (Cd hp (Oo (Bp p m y) (Bp p m z)))).trans ?_);intro j;show(_+(_+_))%(p:Int)=(_+_+_)%(p:Int)
 rw[Int.add_assoc]
theorem It(p m:Nat):AI p m 0=fun _=>0:=by
 funext j;unfold AI;split <;> simp
theorem Cb(hp:1<=p){x:Nat}(h:x<p^m):AG p m x 0=x:=by
 unfold AG;rw[It];simp only[Int.add_zero];exact JM hp h
theorem DH(hp:1<=p){x:Nat}(h:x<p^m):AG p m 0 x=x:=by rw[DP,Cb hp h]
theorem Pb(hp:1<=p):rep p m (fun _=>0)=0:=by
 have:=JM (m:=m) hp (x:=0) (Nat.pow_pos hp)
 rwa[It]at this
theorem CJ(hp:1<=p)(x:Nat):AG p m x (CE p m x)=0:=by
 unfold AG CE;refine(Fi ?_).trans (Pb hp);refine((Cs.refl _ _).add (Cd hp (YC (Bp p m x)))).trans ?_;intro j;show(_ +-_)%(p:Int)=_
 rw[Int.add_right_neg]
theorem AW(x y:Nat):Ak p m low x y=Ak p m low y x:=by
 unfold Ak;rw[Fo (Bp p m x) (Bp p m y)]
theorem Bo(hp:1<=p)(x y z:Nat):Ak p m low (Ak p m low x y) z=Ak p m low x (Ak p m low y z):=by
 unfold Ak;refine Fi ?_;refine((Cd hp (Fn (Bp p m x))).mulV (Cs.refl _ _)).trans ?_;rw[Rh (Bp p m x) (Bp p m y) (Bp p m z)];exact(Cs.refl _ _).mulV (Cd hp (Fn (Bp p m y))).symm
theorem Oh(hp:2<=p)(hm:1<=m):AI p m 1=Av:=by
 funext j;unfold AI Av;rcases j with _|j
 .rw[if_pos (show 0<m by omega),if_pos rfl,Nat.pow_zero,Nat.div_one,Nat.mod_eq_of_lt ac];rfl
 .rw[if_neg (show ¬j+1=0 by omega)];split
  .have:1<p^(j+1):=Nat.one_lt_pow ac ac;rw[Nat.div_eq_of_lt this];simp
  .rfl
theorem Bw(hp:2<=p)(hm:1<=m):1<p^m:=Nat.one_lt_pow ac ac
theorem Bz(hp:2<=p)(hm:1<=m){x:Nat}(h:x<p^m):Ak p m low x 1=x:=by
 unfold Ak;rw[Oh hp hm,VK (Bp p m x) hm,JM ac h]
theorem Cn(hp:2<=p)(hm:1<=m){x:Nat}(h:x<p^m):Ak p m low 1 x=x:=by rw[AW,Bz hp hm h]
theorem BO(hp:1<=p)(x:Nat):Ak p m low 0 x=0:=by
 unfold Ak E9;rw[It,(Lo m _).zero,Pb hp]
theorem I4(hp:1<=p)(x y z:Nat):Ak p m low (AG p m x y) z=AG p m (Ak p m low x z) (Ak p m low y z):=by
 unfold Ak AG;refine Fi ?_;refine((Cd hp (Oo (Bp p m x) (Bp p m y))).mulV (Cs.refl _ _)).trans ?_;rw[VL];exact((Cd hp (Fn (Bp p m x))).add (Cd hp (Fn (Bp p m y)))).symm
def BI(p m:Nat)(low:Vc)(x:Nat):Nat->Nat
 | 0=>1
 | k+1=>Ak p m low (BI p m low x k) x
theorem Dj(hp:2<=p)(hm:1<=m)(x:Nat):∀k,BI p m low x k<p^m
 | 0=>Bw hp hm
 | k+1=>A5 (by omega) _ _
theorem CI(hp:2<=p)(hm:1<=m)(x i:Nat):∀k,BI p m low x (i+k)=Ak p m low (BI p m low x i) (BI p m low x k)
 | 0=>by rw[Nat.add_zero,BI,Bz hp hm (Dj hp hm x i)]
 | k+1=>by rw[<-Nat.add_assoc,BI,CI hp hm x i k,Bo (by omega)];rfl
def Db(p m:Nat)(low:Vc)(x:Nat):Prop:=BI p m low x (p^m-1)=1/\∀k,1<=k->k<p^m-1->BI p m low x k≠1
theorem Db.inj(hp:2<=p)(hm:1<=m){x:Nat}(h:Db p m low x){i j:Nat}(hj:j<p^m-1)(hij:i<j):BI p m low x i≠BI p m low x j:=fun e=>by
 have h1:BI p m low x (i+(p^m-1-i))=BI p m low x (j+(p^m-1-i)):=by rw[CI hp hm,CI hp hm,e]
 rw[show i+(p^m-1-i)=p^m-1 by omega,show j+(p^m-1-i)=(j-i)+(p^m-1) by omega,CI hp hm,h.1,Bz hp hm (Dj hp hm x _)]at h1;exact h.2 (j-i) ac ac h1.symm
theorem Db.ne(hp:2<=p)(hm:1<=m){x:Nat}(h:Db p m low x){i:Nat}(hi:i<=p^m-1):BI p m low x i≠0:=fun e=>by
 have h1:=CI (low:=low) hp hm x i (p^m-1-i);rw[e,BO ac,show i+(p^m-1-i)=p^m-1 by omega,h.1]at h1;omega
theorem Ra:∀(n:Nat) (L:List Nat),L.Nodup->L.length=n->(∀x∈L,1<=x/\x<=n)->∀x,1<=x->x<=n->x∈L:=by
 intro n
 induction n with
 | zero=>intro L _ _ _ x h1 h2;omega
 | succ n ih=>
  intro L hd hl hr x h1 h2;by_cases hm:n+1∈L
  .have aD:=hd.erase (n+1);have aA:∀y,y∈L.erase (n+1)↔y≠n+1/\y∈L:=fun y=>hd.mem_erase_iff;by_cases hx:x=n+1
   .exact hx ▸ hm
   .have:=ih (L.erase (n+1)) aD (by rw[List.length_erase_of_mem hm,hl];rfl) (fun y hy=>by
     obtain⟨a,b⟩:=(aA y).1 hy;have:=hr y b;omega) x h1 ac
    exact((aA x).1 this).2
  .exfalso;rcases L with _|⟨a,L⟩
   .simp at hl
   .have aC:=List.nodup_cons.1 hd;have aB:∀y∈a :: L,1<=y/\y<=n:=fun y hy=>by
     have:=hr y hy;have:y≠n+1:=fun e=>hm (e ▸ hy);omega
    have ha:=aB a (List.mem_cons_self ..);exact aC.1 (ih L aC.2 (by simpa using hl) (fun y hy=>aB y (List.mem_cons_of_mem _ hy)) a ha.1 ha.2)
theorem Dd{f:Nat->Nat}{n:Nat}(h:∀i j,j<n->i<j->f i≠f j):((List.range n).map f).Nodup:=by
 rw[List.nodup_iff_pairwise_ne,List.pairwise_map];refine List.Pairwise.imp_of_mem ?_ List.pairwise_lt_range;intro a b ha hb aA;exact h a b (List.mem_range.1 hb) aA
theorem Db.all(hp:2<=p)(hm:1<=m){x:Nat}(h:Db p m low x){y:Nat}(h1:1<=y)(h2:y<p^m):∃k,k<p^m-1/\BI p m low x k=y:=by
 have:=Ra (p^m-1) ((List.range (p^m-1)).map (BI p m low x)) (Dd fun i j hj aA=>h.inj hp hm hj aA) ag (fun z hz=>by
  obtain⟨k,hk,rfl⟩:=List.mem_map.1 hz;have:=h.ne hp hm (i:=k) (by have:=List.mem_range.1 hk;omega);have:=Dj (low:=low) hp hm x k;omega) y h1 ac
 obtain⟨k,hk,e⟩:=List.mem_map.1 this;exact⟨k,List.mem_range.1 hk,e⟩
def GW(p m:Nat)(low:Vc):Prop:=∃x,1<=x/\x<p^m/\Db p m low x
theorem Db.mod(hp:2<=p)(hm:1<=m){x:Nat}(h:Db p m low x)(k:Nat):BI p m low x (k%(p^m-1))=BI p m low x k:=by
 have aA:∀c r,BI p m low x (c*(p^m-1)+r)=BI p m low x r:=by
  intro c
  induction c with
  | zero=>intro r;simp
  | succ c ih=>intro r;rw[Nat.succ_mul,Nat.add_assoc,ih,CI hp hm,h.1,Cn hp hm (Dj hp hm x r)]
 have:=aA (k/(p^m-1)) (k%(p^m-1));rw[Nat.mul_comm,Nat.div_add_mod]at this;exact this.symm
theorem GW.inv(hp:2<=p)(hm:1<=m)(h:GW p m low){y:Nat}(h1:1<=y)(h2:y<p^m):∃z,1<=z/\z<p^m/\Ak p m low y z=1:=by
 obtain⟨x,_,_,hx⟩:=h;obtain⟨k,hk,rfl⟩:=hx.all hp hm h1 h2;refine⟨BI p m low x (p^m-1-k),?_,Dj hp hm x _,?_⟩
 .have:=hx.ne hp hm (i:=p^m-1-k) ac;omega
 .rw[<-CI hp hm,show k+(p^m-1-k)=p^m-1 by omega,hx.1]
theorem GW.cancel(hp:2<=p)(hm:1<=m)(h:GW p m low){y a b:Nat}(h1:1<=y)(h2:y<p^m)(ha:a<p^m)(hb:b<p^m)(e:Ak p m low a y=Ak p m low b y):a=b:=by
 obtain⟨z,_,_,hz⟩:=h.inv hp hm h1 h2;have:Ak p m low (Ak p m low a y) z=Ak p m low (Ak p m low b y) z:=cq
 rwa[Bo ac,Bo ac,hz,Bz hp hm ha,Bz hp hm hb]at this
theorem GW.ne_zero(hp:2<=p)(hm:1<=m)(h:GW p m low){a b:Nat}(ha:1<=a)(aB:a<p^m)(hb:1<=b)(aA:b<p^m):1<=Ak p m low a b:=by
 rcases Nat.eq_zero_or_pos (Ak p m low a b) with e|e
 .have:=h.cancel hp hm hb aA aB (Nat.pow_pos ac) (e.trans (BO ac b).symm);omega
 .exact e
theorem Db.inv(hp:2<=p)(hm:1<=m){x:Nat}(h:Db p m low x){k:Nat}(hk:k<p^m-1):Ak p m low (BI p m low x k) (BI p m low x ((p^m-1-k)%(p^m-1)))=1:=by
 rw[h.mod hp hm,<-CI hp hm,show k+(p^m-1-k)=p^m-1 by omega,h.1]
def Jc(p m:Nat)(low:Vc)(x k:Nat):Prop:=∀i,i<k->BI p m low x i≠0/\∀j,j<i->BI p m low x j≠BI p m low x i
def Lr(p m:Nat)(low:Vc)(x L:Nat):Prop:=1<=L/\L<=p^m-1/\Jc p m low x L/\(BI p m low x L=0∨∃i,i<L/\BI p m low x i=BI p m low x L)
theorem Jc.succ{x k:Nat}(h:Jc p m low x k)(h0:BI p m low x k≠0)(hn:∀j,j<k->BI p m low x j≠BI p m low x k):Jc p m low x (k+1):=fun i hi=>by
 rcases Nat.eq_or_lt_of_le (show i<=k by omega) with e|e
 .subst e;exact⟨h0,hn⟩
 .exact h i e
theorem Jc.one(hp:2<=p)(hm:1<=m)(x:Nat):Jc p m low x 1:=fun i hi=>by
 obtain rfl:i=0:=ac;exact⟨by simp[BI],fun j hj=>ac⟩
theorem Jc.len(hp:2<=p)(hm:1<=m){x k:Nat}(h:Jc p m low x k):k<=p^m-1:=by
 rcases Nat.lt_or_ge (p^m-1) k with hk|hk
 .exfalso;have h1:Jc p m low x (p^m-1):=fun i hi=>h i ac;have:=Ra (p^m-1) ((List.range (p^m-1)).map (BI p m low x)) (Dd fun i j hj aA=>(h1 j hj).2 i aA) ag (fun z hz=>by
   obtain⟨i,hi,rfl⟩:=List.mem_map.1 hz;have:=(h1 i (List.mem_range.1 hi)).1;have:=Dj (low:=low) hp hm x i;omega) (BI p m low x (p^m-1)) (by have:=(h _ hk).1;omega) (by have:=Dj (low:=low) hp hm x (p^m-1);omega)
  obtain⟨i,hi,e⟩:=List.mem_map.1 this;exact(h _ hk).2 i (List.mem_range.1 hi) e
 .exact hk
theorem Lr.gen(hp:2<=p)(hm:1<=m){x L:Nat}(h:Lr p m low x L):Db p m low x↔L=p^m-1/\BI p m low x (p^m-1)=1:=by
 obtain⟨h1,h2,h3,h4⟩:=h;constructor
 .intro hg;refine⟨?_,hg.1⟩;rcases Nat.eq_or_lt_of_le h2 with e|e
  .exact e
  .exfalso;rcases h4 with h4|⟨i,hi,h4⟩
   .exact hg.ne hp hm ac h4
   .exact hg.inj hp hm e hi h4
 .rintro⟨rfl,h5⟩;refine⟨h5,fun k k1 k2 e=>?_⟩;exact(h3 k k2).2 0 ac (by rw[e];rfl)
end
def Hy(c:Vc)(k:Nat)(v:Int):Vc:=fun j=>if j=k then v else c j
section
variable {m:Nat} {low:Vc}
theorem Ix{n:Nat}{c d x:Vc}(h:∀j,j<n->c j=d j):ap m low n c x=ap m low n d x:=by
 induction n with
 | zero=>rfl
 | succ n ih=>simp only[ap];rw[ih fun j hj=>h j ac,h n ac]
theorem MX{n k:Nat}{c x:Vc}{v:Int}(h:n<=k):ap m low n (Hy c k v) x=ap m low n c x:=
 Ix fun j hj=>by unfold Hy;rw[if_neg ac]
theorem RL{c x:Vc}{v:Int}{k:Nat}:∀n,k<n->ap m low n (Hy c k v) x=fun j=>ap m low n c x j+(v-c k)*Dr m low k x j
 | 0,h=>by omega
 | n+1,h=>by
  funext j;simp only[ap];rcases Nat.eq_or_lt_of_le (show k<=n by omega) with e|e
  .subst e;rw[MX (Nat.le_refl _)];unfold Hy;rw[if_pos rfl]
   grind
  .rw[RL n e];rw[show Hy c k v n=c n by unfold Hy;rw[if_neg (by omega)]]
   grind
theorem Uv{p:Int}{n i j:Nat}{a b c:Vc}(hk:i+j<n)
  (h:Cs p (ap m low n c Av) (fun t=>ap m low i a b t+a i*Dr m low i (ap m low j b Av) t)):
  Cs p (ap m low n (Hy c (i+j) ((c (i+j)+a i*b j)%p)) Av) (fun t=>ap m low i a b t+a i*Dr m low i (ap m low (j+1) b Av) t):=by
 intro t;rw[RL n hk];dsimp only;have e1:Dr m low i (ap m low (j+1) b Av) t=Dr m low i (ap m low j b Av) t+b j*Dr m low (i+j) Av t:=by
  simp only[ap];rw[(EU i).add_smul,JL]
 rw[e1];have e2:=h t;dsimp only at e2;generalize ap m low n c Av t=A at *;generalize ap m low i a b t=B at *;generalize Dr m low i (ap m low j b Av) t=C at *;generalize Dr m low (i+j) Av t=D at *;have e3:((c (i+j)+a i*b j)%p-c (i+j))%p=(a i*b j)%p:=by
  have:((c (i+j)+a i*b j)%p-c (i+j))%p=((c (i+j)+a i*b j)-c (i+j))%p:=Iq (Int.emod_emod_of_dvd _ (Int.dvd_refl _)) rfl;rw[this];congr 1;omega
 refine(Em e2 (FQ e3 rfl)).trans ?_
 congr 1
 grind
theorem Uu(p:Int)(n:Nat)(a b:Vc):Cs p (ap m low n (fun _=>0) Av) (fun t=>ap m low 0 a b t+a 0*Dr m low 0 (ap m low 0 b Av) t):=by
 intro t;have:∀n,ap m low n (fun _=>0) Av=fun _=>0:=by
  intro n
  induction n with
  | zero=>rfl
  | succ n ih=>simp only[ap];rw[ih];funext j;simp
 rw[this n];simp[ap,Dr]
theorem WV{p:Int}{n i:Nat}{a b c:Vc}(hb:Iy m b)
  (h:Cs p (ap m low n c Av) (fun t=>ap m low i a b t+a i*Dr m low i (ap m low m b Av) t)):
  Cs p (ap m low n c Av) (fun t=>ap m low (i+1) a b t+a (i+1)*Dr m low (i+1) (ap m low 0 b Av) t):=by
 intro t;rw[h t];dsimp only;have e:Dr m low (i+1) (ap m low 0 b Av) t=0:=by
  simp only[ap];rw[(EU (i+1)).zero]
 rw[e,hb.ap_one];simp only[ap]
 congr 1
 omega
theorem Sk(hm:1<=m):Dr m low m Av=fun j=>-ap m low m low Av j:=by
 rw[Ln m low (Nat.le_refl _)];obtain⟨k,rfl⟩:∃k,m=k+1:=⟨m-1,ac⟩;rw[show Dr (k+1) low (k+1) Av=sX (k+1) low (Dr (k+1) low k Av) from rfl,Nm k ac];funext j;show(if j<k+1 then(if j=0 then 0 else if j-1=k then(1:Int) else 0)-(if k+1-1=k then(1:Int) else 0)*low j else 0)=- (if j<k+1 then low j else 0)
 by_cases hj:j<k+1
 .have e:(if j=0 then(0:Int) else if j-1=k then 1 else 0)=0:=by
   split
   .rfl
   .rw[if_neg ac]
  rw[if_pos hj,if_pos hj,e,show(if k+1-1=k then(1:Int) else 0)=1 by rw[if_pos ac]];omega
 .rw[if_neg hj,if_neg hj];rfl
theorem Pc{p:Int}{i j:Nat}{c c0:Vc}{T:Vc}(hi:m<=i)(hj:j<m)
  (h:Cs p (fun t=>ap m low i c Av t) (fun t=>ap m low i c0 Av t-c0 i*Dr m low (i-m) (ap m low j low Av) t)) (hc:c i=c0 i):
  Cs p (fun t=>ap m low i (Hy c (i-m+j) ((c (i-m+j)+(p-c i)*low j)%p)) Av t) (fun t=>ap m low i c0 Av t-c0 i*Dr m low (i-m) (ap m low (j+1) low Av) t):=by
 intro t;show ap m low i (Hy c (i-m+j) ((c (i-m+j)+(p-c i)*low j)%p)) Av t%p=_
 rw[RL i ac];have e1:Dr m low (i-m) (ap m low (j+1) low Av) t=Dr m low (i-m) (ap m low j low Av) t+low j*Dr m low (i-m+j) Av t:=by
  simp only[ap];rw[(EU (i-m)).add_smul,JL]
 have e2:=h t;dsimp only at e2 ⊢;rw[e1];have e3:((c (i-m+j)+(p-c i)*low j)%p-c (i-m+j))%p=(- (c0 i*low j))%p:=by
  have:((c (i-m+j)+(p-c i)*low j)%p-c (i-m+j))%p=((c (i-m+j)+(p-c i)*low j)-c (i-m+j))%p:=Iq (Int.emod_emod_of_dvd _ (Int.dvd_refl _)) rfl;rw[this,hc];refine Cv.2 ⟨low j,by grind⟩
 refine(Em e2 (FQ e3 rfl)).trans ?_
 congr 1
 generalize ap m low i c0 Av t=A at *;generalize Dr m low (i-m) (ap m low j low Av) t=B at *;generalize Dr m low (i-m+j) Av t=C at *
 grind
theorem Sq{p:Int}{i:Nat}{c c0 T:Vc}(hm:1<=m)(hi:m<=i)(h0:Cs p (ap m low (i+1) c0 Av) T)
  (h:Cs p (fun t=>ap m low i c Av t) (fun t=>ap m low i c0 Av t-c0 i*Dr m low (i-m) (ap m low m low Av) t)):Cs p (ap m low i c Av) T:=by
 intro t;rw[<-h0 t];have e:=h t;dsimp only at e;rw[e]
 congr 1
 simp only[ap];have e2:Dr m low i Av t=- Dr m low (i-m) (ap m low m low Av) t:=by
  rw[show i=(i-m)+m by omega,JL,Sk hm];have e3:=EU (m:=m) (low:=low) (i-m) (-1) 0 (ap m low m low Av) (fun _=>0);have e4:=congrFun e3 t;simp only[Int.zero_mul,Int.add_zero,Int.neg_mul,Int.one_mul]at e4;rw[show i-m+m-m=i-m by omega];exact e4
 rw[e2]
 grind
theorem Mw(p:Int){i:Nat}(c:Vc):Cs p (fun t=>ap m low i c Av t) (fun t=>ap m low i c Av t-c i*Dr m low (i-m) (ap m low 0 low Av) t):=by
 intro t;have e:Dr m low (i-m) (ap m low 0 low Av) t=0:=by simp only[ap];rw[(EU (i-m)).zero]
 dsimp only;rw[e];simp
theorem Yj{p m:Nat}{low:Vc}(hp:1<=p){x y:Nat}{c:Vc}(hc:∀j,j<m->0<=c j/\c j<p)(h:Cs p (ap m low m c Av) (ap m low m (AI p m x) (AI p m y))):
  Ep p m c=((Ak p m low x y:Nat):Int):=by
 unfold Ak rep;rw[Fo (Bp p m x) (Bp p m y)];unfold E9;rw[Int.toNat_of_nonneg (Dg (fun j=>⟨Int.emod_nonneg _ ac,Int.emod_lt_of_pos _ ac⟩) m).1];refine DS m fun j hj=>?_;have h1:=h j;rw[Ln m c (Nat.le_refl _)]at h1;dsimp only at h1;rw[if_pos hj]at h1;rw[<-h1];exact(Int.emod_eq_of_lt (hc j hj).1 (hc j hj).2).symm
end
section
variable {m d:Nat} {f low:Vc}
def pj(m d:Nat)(low v:Vc):Vc:=ap d low m v Av
theorem JB{n:Nat}{x:Vc}(a b:Int)(v w:Vc):ap d low n (fun j=>a*v j+b*w j) x=fun t=>a*ap d low n v x t+b*ap d low n w x t:=by
 induction n with
 | zero=>funext t;simp[ap]
 | succ n ih=>funext t;simp only[ap];rw[ih];grind
theorem JC{n:Nat}{x:Vc}(v w:Vc)(b:Int):ap d low n (fun j=>v j+b*w j) x=fun t=>ap d low n v x t+b*ap d low n w x t:=by
 have:=JB (d:=d) (low:=low) (n:=n) (x:=x) 1 b v w;simpa using this
theorem MY(v x:Vc):∀n,ap d low (n+1) (fun j=>if j=0 then 0 else v (j-1)) x=sX d low (ap d low n v x)
 | 0=>by
  have:sX d low (fun _=>0)=fun _=>0:=Hd.zero;simp only[ap];rw[this];funext t;simp
 | n+1=>by
  rw[ap,MY v x n];rw[ap,Hd.add_smul];funext t;simp only[Dr];rw[if_neg ac,Nat.add_sub_cancel]
theorem pj_sX{p:Int}(hm:1<=m)(h0:Cs p (fun t=>ap d low m f Av t+Dr d low m Av t) (fun _=>0))(v:Vc):
  Cs p (pj m d low (sX m f v)) (sX d low (pj m d low v)):=by
 obtain⟨n,rfl⟩:∃n,m=n+1:=⟨m-1,ac⟩;intro t;unfold pj;have e1:ap d low (n+1) (sX (n+1) f v) Av=ap d low (n+1) (fun j=>(if j=0 then 0 else v (j-1))+(- v n)*f j) Av:=Ix fun j hj=>by
  unfold sX;rw[if_pos hj,Nat.add_sub_cancel]
  grind
 rw[e1,JC,MY];have e2:sX d low (ap d low (n+1) v Av)=fun t=>sX d low (ap d low n v Av) t+v n*Dr d low (n+1) Av t:=by
  rw[ap,Hd.add_smul];rfl
 rw[e2];have e3:=h0 t;dsimp only at e3 ⊢;generalize sX d low (ap d low n v Av) t=A at *;generalize ap d low (n+1) f Av t=B at *;generalize Dr d low (n+1) Av t=C at *;obtain⟨k,hk⟩:=Cv.1 e3;refine Cv.2 ⟨- v n*k,?_⟩
 grind
theorem Vu{p:Int}(hm:1<=m)(h0:Cs p (fun t=>ap d low m f Av t+Dr d low m Av t) (fun _=>0))(v:Vc):∀k,Cs p (pj m d low (Dr m f k v)) (Dr d low k (pj m d low v))
 | 0=>Cs.refl _ _
 | k+1=>(pj_sX hm h0 _).trans (Cs.sX (Vu hm h0 v k))
theorem ZQ{p:Int}(hm:1<=m)(h0:Cs p (fun t=>ap d low m f Av t+Dr d low m Av t) (fun _=>0))(y x:Vc):∀n,Cs p (pj m d low (ap m f n y x)) (ap d low n y (pj m d low x))
 | 0=>by
  intro t;show ap d low m (fun _=>0) Av t%p=_
  have e:=JB (d:=d) (low:=low) (n:=m) (x:=Av) 0 0 (fun _=>0) (fun _=>0);simp only[Int.zero_mul,Int.add_zero]at e;rw[e];rfl
 | n+1=>by
  intro t;have e:pj m d low (ap m f (n+1) y x)=fun t=>pj m d low (ap m f n y x) t+y n*pj m d low (Dr m f n x) t:=by
   unfold pj;simp only[ap];exact JC _ _ _
  rw[e];simp only[ap];exact Em (ZQ hm h0 y x n t) (FQ rfl (Vu hm h0 x n t))
theorem Vv{p:Int}{v w:Vc}(h:Cs p v w):Cs p (pj m d low v) (pj m d low w):=Cs.ap (Cs.refl _ _) h m
theorem T8{p:Nat}(hp:2<=p)(hd:1<=d)(hdm:d<m)(hl:∀j,0<=low j/\low j<p)
  (h0:Cs p (fun t=>ap d low m f Av t+Dr d low m Av t) (fun _=>0)):¬GW p m f:=fun hF=>by
 obtain⟨D,hD⟩:∃D:Vc,(fun j=>if j<d then low j else if j=d then 1 else 0)=D:=⟨_,rfl⟩;have aC:IsD p m D:=by
  rw[<-hD];refine⟨fun j hj=>by dsimp only;rw[if_neg ac,if_neg ac],fun j=>?_⟩;dsimp only;split
  .exact hl j
  .split <;> omega
 have aD:pj m d low D=fun _=>0:=by
  unfold pj;have e1:ap d low m D Av=ap d low (d+1) D Av:=by
   have aB:∀c,ap d low (d+1+c) D Av=ap d low (d+1) D Av:=by
    intro c
    induction c with
    | zero=>rfl
    | succ c ih=>
     rw[<-Nat.add_assoc,ap,ih];have:D (d+1+c)=0:=by rw[<-hD];dsimp only;rw[if_neg ac,if_neg ac]
     rw[this];funext t;simp
   have:=aB (m-(d+1))
   rwa[show d+1+(m-(d+1))=m by omega]at this
  rw[e1,ap,Sk hd];have e2:ap d low d D Av=ap d low d low Av:=Ix fun j hj=>by rw[<-hD];dsimp only;rw[if_pos hj]
  have e3:D d=1:=by rw[<-hD];dsimp only;rw[if_neg ac,if_pos rfl]
  rw[e2,e3];funext t;simp;omega
 have aA:=Ld (show 1<=p by omega) aC;obtain⟨c,hc⟩:=nA ((Ep p m D).toNat);rw[hc]at aA;have hr:=Dg aC.2 m;have aE:c<p^m:=by omega
 have aF:1<=c:=by
  rcases Nat.eq_zero_or_pos c with e|e
  .exfalso;rw[e,It]at aA;have:=congrFun aA d;rw[<-hD]at this;dsimp only at this;rw[if_neg ac,if_pos rfl]at this;omega
  .exact e
 obtain⟨z,_,_,hz⟩:=hF.inv hp ac aF aE;unfold Ak at hz;rw[aA]at hz;have h1:Cs p (E9 m f D (AI p m z)) Av:=by
  have:=Cd (p:=p) (m:=m) ac (Fn (low:=f) (y:=AI p m z) aC.1);rw[hz,Oh hp ac]at this;exact this.symm
 have h2:=Vv (m:=m) (d:=d) (low:=low) h1;have h3:=ZQ (m:=m) ac h0 (AI p m z) D m;rw[aD,(Lo m (AI p m z)).zero]at h3;have h4:=(h3.symm.trans h2) 0;have h5:pj m d low Av 0=1:=by
  unfold pj;obtain⟨n,rfl⟩:∃n,m=n+1:=⟨m-1,ac⟩;have aB:∀k,ap d low (k+1) Av Av=Av:=by
   intro k
   induction k with
   | zero=>funext t;simp[ap,Dr,Av]
   | succ k ih=>rw[ap,ih];funext t;simp[Av]
  rw[aB];rfl
 rw[h5]at h4;have:(1:Int)%(p:Int)=1:=Int.emod_eq_of_lt ac ac;simp at h4;omega
end
noncomputable section
def hdC(l:List Nat):Nat:=@List.rec Nat (fun _=>Nat) 0 (fun x _ _=>x) l
def Z9(l:List Nat):List Nat:=@List.rec Nat (fun _=>List Nat) [] (fun _ t _=>t) l
def UM(p c b:Nat)(aA:List Nat):List Nat->List Nat->Nat->List Nat:=
 @List.rec Nat (fun _=>List Nat->List Nat->Nat->List Nat) (fun _ _ _=> [])
  (fun a _ ih os ls s=>Nat.mod (Nat.add (Nat.add s (Nat.mul c (hdC ls))) (Nat.mul b a)) p :: ih (Z9 os) (Z9 ls) (hdC os)) aA
def VY(l:List Nat):Nat->Nat:=@List.rec Nat (fun _=>Nat->Nat) (fun d=>d) (fun x _ ih _=>ih x) l
def OV(p:Nat)(low a:List Nat)(b:Nat)(aA:List Nat):List Nat:=UM p (Nat.sub p (VY aA 0)) b a aA low 0
def Po(p:Nat)(low z a:List Nat)(bs:List Nat):List Nat:=@List.rec Nat (fun _=>List Nat) z (fun b _ ih=>OV p low a b ih) bs
def Hn(p:Nat)(n:Nat):Nat->List Nat:=@Nat.rec (fun _=>Nat->List Nat) (fun _=> []) (fun _ ih x=>Nat.mod x p :: ih (Nat.div x p)) n
def Qb(p:Nat)(l:List Nat):Nat:=@List.rec Nat (fun _=>Nat) 0 (fun x _ ih=>Nat.add x (Nat.mul p ih)) l
def Xt(p m:Nat)(low z:List Nat)(x y:Nat):Nat:=Qb p (Po p low z (Hn p m x) (Hn p m y))
def lf(l:List Nat):Vc:=fun j=>((l.getD j 0:Nat):Int)
theorem Wq(l:List Nat):hdC l=l.getD 0 0:=by cases l <;> rfl
theorem R9(l:List Nat)(j:Nat):(Z9 l).getD j 0=l.getD (j+1) 0:=by cases l <;> simp[Z9]
theorem IF(p c b a:Nat)(aA os ls:List Nat)(s:Nat):UM p c b (a :: aA) os ls s=(s+c*hdC ls+b*a)%p :: UM p c b aA (Z9 os) (Z9 ls) (hdC os):=rfl
theorem OI(p c b:Nat):∀(aA os ls:List Nat) (s:Nat),(UM p c b aA os ls s).length=aA.length
 | [],_,_,_=>rfl
 | a :: aA,os,ls,s=>by rw[IF,List.length_cons,OI p c b aA,List.length_cons]
theorem az{P:Prop}(h:P:=by simpa using h):P:=h
theorem OJ(p c b:Nat):∀(aA os ls:List Nat) (s j:Nat),j<aA.length->
  (UM p c b aA os ls s).getD j 0=((if j=0 then s else os.getD (j-1) 0)+c*ls.getD j 0+b*aA.getD j 0)%p
 | [],_,_,_,j,h=>by simp at h
 | a :: aA,os,ls,s,0,_=>by rw[IF,Wq];simp
 | a :: aA,os,ls,s,j+1,h=>by
  rw[IF];simp only[List.getD_cons_succ];have e:(if j=0 then hdC os else(Z9 os).getD (j-1) 0)=os.getD j 0:=by
   by_cases hj:j=0
   .rw[if_pos hj,Wq,hj]
   .rw[if_neg hj,R9,show j-1+1=j by omega]
  rw[OJ p c b aA _ _ _ j az,e,R9,if_neg (show ¬j+1=0 by omega),Nat.add_sub_cancel]
theorem Pw:∀(l:List Nat) (d:Nat),VY l d=if l= [] then d else l.getD (l.length-1) 0
 | [],d=>rfl
 | x :: l,d=>by
  show VY l x=_
  rw[Pw l x]
  cases l with
  | nil=>simp
  | cons y l=>simp
theorem KC{p m:Nat}{low z a:List Nat}(hp:1<=p)(hm:1<=m)(hl:low.length=m)(ha:a.length=m)(hz:z=List.replicate m 0):
  ∀bs:List Nat,(Po p low z a bs).length=m/\∀j,j<m->(((Po p low z a bs).getD j 0:Nat):Int)=DR m (lf low) (lf a) bs.length (lf bs) j%(p:Int)
 | []=>by
  subst hz;refine⟨List.length_replicate ..,fun j hj=>?_⟩;show(((List.replicate m 0).getD j 0:Nat):Int)=0%(p:Int)
  rw[List.getD_eq_getElem?_getD,List.getElem?_replicate,if_pos hj];simp
 | b :: bs=>by
  obtain⟨h1,h2⟩:=KC hp hm hl ha hz bs;show(OV p low a b (Po p low z a bs)).length=m/\_
  refine⟨by unfold OV;rw[OI,ha],fun j hj=>?_⟩;show(((OV p low a b (Po p low z a bs)).getD j 0:Nat):Int)=_
  generalize Po p low z a bs=o at *;unfold OV;rw[OJ _ _ _ _ _ _ _ _ ac,Pw,if_neg (show ¬o= [] by intro e;rw[e]at h1;simp at h1;omega),h1];have aA:=h2 (m-1) ac;have hlp:o.getD (m-1) 0<=p:=by
   have:=Int.emod_lt_of_pos (DR m (lf low) (lf a) bs.length (lf bs) (m-1)) (show 0<(p:Int) by omega);omega
  rw[List.length_cons,DR];have e1:(fun t=>lf (b :: bs) (t+1))=lf bs:=by funext t;simp[lf]
  have e2:lf (b :: bs) 0=(b:Int):=by simp[lf]
  rw[e1,e2];unfold sX;dsimp only;rw[if_pos hj];have e3:((Nat.sub p (o.getD (m-1) 0):Nat):Int)=(p:Int)-((o.getD (m-1) 0:Nat):Int):=by
   show((p-o.getD (m-1) 0:Nat):Int)=_
   omega
  rw[Int.natCast_emod,Int.natCast_add,Int.natCast_add,Int.natCast_mul,Int.natCast_mul,e3,aA];have e4:(((if j=0 then 0 else o.getD (j-1) 0:Nat)):Int)%(p:Int)=(if j=0 then 0 else DR m (lf low) (lf a) bs.length (lf bs) (j-1))%(p:Int):=by
   by_cases h0:j=0
   .rw[if_pos h0,if_pos h0];rfl
   .rw[if_neg h0,if_neg h0,h2 (j-1) ac];exact Int.emod_emod_of_dvd _ (Int.dvd_refl _)
  generalize DR m (lf low) (lf a) bs.length (lf bs)=H at *;refine Em ?_ rfl;have e5:((if j=0 then 0 else H (j-1))-H (m-1)*lf low j)%(p:Int)=((if j=0 then 0 else H (j-1))+((p:Int)-H (m-1))*lf low j)%(p:Int):=by
   refine Cv.2 ⟨- lf low j,?_⟩;generalize (if j=0 then 0 else H (j-1))=zz
   grind
  rw[e5];exact Em e4 (FQ (Iq rfl (Int.emod_emod_of_dvd _ (Int.dvd_refl _))) rfl)
theorem Td(p:Nat):∀(n x j:Nat),j<n->(Hn p n x).getD j 0=x/p^j%p
 | 0,x,j,h=>by omega
 | n+1,x,0,h=>by show x%p=_;simp
 | n+1,x,j+1,h=>by
  show(Hn p n (x/p)).getD j 0=_
  rw[Td p n (x/p) j (by omega),Nat.div_div_eq_div_mul,Nat.pow_succ,Nat.mul_comm p]
theorem Df(p:Nat):∀(n x:Nat),(Hn p n x).length=n
 | 0,x=>rfl
 | n+1,x=>by show(Hn p n (x/p)).length+1=_;rw[Df p n]
theorem I0(p m x:Nat):lf (Hn p m x)=AI p m x:=by
 funext j;unfold lf AI;by_cases h:j<m
 .rw[if_pos h,Td p m x j h]
 .rw[if_neg h,List.getD_eq_getElem?_getD,List.getElem?_eq_none (by rw[Df];omega)];rfl
theorem MT(p:Nat)(v:Vc):∀n,Ep p (n+1) v=v 0+(p:Int)*Ep p n (fun j=>v (j+1))
 | 0=>by simp[Ep]
 | n+1=>by
  rw[Ep,MT p v n];simp only[Ep];rw[Nat.pow_succ,Int.natCast_mul]
  grind
theorem Tf(p:Nat):∀l:List Nat,((Qb p l:Nat):Int)=Ep p l.length (lf l)
 | []=>rfl
 | x :: l=>by
  show((x+p*Qb p l:Nat):Int)=_
  rw[List.length_cons,MT,Int.natCast_add,Int.natCast_mul,Tf p l];have:(fun j=>lf (x :: l) (j+1))=lf l:=by funext j;simp[lf]
  rw[this];simp[lf]
theorem V7{p m:Nat}{low:List Nat}(hp:1<=p)(hm:1<=m)(hl:low.length=m)(x y:Nat):Xt p m low (List.replicate m 0) x y=Ak p m (lf low) x y:=by
 have h:=KC (z:=List.replicate m 0) hp hm hl (Df p m x) rfl (Hn p m y);have h1:((Xt p m low (List.replicate m 0) x y:Nat):Int)=((Ak p m (lf low) x y:Nat):Int):=by
  unfold Xt;rw[Tf,h.1];unfold Ak rep E9;rw[Int.toNat_of_nonneg (Dg (fun j=>⟨Int.emod_nonneg _ ac,Int.emod_lt_of_pos _ ac⟩) m).1];refine DS m fun j hj=>?_;show(((Po p low (List.replicate m 0) (Hn p m x) (Hn p m y)).getD j 0:Nat):Int)=_
  rw[h.2 j hj,Df,I0,I0,NY]
 omega
section
variable {p m:Nat} {low:Vc}
theorem Gm(hp:2<=p)(hm:1<=m){x i:Nat}(h:BI p m low x i=1):∀k,BI p m low x (i*k)=1
 | 0=>rfl
 | k+1=>by rw[Nat.mul_succ,CI hp hm,Gm hp hm h k,h,Bz hp hm (Bw hp hm)]
theorem Py(hp:2<=p)(hm:1<=m){x i j:Nat}(hi:BI p m low x i=1)(hj:BI p m low x j=1):BI p m low x (j%i)=1:=by
 have h:BI p m low x (i*(j/i)+j%i)=1:=by rw[Nat.div_add_mod];exact hj
 rw[CI hp hm,Gm hp hm hi,Cn hp hm (Dj hp hm x _)]at h;exact h
theorem Pz(hp:2<=p)(hm:1<=m){x:Nat}:∀(i j:Nat),BI p m low x i=1->BI p m low x j=1->BI p m low x (Nat.gcd i j)=1:=by
 intro i
 induction i using Nat.strongRecOn with
 | _ i ih=>
  intro j hi hj;rcases Nat.eq_zero_or_pos i with e|e
  .subst e;rwa[Nat.gcd_zero_left]
  .rw[Nat.gcd_rec];exact ih (j%i) (Nat.mod_lt _ e) i (Py hp hm hi hj) hi
theorem Ww(hp:2<=p)(hm:1<=m){x:Nat}{D:List Nat}(h1:BI p m low x (p^m-1)=1)(hD:∀y∈D,BI p m low x y≠1)
  (hC:∀e,e<p^m-1->e ∣ p^m-1->∃y∈D,e ∣ y):Db p m low x:=by
 refine⟨h1,fun k k1 k2 hk=>?_⟩;have hg:=Pz hp hm _ _ hk h1;have aA:Nat.gcd k (p^m-1)<p^m-1:=Nat.lt_of_le_of_lt (Nat.le_of_dvd ac (Nat.gcd_dvd_left _ _)) k2;obtain⟨y,hy,c,rfl⟩:=hC _ aA (Nat.gcd_dvd_right _ _);exact hD _ hy (Gm hp hm hg c)
end
noncomputable section
def pwC(p m:Nat)(low z:List Nat)(x:Nat)(bs:List Bool):Nat->Nat:=@List.rec Bool (fun _=>Nat->Nat) (fun y=>y)
 (fun b _ ih y=>ih (match b with|true=>Xt p m low z (Xt p m low z y y) x|false=>Xt p m low z y y)) bs
end
def DN:Nat->List Bool->Nat
 | n, []=>n
 | n,b :: bs=>DN (2*n+if b then 1 else 0) bs
theorem Q6{p m:Nat}{low:List Nat}(hp:2<=p)(hm:1<=m)(hl:low.length=m)(x:Nat)(hx:x<p^m):∀(bs:List Bool) (n:Nat),pwC p m low (List.replicate m 0) x bs (BI p m (lf low) x n)=BI p m (lf low) x (DN n bs)
 | [],n=>rfl
 | b :: bs,n=>by
  have e:Xt p m low (List.replicate m 0) (BI p m (lf low) x n) (BI p m (lf low) x n)=BI p m (lf low) x (2*n):=by
   rw[V7 ac hm hl,<-CI hp hm,Nat.two_mul]
  cases b with
  | true=>
   show pwC p m low (List.replicate m 0) x bs (Xt p m low (List.replicate m 0) (Xt p m low (List.replicate m 0) (BI p m (lf low) x n) (BI p m (lf low) x n)) x)=_
   rw[e,V7 ac hm hl];exact Q6 hp hm hl x hx bs (2*n+1)
  | false=>
   show pwC p m low (List.replicate m 0) x bs (Xt p m low (List.replicate m 0) (BI p m (lf low) x n) (BI p m (lf low) x n))=_
   rw[e];exact Q6 hp hm hl x hx bs (2*n)
end
end Go.Proofs.YtehieobniamagaaGreat
