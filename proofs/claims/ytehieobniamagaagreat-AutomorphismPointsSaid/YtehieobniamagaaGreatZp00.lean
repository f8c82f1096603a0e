/- Small helpers over any program: worlds that only grow, slices that read as lists of cells. -/
import Derived.Test.YtehieobniamagaaGreatRows
import Derived.WalkKit
import Derived.WalkSpells
import Derived.Deep.RegionWith
import Derived.Deep.QuietTactic
import Derived.BigQuiet
import Derived.WalkLawsBesides
namespace Go.Proofs.YtehieobniamagaaGreat
set_option linter.unusedVariables false
set_option linter.unusedSimpArgs false
theorem nA{A:Sort _}(x:A):∃y,x=y:=⟨x,rfl⟩
section
open Go.RowKit
def Hia(p:Prop):Prop:=p
theorem Hia.o{p:Prop}(h:Hia p):p:=h
theorem Aa{p:Prop}(h:p):Hia p:=h
theorem Af{k:IntKind}{a b:Int}(h:a=b):Ending.returned (.int k a)= .returned (.int k b):=by rw[h]
theorem Ao{a b:Bool}(h:a=b):Ending.returned (.bool a)= .returned (.bool b):=by rw[h]
def Ex(w w':World):Prop:=Below w.heap.size w w'
theorem Ex.refl(w:World):Ex w w:=Below.refl _ _
theorem Ex.trans{a b c:World}(h:Ex a b)(k:Ex b c):Ex a c:=Below.trans h (Below.mono k h.size)
theorem Ex.drew{a b:World}(h:Ex a b):Ex a b.drew:=Below.drew h
theorem Ex.drewN{a b:World}(h:Ex a b)(n:Nat):Ex a (b.drewN n):=below_drewN h n
theorem Ex.alloc{a b:World}(h:Ex a b)(o:Obj):Ex a (b.alloc o):=Below.alloc h h.size o
theorem Ex.setCell{a b:World}(h:Ex a b){p:Addr}(hp:a.heap.size<=p.block)(u:Value):Ex a (b.setCell p u):=Below.setCell h hp u
theorem Ex.cell{w w':World}(h:Ex w w'){p:Addr}{u:Value}(hc:w.cell? p=some u):w'.cell? p=some u:=
 (Below.cell h (World.block_lt_of_cell? w _ hc)).trans hc
def Sl(w:World)(v:Value)(n size:Nat)(xs:List Value):Prop:=
 xs.length=n*size/\∃a cap,v= .slice a n cap/\n<=cap/\cap<=maxLen/\
  (0<n->∃b o,a=some ⟨b,o,none⟩/\∀j u,xs[j]?=some u->w.cell? ⟨b,o+j,none⟩=some u)
theorem Sl.ex{w w':World}{v:Value}{n size:Nat}{xs:List Value}(h:Sl w v n size xs)(hx:Ex w w'):Sl w' v n size xs:=by
 obtain⟨h1,a,cap,h2,h3,h4,h5⟩:=h;refine⟨h1,a,cap,h2,h3,h4,fun hn=>?_⟩;obtain⟨b,o,h6,h7⟩:=h5 hn;exact⟨b,o,h6,fun j u hu=>hx.cell (h7 j u hu)⟩
theorem ac{P:Prop}(h:P:=by omega):P:=h
theorem ag{P:Prop}(h:P:=by simp):P:=h
theorem Sl.nil(w:World)(size:Nat):Sl w (.slice none 0 0) 0 size []:=⟨ag,none,0,rfl,Nat.le_refl _,by unfold maxLen;omega,fun h=>absurd h ac⟩
theorem Sl.own{w:World}{base:Nat}{e:TypeId}{size:Nat}{v:Value}{n:Nat}{xs:List Value}(h:w.ownsRow base e size v n xs):Sl w v n size xs:=by
 refine⟨h.1,?_⟩;rcases h.2 with⟨h2,h3⟩|⟨g,cap,cur,hv,hb,hg,h1,h2,h3,h4⟩
 .exact⟨none,0,by rw[h2,h3],ac,by unfold maxLen;omega,fun h=>ac⟩
 .refine⟨some ⟨g,0,none⟩,cap,hv,h1,h2,fun _=>⟨g,0,rfl,fun j u hu=>?_⟩⟩;rw[Nat.zero_add,cell_of_row w g j cur e (0,0) hg];rw[<-h4,List.getElem?_take]at hu;split at hu
  .simpa using hu
  .cases hu
theorem cj{P:Prop}(h:P:=by rw[e]):P:=h
theorem Ad{w:World}{base:Nat}{e:TypeId}{size:Nat}{v:Value}{n:Nat}{xs:List Value}(h:w.ownsRow base e size v n xs){a:Addr}(ha:v.ownBlock≠some a.block)(u:Value):(w.setCell a u).ownsRow base e size v n xs:=by
 refine h.kept (row:=some a.block) ⟨rfl,rfl,rfl,by simp[World.setCell],fun k _ hk=>Below.heap_setCell _ _ _ _ (fun e=>hk cj)⟩ ?_;exact .inr ha
theorem Ai{w w':World}{base:Nat}{e:TypeId}{size:Nat}{v:Value}{n:Nat}{xs:List Value}(h:w.ownsRow base e size v n xs)(hx:Ex w w'):w'.ownsRow base e size v n xs:=by
 refine h.kept (row:=none) ⟨hx.os,hx.tape,hx.output,hx.size,fun k hk _=>hx.block k hk⟩ ?_;cases v.ownBlock <;> simp
theorem Ex.grown{a w w':World}{base:Nat}{e:TypeId}{size:Nat}{v:Value}{n:Nat}{xs:List Value}(h:Ex a w)(aA:w.ownsRow base e size v n xs)(hb:a.heap.size<=base)(hg:w.grownBy w' v.ownBlock):Ex a w':=
 Below.grown h hg h.size (fun k hk=>Nat.le_trans hb (aA.lt k hk).1)
theorem Ag{w:World}{B i j:Nat}{u:Value}(h:i≠j):(w.setCell ⟨B,i,none⟩ u).cell? ⟨B,j,none⟩=w.cell? ⟨B,j,none⟩:=
 World.cell?_setCell_other _ _ _ _ (by intro e;injection e;omega)
theorem Zh{x:Int}(h1:-9223372036854775808<=x)(h2:x<=9223372036854775807):wrap64 x=x:=IntWalk.wrap64_in _ ⟨h1,h2⟩
def Am(l:List Int):List Value:=l.map (Value.int .i64)
theorem AP(l:List Int):(Am l).length=l.length:=List.length_map _
theorem NO{l:List Int}{j:Nat}{x:Int}(h:l[j]?=some x):(Am l)[j]?=some (.int .i64 x):=by simp[Am,h]
def Ak(w:World)(v:Value)(l:List Int):Prop:=Sl w v l.length 1 (Am l)
theorem Ak.ex{w w':World}{v:Value}{l:List Int}(h:Ak w v l)(hx:Ex w w'):Ak w' v l:=Sl.ex h hx
theorem Ak.open{w:World}{v:Value}{l:List Int}(h:Ak w v l):∃a cap,v= .slice a l.length cap/\l.length<=cap/\cap<=maxLen/\
  (0<l.length->∃b o,a=some ⟨b,o,none⟩/\∀j x,l[j]?=some x->w.cell? ⟨b,o+j,none⟩=some (.int .i64 x)):=by
 obtain⟨h1,a,cap,h2,h3,h4,h5⟩:=h;refine⟨a,cap,h2,h3,h4,fun hn=>?_⟩;obtain⟨b,o,h6,h7⟩:=h5 hn;exact⟨b,o,h6,fun j x hx=>h7 j _ (NO hx)⟩
theorem Jj{P:Program}{f:FuncId}{aA:Array Value}{w:World}{n:Nat}{v:Value}
  (h:Calls P f aA (w.drewN n) fun e w'=>e= .returned v/\∃k,w'=(w.drewN n).drewN k):Calls P f aA (w.drewN n) fun e w''=>e= .returned v/\∃m,w''=w.drewN m:=
 h.mono fun _ _ ⟨he,k,hm⟩=>⟨he,n+k,by rw[hm,World.drewN_drewN]⟩
theorem TI(w:World)(l:List Int)(t:TypeId)(hl:l.length<=1000):Ak (w.alloc (.cells (Am l).toArray t)) (.slice (some ⟨w.heap.size,0,none⟩) l.length l.length) l:=by
 refine⟨by rw[AP];omega,some ⟨w.heap.size,0,none⟩,l.length,rfl,Nat.le_refl _,by unfold maxLen;omega,fun _=>⟨_,_,rfl,fun j u h=>?_⟩⟩;rw[Nat.zero_add];simpa using h
end
section
abbrev Vc:=Nat->Int
def sX(m:Nat)(low:Vc)(v:Vc):Vc:=fun j=>if j<m then(if j=0 then 0 else v (j-1))-v (m-1)*low j else 0
def CU(m:Nat)(low:Vc):Nat->Vc->Vc
 | 0,v=>v
 | k+1,v=>sX m low (CU m low k v)
def ap(m:Nat)(low:Vc):Nat->Vc->Vc->Vc
 | 0,_,_=>fun _=>0
 | n+1,y,x=>fun j=>ap m low n y x j+y n*CU m low n x j
def Aq:Vc:=fun j=>if j=0 then 1 else 0
def El(m:Nat)(low:Vc)(x y:Vc):Vc:=ap m low m y x
def PS(T:Vc->Vc):Prop:=∀(a b:Int) (v w:Vc),T (fun j=>a*v j+b*w j)=fun j=>a*T v j+b*T w j
variable {m:Nat} {low:Vc}
theorem Gh:PS (sX m low):=by
 intro a b v w;funext j;unfold sX;split
 .split <;> grind
 .simp
theorem PS.comp{T U:Vc->Vc}(h:PS T)(k:PS U):PS (fun v=>T (U v)):=by
 intro a b v w;show T (U _)=_
 rw[k,h]
theorem Ea:∀k,PS (CU m low k)
 | 0=>fun _ _ _ _=>rfl
 | k+1=>by
  have:=PS.comp (Gh (m:=m) (low:=low)) (Ea k);exact this
theorem PS.zero{T:Vc->Vc}(h:PS T):T (fun _=>0)=fun _=>0:=by
 have:=h 0 0 (fun _=>0) (fun _=>0);simp at this;exact this
theorem PS.add{T:Vc->Vc}(h:PS T)(v w:Vc):T (fun j=>v j+w j)=fun j=>T v j+T w j:=by
 have:=h 1 1 v w;simpa using this
theorem PS.add_smul{T:Vc->Vc}(h:PS T)(v w:Vc)(b:Int):T (fun j=>v j+b*w j)=fun j=>T v j+b*T w j:=by
 have:=h 1 b v w;simpa using this
theorem J4:∀n y,PS (ap m low n y)
 | 0,y=>by intro a b v w;funext j;simp[ap]
 | n+1,y=>by
  intro a b v w;funext j;simp only[ap];rw[J4 n y,Ea n]
  grind
theorem IC:∀i k v,CU m low (i+k) v=CU m low i (CU m low k v)
 | 0,k,v=>by simp[CU]
 | i+1,k,v=>by rw[Nat.add_right_comm];simp only[CU];rw[IC i k v]
theorem MN{T:Vc->Vc}(h:PS T)(hc:∀v,T (sX m low v)=sX m low (T v)):∀n y x,T (ap m low n y x)=ap m low n y (T x)
 | 0,y,x=>by simp only[ap];exact h.zero
 | n+1,y,x=>by
  have hk:∀k v,T (CU m low k v)=CU m low k (T v):=by
   intro k
   induction k with
   | zero=>intro v;rfl
   | succ k ih=>intro v;simp only[CU];rw[hc,ih]
  simp only[ap];rw[h.add_smul,MN h hc n y x,hk]
theorem Zd(n:Nat)(y x:Vc):ap m low n y (sX m low x)=sX m low (ap m low n y x):=(MN Gh (fun _=>rfl) n y x).symm
theorem WY(n k:Nat)(y z x:Vc):ap m low n y (ap m low k z x)=ap m low k z (ap m low n y x):=
 MN (J4 n y) (fun v=>Zd n y v) k z x
theorem LK:∀i,i<m->CU m low i Aq=fun j=>if j=i then 1 else 0
 | 0,_=>rfl
 | i+1,h=>by
  simp only[CU];rw[LK i (by omega)];funext j;unfold sX;show(if j<m then(if j=0 then 0 else if j-1=i then(1:Int) else 0)-(if m-1=i then(1:Int) else 0)*low j else 0)=_
  rw[show(if m-1=i then(1:Int) else 0)=0 by rw[if_neg (by omega)]];by_cases h1:j=i+1
  .subst h1;simp[h]
  .rw[if_neg h1];by_cases h2:j<m
   .rw[if_pos h2];by_cases h3:j=0
    .simp[h3]
    .rw[if_neg h3,if_neg (by omega)];simp
   .rw[if_neg h2]
theorem J3:∀n (y:Vc),n<=m->ap m low n y Aq=fun j=>if j<n then y j else 0
 | 0,y,_=>by simp[ap]
 | n+1,y,h=>by
  simp only[ap];rw[J3 n y (by omega),LK n (by omega)];funext j;show(if j<n then y j else 0)+y n*(if j=n then 1 else 0)=_
  by_cases h1:j<n
  .rw[if_pos h1,if_neg (show ¬j=n by omega),if_pos (by omega)];simp
  .rw[if_neg h1];by_cases h2:j=n
   .subst h2;simp
   .rw[if_neg h2,if_neg (by omega)];simp
def GT(m:Nat)(v:Vc):Prop:=∀j,m<=j->v j=0
theorem GT.ap_one{y:Vc}(h:GT m y):ap m low m y Aq=y:=by
 rw[Go.Proofs.YtehieobniamagaaGreat.J3 m y (Nat.le_refl _)];funext j;by_cases h1:j<m
 .rw[if_pos h1]
 .rw[if_neg h1,h j ac]
theorem Xk(v:Vc):GT m (sX m low v):=fun j h=>by unfold sX;rw[if_neg ac]
theorem Vh{v:Vc}(h:GT m v):∀k,GT m (CU m low k v)
 | 0=>h
 | k+1=>Xk _
theorem ML{x:Vc}(h:GT m x):∀n y,GT m (ap m low n y x)
 | 0,y=>fun _ _=>rfl
 | n+1,y=>fun j hj=>by simp only[ap];rw[ML h n y j hj,Vh h n j hj];simp
theorem Ev{x y:Vc}(hx:GT m x)(hy:GT m y):El m low x y=El m low y x:=by
 unfold El
 conv=>lhs;rw[<-hx.ap_one (low:=low),WY,hy.ap_one]
theorem Eu{x y:Vc}(hx:GT m x):GT m (El m low x y):=ML hx _ _
theorem Pd{x y z:Vc}(hx:GT m x)(hy:GT m y)(hz:GT m z):El m low (El m low x y) z=El m low x (El m low y z):=by
 rw[Ev hx (Eu hy),Ev hx hy];unfold El;rw[WY]
theorem Th{x:Vc}(hx:GT m x)(hm:1<=m):El m low x Aq=x:=by
 have h1:GT m Aq:=fun j hj=>by unfold Aq;rw[if_neg ac]
 rw[Ev hx h1];exact hx.ap_one
theorem Ti(x y z:Vc):El m low (fun j=>x j+y j) z=fun j=>El m low x z j+El m low y z j:=(J4 m z).add x y
def DJ(m:Nat)(low:Vc)(x:Vc):Nat->Vc->Vc
 | 0,_=>fun _=>0
 | k+1,y=>fun j=>sX m low (DJ m low x k (fun t=>y (t+1))) j+y 0*x j
theorem Ok:∀n (y x:Vc),ap m low (n+1) y x=fun j=>y 0*x j+sX m low (ap m low n (fun t=>y (t+1)) x) j
 | 0,y,x=>by
  have h0:sX m low (fun _=>0)=fun _=>0:=Gh.zero;funext j;simp only[ap,CU];rw[h0];simp
 | n+1,y,x=>by
  funext j;rw[ap,Ok n y x];rw[ap,Gh.add_smul];simp only[CU];exact Int.add_assoc _ _ _
theorem Mp:∀n (y x:Vc),DJ m low x n y=ap m low n y x
 | 0,y,x=>rfl
 | n+1,y,x=>by
  funext j;rw[Ok,DJ,Mp n];exact Int.add_comm _ _
def BT(p:Int)(v w:Vc):Prop:=∀j,v j%p=w j%p
theorem BT.refl(p:Int)(v:Vc):BT p v v:=fun _=>rfl
theorem BT.symm{p:Int}{v w:Vc}(h:BT p v w):BT p w v:=fun j=>(h j).symm
theorem BT.trans{p:Int}{u v w:Vc}(h:BT p u v)(k:BT p v w):BT p u w:=fun j=>(h j).trans (k j)
theorem BZ{p a b:Int}:a%p=b%p↔∃c,a=b+p*c:=by
 constructor
 .intro h;have:=Int.emod_emod_of_dvd a (Int.dvd_refl p);have h1:=Int.mul_ediv_add_emod a p;have h2:=Int.mul_ediv_add_emod b p;exact⟨a/p-b/p,by rw[Int.mul_sub];omega⟩
 .rintro⟨c,rfl⟩;exact Int.add_mul_emod_self_left b p c
theorem DL{p a b c d:Int}(h:a%p=b%p)(k:c%p=d%p):(a+c)%p=(b+d)%p:=by
 obtain⟨x,rfl⟩:=BZ.1 h;obtain⟨y,rfl⟩:=BZ.1 k;exact BZ.2 ⟨x+y,by grind⟩
theorem EW{p a b c d:Int}(h:a%p=b%p)(k:c%p=d%p):(a*c)%p=(b*d)%p:=by
 obtain⟨x,rfl⟩:=BZ.1 h;obtain⟨y,rfl⟩:=BZ.1 k;exact BZ.2 ⟨x*d+b*y+p*x*y,by grind⟩
theorem GN{p a b c d:Int}(h:a%p=b%p)(k:c%p=d%p):(a-c)%p=(b-d)%p:=by
 obtain⟨x,rfl⟩:=BZ.1 h;obtain⟨y,rfl⟩:=BZ.1 k;exact BZ.2 ⟨x-y,by grind⟩
theorem BT.sX{p:Int}{v w:Vc}(h:BT p v w):BT p (sX m low v) (sX m low w):=fun j=>by
 unfold Go.Proofs.YtehieobniamagaaGreat.sX;split
 .refine GN ?_ (EW (h _) rfl);split
  .rfl
  .exact h _
 .rfl
theorem BT.sXn{p:Int}{v w:Vc}(h:BT p v w):∀k,BT p (CU m low k v) (CU m low k w)
 | 0=>h
 | k+1=>(BT.sXn h k).sX
theorem BT.ap{p:Int}{v w y z:Vc}(h:BT p v w)(k:BT p y z):∀n,BT p (ap m low n y v) (ap m low n z w)
 | 0=>fun _=>rfl
 | n+1=>fun j=>by
  simp only[Go.Proofs.YtehieobniamagaaGreat.ap];exact DL (BT.ap h k n j) (EW (k n) (h.sXn n j))
theorem BT.mulV{p:Int}{v w y z:Vc}(h:BT p v w)(k:BT p y z):BT p (El m low v y) (El m low w z):=h.ap k m
def AS(p m x:Nat):Vc:=fun j=>if j<m then((x/p^j%p:Nat):Int) else 0
def DN(p:Nat):Nat->Vc->Int
 | 0,_=>0
 | n+1,v=>DN p n v+v n*((p^n:Nat):Int)
theorem A6(p m x:Nat):GT m (AS p m x):=fun j h=>by unfold AS;rw[if_neg ac]
theorem Ed{p:Nat}(hp:1<=p)(m x j:Nat):0<=AS p m x j/\AS p m x j<p:=by
 unfold AS;split
 .have:=Nat.mod_lt (x/p^j) hp;omega
 .omega
def Zt(p m:Nat)(v:Vc):Prop:=GT m v/\∀j,0<=v j/\v j<p
theorem CI{p:Nat}{v:Vc}(h:∀j,0<=v j/\v j<p):∀n,0<=DN p n v/\DN p n v<((p^n:Nat):Int)
 | 0=>by simp[DN]
 | n+1=>by
  obtain⟨h1,h2⟩:=CI h n;obtain⟨h3,h4⟩:=h n;simp only[DN];have h5:0<=v n*((p^n:Nat):Int):=Int.mul_nonneg h3 ac;have h6:(v n+1)*((p^n:Nat):Int)<=p*((p^n:Nat):Int):=Int.mul_le_mul_of_nonneg_right ac ac;have h7:((p^(n+1):Nat):Int)=p*((p^n:Nat):Int):=by rw[Nat.pow_succ,Int.natCast_mul,Int.mul_comm]
  rw[Int.add_mul]at h6;omega
theorem Dh{p:Nat}{v w:Vc}:∀n,(∀j,j<n->v j=w j)->DN p n v=DN p n w
 | 0,_=>rfl
 | n+1,h=>by simp only[DN];rw[Dh n fun j hj=>h j (by omega),h n (by omega)]
theorem QP{p:Nat}(hp:1<=p)(m x:Nat):∀n,n<=m->DN p n (AS p m x)=((x%p^n:Nat):Int)
 | 0,_=>by simp[DN,Nat.mod_one]
 | n+1,h=>by
  simp only[DN];rw[QP hp m x n (by omega)];unfold AS;rw[if_pos (by omega),Nat.pow_succ,Nat.mod_mul,Int.natCast_add,Int.natCast_mul,Int.mul_comm (((x/p^n%p:Nat)):Int)]
theorem Us{p m x:Nat}(hp:1<=p)(h:x<p^m):DN p m (AS p m x)=x:=by
 rw[QP hp m x m (Nat.le_refl _),Nat.mod_eq_of_lt h]
theorem QN{p:Nat}(hp:1<=p){v:Vc}(h:∀j,0<=v j/\v j<p):∀n j,j<n->(DN p n v).toNat/p^j%p=(v j).toNat
 | 0,j,hj=>by omega
 | n+1,j,hj=>by
  obtain⟨h1,h2⟩:=CI h n;obtain⟨h3,h4⟩:=h n;have ih:=QN hp h n;simp only[DN];obtain⟨a,ha⟩:=Int.eq_ofNat_of_zero_le h1;obtain⟨b,hb⟩:=Int.eq_ofNat_of_zero_le h3;have aC:(DN p n v+v n*((p^n:Nat):Int)).toNat=a+b*p^n:=by rw[ha,hb,<-Int.natCast_mul,<-Int.natCast_add,Int.toNat_natCast]
  have aB:a<p^n:=ac;have aA:1<=p^n:=Nat.pow_pos hp;rw[aC];rcases Nat.eq_or_lt_of_le (show j<=n by omega) with e|e
  .subst e;rw[hb,Nat.add_mul_div_right _ _ aA,Nat.div_eq_of_lt aB,Nat.zero_add,Nat.mod_eq_of_lt ac];rfl
  .rw[<-ih j e,ha,Int.toNat_natCast];obtain⟨c,rfl⟩:∃c,n=j+(c+1):=⟨n-j-1,ac⟩;rw[show b*p^(j+(c+1))=b*p^c*p*p^j by rw[Nat.pow_add,Nat.pow_succ];ac_rfl,Nat.add_mul_div_right _ _ (Nat.pow_pos hp),Nat.add_mul_mod_self_right]
theorem JT{p m:Nat}{v:Vc}(hp:1<=p)(h:Zt p m v):AS p m (DN p m v).toNat=v:=by
 funext j;unfold AS;split
 .rw[QN hp h.2 m j ‹_›];have:=(h.2 j).1;omega
 .exact(h.1 j ac).symm
end
section
def rep(p m:Nat)(v:Vc):Nat:=(DN p m (fun j=>v j%p)).toNat
section
variable {p m:Nat}
theorem Vp(hp:1<=p){v:Vc}(h:GT m v):Zt p m (fun j=>v j%p):=
 ⟨fun j hj=>by show v j%p=0;rw[h j hj];simp,fun j=>⟨Int.emod_nonneg _ ac,Int.emod_lt_of_pos _ ac⟩⟩
theorem OV(hp:1<=p)(v:Vc):rep p m v<p^m:=by
 have h:∀j,0<=v j%(p:Int)/\v j%(p:Int)<p:=fun j=>⟨Int.emod_nonneg _ ac,Int.emod_lt_of_pos _ ac⟩;have:=CI (v:=fun j=>v j%(p:Int)) h m;unfold rep;omega
theorem Wn(hp:1<=p){v:Vc}(h:GT m v):AS p m (rep p m v)=fun j=>v j%p:=JT hp (Vp hp h)
theorem BD(hp:1<=p){v:Vc}(h:GT m v):BT p (AS p m (rep p m v)) v:=by
 rw[Wn hp h];exact fun j=>Int.emod_emod_of_dvd _ (Int.dvd_refl _)
theorem Es{v w:Vc}(h:BT p v w):rep p m v=rep p m w:=by
 unfold rep
 congr 1
 exact Dh m fun j _=>h j
theorem IE(hp:1<=p){x:Nat}(h:x<p^m):rep p m (AS p m x)=x:=by
 unfold rep;rw[Dh (w:=AS p m x) m fun j _=>Int.emod_eq_of_lt (Ed hp m x j).1 (Ed hp m x j).2,Us hp h];rfl
def A9(p m x y:Nat):Nat:=rep p m (fun j=>AS p m x j+AS p m y j)
def DI(p m x:Nat):Nat:=rep p m (fun j=>-AS p m x j)
def Ar(p m:Nat)(low:Vc)(x y:Nat):Nat:=rep p m (El m low (AS p m x) (AS p m y))
variable {low:Vc}
theorem Mi(hp:1<=p)(x y:Nat):A9 p m x y<p^m:=OV hp _
theorem Ec(hp:1<=p)(x:Nat):DI p m x<p^m:=OV hp _
theorem Cg(hp:1<=p)(x y:Nat):Ar p m low x y<p^m:=OV hp _
theorem MO{v w:Vc}(hv:GT m v)(hw:GT m w):GT m (fun j=>v j+w j):=fun j hj=>by show v j+w j=0;rw[hv j hj,hw j hj];rfl
theorem VF{v:Vc}(hv:GT m v):GT m (fun j=>-v j):=fun j hj=>by show-v j=0;rw[hv j hj];rfl
theorem BT.add{p:Int}{v v' w w':Vc}(h:BT p v v')(k:BT p w w'):BT p (fun j=>v j+w j) (fun j=>v' j+w' j):=fun j=>DL (h j) (k j)
theorem FR(x y:Nat):A9 p m x y=A9 p m y x:=by
 unfold A9;congr 1;funext j;exact Int.add_comm _ _
theorem CL(hp:1<=p)(x y z:Nat):A9 p m (A9 p m x y) z=A9 p m x (A9 p m y z):=by
 unfold A9;refine Es ?_;refine((BD hp (MO (A6 p m x) (A6 p m y))).add (BT.refl _ _)).trans ?_;refine BT.symm (((BT.refl _ _).add (BD hp (MO (A6 p m y) (A6 p m z)))).trans ?_);intro j;show(_+(_+_))%(p:Int)=(_+_+_)%(p:Int)
 rw[Int.add_assoc]
theorem GO(p m:Nat):AS p m 0=fun _=>0:=by
 funext j;unfold AS;split <;> simp
theorem Cr(hp:1<=p){x:Nat}(h:x<p^m):A9 p m x 0=x:=by
 unfold A9;rw[GO];simp only[Int.add_zero];exact IE hp h
theorem FJ(hp:1<=p){x:Nat}(h:x<p^m):A9 p m 0 x=x:=by rw[FR,Cr hp h]
theorem Nq(hp:1<=p):rep p m (fun _=>0)=0:=by
 have:=IE (m:=m) hp (x:=0) (Nat.pow_pos hp)
 rwa[GO]at this
theorem FQ(hp:1<=p)(x:Nat):A9 p m x (DI p m x)=0:=by
 unfold A9 DI;refine(Es ?_).trans (Nq hp);refine((BT.refl _ _).add (BD hp (VF (A6 p m x)))).trans ?_;intro j;show(_ +-_)%(p:Int)=_
 rw[Int.add_right_neg]
theorem Bn(x y:Nat):Ar p m low x y=Ar p m low y x:=by
 unfold Ar;rw[Ev (A6 p m x) (A6 p m y)]
theorem Dg(hp:1<=p)(x y z:Nat):Ar p m low (Ar p m low x y) z=Ar p m low x (Ar p m low y z):=by
 unfold Ar;refine Es ?_;refine((BD hp (Eu (A6 p m x))).mulV (BT.refl _ _)).trans ?_;rw[Pd (A6 p m x) (A6 p m y) (A6 p m z)];exact(BT.refl _ _).mulV (BD hp (Eu (A6 p m y))).symm
theorem MG(hp:2<=p)(hm:1<=m):AS p m 1=Aq:=by
 funext j;unfold AS Aq;rcases j with _|j
 .rw[if_pos (show 0<m by omega),if_pos rfl,Nat.pow_zero,Nat.div_one,Nat.mod_eq_of_lt ac];rfl
 .rw[if_neg (show ¬j+1=0 by omega)];split
  .have:1<p^(j+1):=Nat.one_lt_pow ac ac;rw[Nat.div_eq_of_lt this];simp
  .rfl
theorem BK(hp:2<=p)(hm:1<=m):1<p^m:=Nat.one_lt_pow ac ac
theorem Cb(hp:2<=p)(hm:1<=m){x:Nat}(h:x<p^m):Ar p m low x 1=x:=by
 unfold Ar;rw[MG hp hm,Th (A6 p m x) hm,IE ac h]
theorem DR(hp:2<=p)(hm:1<=m){x:Nat}(h:x<p^m):Ar p m low 1 x=x:=by rw[Bn,Cb hp hm h]
theorem BL(hp:1<=p)(x:Nat):Ar p m low 0 x=0:=by
 unfold Ar El;rw[GO,(J4 m _).zero,Nq hp]
theorem KY(hp:1<=p)(x y z:Nat):Ar p m low (A9 p m x y) z=A9 p m (Ar p m low x z) (Ar p m low y z):=by
 unfold Ar A9;refine Es ?_;refine((BD hp (MO (A6 p m x) (A6 p m y))).mulV (BT.refl _ _)).trans ?_;rw[Ti];exact((BD hp (Eu (A6 p m x))).add (BD hp (Eu (A6 p m y)))).symm
def Bw(p m:Nat)(low:Vc)(x:Nat):Nat->Nat
 | 0=>1
 | k+1=>Ar p m low (Bw p m low x k) x
theorem CZ(hp:2<=p)(hm:1<=m)(x:Nat):∀k,Bw p m low x k<p^m
 | 0=>BK hp hm
 | k+1=>Cg (by omega) _ _
theorem Cq(hp:2<=p)(hm:1<=m)(x i:Nat):∀k,Bw p m low x (i+k)=Ar p m low (Bw p m low x i) (Bw p m low x k)
 | 0=>by rw[Nat.add_zero,Bw,Cb hp hm (CZ hp hm x i)]
 | k+1=>by rw[<-Nat.add_assoc,Bw,Cq hp hm x i k,Dg (by omega)];rfl
def CF(p m:Nat)(low:Vc)(x:Nat):Prop:=Bw p m low x (p^m-1)=1/\∀k,1<=k->k<p^m-1->Bw p m low x k≠1
theorem CF.inj(hp:2<=p)(hm:1<=m){x:Nat}(h:CF p m low x){i j:Nat}(hj:j<p^m-1)(hij:i<j):Bw p m low x i≠Bw p m low x j:=fun e=>by
 have h1:Bw p m low x (i+(p^m-1-i))=Bw p m low x (j+(p^m-1-i)):=by rw[Cq hp hm,Cq hp hm,e]
 rw[show i+(p^m-1-i)=p^m-1 by omega,show j+(p^m-1-i)=(j-i)+(p^m-1) by omega,Cq hp hm,h.1,Cb hp hm (CZ hp hm x _)]at h1;exact h.2 (j-i) ac ac h1.symm
theorem CF.ne(hp:2<=p)(hm:1<=m){x:Nat}(h:CF p m low x){i:Nat}(hi:i<=p^m-1):Bw p m low x i≠0:=fun e=>by
 have h1:=Cq (low:=low) hp hm x i (p^m-1-i);rw[e,BL ac,show i+(p^m-1-i)=p^m-1 by omega,h.1]at h1;omega
theorem O7:∀(n:Nat) (L:List Nat),L.Nodup->L.length=n->(∀x∈L,1<=x/\x<=n)->∀x,1<=x->x<=n->x∈L:=by
 intro n
 induction n with
 | zero=>intro L _ _ _ x h1 h2;omega
 | succ n ih=>
  intro L hd hl hr x h1 h2;by_cases hm:n+1∈L
  .have aD:=hd.erase (n+1);have aA:∀y,y∈L.erase (n+1)↔y≠n+1/\y∈L:=fun y=>hd.mem_erase_iff;by_cases hx:x=n+1
   .exact hx ▸ hm
   .have:=ih (L.erase (n+1)) aD (by rw[List.length_erase_of_mem hm,hl];rfl) (fun y hy=>by
     obtain⟨a,b⟩:=(aA y).1 hy;have:=hr y b;omega) x h1 ac
    exact((aA x).1 this).2
  .exfalso;rcases L with _|⟨a,L⟩
   .simp at hl
   .have aC:=List.nodup_cons.1 hd;have aB:∀y∈a :: L,1<=y/\y<=n:=fun y hy=>by
     have:=hr y hy;have:y≠n+1:=fun e=>hm (e ▸ hy);omega
    have ha:=aB a (List.mem_cons_self ..);exact aC.1 (ih L aC.2 (by simpa using hl) (fun y hy=>aB y (List.mem_cons_of_mem _ hy)) a ha.1 ha.2)
theorem CG{f:Nat->Nat}{n:Nat}(h:∀i j,j<n->i<j->f i≠f j):((List.range n).map f).Nodup:=by
 rw[List.nodup_iff_pairwise_ne,List.pairwise_map];refine List.Pairwise.imp_of_mem ?_ List.pairwise_lt_range;intro a b ha hb aA;exact h a b (List.mem_range.1 hb) aA
theorem CF.all(hp:2<=p)(hm:1<=m){x:Nat}(h:CF p m low x){y:Nat}(h1:1<=y)(h2:y<p^m):∃k,k<p^m-1/\Bw p m low x k=y:=by
 have:=O7 (p^m-1) ((List.range (p^m-1)).map (Bw p m low x)) (CG fun i j hj aA=>h.inj hp hm hj aA) ag (fun z hz=>by
  obtain⟨k,hk,rfl⟩:=List.mem_map.1 hz;have:=h.ne hp hm (i:=k) (by have:=List.mem_range.1 hk;omega);have:=CZ (low:=low) hp hm x k;omega) y h1 ac
 obtain⟨k,hk,e⟩:=List.mem_map.1 this;exact⟨k,List.mem_range.1 hk,e⟩
def Kd(p m:Nat)(low:Vc):Prop:=∃x,1<=x/\x<p^m/\CF p m low x
theorem CF.mod(hp:2<=p)(hm:1<=m){x:Nat}(h:CF p m low x)(k:Nat):Bw p m low x (k%(p^m-1))=Bw p m low x k:=by
 have aA:∀c r,Bw p m low x (c*(p^m-1)+r)=Bw p m low x r:=by
  intro c
  induction c with
  | zero=>intro r;simp
  | succ c ih=>intro r;rw[Nat.succ_mul,Nat.add_assoc,ih,Cq hp hm,h.1,DR hp hm (CZ hp hm x r)]
 have:=aA (k/(p^m-1)) (k%(p^m-1));rw[Nat.mul_comm,Nat.div_add_mod]at this;exact this.symm
theorem Kd.inv(hp:2<=p)(hm:1<=m)(h:Kd p m low){y:Nat}(h1:1<=y)(h2:y<p^m):∃z,1<=z/\z<p^m/\Ar p m low y z=1:=by
 obtain⟨x,_,_,hx⟩:=h;obtain⟨k,hk,rfl⟩:=hx.all hp hm h1 h2;refine⟨Bw p m low x (p^m-1-k),?_,CZ hp hm x _,?_⟩
 .have:=hx.ne hp hm (i:=p^m-1-k) ac;omega
 .rw[<-Cq hp hm,show k+(p^m-1-k)=p^m-1 by omega,hx.1]
theorem Kd.cancel(hp:2<=p)(hm:1<=m)(h:Kd p m low){y a b:Nat}(h1:1<=y)(h2:y<p^m)(ha:a<p^m)(hb:b<p^m)(e:Ar p m low a y=Ar p m low b y):a=b:=by
 obtain⟨z,_,_,hz⟩:=h.inv hp hm h1 h2;have:Ar p m low (Ar p m low a y) z=Ar p m low (Ar p m low b y) z:=cj
 rwa[Dg ac,Dg ac,hz,Cb hp hm ha,Cb hp hm hb]at this
theorem Kd.ne_zero(hp:2<=p)(hm:1<=m)(h:Kd p m low){a b:Nat}(ha:1<=a)(aB:a<p^m)(hb:1<=b)(aA:b<p^m):1<=Ar p m low a b:=by
 rcases Nat.eq_zero_or_pos (Ar p m low a b) with e|e
 .have:=h.cancel hp hm hb aA aB (Nat.pow_pos ac) (e.trans (BL ac b).symm);omega
 .exact e
theorem CF.inv(hp:2<=p)(hm:1<=m){x:Nat}(h:CF p m low x){k:Nat}(hk:k<p^m-1):Ar p m low (Bw p m low x k) (Bw p m low x ((p^m-1-k)%(p^m-1)))=1:=by
 rw[h.mod hp hm,<-Cq hp hm,show k+(p^m-1-k)=p^m-1 by omega,h.1]
def Ht(p m:Nat)(low:Vc)(x k:Nat):Prop:=∀i,i<k->Bw p m low x i≠0/\∀j,j<i->Bw p m low x j≠Bw p m low x i
def J7(p m:Nat)(low:Vc)(x L:Nat):Prop:=1<=L/\L<=p^m-1/\Ht p m low x L/\(Bw p m low x L=0∨∃i,i<L/\Bw p m low x i=Bw p m low x L)
theorem Ht.succ{x k:Nat}(h:Ht p m low x k)(h0:Bw p m low x k≠0)(hn:∀j,j<k->Bw p m low x j≠Bw p m low x k):Ht p m low x (k+1):=fun i hi=>by
 rcases Nat.eq_or_lt_of_le (show i<=k by omega) with e|e
 .subst e;exact⟨h0,hn⟩
 .exact h i e
theorem Ht.one(hp:2<=p)(hm:1<=m)(x:Nat):Ht p m low x 1:=fun i hi=>by
 obtain rfl:i=0:=ac;exact⟨by simp[Bw],fun j hj=>ac⟩
theorem Ht.len(hp:2<=p)(hm:1<=m){x k:Nat}(h:Ht p m low x k):k<=p^m-1:=by
 rcases Nat.lt_or_ge (p^m-1) k with hk|hk
 .exfalso;have h1:Ht p m low x (p^m-1):=fun i hi=>h i ac;have:=O7 (p^m-1) ((List.range (p^m-1)).map (Bw p m low x)) (CG fun i j hj aA=>(h1 j hj).2 i aA) ag (fun z hz=>by
   obtain⟨i,hi,rfl⟩:=List.mem_map.1 hz;have:=(h1 i (List.mem_range.1 hi)).1;have:=CZ (low:=low) hp hm x i;omega) (Bw p m low x (p^m-1)) (by have:=(h _ hk).1;omega) (by have:=CZ (low:=low) hp hm x (p^m-1);omega)
  obtain⟨i,hi,e⟩:=List.mem_map.1 this;exact(h _ hk).2 i (List.mem_range.1 hi) e
 .exact hk
theorem J7.gen(hp:2<=p)(hm:1<=m){x L:Nat}(h:J7 p m low x L):CF p m low x↔L=p^m-1/\Bw p m low x (p^m-1)=1:=by
 obtain⟨h1,h2,h3,h4⟩:=h;constructor
 .intro hg;refine⟨?_,hg.1⟩;rcases Nat.eq_or_lt_of_le h2 with e|e
  .exact e
  .exfalso;rcases h4 with h4|⟨i,hi,h4⟩
   .exact hg.ne hp hm ac h4
   .exact hg.inj hp hm e hi h4
 .rintro⟨rfl,h5⟩;refine⟨h5,fun k k1 k2 e=>?_⟩;exact(h3 k k2).2 0 ac (by rw[e];rfl)
end
end
section
def Gz(c:Vc)(k:Nat)(v:Int):Vc:=fun j=>if j=k then v else c j
section
variable {m:Nat} {low:Vc}
theorem GR{n:Nat}{c d x:Vc}(h:∀j,j<n->c j=d j):ap m low n c x=ap m low n d x:=by
 induction n with
 | zero=>rfl
 | succ n ih=>simp only[ap];rw[ih fun j hj=>h j ac,h n ac]
theorem Li{n k:Nat}{c x:Vc}{v:Int}(h:n<=k):ap m low n (Gz c k v) x=ap m low n c x:=
 GR fun j hj=>by unfold Gz;rw[if_neg ac]
theorem PC{c x:Vc}{v:Int}{k:Nat}:∀n,k<n->ap m low n (Gz c k v) x=fun j=>ap m low n c x j+(v-c k)*CU m low k x j
 | 0,h=>by omega
 | n+1,h=>by
  funext j;simp only[ap];rcases Nat.eq_or_lt_of_le (show k<=n by omega) with e|e
  .subst e;rw[Li (Nat.le_refl _)];unfold Gz;rw[if_pos rfl]
   grind
  .rw[PC n e];rw[show Gz c k v n=c n by unfold Gz;rw[if_neg (by omega)]]
   grind
theorem RW{p:Int}{n i j:Nat}{a b c:Vc}(hk:i+j<n)
  (h:BT p (ap m low n c Aq) (fun t=>ap m low i a b t+a i*CU m low i (ap m low j b Aq) t)):
  BT p (ap m low n (Gz c (i+j) ((c (i+j)+a i*b j)%p)) Aq) (fun t=>ap m low i a b t+a i*CU m low i (ap m low (j+1) b Aq) t):=by
 intro t;rw[PC n hk];dsimp only;have e1:CU m low i (ap m low (j+1) b Aq) t=CU m low i (ap m low j b Aq) t+b j*CU m low (i+j) Aq t:=by
  simp only[ap];rw[(Ea i).add_smul,IC]
 rw[e1];have e2:=h t;dsimp only at e2;generalize ap m low n c Aq t=A at *;generalize ap m low i a b t=B at *;generalize CU m low i (ap m low j b Aq) t=C at *;generalize CU m low (i+j) Aq t=D at *;have e3:((c (i+j)+a i*b j)%p-c (i+j))%p=(a i*b j)%p:=by
  have:((c (i+j)+a i*b j)%p-c (i+j))%p=((c (i+j)+a i*b j)-c (i+j))%p:=GN (Int.emod_emod_of_dvd _ (Int.dvd_refl _)) rfl;rw[this];congr 1;omega
 refine(DL e2 (EW e3 rfl)).trans ?_
 congr 1
 grind
theorem RV(p:Int)(n:Nat)(a b:Vc):BT p (ap m low n (fun _=>0) Aq) (fun t=>ap m low 0 a b t+a 0*CU m low 0 (ap m low 0 b Aq) t):=by
 intro t;have:∀n,ap m low n (fun _=>0) Aq=fun _=>0:=by
  intro n
  induction n with
  | zero=>rfl
  | succ n ih=>simp only[ap];rw[ih];funext j;simp
 rw[this n];simp[ap,CU]
theorem Ur{p:Int}{n i:Nat}{a b c:Vc}(hb:GT m b)
  (h:BT p (ap m low n c Aq) (fun t=>ap m low i a b t+a i*CU m low i (ap m low m b Aq) t)):
  BT p (ap m low n c Aq) (fun t=>ap m low (i+1) a b t+a (i+1)*CU m low (i+1) (ap m low 0 b Aq) t):=by
 intro t;rw[h t];dsimp only;have e:CU m low (i+1) (ap m low 0 b Aq) t=0:=by
  simp only[ap];rw[(Ea (i+1)).zero]
 rw[e,hb.ap_one];simp only[ap]
 congr 1
 omega
theorem P8(hm:1<=m):CU m low m Aq=fun j=>-ap m low m low Aq j:=by
 rw[J3 m low (Nat.le_refl _)];obtain⟨k,rfl⟩:∃k,m=k+1:=⟨m-1,ac⟩;rw[show CU (k+1) low (k+1) Aq=sX (k+1) low (CU (k+1) low k Aq) from rfl,LK k ac];funext j;show(if j<k+1 then(if j=0 then 0 else if j-1=k then(1:Int) else 0)-(if k+1-1=k then(1:Int) else 0)*low j else 0)=- (if j<k+1 then low j else 0)
 by_cases hj:j<k+1
 .have e:(if j=0 then(0:Int) else if j-1=k then 1 else 0)=0:=by
   split
   .rfl
   .rw[if_neg ac]
  rw[if_pos hj,if_pos hj,e,show(if k+1-1=k then(1:Int) else 0)=1 by rw[if_pos ac]];omega
 .rw[if_neg hj,if_neg hj];rfl
theorem Nr{p:Int}{i j:Nat}{c c0:Vc}{T:Vc}(hi:m<=i)(hj:j<m)
  (h:BT p (fun t=>ap m low i c Aq t) (fun t=>ap m low i c0 Aq t-c0 i*CU m low (i-m) (ap m low j low Aq) t)) (hc:c i=c0 i):
  BT p (fun t=>ap m low i (Gz c (i-m+j) ((c (i-m+j)+(p-c i)*low j)%p)) Aq t) (fun t=>ap m low i c0 Aq t-c0 i*CU m low (i-m) (ap m low (j+1) low Aq) t):=by
 intro t;show ap m low i (Gz c (i-m+j) ((c (i-m+j)+(p-c i)*low j)%p)) Aq t%p=_
 rw[PC i ac];have e1:CU m low (i-m) (ap m low (j+1) low Aq) t=CU m low (i-m) (ap m low j low Aq) t+low j*CU m low (i-m+j) Aq t:=by
  simp only[ap];rw[(Ea (i-m)).add_smul,IC]
 have e2:=h t;dsimp only at e2 ⊢;rw[e1];have e3:((c (i-m+j)+(p-c i)*low j)%p-c (i-m+j))%p=(- (c0 i*low j))%p:=by
  have:((c (i-m+j)+(p-c i)*low j)%p-c (i-m+j))%p=((c (i-m+j)+(p-c i)*low j)-c (i-m+j))%p:=GN (Int.emod_emod_of_dvd _ (Int.dvd_refl _)) rfl;rw[this,hc];refine BZ.2 ⟨low j,by grind⟩
 refine(DL e2 (EW e3 rfl)).trans ?_
 congr 1
 generalize ap m low i c0 Aq t=A at *;generalize CU m low (i-m) (ap m low j low Aq) t=B at *;generalize CU m low (i-m+j) Aq t=C at *
 grind
theorem Qc{p:Int}{i:Nat}{c c0 T:Vc}(hm:1<=m)(hi:m<=i)(h0:BT p (ap m low (i+1) c0 Aq) T)
  (h:BT p (fun t=>ap m low i c Aq t) (fun t=>ap m low i c0 Aq t-c0 i*CU m low (i-m) (ap m low m low Aq) t)):BT p (ap m low i c Aq) T:=by
 intro t;rw[<-h0 t];have e:=h t;dsimp only at e;rw[e]
 congr 1
 simp only[ap];have e2:CU m low i Aq t=- CU m low (i-m) (ap m low m low Aq) t:=by
  rw[show i=(i-m)+m by omega,IC,P8 hm];have e3:=Ea (m:=m) (low:=low) (i-m) (-1) 0 (ap m low m low Aq) (fun _=>0);have e4:=congrFun e3 t;simp only[Int.zero_mul,Int.add_zero,Int.neg_mul,Int.one_mul]at e4;rw[show i-m+m-m=i-m by omega];exact e4
 rw[e2]
 grind
theorem KR(p:Int){i:Nat}(c:Vc):BT p (fun t=>ap m low i c Aq t) (fun t=>ap m low i c Aq t-c i*CU m low (i-m) (ap m low 0 low Aq) t):=by
 intro t;have e:CU m low (i-m) (ap m low 0 low Aq) t=0:=by simp only[ap];rw[(Ea (i-m)).zero]
 dsimp only;rw[e];simp
theorem Vq{p m:Nat}{low:Vc}(hp:1<=p){x y:Nat}{c:Vc}(hc:∀j,j<m->0<=c j/\c j<p)(h:BT p (ap m low m c Aq) (ap m low m (AS p m x) (AS p m y))):
  DN p m c=((Ar p m low x y:Nat):Int):=by
 unfold Ar rep;rw[Ev (A6 p m x) (A6 p m y)];unfold El;rw[Int.toNat_of_nonneg (CI (fun j=>⟨Int.emod_nonneg _ ac,Int.emod_lt_of_pos _ ac⟩) m).1];refine Dh m fun j hj=>?_;have h1:=h j;rw[J3 m c (Nat.le_refl _)]at h1;dsimp only at h1;rw[if_pos hj]at h1;rw[<-h1];exact(Int.emod_eq_of_lt (hc j hj).1 (hc j hj).2).symm
end
end
section
section
variable {m d:Nat} {f low:Vc}
def pj(m d:Nat)(low v:Vc):Vc:=ap d low m v Aq
theorem Ip{n:Nat}{x:Vc}(a b:Int)(v w:Vc):ap d low n (fun j=>a*v j+b*w j) x=fun t=>a*ap d low n v x t+b*ap d low n w x t:=by
 induction n with
 | zero=>funext t;simp[ap]
 | succ n ih=>funext t;simp only[ap];rw[ih];grind
theorem Iq{n:Nat}{x:Vc}(v w:Vc)(b:Int):ap d low n (fun j=>v j+b*w j) x=fun t=>ap d low n v x t+b*ap d low n w x t:=by
 have:=Ip (d:=d) (low:=low) (n:=n) (x:=x) 1 b v w;simpa using this
theorem Lj(v x:Vc):∀n,ap d low (n+1) (fun j=>if j=0 then 0 else v (j-1)) x=sX d low (ap d low n v x)
 | 0=>by
  have:sX d low (fun _=>0)=fun _=>0:=Gh.zero;simp only[ap];rw[this];funext t;simp
 | n+1=>by
  rw[ap,Lj v x n];rw[ap,Gh.add_smul];funext t;simp only[CU];rw[if_neg ac,Nat.add_sub_cancel]
theorem YG{p:Int}(hm:1<=m)(h0:BT p (fun t=>ap d low m f Aq t+CU d low m Aq t) (fun _=>0))(v:Vc):
  BT p (pj m d low (sX m f v)) (sX d low (pj m d low v)):=by
 obtain⟨n,rfl⟩:∃n,m=n+1:=⟨m-1,ac⟩;intro t;unfold pj;have e1:ap d low (n+1) (sX (n+1) f v) Aq=ap d low (n+1) (fun j=>(if j=0 then 0 else v (j-1))+(- v n)*f j) Aq:=GR fun j hj=>by
  unfold sX;rw[if_pos hj,Nat.add_sub_cancel]
  grind
 rw[e1,Iq,Lj];have e2:sX d low (ap d low (n+1) v Aq)=fun t=>sX d low (ap d low n v Aq) t+v n*CU d low (n+1) Aq t:=by
  rw[ap,Gh.add_smul];rfl
 rw[e2];have e3:=h0 t;dsimp only at e3 ⊢;generalize sX d low (ap d low n v Aq) t=A at *;generalize ap d low (n+1) f Aq t=B at *;generalize CU d low (n+1) Aq t=C at *;obtain⟨k,hk⟩:=BZ.1 e3;refine BZ.2 ⟨- v n*k,?_⟩
 grind
theorem S2{p:Int}(hm:1<=m)(h0:BT p (fun t=>ap d low m f Aq t+CU d low m Aq t) (fun _=>0))(v:Vc):∀k,BT p (pj m d low (CU m f k v)) (CU d low k (pj m d low v))
 | 0=>BT.refl _ _
 | k+1=>(YG hm h0 _).trans (BT.sX (S2 hm h0 v k))
theorem WM{p:Int}(hm:1<=m)(h0:BT p (fun t=>ap d low m f Aq t+CU d low m Aq t) (fun _=>0))(y x:Vc):∀n,BT p (pj m d low (ap m f n y x)) (ap d low n y (pj m d low x))
 | 0=>by
  intro t;show ap d low m (fun _=>0) Aq t%p=_
  have e:=Ip (d:=d) (low:=low) (n:=m) (x:=Aq) 0 0 (fun _=>0) (fun _=>0);simp only[Int.zero_mul,Int.add_zero]at e;rw[e];rfl
 | n+1=>by
  intro t;have e:pj m d low (ap m f (n+1) y x)=fun t=>pj m d low (ap m f n y x) t+y n*pj m d low (CU m f n x) t:=by
   unfold pj;simp only[ap];exact Iq _ _ _
  rw[e];simp only[ap];exact DL (WM hm h0 y x n t) (EW rfl (S2 hm h0 x n t))
theorem S4{p:Int}{v w:Vc}(h:BT p v w):BT p (pj m d low v) (pj m d low w):=BT.ap (BT.refl _ _) h m
theorem Rx{p:Nat}(hp:2<=p)(hd:1<=d)(hdm:d<m)(hl:∀j,0<=low j/\low j<p)
  (h0:BT p (fun t=>ap d low m f Aq t+CU d low m Aq t) (fun _=>0)):¬Kd p m f:=fun hF=>by
 obtain⟨D,hD⟩:∃D:Vc,(fun j=>if j<d then low j else if j=d then 1 else 0)=D:=⟨_,rfl⟩;have aC:Zt p m D:=by
  rw[<-hD];refine⟨fun j hj=>by dsimp only;rw[if_neg ac,if_neg ac],fun j=>?_⟩;dsimp only;split
  .exact hl j
  .split <;> omega
 have aD:pj m d low D=fun _=>0:=by
  unfold pj;have e1:ap d low m D Aq=ap d low (d+1) D Aq:=by
   have aB:∀c,ap d low (d+1+c) D Aq=ap d low (d+1) D Aq:=by
    intro c
    induction c with
    | zero=>rfl
    | succ c ih=>
     rw[<-Nat.add_assoc,ap,ih];have:D (d+1+c)=0:=by rw[<-hD];dsimp only;rw[if_neg ac,if_neg ac]
     rw[this];funext t;simp
   have:=aB (m-(d+1))
   rwa[show d+1+(m-(d+1))=m by omega]at this
  rw[e1,ap,P8 hd];have e2:ap d low d D Aq=ap d low d low Aq:=GR fun j hj=>by rw[<-hD];dsimp only;rw[if_pos hj]
  have e3:D d=1:=by rw[<-hD];dsimp only;rw[if_neg ac,if_pos rfl]
  rw[e2,e3];funext t;simp;omega
 have aA:=JT (show 1<=p by omega) aC;obtain⟨c,hc⟩:=nA ((DN p m D).toNat);rw[hc]at aA;have hr:=CI aC.2 m;have aE:c<p^m:=by omega
 have aF:1<=c:=by
  rcases Nat.eq_zero_or_pos c with e|e
  .exfalso;rw[e,GO]at aA;have:=congrFun aA d;rw[<-hD]at this;dsimp only at this;rw[if_neg ac,if_pos rfl]at this;omega
  .exact e
 obtain⟨z,_,_,hz⟩:=hF.inv hp ac aF aE;unfold Ar at hz;rw[aA]at hz;have h1:BT p (El m f D (AS p m z)) Aq:=by
  have:=BD (p:=p) (m:=m) ac (Eu (low:=f) (y:=AS p m z) aC.1);rw[hz,MG hp ac]at this;exact this.symm
 have h2:=S4 (m:=m) (d:=d) (low:=low) h1;have h3:=WM (m:=m) ac h0 (AS p m z) D m;rw[aD,(J4 m (AS p m z)).zero]at h3;have h4:=(h3.symm.trans h2) 0;have h5:pj m d low Aq 0=1:=by
  unfold pj;obtain⟨n,rfl⟩:∃n,m=n+1:=⟨m-1,ac⟩;have aB:∀k,ap d low (k+1) Aq Aq=Aq:=by
   intro k
   induction k with
   | zero=>funext t;simp[ap,CU,Aq]
   | succ k ih=>rw[ap,ih];funext t;simp[Aq]
  rw[aB];rfl
 rw[h5]at h4;have:(1:Int)%(p:Int)=1:=Int.emod_eq_of_lt ac ac;simp at h4;omega
end
end
section
noncomputable section
def Yw(l:List Nat):Nat:=@List.rec Nat (fun _=>Nat) 0 (fun x _ _=>x) l
def Xa(l:List Nat):List Nat:=@List.rec Nat (fun _=>List Nat) [] (fun _ t _=>t) l
def Sn(p c b:Nat)(aA:List Nat):List Nat->List Nat->Nat->List Nat:=
 @List.rec Nat (fun _=>List Nat->List Nat->Nat->List Nat) (fun _ _ _=> [])
  (fun a _ ih os ls s=>Nat.mod (Nat.add (Nat.add s (Nat.mul c (Yw ls))) (Nat.mul b a)) p :: ih (Xa os) (Xa ls) (Yw os)) aA
def Tu(l:List Nat):Nat->Nat:=@List.rec Nat (fun _=>Nat->Nat) (fun d=>d) (fun x _ ih _=>ih x) l
def Ng(p:Nat)(low a:List Nat)(b:Nat)(aA:List Nat):List Nat:=Sn p (Nat.sub p (Tu aA 0)) b a aA low 0
def NA(p:Nat)(low z a:List Nat)(bs:List Nat):List Nat:=@List.rec Nat (fun _=>List Nat) z (fun b _ ih=>Ng p low a b ih) bs
def Gs(p:Nat)(n:Nat):Nat->List Nat:=@Nat.rec (fun _=>Nat->List Nat) (fun _=> []) (fun _ ih x=>Nat.mod x p :: ih (Nat.div x p)) n
def Oa(p:Nat)(l:List Nat):Nat:=@List.rec Nat (fun _=>Nat) 0 (fun x _ ih=>Nat.add x (Nat.mul p ih)) l
def UO(p m:Nat)(low z:List Nat)(x y:Nat):Nat:=Oa p (NA p low z (Gs p m x) (Gs p m y))
end
def lf(l:List Nat):Vc:=fun j=>((l.getD j 0:Nat):Int)
theorem TV(l:List Nat):Yw l=l.getD 0 0:=by cases l <;> rfl
theorem P5(l:List Nat)(j:Nat):(Xa l).getD j 0=l.getD (j+1) 0:=by cases l <;> simp[Xa]
theorem GX(p c b a:Nat)(aA os ls:List Nat)(s:Nat):Sn p c b (a :: aA) os ls s=(s+c*Yw ls+b*a)%p :: Sn p c b aA (Xa os) (Xa ls) (Yw os):=rfl
theorem M5(p c b:Nat):∀(aA os ls:List Nat) (s:Nat),(Sn p c b aA os ls s).length=aA.length
 | [],_,_,_=>rfl
 | a :: aA,os,ls,s=>by rw[GX,List.length_cons,M5 p c b aA,List.length_cons]
theorem ay{P:Prop}(h:P:=by simpa using h):P:=h
theorem M6(p c b:Nat):∀(aA os ls:List Nat) (s j:Nat),j<aA.length->
  (Sn p c b aA os ls s).getD j 0=((if j=0 then s else os.getD (j-1) 0)+c*ls.getD j 0+b*aA.getD j 0)%p
 | [],_,_,_,j,h=>by simp at h
 | a :: aA,os,ls,s,0,_=>by rw[GX,TV];simp
 | a :: aA,os,ls,s,j+1,h=>by
  rw[GX];simp only[List.getD_cons_succ];have e:(if j=0 then Yw os else(Xa os).getD (j-1) 0)=os.getD j 0:=by
   by_cases hj:j=0
   .rw[if_pos hj,TV,hj]
   .rw[if_neg hj,P5,show j-1+1=j by omega]
  rw[M6 p c b aA _ _ _ j ay,e,P5,if_neg (show ¬j+1=0 by omega),Nat.add_sub_cancel]
theorem NI:∀(l:List Nat) (d:Nat),Tu l d=if l= [] then d else l.getD (l.length-1) 0
 | [],d=>rfl
 | x :: l,d=>by
  show Tu l x=_
  rw[NI l x]
  cases l with
  | nil=>simp
  | cons y l=>simp
theorem Jv{p m:Nat}{low z a:List Nat}(hp:1<=p)(hm:1<=m)(hl:low.length=m)(ha:a.length=m)(hz:z=List.replicate m 0):
  ∀bs:List Nat,(NA p low z a bs).length=m/\∀j,j<m->(((NA p low z a bs).getD j 0:Nat):Int)=DJ m (lf low) (lf a) bs.length (lf bs) j%(p:Int)
 | []=>by
  subst hz;refine⟨List.length_replicate ..,fun j hj=>?_⟩;show(((List.replicate m 0).getD j 0:Nat):Int)=0%(p:Int)
  rw[List.getD_eq_getElem?_getD,List.getElem?_replicate,if_pos hj];simp
 | b :: bs=>by
  obtain⟨h1,h2⟩:=Jv hp hm hl ha hz bs;show(Ng p low a b (NA p low z a bs)).length=m/\_
  refine⟨by unfold Ng;rw[M5,ha],fun j hj=>?_⟩;show(((Ng p low a b (NA p low z a bs)).getD j 0:Nat):Int)=_
  generalize NA p low z a bs=o at *;unfold Ng;rw[M6 _ _ _ _ _ _ _ _ ac,NI,if_neg (show ¬o= [] by intro e;rw[e]at h1;simp at h1;omega),h1];have aA:=h2 (m-1) ac;have hlp:o.getD (m-1) 0<=p:=by
   have:=Int.emod_lt_of_pos (DJ m (lf low) (lf a) bs.length (lf bs) (m-1)) (show 0<(p:Int) by omega);omega
  rw[List.length_cons,DJ];have e1:(fun t=>lf (b :: bs) (t+1))=lf bs:=by funext t;simp[lf]
  have e2:lf (b :: bs) 0=(b:Int):=by simp[lf]
  rw[e1,e2];unfold sX;dsimp only;rw[if_pos hj];have e3:((Nat.sub p (o.getD (m-1) 0):Nat):Int)=(p:Int)-((o.getD (m-1) 0:Nat):Int):=by
   show((p-o.getD (m-1) 0:Nat):Int)=_
   omega
  rw[Int.natCast_emod,Int.natCast_add,Int.natCast_add,Int.natCast_mul,Int.natCast_mul,e3,aA];have e4:(((if j=0 then 0 else o.getD (j-1) 0:Nat)):Int)%(p:Int)=(if j=0 then 0 else DJ m (lf low) (lf a) bs.length (lf bs) (j-1))%(p:Int):=by
   by_cases h0:j=0
   .rw[if_pos h0,if_pos h0];rfl
   .rw[if_neg h0,if_neg h0,h2 (j-1) ac];exact Int.emod_emod_of_dvd _ (Int.dvd_refl _)
  generalize DJ m (lf low) (lf a) bs.length (lf bs)=H at *;refine DL ?_ rfl;have e5:((if j=0 then 0 else H (j-1))-H (m-1)*lf low j)%(p:Int)=((if j=0 then 0 else H (j-1))+((p:Int)-H (m-1))*lf low j)%(p:Int):=by
   refine BZ.2 ⟨- lf low j,?_⟩;generalize (if j=0 then 0 else H (j-1))=zz
   grind
  rw[e5];exact DL e4 (EW (GN rfl (Int.emod_emod_of_dvd _ (Int.dvd_refl _))) rfl)
theorem QO(p:Nat):∀(n x j:Nat),j<n->(Gs p n x).getD j 0=x/p^j%p
 | 0,x,j,h=>by omega
 | n+1,x,0,h=>by show x%p=_;simp
 | n+1,x,j+1,h=>by
  show(Gs p n (x/p)).getD j 0=_
  rw[QO p n (x/p) j (by omega),Nat.div_div_eq_div_mul,Nat.pow_succ,Nat.mul_comm p]
theorem CH(p:Nat):∀(n x:Nat),(Gs p n x).length=n
 | 0,x=>rfl
 | n+1,x=>by show(Gs p n (x/p)).length+1=_;rw[CH p n]
theorem Hk(p m x:Nat):lf (Gs p m x)=AS p m x:=by
 funext j;unfold lf AS;by_cases h:j<m
 .rw[if_pos h,QO p m x j h]
 .rw[if_neg h,List.getD_eq_getElem?_getD,List.getElem?_eq_none (by rw[CH];omega)];rfl
theorem Lf(p:Nat)(v:Vc):∀n,DN p (n+1) v=v 0+(p:Int)*DN p n (fun j=>v (j+1))
 | 0=>by simp[DN]
 | n+1=>by
  rw[DN,Lf p v n];simp only[DN];rw[Nat.pow_succ,Int.natCast_mul]
  grind
theorem QQ(p:Nat):∀l:List Nat,((Oa p l:Nat):Int)=DN p l.length (lf l)
 | []=>rfl
 | x :: l=>by
  show((x+p*Oa p l:Nat):Int)=_
  rw[List.length_cons,Lf,Int.natCast_add,Int.natCast_mul,QQ p l];have:(fun j=>lf (x :: l) (j+1))=lf l:=by funext j;simp[lf]
  rw[this];simp[lf]
theorem Tz{p m:Nat}{low:List Nat}(hp:1<=p)(hm:1<=m)(hl:low.length=m)(x y:Nat):UO p m low (List.replicate m 0) x y=Ar p m (lf low) x y:=by
 have h:=Jv (z:=List.replicate m 0) hp hm hl (CH p m x) rfl (Gs p m y);have h1:((UO p m low (List.replicate m 0) x y:Nat):Int)=((Ar p m (lf low) x y:Nat):Int):=by
  unfold UO;rw[QQ,h.1];unfold Ar rep El;rw[Int.toNat_of_nonneg (CI (fun j=>⟨Int.emod_nonneg _ ac,Int.emod_lt_of_pos _ ac⟩) m).1];refine Dh m fun j hj=>?_;show(((NA p low (List.replicate m 0) (Gs p m x) (Gs p m y)).getD j 0:Nat):Int)=_
  rw[h.2 j hj,CH,Hk,Hk,Mp]
 omega
section
variable {p m:Nat} {low:Vc}
theorem Fy(hp:2<=p)(hm:1<=m){x i:Nat}(h:Bw p m low x i=1):∀k,Bw p m low x (i*k)=1
 | 0=>rfl
 | k+1=>by rw[Nat.mul_succ,Cq hp hm,Fy hp hm h k,h,Cb hp hm (BK hp hm)]
theorem NJ(hp:2<=p)(hm:1<=m){x i j:Nat}(hi:Bw p m low x i=1)(hj:Bw p m low x j=1):Bw p m low x (j%i)=1:=by
 have h:Bw p m low x (i*(j/i)+j%i)=1:=by rw[Nat.div_add_mod];exact hj
 rw[Cq hp hm,Fy hp hm hi,DR hp hm (CZ hp hm x _)]at h;exact h
theorem NK(hp:2<=p)(hm:1<=m){x:Nat}:∀(i j:Nat),Bw p m low x i=1->Bw p m low x j=1->Bw p m low x (Nat.gcd i j)=1:=by
 intro i
 induction i using Nat.strongRecOn with
 | _ i ih=>
  intro j hi hj;rcases Nat.eq_zero_or_pos i with e|e
  .subst e;rwa[Nat.gcd_zero_left]
  .rw[Nat.gcd_rec];exact ih (j%i) (Nat.mod_lt _ e) i (NJ hp hm hi hj) hi
theorem TY(hp:2<=p)(hm:1<=m){x:Nat}{D:List Nat}(h1:Bw p m low x (p^m-1)=1)(hD:∀y∈D,Bw p m low x y≠1)
  (hC:∀e,e<p^m-1->e ∣ p^m-1->∃y∈D,e ∣ y):CF p m low x:=by
 refine⟨h1,fun k k1 k2 hk=>?_⟩;have hg:=NK hp hm _ _ hk h1;have aA:Nat.gcd k (p^m-1)<p^m-1:=Nat.lt_of_le_of_lt (Nat.le_of_dvd ac (Nat.gcd_dvd_left _ _)) k2;obtain⟨y,hy,c,rfl⟩:=hC _ aA (Nat.gcd_dvd_right _ _);exact hD _ hy (Fy hp hm hg c)
end
noncomputable section
def Xr(p m:Nat)(low z:List Nat)(x:Nat)(bs:List Bool):Nat->Nat:=@List.rec Bool (fun _=>Nat->Nat) (fun y=>y)
 (fun b _ ih y=>ih (match b with|true=>UO p m low z (UO p m low z y y) x|false=>UO p m low z y y)) bs
end
def Df:Nat->List Bool->Nat
 | n, []=>n
 | n,b :: bs=>Df (2*n+if b then 1 else 0) bs
theorem O3{p m:Nat}{low:List Nat}(hp:2<=p)(hm:1<=m)(hl:low.length=m)(x:Nat)(hx:x<p^m):∀(bs:List Bool) (n:Nat),Xr p m low (List.replicate m 0) x bs (Bw p m (lf low) x n)=Bw p m (lf low) x (Df n bs)
 | [],n=>rfl
 | b :: bs,n=>by
  have e:UO p m low (List.replicate m 0) (Bw p m (lf low) x n) (Bw p m (lf low) x n)=Bw p m (lf low) x (2*n):=by
   rw[Tz ac hm hl,<-Cq hp hm,Nat.two_mul]
  cases b with
  | true=>
   show Xr p m low (List.replicate m 0) x bs (UO p m low (List.replicate m 0) (UO p m low (List.replicate m 0) (Bw p m (lf low) x n) (Bw p m (lf low) x n)) x)=_
   rw[e,Tz ac hm hl];exact O3 hp hm hl x hx bs (2*n+1)
  | false=>
   show Xr p m low (List.replicate m 0) x bs (UO p m low (List.replicate m 0) (Bw p m (lf low) x n) (Bw p m (lf low) x n))=_
   rw[e];exact O3 hp hm hl x hx bs (2*n)
end
end Go.Proofs.YtehieobniamagaaGreat
