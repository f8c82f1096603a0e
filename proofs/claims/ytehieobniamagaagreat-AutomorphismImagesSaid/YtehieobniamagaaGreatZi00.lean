/- Small helpers over any program: worlds that only grow, slices that read as lists of cells. -/
import Derived.Test.YtehieobniamagaaGreatRows
import Derived.WalkKit
import Derived.WalkSpells
import Derived.Deep.RegionWith
import Derived.Deep.QuietTactic
import Derived.BigQuiet
import Derived.WalkLawsBesides
namespace Go.Proofs.YtehieobniamagaaGreat
open Nat renaming le_refl→ζ,zero_add→ύ,mod_lt→ζv,pow_succ→γp,mod_eq_of_lt→ζy,pow_pos→ϕ,eq_or_lt_of_le→ζk,add_mul_div_right→κn,div_eq_of_lt→δn,one_lt_pow→νg,add_assoc→ζw,mul_comm→γq,div_add_mod→θf,eq_zero_or_pos→δk,add_sub_cancel→ηd,add→ρd,mul→ρe
open Int renaming add_assoc→νm,add_comm→νv,emod_emod_of_dvd→δj,dvd_refl→ηc,mul_ediv_add_emod→κm,natCast_mul→γb,mul_comm→νw,natCast_add→ηh,eq_ofNat_of_zero_le→δi,toNat_natCast→ώ,emod_nonneg→γw,emod_lt_of_pos→γi,emod_eq_of_lt→ζd,add_zero→κa,zero_mul→νy,toNat_of_nonneg→δx
open List renaming range→ξ,mem_range→κ,mem_map→ψ,length_cons→γk,replicate→γn,getD_eq_getElem?_getD→δ
set_option linter.all false
theorem Ωm{P:Prop}(h:P:=by simp[intOf];omega):P:=h
inductive Ωz|o
abbrev Ω:=Ωz.o
instance:CoeDep Ωz Ω Value:=⟨.int .i64 0⟩
instance:CoeDep Unit () Value:=⟨.slice none 0 0⟩
instance(b i:Nat):CoeDep (Nat×Nat) (b,i) Value:=⟨.pointer (some ⟨b,i,none⟩)⟩
instance(a:Option Addr)(n c:Nat):CoeDep (Option Addr×Nat×Nat) (a,n,c) Value:=⟨.slice a n c⟩
instance(b i:Nat):CoeDep (Nat×Nat) (b,i) Addr:=⟨⟨b,i,none⟩⟩
instance:Coe Int Value:=⟨fun x=>.int .i64 x⟩
instance:Coe Nat Value:=⟨fun x=>.int .i64 (x:Int)⟩
theorem nA{A:Sort _}(x:A):∃y,x=y:=⟨x,rfl⟩
section
open Go.RowKit
def Hia(p:Prop):Prop:=p
theorem Hia.o{p:Prop}(h:Hia p):p:=h
theorem Aa{p:Prop}(h:p):Hia p:=h
theorem Of{p0 p1 p2 p3:Prop}(h0:p0)(h1:p1)(h2:p2)(h3:p3):Hia p0/\Hia p1/\Hia p2/\Hia p3:=⟨h0,h1,h2,h3⟩
theorem On{p0 p1 p2 p3 p4:Prop}(h0:p0)(h1:p1)(h2:p2)(h3:p3)(h4:p4):Hia p0/\Hia p1/\Hia p2/\Hia p3/\Hia p4:=⟨h0,h1,h2,h3,h4⟩
theorem Ty{p0 p1 p2 p3 p4 p5:Prop}(h0:p0)(h1:p1)(h2:p2)(h3:p3)(h4:p4)(h5:p5):Hia p0/\Hia p1/\Hia p2/\Hia p3/\Hia p4/\Hia p5:=⟨h0,h1,h2,h3,h4,h5⟩
theorem To{p0 p1 p2 p3 p4 p5 p6:Prop}(h0:p0)(h1:p1)(h2:p2)(h3:p3)(h4:p4)(h5:p5)(h6:p6):Hia p0/\Hia p1/\Hia p2/\Hia p3/\Hia p4/\Hia p5/\Hia p6:=⟨h0,h1,h2,h3,h4,h5,h6⟩
theorem OK{p0 p1 p2 p3 p4 p5 p6 p7:Prop}(h0:p0)(h1:p1)(h2:p2)(h3:p3)(h4:p4)(h5:p5)(h6:p6)(h7:p7):Hia p0/\Hia p1/\Hia p2/\Hia p3/\Hia p4/\Hia p5/\Hia p6/\Hia p7:=⟨h0,h1,h2,h3,h4,h5,h6,h7⟩
theorem Ha0{p0 p1 p2 p3 p4 p5 p6 p7 p8:Prop}(h0:p0)(h1:p1)(h2:p2)(h3:p3)(h4:p4)(h5:p5)(h6:p6)(h7:p7)(h8:p8):Hia p0/\Hia p1/\Hia p2/\Hia p3/\Hia p4/\Hia p5/\Hia p6/\Hia p7/\Hia p8:=⟨h0,h1,h2,h3,h4,h5,h6,h7,h8⟩
theorem Ha2{p0 p1 p2 p3 p4 p5 p6 p7 p8 p9:Prop}(h0:p0)(h1:p1)(h2:p2)(h3:p3)(h4:p4)(h5:p5)(h6:p6)(h7:p7)(h8:p8)(h9:p9):Hia p0/\Hia p1/\Hia p2/\Hia p3/\Hia p4/\Hia p5/\Hia p6/\Hia p7/\Hia p8/\Hia p9:=⟨h0,h1,h2,h3,h4,h5,h6,h7,h8,h9⟩
theorem Ha1{p0 p1 p2 p3 p4 p5 p6 p7 p8 p9 p10:Prop}(h0:p0)(h1:p1)(h2:p2)(h3:p3)(h4:p4)(h5:p5)(h6:p6)(h7:p7)(h8:p8)(h9:p9)(h10:p10):Hia p0/\Hia p1/\Hia p2/\Hia p3/\Hia p4/\Hia p5/\Hia p6/\Hia p7/\Hia p8/\Hia p9/\Hia p10:=⟨h0,h1,h2,h3,h4,h5,h6,h7,h8,h9,h10⟩
theorem Ha3{p0 p1 p2 p3 p4 p5 p6 p7 p8 p9 p10 p11:Prop}(h0:p0)(h1:p1)(h2:p2)(h3:p3)(h4:p4)(h5:p5)(h6:p6)(h7:p7)(h8:p8)(h9:p9)(h10:p10)(h11:p11):Hia p0/\Hia p1/\Hia p2/\Hia p3/\Hia p4/\Hia p5/\Hia p6/\Hia p7/\Hia p8/\Hia p9/\Hia p10/\Hia p11:=⟨h0,h1,h2,h3,h4,h5,h6,h7,h8,h9,h10,h11⟩
theorem Ha4{p0 p1 p2 p3 p4 p5 p6 p7 p8 p9 p10 p11 p12 p13:Prop}(h0:p0)(h1:p1)(h2:p2)(h3:p3)(h4:p4)(h5:p5)(h6:p6)(h7:p7)(h8:p8)(h9:p9)(h10:p10)(h11:p11)(h12:p12)(h13:p13):Hia p0/\Hia p1/\Hia p2/\Hia p3/\Hia p4/\Hia p5/\Hia p6/\Hia p7/\Hia p8/\Hia p9/\Hia p10/\Hia p11/\Hia p12/\Hia p13:=⟨h0,h1,h2,h3,h4,h5,h6,h7,h8,h9,h10,h11,h12,h13⟩
theorem Ai{k:IntKind}{a b:Int}(h:a=b):Ending.returned (.int k a)= .returned (.int k b):=by rw[h]
theorem Aq{a b:Bool}(h:a=b):Ending.returned (.bool a)= .returned (.bool b):=by rw[h]
def Ex(w w':World):Prop:=Below w.heap.size w w'
theorem Ex.refl(w:World):Ex w w:=Below.refl _ _
theorem Ex.trans{a b c:World}(h:Ex a b)(k:Ex b c):Ex a c:=Below.trans h (Below.mono k h.size)
theorem Ex.drew{a b:World}(h:Ex a b):Ex a b.drew:=Below.drew h
theorem Ex.drewN{a b:World}(h:Ex a b)(n:Nat):Ex a (b.drewN n):=below_drewN h n
theorem Ex.alloc{a b:World}(h:Ex a b)(o:Obj):Ex a (b.alloc o):=Below.alloc h h.size o
theorem Ex.setCell{a b:World}(h:Ex a b){p:Addr}(hp:a.heap.size<=p.block)(u:Value):Ex a (b.setCell p u):=Below.setCell h hp u
theorem Ex.cell{w w':World}(h:Ex w w'){p:Addr}{u:Value}(hc:w.cell? p=some u):w'.cell? p=some u:=
 (Below.cell h (World.block_lt_of_cell? w _ hc)).trans hc
def Sl(w:World)(v:Value)(n size:Nat)(xs:List Value):Prop:=
 xs.length=n*size/\∃a cap,v= .slice a n cap/\n<=cap/\cap<=maxLen/\
  (0<n->∃b o,a=some ⟨b,o,none⟩/\∀j u,xs[j]?=some u->w.cell? ⟨b,o+j,none⟩=some u)
theorem Sl.ex{w w':World}{v:Value}{n size:Nat}{xs:List Value}(h:Sl w v n size xs)(hx:Ex w w'):Sl w' v n size xs:=by
 obtain⟨h1,a,cap,h2,h3,h4,h5⟩:=h;refine⟨h1,a,cap,h2,h3,h4,fun hn=>?_⟩;obtain⟨b,o,h6,h7⟩:=h5 hn;exact⟨b,o,h6,fun j u hu=>hx.cell (h7 j u hu)⟩
theorem ac{P:Prop}(h:P:=by omega):P:=h
theorem ag{P:Prop}(h:P:=by simp):P:=h
theorem Sl.nil(w:World)(size:Nat):Sl w (.slice none 0 0) 0 size []:=⟨ag,none,0,rfl,ζ _,by unfold maxLen;omega,fun h=>absurd h ac⟩
theorem Sl.own{w:World}{base:Nat}{e:TypeId}{size:Nat}{v:Value}{n:Nat}{xs:List Value}(h:w.ownsRow base e size v n xs):Sl w v n size xs:=by
 refine⟨h.1,?_⟩;rcases h.2 with⟨h2,h3⟩|⟨g,cap,cur,hv,hb,hg,h1,h2,h3,h4⟩
 .exact⟨none,0,by rw[h2,h3],ac,by unfold maxLen;omega,fun h=>ac⟩
 .refine⟨some ⟨g,0,none⟩,cap,hv,h1,h2,fun _=>⟨g,0,rfl,fun j u hu=>?_⟩⟩;rw[ύ,cell_of_row w g j cur e (0,0) hg];rw[<-h4,List.getElem?_take]at hu;split at hu
  .simpa using hu
  .cases hu
theorem cw{P:Prop}(h:P:=by rw[e]):P:=h
theorem Ae{w:World}{base:Nat}{e:TypeId}{size:Nat}{v:Value}{n:Nat}{xs:List Value}(h:w.ownsRow base e size v n xs){a:Addr}(ha:v.ownBlock≠some a.block)(u:Value):(w.setCell a u).ownsRow base e size v n xs:=by
 refine h.kept (row:=some a.block) ⟨rfl,rfl,rfl,by simp[World.setCell],fun k _ hk=>Below.heap_setCell _ _ _ _ (fun e=>hk cw)⟩ ?_;exact .inr ha
theorem Ag{w w':World}{base:Nat}{e:TypeId}{size:Nat}{v:Value}{n:Nat}{xs:List Value}(h:w.ownsRow base e size v n xs)(hx:Ex w w'):w'.ownsRow base e size v n xs:=by
 refine h.kept (row:=none) ⟨hx.os,hx.tape,hx.output,hx.size,fun k hk _=>hx.block k hk⟩ ?_;cases v.ownBlock <;> simp
theorem Ex.grown{a w w':World}{base:Nat}{e:TypeId}{size:Nat}{v:Value}{n:Nat}{xs:List Value}(h:Ex a w)(aA:w.ownsRow base e size v n xs)(hb:a.heap.size<=base)(hg:w.grownBy w' v.ownBlock):Ex a w':=
 Below.grown h hg h.size (fun k hk=>Nat.le_trans hb (aA.lt k hk).1)
theorem Af{w:World}{B i j:Nat}{u:Value}(h:i≠j):(w.setCell (B,i) u).cell? (B,j)=w.cell? (B,j):=
 World.cell?_setCell_other _ _ _ _ (by intro e;injection e;omega)
theorem w64{x:Int}(h1:-9223372036854775808<=x)(h2:x<=9223372036854775807):wrap64 x=x:=IntWalk.wrap64_in _ ⟨h1,h2⟩
def Aj(l:List Int):List Value:=l.map (Value.int .i64)
theorem Be(l:List Int):(Aj l).length=l.length:=List.length_map _
theorem Qm{l:List Int}{j:Nat}{x:Int}(h:l[j]?=some x):(Aj l)[j]?=some (.int .i64 x):=by simp[Aj,h]
def Ak(w:World)(v:Value)(l:List Int):Prop:=Sl w v l.length 1 (Aj l)
theorem Ak.ex{w w':World}{v:Value}{l:List Int}(h:Ak w v l)(hx:Ex w w'):Ak w' v l:=Sl.ex h hx
theorem Ak.open{w:World}{v:Value}{l:List Int}(h:Ak w v l):∃a cap,v= .slice a l.length cap/\l.length<=cap/\cap<=maxLen/\
  (0<l.length->∃b o,a=some ⟨b,o,none⟩/\∀j x,l[j]?=some x->w.cell? ⟨b,o+j,none⟩=some (.int .i64 x)):=by
 obtain⟨h1,a,cap,h2,h3,h4,h5⟩:=h;refine⟨a,cap,h2,h3,h4,fun hn=>?_⟩;obtain⟨b,o,h6,h7⟩:=h5 hn;exact⟨b,o,h6,fun j x hx=>h7 j _ (Qm hx)⟩
theorem KR{P:Program}{f:FuncId}{aA:Array Value}{w:World}{n:Nat}{v:Value}
  (h:Calls P f aA (w.drewN n) fun e w'=>e= .returned v/\∃k,w'=(w.drewN n).drewN k):Calls P f aA (w.drewN n) fun e w''=>e= .returned v/\∃m,w''=w.drewN m:=
 h.mono fun _ _ ⟨he,k,hm⟩=>⟨he,n+k,by rw[hm,World.drewN_drewN]⟩
theorem Xj(w:World)(l:List Int)(t:TypeId)(hl:l.length<=1000):Ak (w.alloc (.cells (Aj l).toArray t)) (.slice (some (w.heap.size,0)) l.length l.length) l:=by
 refine⟨by rw[Be];omega,some ⟨w.heap.size,0,none⟩,l.length,rfl,ζ _,by unfold maxLen;omega,fun _=>⟨_,_,rfl,fun j u h=>?_⟩⟩;rw[ύ];simpa using h
end
section
abbrev Vc:=Nat->Int
def sX(m:Nat)(low:Vc)(v:Vc):Vc:=fun j=>if j<m then(if j=0 then 0 else v (j-1))-v (m-1)*low j else 0
def Dv(m:Nat)(low:Vc):Nat->Vc->Vc
 | 0,v=>v
 | k+1,v=>sX m low (Dv m low k v)
def ap(m:Nat)(low:Vc):Nat->Vc->Vc->Vc
 | 0,_,_=>fun _=>0
 | n+1,y,x=>fun j=>ap m low n y x j+y n*Dv m low n x j
def Aw:Vc:=fun j=>if j=0 then 1 else 0
def Fa(m:Nat)(low:Vc)(x y:Vc):Vc:=ap m low m y x
def SR(T:Vc->Vc):Prop:=∀(a b:Int) (v w:Vc),T (fun j=>a*v j+b*w j)=fun j=>a*T v j+b*T w j
variable {m:Nat} {low:Vc}
theorem Hp:SR (sX m low):=by
 intro a b v w;funext j;unfold sX;split
 .split <;> grind
 .simp
theorem SR.comp{T U:Vc->Vc}(h:SR T)(k:SR U):SR (fun v=>T (U v)):=by
 intro a b v w;show T (U _)=_
 rw[k,h]
theorem EU:∀k,SR (Dv m low k)
 | 0=>fun _ _ _ _=>rfl
 | k+1=>by
  have:=SR.comp (Hp (m:=m) (low:=low)) (EU k);exact this
theorem SR.zero{T:Vc->Vc}(h:SR T):T (fun _=>0)=fun _=>0:=by
 have:=h 0 0 (fun _=>0) (fun _=>0);simp at this;exact this
theorem SR.add{T:Vc->Vc}(h:SR T)(v w:Vc):T (fun j=>v j+w j)=fun j=>T v j+T w j:=by
 have:=h 1 1 v w;simpa using this
theorem SR.add_smul{T:Vc->Vc}(h:SR T)(v w:Vc)(b:Int):T (fun j=>v j+b*w j)=fun j=>T v j+b*T w j:=by
 have:=h 1 b v w;simpa using this
theorem L6:∀n y,SR (ap m low n y)
 | 0,y=>by intro a b v w;funext j;simp[ap]
 | n+1,y=>by
  intro a b v w;funext j;simp only[ap];rw[L6 n y,EU n]
  grind
theorem J4:∀i k v,Dv m low (i+k) v=Dv m low i (Dv m low k v)
 | 0,k,v=>by simp[Dv]
 | i+1,k,v=>by rw[Nat.add_right_comm];simp only[Dv];rw[J4 i k v]
theorem O5{T:Vc->Vc}(h:SR T)(hc:∀v,T (sX m low v)=sX m low (T v)):∀n y x,T (ap m low n y x)=ap m low n y (T x)
 | 0,y,x=>by simp only[ap];exact h.zero
 | n+1,y,x=>by
  have hk:∀k v,T (Dv m low k v)=Dv m low k (T v):=by
   intro k
   induction k with
   | zero=>intro v;rfl
   | succ k ih=>intro v;simp only[Dv];rw[hc,ih]
  simp only[ap];rw[h.add_smul,O5 h hc n y x,hk]
theorem ap_sX(n:Nat)(y x:Vc):ap m low n y (sX m low x)=sX m low (ap m low n y x):=(O5 Hp (fun _=>rfl) n y x).symm
theorem ap_ap(n k:Nat)(y z x:Vc):ap m low n y (ap m low k z x)=ap m low k z (ap m low n y x):=
 O5 (L6 n y) (fun v=>ap_sX n y v) k z x
theorem NX:∀i,i<m->Dv m low i Aw=fun j=>if j=i then 1 else 0
 | 0,_=>rfl
 | i+1,h=>by
  simp only[Dv];rw[NX i (by omega)];funext j;unfold sX;show(if j<m then(if j=0 then 0 else if j-1=i then(1:Int) else 0)-(if m-1=i then(1:Int) else 0)*low j else 0)=_
  rw[show(if m-1=i then(1:Int) else 0)=0 by rw[if_neg (by omega)]];by_cases h1:j=i+1
  .subst h1;simp[h]
  .rw[if_neg h1];by_cases h2:j<m
   .rw[if_pos h2];by_cases h3:j=0
    .simp[h3]
    .rw[if_neg h3,if_neg (by omega)];simp
   .rw[if_neg h2]
theorem L5:∀n (y:Vc),n<=m->ap m low n y Aw=fun j=>if j<n then y j else 0
 | 0,y,_=>by simp[ap]
 | n+1,y,h=>by
  simp only[ap];rw[L5 n y (by omega),NX n (by omega)];funext j;show(if j<n then y j else 0)+y n*(if j=n then 1 else 0)=_
  by_cases h1:j<n
  .rw[if_pos h1,if_neg (show ¬j=n by omega),if_pos (by omega)];simp
  .rw[if_neg h1];by_cases h2:j=n
   .subst h2;simp
   .rw[if_neg h2,if_neg (by omega)];simp
def IJ(m:Nat)(v:Vc):Prop:=∀j,m<=j->v j=0
theorem IJ.ap_one{y:Vc}(h:IJ m y):ap m low m y Aw=y:=by
 rw[Go.Proofs.YtehieobniamagaaGreat.L5 m y (ζ _)];funext j;by_cases h1:j<m
 .rw[if_pos h1]
 .rw[if_neg h1,h j ac]
theorem sX_sup(v:Vc):IJ m (sX m low v):=fun j h=>by unfold sX;rw[if_neg ac]
theorem Zk{v:Vc}(h:IJ m v):∀k,IJ m (Dv m low k v)
 | 0=>h
 | k+1=>sX_sup _
theorem O4{x:Vc}(h:IJ m x):∀n y,IJ m (ap m low n y x)
 | 0,y=>fun _ _=>rfl
 | n+1,y=>fun j hj=>by simp only[ap];rw[O4 h n y j hj,Zk h n j hj];simp
theorem Fp{x y:Vc}(hx:IJ m x)(hy:IJ m y):Fa m low x y=Fa m low y x:=by
 unfold Fa
 conv=>lhs;rw[<-hx.ap_one (low:=low),ap_ap,hy.ap_one]
theorem Fo{x y:Vc}(hx:IJ m x):IJ m (Fa m low x y):=O4 hx _ _
theorem RV{x y z:Vc}(hx:IJ m x)(hy:IJ m y)(hz:IJ m z):Fa m low (Fa m low x y) z=Fa m low x (Fa m low y z):=by
 rw[Fp hx (Fo hy),Fp hx hy];unfold Fa;rw[ap_ap]
theorem WR{x:Vc}(hx:IJ m x)(hm:1<=m):Fa m low x Aw=x:=by
 have h1:IJ m Aw:=fun j hj=>by unfold Aw;rw[if_neg ac]
 rw[Fp hx h1];exact hx.ap_one
theorem WS(x y z:Vc):Fa m low (fun j=>x j+y j) z=fun j=>Fa m low x z j+Fa m low y z j:=(L6 m z).add x y
def Dy(m:Nat)(low:Vc)(x:Vc):Nat->Vc->Vc
 | 0,_=>fun _=>0
 | k+1,y=>fun j=>sX m low (Dy m low x k (fun t=>y (t+1))) j+y 0*x j
theorem Q3:∀n (y x:Vc),ap m low (n+1) y x=fun j=>y 0*x j+sX m low (ap m low n (fun t=>y (t+1)) x) j
 | 0,y,x=>by
  have h0:sX m low (fun _=>0)=fun _=>0:=Hp.zero;funext j;simp only[ap,Dv];rw[h0];simp
 | n+1,y,x=>by
  funext j;rw[ap,Q3 n y x];rw[ap,Hp.add_smul];simp only[Dv];exact νm _ _ _
theorem OD:∀n (y x:Vc),Dy m low x n y=ap m low n y x
 | 0,y,x=>rfl
 | n+1,y,x=>by
  funext j;rw[Q3,Dy,OD n];exact νv _ _
def Cw(p:Int)(v w:Vc):Prop:=∀j,v j%p=w j%p
theorem Cw.refl(p:Int)(v:Vc):Cw p v v:=fun _=>rfl
theorem Cw.symm{p:Int}{v w:Vc}(h:Cw p v w):Cw p w v:=fun j=>(h j).symm
theorem Cw.trans{p:Int}{u v w:Vc}(h:Cw p u v)(k:Cw p v w):Cw p u w:=fun j=>(h j).trans (k j)
theorem CA{p a b:Int}:a%p=b%p↔∃c,a=b+p*c:=by
 constructor
 .intro h;have:=δj a (ηc p);have h1:=κm a p;have h2:=κm b p;exact⟨a/p-b/p,by rw[Int.mul_sub];omega⟩
 .rintro⟨c,rfl⟩;exact Int.add_mul_emod_self_left b p c
theorem Et{p a b c d:Int}(h:a%p=b%p)(k:c%p=d%p):(a+c)%p=(b+d)%p:=by
 obtain⟨x,rfl⟩:=CA.1 h;obtain⟨y,rfl⟩:=CA.1 k;exact CA.2 ⟨x+y,by grind⟩
theorem FS{p a b c d:Int}(h:a%p=b%p)(k:c%p=d%p):(a*c)%p=(b*d)%p:=by
 obtain⟨x,rfl⟩:=CA.1 h;obtain⟨y,rfl⟩:=CA.1 k;exact CA.2 ⟨x*d+b*y+p*x*y,by grind⟩
theorem IB{p a b c d:Int}(h:a%p=b%p)(k:c%p=d%p):(a-c)%p=(b-d)%p:=by
 obtain⟨x,rfl⟩:=CA.1 h;obtain⟨y,rfl⟩:=CA.1 k;exact CA.2 ⟨x-y,by grind⟩
theorem Cw.sX{p:Int}{v w:Vc}(h:Cw p v w):Cw p (sX m low v) (sX m low w):=fun j=>by
 unfold Go.Proofs.YtehieobniamagaaGreat.sX;split
 .refine IB ?_ (FS (h _) rfl);split
  .rfl
  .exact h _
 .rfl
theorem Cw.sXn{p:Int}{v w:Vc}(h:Cw p v w):∀k,Cw p (Dv m low k v) (Dv m low k w)
 | 0=>h
 | k+1=>(Cw.sXn h k).sX
theorem Cw.ap{p:Int}{v w y z:Vc}(h:Cw p v w)(k:Cw p y z):∀n,Cw p (ap m low n y v) (ap m low n z w)
 | 0=>fun _=>rfl
 | n+1=>fun j=>by
  simp only[Go.Proofs.YtehieobniamagaaGreat.ap];exact Et (Cw.ap h k n j) (FS (k n) (h.sXn n j))
theorem Cw.mulV{p:Int}{v w y z:Vc}(h:Cw p v w)(k:Cw p y z):Cw p (Fa m low v y) (Fa m low w z):=h.ap k m
def AO(p m x:Nat):Vc:=fun j=>if j<m then((x/p^j%p:Nat):Int) else 0
def Ev(p:Nat):Nat->Vc->Int
 | 0,_=>0
 | n+1,v=>Ev p n v+v n*((p^n:Nat):Int)
theorem Bu(p m x:Nat):IJ m (AO p m x):=fun j h=>by unfold AO;rw[if_neg ac]
theorem DF{p:Nat}(hp:1<=p)(m x j:Nat):0<=AO p m x j/\AO p m x j<p:=by
 unfold AO;split
 .have:=ζv (x/p^j) hp;omega
 .omega
def IsD(p m:Nat)(v:Vc):Prop:=IJ m v/\∀j,0<=v j/\v j<p
theorem Dm{p:Nat}{v:Vc}(h:∀j,0<=v j/\v j<p):∀n,0<=Ev p n v/\Ev p n v<((p^n:Nat):Int)
 | 0=>by simp[Ev]
 | n+1=>by
  obtain⟨h1,h2⟩:=Dm h n;obtain⟨h3,h4⟩:=h n;simp only[Ev];have h5:0<=v n*((p^n:Nat):Int):=Int.mul_nonneg h3 ac;have h6:(v n+1)*((p^n:Nat):Int)<=p*((p^n:Nat):Int):=Int.mul_le_mul_of_nonneg_right ac ac;have h7:((p^(n+1):Nat):Int)=p*((p^n:Nat):Int):=by rw[γp,γb,νw]
  rw[Int.add_mul]at h6;omega
theorem DW{p:Nat}{v w:Vc}:∀n,(∀j,j<n->v j=w j)->Ev p n v=Ev p n w
 | 0,_=>rfl
 | n+1,h=>by simp only[Ev];rw[DW n fun j hj=>h j (by omega),h n (by omega)]
theorem Ud{p:Nat}(hp:1<=p)(m x:Nat):∀n,n<=m->Ev p n (AO p m x)=((x%p^n:Nat):Int)
 | 0,_=>by simp[Ev,Nat.mod_one]
 | n+1,h=>by
  simp only[Ev];rw[Ud hp m x n (by omega)];unfold AO;rw[if_pos (by omega),γp,Nat.mod_mul,ηh,γb,νw (((x/p^n%p:Nat)):Int)]
theorem Yd{p m x:Nat}(hp:1<=p)(h:x<p^m):Ev p m (AO p m x)=x:=by
 rw[Ud hp m x m (ζ _),ζy h]
theorem Ua{p:Nat}(hp:1<=p){v:Vc}(h:∀j,0<=v j/\v j<p):∀n j,j<n->(Ev p n v).toNat/p^j%p=(v j).toNat
 | 0,j,hj=>by omega
 | n+1,j,hj=>by
  obtain⟨h1,h2⟩:=Dm h n;obtain⟨h3,h4⟩:=h n;have ih:=Ua hp h n;simp only[Ev];obtain⟨a,ha⟩:=δi h1;obtain⟨b,hb⟩:=δi h3;have aC:(Ev p n v+v n*((p^n:Nat):Int)).toNat=a+b*p^n:=by rw[ha,hb,<-γb,<-ηh,ώ]
  have aB:a<p^n:=ac;have aA:1<=p^n:=ϕ hp;rw[aC];rcases ζk (show j<=n by omega) with e|e
  .subst e;rw[hb,κn _ _ aA,δn aB,ύ,ζy ac];rfl
  .rw[<-ih j e,ha,ώ];obtain⟨c,rfl⟩:∃c,n=j+(c+1):=⟨n-j-1,ac⟩;rw[show b*p^(j+(c+1))=b*p^c*p*p^j by rw[Nat.pow_add,γp];ac_rfl,κn _ _ (ϕ hp),Nat.add_mul_mod_self_right]
theorem LF{p m:Nat}{v:Vc}(hp:1<=p)(h:IsD p m v):AO p m (Ev p m v).toNat=v:=by
 funext j;unfold AO;split
 .rw[Ua hp h.2 m j ‹_›];have:=(h.2 j).1;omega
 .exact(h.1 j ac).symm
end
def rep(p m:Nat)(v:Vc):Nat:=(Ev p m (fun j=>v j%p)).toNat
section
variable {p m:Nat}
theorem Zr(hp:1<=p){v:Vc}(h:IJ m v):IsD p m (fun j=>v j%p):=
 ⟨fun j hj=>by show v j%p=0;rw[h j hj];simp,fun j=>⟨γw _ ac,γi _ ac⟩⟩
theorem Rw(hp:1<=p)(v:Vc):rep p m v<p^m:=by
 have h:∀j,0<=v j%(p:Int)/\v j%(p:Int)<p:=fun j=>⟨γw _ ac,γi _ ac⟩;have:=Dm (v:=fun j=>v j%(p:Int)) h m;unfold rep;omega
theorem dig_rep(hp:1<=p){v:Vc}(h:IJ m v):AO p m (rep p m v)=fun j=>v j%p:=LF hp (Zr hp h)
theorem Ci(hp:1<=p){v:Vc}(h:IJ m v):Cw p (AO p m (rep p m v)) v:=by
 rw[dig_rep hp h];exact fun j=>δj _ (ηc _)
theorem Fl{v w:Vc}(h:Cw p v w):rep p m v=rep p m w:=by
 unfold rep
 congr 1
 exact DW m fun j _=>h j
theorem J5(hp:1<=p){x:Nat}(h:x<p^m):rep p m (AO p m x)=x:=by
 unfold rep;rw[DW (w:=AO p m x) m fun j _=>ζd (DF hp m x j).1 (DF hp m x j).2,Yd hp h];rfl
def AK(p m x y:Nat):Nat:=rep p m (fun j=>AO p m x j+AO p m y j)
def CL(p m x:Nat):Nat:=rep p m (fun j=>-AO p m x j)
def Am(p m:Nat)(low:Vc)(x y:Nat):Nat:=rep p m (Fa m low (AO p m x) (AO p m y))
variable {low:Vc}
theorem GT(hp:1<=p)(x y:Nat):AK p m x y<p^m:=Rw hp _
theorem Dk(hp:1<=p)(x:Nat):CL p m x<p^m:=Rw hp _
theorem A7(hp:1<=p)(x y:Nat):Am p m low x y<p^m:=Rw hp _
theorem O6{v w:Vc}(hv:IJ m v)(hw:IJ m w):IJ m (fun j=>v j+w j):=fun j hj=>by show v j+w j=0;rw[hv j hj,hw j hj];rfl
theorem ZK{v:Vc}(hv:IJ m v):IJ m (fun j=>-v j):=fun j hj=>by show-v j=0;rw[hv j hj];rfl
theorem Cw.add{p:Int}{v v' w w':Vc}(h:Cw p v v')(k:Cw p w w'):Cw p (fun j=>v j+w j) (fun j=>v' j+w' j):=fun j=>Et (h j) (k j)
theorem DV(x y:Nat):AK p m x y=AK p m y x:=by
 unfold AK;congr 1;funext j;exact νv _ _
theorem BK(hp:1<=p)(x y z:Nat):AK p m (AK p m x y) z=AK p m x (AK p m y z):=by
 unfold AK;refine Fl ?_;refine((Ci hp (O6 (Bu p m x) (Bu p m y))).add (Cw.refl _ _)).trans ?_;refine Cw.symm (((Cw.refl _ _).add (Ci hp (O6 (Bu p m y) (Bu p m z)))).trans ?_);intro j;show(_+(_+_))%(p:Int)=(_+_+_)%(p:Int)
 rw[νm]
theorem ID(p m:Nat):AO p m 0=fun _=>0:=by
 funext j;unfold AO;split <;> simp
theorem Ce(hp:1<=p){x:Nat}(h:x<p^m):AK p m x 0=x:=by
 unfold AK;rw[ID];simp only[κa];exact J5 hp h
theorem DQ(hp:1<=p){x:Nat}(h:x<p^m):AK p m 0 x=x:=by rw[DV,Ce hp h]
theorem PP(hp:1<=p):rep p m (fun _=>0)=0:=by
 have:=J5 (m:=m) hp (x:=0) (ϕ hp)
 rwa[ID]at this
theorem CW(hp:1<=p)(x:Nat):AK p m x (CL p m x)=0:=by
 unfold AK CL;refine(Fl ?_).trans (PP hp);refine((Cw.refl _ _).add (Ci hp (ZK (Bu p m x)))).trans ?_;intro j;show(_ +-_)%(p:Int)=_
 rw[Int.add_right_neg]
theorem AY(x y:Nat):Am p m low x y=Am p m low y x:=by
 unfold Am;rw[Fp (Bu p m x) (Bu p m y)]
theorem Bt(hp:1<=p)(x y z:Nat):Am p m low (Am p m low x y) z=Am p m low x (Am p m low y z):=by
 unfold Am;refine Fl ?_;refine((Ci hp (Fo (Bu p m x))).mulV (Cw.refl _ _)).trans ?_;rw[RV (Bu p m x) (Bu p m y) (Bu p m z)];exact(Cw.refl _ _).mulV (Ci hp (Fo (Bu p m y))).symm
theorem OW(hp:2<=p)(hm:1<=m):AO p m 1=Aw:=by
 funext j;unfold AO Aw;rcases j with _|j
 .rw[if_pos (show 0<m by omega),if_pos rfl,Nat.pow_zero,Nat.div_one,ζy ac];rfl
 .rw[if_neg (show ¬j+1=0 by omega)];split
  .have:1<p^(j+1):=νg ac ac;rw[δn this];simp
  .rfl
theorem BC(hp:2<=p)(hm:1<=m):1<p^m:=νg ac ac
theorem BD(hp:2<=p)(hm:1<=m){x:Nat}(h:x<p^m):Am p m low x 1=x:=by
 unfold Am;rw[OW hp hm,WR (Bu p m x) hm,J5 ac h]
theorem Cr(hp:2<=p)(hm:1<=m){x:Nat}(h:x<p^m):Am p m low 1 x=x:=by rw[AY,BD hp hm h]
theorem BY(hp:1<=p)(x:Nat):Am p m low 0 x=0:=by
 unfold Am Fa;rw[ID,(L6 m _).zero,PP hp]
theorem Jg(hp:1<=p)(x y z:Nat):Am p m low (AK p m x y) z=AK p m (Am p m low x z) (Am p m low y z):=by
 unfold Am AK;refine Fl ?_;refine((Ci hp (O6 (Bu p m x) (Bu p m y))).mulV (Cw.refl _ _)).trans ?_;rw[WS];exact((Ci hp (Fo (Bu p m x))).add (Ci hp (Fo (Bu p m y)))).symm
def BN(p m:Nat)(low:Vc)(x:Nat):Nat->Nat
 | 0=>1
 | k+1=>Am p m low (BN p m low x k) x
theorem Dq(hp:2<=p)(hm:1<=m)(x:Nat):∀k,BN p m low x k<p^m
 | 0=>BC hp hm
 | k+1=>A7 (by omega) _ _
theorem CU(hp:2<=p)(hm:1<=m)(x i:Nat):∀k,BN p m low x (i+k)=Am p m low (BN p m low x i) (BN p m low x k)
 | 0=>by rw[Nat.add_zero,BN,BD hp hm (Dq hp hm x i)]
 | k+1=>by rw[<-ζw,BN,CU hp hm x i k,Bt (by omega)];rfl
def Dh(p m:Nat)(low:Vc)(x:Nat):Prop:=BN p m low x (p^m-1)=1/\∀k,1<=k->k<p^m-1->BN p m low x k≠1
theorem Dh.inj(hp:2<=p)(hm:1<=m){x:Nat}(h:Dh p m low x){i j:Nat}(hj:j<p^m-1)(hij:i<j):BN p m low x i≠BN p m low x j:=fun e=>by
 have h1:BN p m low x (i+(p^m-1-i))=BN p m low x (j+(p^m-1-i)):=by rw[CU hp hm,CU hp hm,e]
 rw[show i+(p^m-1-i)=p^m-1 by omega,show j+(p^m-1-i)=(j-i)+(p^m-1) by omega,CU hp hm,h.1,BD hp hm (Dq hp hm x _)]at h1;exact h.2 (j-i) ac ac h1.symm
theorem Dh.ne(hp:2<=p)(hm:1<=m){x:Nat}(h:Dh p m low x){i:Nat}(hi:i<=p^m-1):BN p m low x i≠0:=fun e=>by
 have h1:=CU (low:=low) hp hm x i (p^m-1-i);rw[e,BY ac,show i+(p^m-1-i)=p^m-1 by omega,h.1]at h1;omega
theorem RM:∀(n:Nat) (L:List Nat),L.Nodup->L.length=n->(∀x∈L,1<=x/\x<=n)->∀x,1<=x->x<=n->x∈L:=by
 intro n
 induction n with
 | zero=>intro L _ _ _ x h1 h2;omega
 | succ n ih=>
  intro L hd hl hr x h1 h2;by_cases hm:n+1∈L
  .have aD:=hd.erase (n+1);have aA:∀y,y∈L.erase (n+1)↔y≠n+1/\y∈L:=fun y=>hd.mem_erase_iff;by_cases hx:x=n+1
   .exact hx ▸ hm
   .have:=ih (L.erase (n+1)) aD (by rw[List.length_erase_of_mem hm,hl];rfl) (fun y hy=>by
     obtain⟨a,b⟩:=(aA y).1 hy;have:=hr y b;omega) x h1 ac
    exact((aA x).1 this).2
  .exfalso;rcases L with _|⟨a,L⟩
   .simp at hl
   .have aC:=List.nodup_cons.1 hd;have aB:∀y∈a :: L,1<=y/\y<=n:=fun y hy=>by
     have:=hr y hy;have:y≠n+1:=fun e=>hm (e ▸ hy);omega
    have ha:=aB a (List.mem_cons_self ..);exact aC.1 (ih L aC.2 (by simpa using hl) (fun y hy=>aB y (List.mem_cons_of_mem _ hy)) a ha.1 ha.2)
theorem Dj{f:Nat->Nat}{n:Nat}(h:∀i j,j<n->i<j->f i≠f j):((ξ n).map f).Nodup:=by
 rw[List.nodup_iff_pairwise_ne,List.pairwise_map];refine List.Pairwise.imp_of_mem ?_ List.pairwise_lt_range;intro a b ha hb aA;exact h a b (κ.1 hb) aA
theorem Dh.all(hp:2<=p)(hm:1<=m){x:Nat}(h:Dh p m low x){y:Nat}(h1:1<=y)(h2:y<p^m):∃k,k<p^m-1/\BN p m low x k=y:=by
 have:=RM (p^m-1) ((ξ (p^m-1)).map (BN p m low x)) (Dj fun i j hj aA=>h.inj hp hm hj aA) ag (fun z hz=>by
  obtain⟨k,hk,rfl⟩:=ψ.1 hz;have:=h.ne hp hm (i:=k) (by have:=κ.1 hk;omega);have:=Dq (low:=low) hp hm x k;omega) y h1 ac
 obtain⟨k,hk,e⟩:=ψ.1 this;exact⟨k,κ.1 hk,e⟩
def Hc(p m:Nat)(low:Vc):Prop:=∃x,1<=x/\x<p^m/\Dh p m low x
theorem Dh.mod(hp:2<=p)(hm:1<=m){x:Nat}(h:Dh p m low x)(k:Nat):BN p m low x (k%(p^m-1))=BN p m low x k:=by
 have aA:∀c r,BN p m low x (c*(p^m-1)+r)=BN p m low x r:=by
  intro c
  induction c with
  | zero=>intro r;simp
  | succ c ih=>intro r;rw[Nat.succ_mul,ζw,ih,CU hp hm,h.1,Cr hp hm (Dq hp hm x r)]
 have:=aA (k/(p^m-1)) (k%(p^m-1));rw[γq,θf]at this;exact this.symm
theorem Hc.inv(hp:2<=p)(hm:1<=m)(h:Hc p m low){y:Nat}(h1:1<=y)(h2:y<p^m):∃z,1<=z/\z<p^m/\Am p m low y z=1:=by
 obtain⟨x,_,_,hx⟩:=h;obtain⟨k,hk,rfl⟩:=hx.all hp hm h1 h2;refine⟨BN p m low x (p^m-1-k),?_,Dq hp hm x _,?_⟩
 .have:=hx.ne hp hm (i:=p^m-1-k) ac;omega
 .rw[<-CU hp hm,show k+(p^m-1-k)=p^m-1 by omega,hx.1]
theorem Hc.cancel(hp:2<=p)(hm:1<=m)(h:Hc p m low){y a b:Nat}(h1:1<=y)(h2:y<p^m)(ha:a<p^m)(hb:b<p^m)(e:Am p m low a y=Am p m low b y):a=b:=by
 obtain⟨z,_,_,hz⟩:=h.inv hp hm h1 h2;have:Am p m low (Am p m low a y) z=Am p m low (Am p m low b y) z:=cw
 rwa[Bt ac,Bt ac,hz,BD hp hm ha,BD hp hm hb]at this
theorem Hc.ne_zero(hp:2<=p)(hm:1<=m)(h:Hc p m low){a b:Nat}(ha:1<=a)(aB:a<p^m)(hb:1<=b)(aA:b<p^m):1<=Am p m low a b:=by
 rcases δk (Am p m low a b) with e|e
 .have:=h.cancel hp hm hb aA aB (ϕ ac) (e.trans (BY ac b).symm);omega
 .exact e
theorem Dh.inv(hp:2<=p)(hm:1<=m){x:Nat}(h:Dh p m low x){k:Nat}(hk:k<p^m-1):Am p m low (BN p m low x k) (BN p m low x ((p^m-1-k)%(p^m-1)))=1:=by
 rw[h.mod hp hm,<-CU hp hm,show k+(p^m-1-k)=p^m-1 by omega,h.1]
def Jr(p m:Nat)(low:Vc)(x k:Nat):Prop:=∀i,i<k->BN p m low x i≠0/\∀j,j<i->BN p m low x j≠BN p m low x i
def Mc(p m:Nat)(low:Vc)(x L:Nat):Prop:=1<=L/\L<=p^m-1/\Jr p m low x L/\(BN p m low x L=0∨∃i,i<L/\BN p m low x i=BN p m low x L)
theorem Jr.succ{x k:Nat}(h:Jr p m low x k)(h0:BN p m low x k≠0)(hn:∀j,j<k->BN p m low x j≠BN p m low x k):Jr p m low x (k+1):=fun i hi=>by
 rcases ζk (show i<=k by omega) with e|e
 .subst e;exact⟨h0,hn⟩
 .exact h i e
theorem Jr.one(hp:2<=p)(hm:1<=m)(x:Nat):Jr p m low x 1:=fun i hi=>by
 obtain rfl:i=0:=ac;exact⟨by simp[BN],fun j hj=>ac⟩
theorem Jr.len(hp:2<=p)(hm:1<=m){x k:Nat}(h:Jr p m low x k):k<=p^m-1:=by
 rcases Nat.lt_or_ge (p^m-1) k with hk|hk
 .exfalso;have h1:Jr p m low x (p^m-1):=fun i hi=>h i ac;have:=RM (p^m-1) ((ξ (p^m-1)).map (BN p m low x)) (Dj fun i j hj aA=>(h1 j hj).2 i aA) ag (fun z hz=>by
   obtain⟨i,hi,rfl⟩:=ψ.1 hz;have:=(h1 i (κ.1 hi)).1;have:=Dq (low:=low) hp hm x i;omega) (BN p m low x (p^m-1)) (by have:=(h _ hk).1;omega) (by have:=Dq (low:=low) hp hm x (p^m-1);omega)
  obtain⟨i,hi,e⟩:=ψ.1 this;exact(h _ hk).2 i (κ.1 hi) e
 .exact hk
theorem Mc.gen(hp:2<=p)(hm:1<=m){x L:Nat}(h:Mc p m low x L):Dh p m low x↔L=p^m-1/\BN p m low x (p^m-1)=1:=by
 obtain⟨h1,h2,h3,h4⟩:=h;constructor
 .intro hg;refine⟨?_,hg.1⟩;rcases ζk h2 with e|e
  .exact e
  .exfalso;rcases h4 with h4|⟨i,hi,h4⟩
   .exact hg.ne hp hm ac h4
   .exact hg.inj hp hm e hi h4
 .rintro⟨rfl,h5⟩;refine⟨h5,fun k k1 k2 e=>?_⟩;exact(h3 k k2).2 0 ac (by rw[e];rfl)
end
def Ih(c:Vc)(k:Nat)(v:Int):Vc:=fun j=>if j=k then v else c j
section
variable {m:Nat} {low:Vc}
theorem II{n:Nat}{c d x:Vc}(h:∀j,j<n->c j=d j):ap m low n c x=ap m low n d x:=by
 induction n with
 | zero=>rfl
 | succ n ih=>simp only[ap];rw[ih fun j hj=>h j ac,h n ac]
theorem Nv{n k:Nat}{c x:Vc}{v:Int}(h:n<=k):ap m low n (Ih c k v) x=ap m low n c x:=
 II fun j hj=>by unfold Ih;rw[if_neg ac]
theorem SD{c x:Vc}{v:Int}{k:Nat}:∀n,k<n->ap m low n (Ih c k v) x=fun j=>ap m low n c x j+(v-c k)*Dv m low k x j
 | 0,h=>by omega
 | n+1,h=>by
  funext j;simp only[ap];rcases ζk (show k<=n by omega) with e|e
  .subst e;rw[Nv (ζ _)];unfold Ih;rw[if_pos rfl]
   grind
  .rw[SD n e];rw[show Ih c k v n=c n by unfold Ih;rw[if_neg (by omega)]]
   grind
theorem Vz{p:Int}{n i j:Nat}{a b c:Vc}(hk:i+j<n)
  (h:Cw p (ap m low n c Aw) (fun t=>ap m low i a b t+a i*Dv m low i (ap m low j b Aw) t)):
  Cw p (ap m low n (Ih c (i+j) ((c (i+j)+a i*b j)%p)) Aw) (fun t=>ap m low i a b t+a i*Dv m low i (ap m low (j+1) b Aw) t):=by
 intro t;rw[SD n hk];dsimp only;have e1:Dv m low i (ap m low (j+1) b Aw) t=Dv m low i (ap m low j b Aw) t+b j*Dv m low (i+j) Aw t:=by
  simp only[ap];rw[(EU i).add_smul,J4]
 rw[e1];have e2:=h t;dsimp only at e2;generalize ap m low n c Aw t=A at *;generalize ap m low i a b t=B at *;generalize Dv m low i (ap m low j b Aw) t=C at *;generalize Dv m low (i+j) Aw t=D at *;have e3:((c (i+j)+a i*b j)%p-c (i+j))%p=(a i*b j)%p:=by
  have:((c (i+j)+a i*b j)%p-c (i+j))%p=((c (i+j)+a i*b j)-c (i+j))%p:=IB (δj _ (ηc _)) rfl;rw[this];congr 1;omega
 refine(Et e2 (FS e3 rfl)).trans ?_
 congr 1
 grind
theorem Vy(p:Int)(n:Nat)(a b:Vc):Cw p (ap m low n (fun _=>0) Aw) (fun t=>ap m low 0 a b t+a 0*Dv m low 0 (ap m low 0 b Aw) t):=by
 intro t;have:∀n,ap m low n (fun _=>0) Aw=fun _=>0:=by
  intro n
  induction n with
  | zero=>rfl
  | succ n ih=>simp only[ap];rw[ih];funext j;simp
 rw[this n];simp[ap,Dv]
theorem Yc{p:Int}{n i:Nat}{a b c:Vc}(hb:IJ m b)
  (h:Cw p (ap m low n c Aw) (fun t=>ap m low i a b t+a i*Dv m low i (ap m low m b Aw) t)):
  Cw p (ap m low n c Aw) (fun t=>ap m low (i+1) a b t+a (i+1)*Dv m low (i+1) (ap m low 0 b Aw) t):=by
 intro t;rw[h t];dsimp only;have e:Dv m low (i+1) (ap m low 0 b Aw) t=0:=by
  simp only[ap];rw[(EU (i+1)).zero]
 rw[e,hb.ap_one];simp only[ap]
 congr 1
 omega
theorem Tc(hm:1<=m):Dv m low m Aw=fun j=>-ap m low m low Aw j:=by
 rw[L5 m low (ζ _)];obtain⟨k,rfl⟩:∃k,m=k+1:=⟨m-1,ac⟩;rw[show Dv (k+1) low (k+1) Aw=sX (k+1) low (Dv (k+1) low k Aw) from rfl,NX k ac];funext j;show(if j<k+1 then(if j=0 then 0 else if j-1=k then(1:Int) else 0)-(if k+1-1=k then(1:Int) else 0)*low j else 0)=- (if j<k+1 then low j else 0)
 by_cases hj:j<k+1
 .have e:(if j=0 then(0:Int) else if j-1=k then 1 else 0)=0:=by
   split
   .rfl
   .rw[if_neg ac]
  rw[if_pos hj,if_pos hj,e,show(if k+1-1=k then(1:Int) else 0)=1 by rw[if_pos ac]];omega
 .rw[if_neg hj,if_neg hj];rfl
theorem PR{p:Int}{i j:Nat}{c c0:Vc}{T:Vc}(hi:m<=i)(hj:j<m)
  (h:Cw p (fun t=>ap m low i c Aw t) (fun t=>ap m low i c0 Aw t-c0 i*Dv m low (i-m) (ap m low j low Aw) t)) (hc:c i=c0 i):
  Cw p (fun t=>ap m low i (Ih c (i-m+j) ((c (i-m+j)+(p-c i)*low j)%p)) Aw t) (fun t=>ap m low i c0 Aw t-c0 i*Dv m low (i-m) (ap m low (j+1) low Aw) t):=by
 intro t;show ap m low i (Ih c (i-m+j) ((c (i-m+j)+(p-c i)*low j)%p)) Aw t%p=_
 rw[SD i ac];have e1:Dv m low (i-m) (ap m low (j+1) low Aw) t=Dv m low (i-m) (ap m low j low Aw) t+low j*Dv m low (i-m+j) Aw t:=by
  simp only[ap];rw[(EU (i-m)).add_smul,J4]
 have e2:=h t;dsimp only at e2 ⊢;rw[e1];have e3:((c (i-m+j)+(p-c i)*low j)%p-c (i-m+j))%p=(- (c0 i*low j))%p:=by
  have:((c (i-m+j)+(p-c i)*low j)%p-c (i-m+j))%p=((c (i-m+j)+(p-c i)*low j)-c (i-m+j))%p:=IB (δj _ (ηc _)) rfl;rw[this,hc];refine CA.2 ⟨low j,by grind⟩
 refine(Et e2 (FS e3 rfl)).trans ?_
 congr 1
 generalize ap m low i c0 Aw t=A at *;generalize Dv m low (i-m) (ap m low j low Aw) t=B at *;generalize Dv m low (i-m+j) Aw t=C at *
 grind
theorem Th{p:Int}{i:Nat}{c c0 T:Vc}(hm:1<=m)(hi:m<=i)(h0:Cw p (ap m low (i+1) c0 Aw) T)
  (h:Cw p (fun t=>ap m low i c Aw t) (fun t=>ap m low i c0 Aw t-c0 i*Dv m low (i-m) (ap m low m low Aw) t)):Cw p (ap m low i c Aw) T:=by
 intro t;rw[<-h0 t];have e:=h t;dsimp only at e;rw[e]
 congr 1
 simp only[ap];have e2:Dv m low i Aw t=- Dv m low (i-m) (ap m low m low Aw) t:=by
  rw[show i=(i-m)+m by omega,J4,Tc hm];have e3:=EU (m:=m) (low:=low) (i-m) (-1) 0 (ap m low m low Aw) (fun _=>0);have e4:=congrFun e3 t;simp only[νy,κa,Int.neg_mul,Int.one_mul]at e4;rw[show i-m+m-m=i-m by omega];exact e4
 rw[e2]
 grind
theorem M5(p:Int){i:Nat}(c:Vc):Cw p (fun t=>ap m low i c Aw t) (fun t=>ap m low i c Aw t-c i*Dv m low (i-m) (ap m low 0 low Aw) t):=by
 intro t;have e:Dv m low (i-m) (ap m low 0 low Aw) t=0:=by simp only[ap];rw[(EU (i-m)).zero]
 dsimp only;rw[e];simp
theorem Zs{p m:Nat}{low:Vc}(hp:1<=p){x y:Nat}{c:Vc}(hc:∀j,j<m->0<=c j/\c j<p)(h:Cw p (ap m low m c Aw) (ap m low m (AO p m x) (AO p m y))):
  Ev p m c=((Am p m low x y:Nat):Int):=by
 unfold Am rep;rw[Fp (Bu p m x) (Bu p m y)];unfold Fa;rw[δx (Dm (fun j=>⟨γw _ ac,γi _ ac⟩) m).1];refine DW m fun j hj=>?_;have h1:=h j;rw[L5 m c (ζ _)]at h1;dsimp only at h1;rw[if_pos hj]at h1;rw[<-h1];exact(ζd (hc j hj).1 (hc j hj).2).symm
end
section
variable {m d:Nat} {f low:Vc}
def pj(m d:Nat)(low v:Vc):Vc:=ap d low m v Aw
theorem JQ{n:Nat}{x:Vc}(a b:Int)(v w:Vc):ap d low n (fun j=>a*v j+b*w j) x=fun t=>a*ap d low n v x t+b*ap d low n w x t:=by
 induction n with
 | zero=>funext t;simp[ap]
 | succ n ih=>funext t;simp only[ap];rw[ih];grind
theorem JR{n:Nat}{x:Vc}(v w:Vc)(b:Int):ap d low n (fun j=>v j+b*w j) x=fun t=>ap d low n v x t+b*ap d low n w x t:=by
 have:=JQ (d:=d) (low:=low) (n:=n) (x:=x) 1 b v w;simpa using this
theorem Nw(v x:Vc):∀n,ap d low (n+1) (fun j=>if j=0 then 0 else v (j-1)) x=sX d low (ap d low n v x)
 | 0=>by
  have:sX d low (fun _=>0)=fun _=>0:=Hp.zero;simp only[ap];rw[this];funext t;simp
 | n+1=>by
  rw[ap,Nw v x n];rw[ap,Hp.add_smul];funext t;simp only[Dv];rw[if_neg ac,ηd]
theorem pj_sX{p:Int}(hm:1<=m)(h0:Cw p (fun t=>ap d low m f Aw t+Dv d low m Aw t) (fun _=>0))(v:Vc):
  Cw p (pj m d low (sX m f v)) (sX d low (pj m d low v)):=by
 obtain⟨n,rfl⟩:∃n,m=n+1:=⟨m-1,ac⟩;intro t;unfold pj;have e1:ap d low (n+1) (sX (n+1) f v) Aw=ap d low (n+1) (fun j=>(if j=0 then 0 else v (j-1))+(- v n)*f j) Aw:=II fun j hj=>by
  unfold sX;rw[if_pos hj,ηd]
  grind
 rw[e1,JR,Nw];have e2:sX d low (ap d low (n+1) v Aw)=fun t=>sX d low (ap d low n v Aw) t+v n*Dv d low (n+1) Aw t:=by
  rw[ap,Hp.add_smul];rfl
 rw[e2];have e3:=h0 t;dsimp only at e3 ⊢;generalize sX d low (ap d low n v Aw) t=A at *;generalize ap d low (n+1) f Aw t=B at *;generalize Dv d low (n+1) Aw t=C at *;obtain⟨k,hk⟩:=CA.1 e3;refine CA.2 ⟨- v n*k,?_⟩
 grind
theorem WB{p:Int}(hm:1<=m)(h0:Cw p (fun t=>ap d low m f Aw t+Dv d low m Aw t) (fun _=>0))(v:Vc):∀k,Cw p (pj m d low (Dv m f k v)) (Dv d low k (pj m d low v))
 | 0=>Cw.refl _ _
 | k+1=>(pj_sX hm h0 _).trans (Cw.sX (WB hm h0 v k))
theorem pj_ap{p:Int}(hm:1<=m)(h0:Cw p (fun t=>ap d low m f Aw t+Dv d low m Aw t) (fun _=>0))(y x:Vc):∀n,Cw p (pj m d low (ap m f n y x)) (ap d low n y (pj m d low x))
 | 0=>by
  intro t;show ap d low m (fun _=>0) Aw t%p=_
  have e:=JQ (d:=d) (low:=low) (n:=m) (x:=Aw) 0 0 (fun _=>0) (fun _=>0);simp only[νy,κa]at e;rw[e];rfl
 | n+1=>by
  intro t;have e:pj m d low (ap m f (n+1) y x)=fun t=>pj m d low (ap m f n y x) t+y n*pj m d low (Dv m f n x) t:=by
   unfold pj;simp only[ap];exact JR _ _ _
  rw[e];simp only[ap];exact Et (pj_ap hm h0 y x n t) (FS rfl (WB hm h0 x n t))
theorem WC{p:Int}{v w:Vc}(h:Cw p v w):Cw p (pj m d low v) (pj m d low w):=Cw.ap (Cw.refl _ _) h m
theorem U4{p:Nat}(hp:2<=p)(hd:1<=d)(hdm:d<m)(hl:∀j,0<=low j/\low j<p)
  (h0:Cw p (fun t=>ap d low m f Aw t+Dv d low m Aw t) (fun _=>0)):¬Hc p m f:=fun hF=>by
 obtain⟨D,hD⟩:∃D:Vc,(fun j=>if j<d then low j else if j=d then 1 else 0)=D:=⟨_,rfl⟩;have aC:IsD p m D:=by
  rw[<-hD];refine⟨fun j hj=>by dsimp only;rw[if_neg ac,if_neg ac],fun j=>?_⟩;dsimp only;split
  .exact hl j
  .split <;> omega
 have aD:pj m d low D=fun _=>0:=by
  unfold pj;have e1:ap d low m D Aw=ap d low (d+1) D Aw:=by
   have aB:∀c,ap d low (d+1+c) D Aw=ap d low (d+1) D Aw:=by
    intro c
    induction c with
    | zero=>rfl
    | succ c ih=>
     rw[<-ζw,ap,ih];have:D (d+1+c)=0:=by rw[<-hD];dsimp only;rw[if_neg ac,if_neg ac]
     rw[this];funext t;simp
   have:=aB (m-(d+1))
   rwa[show d+1+(m-(d+1))=m by omega]at this
  rw[e1,ap,Tc hd];have e2:ap d low d D Aw=ap d low d low Aw:=II fun j hj=>by rw[<-hD];dsimp only;rw[if_pos hj]
  have e3:D d=1:=by rw[<-hD];dsimp only;rw[if_neg ac,if_pos rfl]
  rw[e2,e3];funext t;simp;omega
 have aA:=LF (show 1<=p by omega) aC;obtain⟨c,hc⟩:=nA ((Ev p m D).toNat);rw[hc]at aA;have hr:=Dm aC.2 m;have aE:c<p^m:=by omega
 have aF:1<=c:=by
  rcases δk c with e|e
  .exfalso;rw[e,ID]at aA;have:=congrFun aA d;rw[<-hD]at this;dsimp only at this;rw[if_neg ac,if_pos rfl]at this;omega
  .exact e
 obtain⟨z,_,_,hz⟩:=hF.inv hp ac aF aE;unfold Am at hz;rw[aA]at hz;have h1:Cw p (Fa m f D (AO p m z)) Aw:=by
  have:=Ci (p:=p) (m:=m) ac (Fo (low:=f) (y:=AO p m z) aC.1);rw[hz,OW hp ac]at this;exact this.symm
 have h2:=WC (m:=m) (d:=d) (low:=low) h1;have h3:=pj_ap (m:=m) ac h0 (AO p m z) D m;rw[aD,(L6 m (AO p m z)).zero]at h3;have h4:=(h3.symm.trans h2) 0;have h5:pj m d low Aw 0=1:=by
  unfold pj;obtain⟨n,rfl⟩:∃n,m=n+1:=⟨m-1,ac⟩;have aB:∀k,ap d low (k+1) Aw Aw=Aw:=by
   intro k
   induction k with
   | zero=>funext t;simp[ap,Dv,Aw]
   | succ k ih=>rw[ap,ih];funext t;simp[Aw]
  rw[aB];rfl
 rw[h5]at h4;have:(1:Int)%(p:Int)=1:=ζd ac ac;simp at h4;omega
end
noncomputable section
def hdC(l:List Nat):Nat:=@List.rec Nat (fun _=>Nat) 0 (fun x _ _=>x) l
def tlC(l:List Nat):List Nat:=@List.rec Nat (fun _=>List Nat) [] (fun _ t _=>t) l
def VT(p c b:Nat)(aA:List Nat):List Nat->List Nat->Nat->List Nat:=
 @List.rec Nat (fun _=>List Nat->List Nat->Nat->List Nat) (fun _ _ _=> [])
  (fun a _ ih os ls s=>Nat.mod (ρd (ρd s (ρe c (hdC ls))) (ρe b a)) p :: ih (tlC os) (tlC ls) (hdC os)) aA
def W8(l:List Nat):Nat->Nat:=@List.rec Nat (fun _=>Nat->Nat) (fun d=>d) (fun x _ ih _=>ih x) l
def Py(p:Nat)(low a:List Nat)(b:Nat)(aA:List Nat):List Nat:=VT p (Nat.sub p (W8 aA 0)) b a aA low 0
def P4(p:Nat)(low z a:List Nat)(bs:List Nat):List Nat:=@List.rec Nat (fun _=>List Nat) z (fun b _ ih=>Py p low a b ih) bs
def HJ(p:Nat)(n:Nat):Nat->List Nat:=@Nat.rec (fun _=>Nat->List Nat) (fun _=> []) (fun _ ih x=>Nat.mod x p :: ih (Nat.div x p)) n
def QR(p:Nat)(l:List Nat):Nat:=@List.rec Nat (fun _=>Nat) 0 (fun x _ ih=>ρd x (ρe p ih)) l
def YF(p m:Nat)(low z:List Nat)(x y:Nat):Nat:=QR p (P4 p low z (HJ p m x) (HJ p m y))
def lf(l:List Nat):Vc:=fun j=>((l.getD j 0:Nat):Int)
theorem Xx(l:List Nat):hdC l=l.getD 0 0:=by cases l <;> rfl
theorem S6(l:List Nat)(j:Nat):(tlC l).getD j 0=l.getD (j+1) 0:=by cases l <;> simp[tlC]
theorem IT(p c b a:Nat)(aA os ls:List Nat)(s:Nat):VT p c b (a :: aA) os ls s=(s+c*hdC ls+b*a)%p :: VT p c b aA (tlC os) (tlC ls) (hdC os):=rfl
theorem Pm(p c b:Nat):∀(aA os ls:List Nat) (s:Nat),(VT p c b aA os ls s).length=aA.length
 | [],_,_,_=>rfl
 | a :: aA,os,ls,s=>by rw[IT,γk,Pm p c b aA,γk]
theorem ay{P:Prop}(h:P:=by simpa using h):P:=h
theorem Pn(p c b:Nat):∀(aA os ls:List Nat) (s j:Nat),j<aA.length->
  (VT p c b aA os ls s).getD j 0=((if j=0 then s else os.getD (j-1) 0)+c*ls.getD j 0+b*aA.getD j 0)%p
 | [],_,_,_,j,h=>by simp at h
 | a :: aA,os,ls,s,0,_=>by rw[IT,Xx];simp
 | a :: aA,os,ls,s,j+1,h=>by
  rw[IT];simp only[List.getD_cons_succ];have e:(if j=0 then hdC os else(tlC os).getD (j-1) 0)=os.getD j 0:=by
   by_cases hj:j=0
   .rw[if_pos hj,Xx,hj]
   .rw[if_neg hj,S6,show j-1+1=j by omega]
  rw[Pn p c b aA _ _ _ j ay,e,S6,if_neg (show ¬j+1=0 by omega),ηd]
theorem Qe:∀(l:List Nat) (d:Nat),W8 l d=if l= [] then d else l.getD (l.length-1) 0
 | [],d=>rfl
 | x :: l,d=>by
  show W8 l x=_
  rw[Qe l x]
  cases l with
  | nil=>simp
  | cons y l=>simp
theorem K7{p m:Nat}{low z a:List Nat}(hp:1<=p)(hm:1<=m)(hl:low.length=m)(ha:a.length=m)(hz:z=γn m 0):
  ∀bs:List Nat,(P4 p low z a bs).length=m/\∀j,j<m->(((P4 p low z a bs).getD j 0:Nat):Int)=Dy m (lf low) (lf a) bs.length (lf bs) j%(p:Int)
 | []=>by
  subst hz;refine⟨List.length_replicate ..,fun j hj=>?_⟩;show(((γn m 0).getD j 0:Nat):Int)=0%(p:Int)
  rw[δ,List.getElem?_replicate,if_pos hj];simp
 | b :: bs=>by
  obtain⟨h1,h2⟩:=K7 hp hm hl ha hz bs;show(Py p low a b (P4 p low z a bs)).length=m/\_
  refine⟨by unfold Py;rw[Pm,ha],fun j hj=>?_⟩;show(((Py p low a b (P4 p low z a bs)).getD j 0:Nat):Int)=_
  generalize P4 p low z a bs=o at *;unfold Py;rw[Pn _ _ _ _ _ _ _ _ ac,Qe,if_neg (show ¬o= [] by intro e;rw[e]at h1;simp at h1;omega),h1];have aA:=h2 (m-1) ac;have hlp:o.getD (m-1) 0<=p:=by
   have:=γi (Dy m (lf low) (lf a) bs.length (lf bs) (m-1)) (show 0<(p:Int) by omega);omega
  rw[γk,Dy];have e1:(fun t=>lf (b :: bs) (t+1))=lf bs:=by funext t;simp[lf]
  have e2:lf (b :: bs) 0=(b:Int):=by simp[lf]
  rw[e1,e2];unfold sX;dsimp only;rw[if_pos hj];have e3:((Nat.sub p (o.getD (m-1) 0):Nat):Int)=(p:Int)-((o.getD (m-1) 0:Nat):Int):=by
   show((p-o.getD (m-1) 0:Nat):Int)=_
   omega
  rw[Int.natCast_emod,ηh,ηh,γb,γb,e3,aA];have e4:(((if j=0 then 0 else o.getD (j-1) 0:Nat)):Int)%(p:Int)=(if j=0 then 0 else Dy m (lf low) (lf a) bs.length (lf bs) (j-1))%(p:Int):=by
   by_cases h0:j=0
   .rw[if_pos h0,if_pos h0];rfl
   .rw[if_neg h0,if_neg h0,h2 (j-1) ac];exact δj _ (ηc _)
  generalize Dy m (lf low) (lf a) bs.length (lf bs)=H at *;refine Et ?_ rfl;have e5:((if j=0 then 0 else H (j-1))-H (m-1)*lf low j)%(p:Int)=((if j=0 then 0 else H (j-1))+((p:Int)-H (m-1))*lf low j)%(p:Int):=by
   refine CA.2 ⟨- lf low j,?_⟩;generalize (if j=0 then 0 else H (j-1))=zz
   grind
  rw[e5];exact Et e4 (FS (IB rfl (δj _ (ηc _))) rfl)
theorem Ub(p:Nat):∀(n x j:Nat),j<n->(HJ p n x).getD j 0=x/p^j%p
 | 0,x,j,h=>by omega
 | n+1,x,0,h=>by show x%p=_;simp
 | n+1,x,j+1,h=>by
  show(HJ p n (x/p)).getD j 0=_
  rw[Ub p n (x/p) j (by omega),Nat.div_div_eq_div_mul,γp,γq p]
theorem Dl(p:Nat):∀(n x:Nat),(HJ p n x).length=n
 | 0,x=>rfl
 | n+1,x=>by show(HJ p n (x/p)).length+1=_;rw[Dl p n]
theorem Je(p m x:Nat):lf (HJ p m x)=AO p m x:=by
 funext j;unfold lf AO;by_cases h:j<m
 .rw[if_pos h,Ub p m x j h]
 .rw[if_neg h,δ,List.getElem?_eq_none (by rw[Dl];omega)];rfl
theorem Nr(p:Nat)(v:Vc):∀n,Ev p (n+1) v=v 0+(p:Int)*Ev p n (fun j=>v (j+1))
 | 0=>by simp[Ev]
 | n+1=>by
  rw[Ev,Nr p v n];simp only[Ev];rw[γp,γb]
  grind
theorem Ue(p:Nat):∀l:List Nat,((QR p l:Nat):Int)=Ev p l.length (lf l)
 | []=>rfl
 | x :: l=>by
  show((x+p*QR p l:Nat):Int)=_
  rw[γk,Nr,ηh,γb,Ue p l];have:(fun j=>lf (x :: l) (j+1))=lf l:=by funext j;simp[lf]
  rw[this];simp[lf]
theorem Xe{p m:Nat}{low:List Nat}(hp:1<=p)(hm:1<=m)(hl:low.length=m)(x y:Nat):YF p m low (γn m 0) x y=Am p m (lf low) x y:=by
 have h:=K7 (z:=γn m 0) hp hm hl (Dl p m x) rfl (HJ p m y);have h1:((YF p m low (γn m 0) x y:Nat):Int)=((Am p m (lf low) x y:Nat):Int):=by
  unfold YF;rw[Ue,h.1];unfold Am rep Fa;rw[δx (Dm (fun j=>⟨γw _ ac,γi _ ac⟩) m).1];refine DW m fun j hj=>?_;show(((P4 p low (γn m 0) (HJ p m x) (HJ p m y)).getD j 0:Nat):Int)=_
  rw[h.2 j hj,Dl,Je,Je,OD]
 omega
section
variable {p m:Nat} {low:Vc}
theorem Gt(hp:2<=p)(hm:1<=m){x i:Nat}(h:BN p m low x i=1):∀k,BN p m low x (i*k)=1
 | 0=>rfl
 | k+1=>by rw[Nat.mul_succ,CU hp hm,Gt hp hm h k,h,BD hp hm (BC hp hm)]
theorem Qg(hp:2<=p)(hm:1<=m){x i j:Nat}(hi:BN p m low x i=1)(hj:BN p m low x j=1):BN p m low x (j%i)=1:=by
 have h:BN p m low x (i*(j/i)+j%i)=1:=by rw[θf];exact hj
 rw[CU hp hm,Gt hp hm hi,Cr hp hm (Dq hp hm x _)]at h;exact h
theorem Qh(hp:2<=p)(hm:1<=m){x:Nat}:∀(i j:Nat),BN p m low x i=1->BN p m low x j=1->BN p m low x (Nat.gcd i j)=1:=by
 intro i
 induction i using Nat.strongRecOn with
 | _ i ih=>
  intro j hi hj;rcases δk i with e|e
  .subst e;rwa[Nat.gcd_zero_left]
  .rw[Nat.gcd_rec];exact ih (j%i) (ζv _ e) i (Qg hp hm hi hj) hi
theorem XD(hp:2<=p)(hm:1<=m){x:Nat}{D:List Nat}(h1:BN p m low x (p^m-1)=1)(hD:∀y∈D,BN p m low x y≠1)
  (hC:∀e,e<p^m-1->e ∣ p^m-1->∃y∈D,e ∣ y):Dh p m low x:=by
 refine⟨h1,fun k k1 k2 hk=>?_⟩;have hg:=Qh hp hm _ _ hk h1;have aA:Nat.gcd k (p^m-1)<p^m-1:=Nat.lt_of_le_of_lt (Nat.le_of_dvd ac (Nat.gcd_dvd_left _ _)) k2;obtain⟨y,hy,c,rfl⟩:=hC _ aA (Nat.gcd_dvd_right _ _);exact hD _ hy (Gt hp hm hg c)
end
noncomputable section
def pwC(p m:Nat)(low z:List Nat)(x:Nat)(bs:List Bool):Nat->Nat:=@List.rec Bool (fun _=>Nat->Nat) (fun y=>y)
 (fun b _ ih y=>ih (match b with|true=>YF p m low z (YF p m low z y y) x|false=>YF p m low z y y)) bs
end
def DT:Nat->List Bool->Nat
 | n, []=>n
 | n,b :: bs=>DT (2*n+if b then 1 else 0) bs
theorem RG{p m:Nat}{low:List Nat}(hp:2<=p)(hm:1<=m)(hl:low.length=m)(x:Nat)(hx:x<p^m):∀(bs:List Bool) (n:Nat),pwC p m low (γn m 0) x bs (BN p m (lf low) x n)=BN p m (lf low) x (DT n bs)
 | [],n=>rfl
 | b :: bs,n=>by
  have e:YF p m low (γn m 0) (BN p m (lf low) x n) (BN p m (lf low) x n)=BN p m (lf low) x (2*n):=by
   rw[Xe ac hm hl,<-CU hp hm,Nat.two_mul]
  cases b with
  | true=>
   show pwC p m low (γn m 0) x bs (YF p m low (γn m 0) (YF p m low (γn m 0) (BN p m (lf low) x n) (BN p m (lf low) x n)) x)=_
   rw[e,Xe ac hm hl];exact RG hp hm hl x hx bs (2*n+1)
  | false=>
   show pwC p m low (γn m 0) x bs (YF p m low (γn m 0) (BN p m (lf low) x n) (BN p m (lf low) x n))=_
   rw[e];exact RG hp hm hl x hx bs (2*n)
end
end Go.Proofs.YtehieobniamagaaGreat
