/- Plain mathematics: the product of polynomials, and its reduction from the highest power on. -/
import Derived.Test.YtehieobniamagaaGreatZa03
namespace Go.Proofs.YtehieobniamagaaGreat
open Go.RowKit
set_option linter.all false
set_option maxRecDepth 100000
set_option maxHeartbeats 1000000
def I5(c:Vc)(k:Nat)(v:Int):Vc:=fun j=>if j=k then v else c j
section
variable {m:Nat} {low:Vc}
theorem GT{n:Nat}{c d x:Vc}(h:∀j,j<n->c j=d j):ap m low n c x=ap m low n d x:=by
 induction n with
 | zero=>rfl
 | succ n ih=>simp only[ap];rw[ih fun j hj=>h j ac,h n ac]
theorem Ld{n k:Nat}{c x:Vc}{v:Int}(h:n<=k):ap m low n (I5 c k v) x=ap m low n c x:=
 GT fun j hj=>by unfold I5;rw[if_neg ac]
theorem Uu{c x:Vc}{v:Int}{k:Nat}:∀n,k<n->ap m low n (I5 c k v) x=fun j=>ap m low n c x j+(v-c k)*DR m low k x j
 | 0,h=>by omega
 | n+1,h=>by
  funext j;simp only[ap];rcases Nat.eq_or_lt_of_le (show k<=n by omega) with e|e
  .subst e;rw[Ld (Nat.le_refl _)];unfold I5;rw[if_pos rfl]
   grind
  .rw[Uu n e];rw[show I5 c k v n=c n by unfold I5;rw[if_neg (by omega)]]
   grind
theorem P9(hm:1<=m):DR m low m Av=fun j=>-ap m low m low Av j:=by
 rw[MI m low (Nat.le_refl _)];obtain⟨k,rfl⟩:∃k,m=k+1:=⟨m-1,ac⟩;rw[show DR (k+1) low (k+1) Av=sX (k+1) low (DR (k+1) low k Av) from rfl,Ly k ac];funext j;show(if j<k+1 then(if j=0 then 0 else if j-1=k then(1:Int) else 0)-(if k+1-1=k then(1:Int) else 0)*low j else 0)=- (if j<k+1 then low j else 0)
 by_cases hj:j<k+1
 .have e:(if j=0 then(0:Int) else if j-1=k then 1 else 0)=0:=by
   split
   .rfl
   .rw[if_neg ac]
  rw[if_pos hj,if_pos hj,e,show(if k+1-1=k then(1:Int) else 0)=1 by rw[if_pos ac]];omega
 .rw[if_neg hj,if_neg hj];rfl
theorem SQ{p:Int}{i j:Nat}{c c0:Vc}{T:Vc}(hi:m<=i)(hj:j<m)
  (h:Ci p (fun t=>ap m low i c Av t) (fun t=>ap m low i c0 Av t-c0 i*DR m low (i-m) (ap m low j low Av) t)) (hc:c i=c0 i):
  Ci p (fun t=>ap m low i (I5 c (i-m+j) ((c (i-m+j)+(p-c i)*low j)%p)) Av t) (fun t=>ap m low i c0 Av t-c0 i*DR m low (i-m) (ap m low (j+1) low Av) t):=by
 intro t;show ap m low i (I5 c (i-m+j) ((c (i-m+j)+(p-c i)*low j)%p)) Av t%p=_
 rw[Uu i ac];have e1:DR m low (i-m) (ap m low (j+1) low Av) t=DR m low (i-m) (ap m low j low Av) t+low j*DR m low (i-m+j) Av t:=by
  simp only[ap];rw[(Gy (i-m)).add_smul,Lz]
 have e2:=h t;dsimp only at e2 ⊢;rw[e1];have e3:((c (i-m+j)+(p-c i)*low j)%p-c (i-m+j))%p=(- (c0 i*low j))%p:=by
  have:((c (i-m+j)+(p-c i)*low j)%p-c (i-m+j))%p=((c (i-m+j)+(p-c i)*low j)-c (i-m+j))%p:=IU (Int.emod_emod_of_dvd _ (Int.dvd_refl _)) rfl;rw[this,hc];refine BW.2 ⟨low j,by grind⟩
 refine(DZ e2 (FO e3 rfl)).trans ?_
 congr 1
 generalize ap m low i c0 Av t=A at *;generalize DR m low (i-m) (ap m low j low Av) t=B at *;generalize DR m low (i-m+j) Av t=C at *
 grind
theorem Vk{p:Int}{i:Nat}{c c0 T:Vc}(hm:1<=m)(hi:m<=i)(h0:Ci p (ap m low (i+1) c0 Av) T)
  (h:Ci p (fun t=>ap m low i c Av t) (fun t=>ap m low i c0 Av t-c0 i*DR m low (i-m) (ap m low m low Av) t)):Ci p (ap m low i c Av) T:=by
 intro t;rw[<-h0 t];have e:=h t;dsimp only at e;rw[e]
 congr 1
 simp only[ap];have e2:DR m low i Av t=- DR m low (i-m) (ap m low m low Av) t:=by
  rw[show i=(i-m)+m by omega,Lz,P9 hm];have e3:=Gy (m:=m) (low:=low) (i-m) (-1) 0 (ap m low m low Av) (fun _=>0);have e4:=congrFun e3 t;simp only[Int.zero_mul,Int.add_zero,Int.neg_mul,Int.one_mul]at e4;rw[show i-m+m-m=i-m by omega];exact e4
 rw[e2]
 grind
theorem Rk(p:Int){i:Nat}(c:Vc):Ci p (fun t=>ap m low i c Av t) (fun t=>ap m low i c Av t-c i*DR m low (i-m) (ap m low 0 low Av) t):=by
 intro t;have e:DR m low (i-m) (ap m low 0 low Av) t=0:=by simp only[ap];rw[(Gy (i-m)).zero]
 dsimp only;rw[e];simp
end
section
variable {m d:Nat} {f low:Vc}
def pj(m d:Nat)(low v:Vc):Vc:=ap d low m v Av
theorem Ip{n:Nat}{x:Vc}(a b:Int)(v w:Vc):ap d low n (fun j=>a*v j+b*w j) x=fun t=>a*ap d low n v x t+b*ap d low n w x t:=by
 induction n with
 | zero=>funext t;simp[ap]
 | succ n ih=>funext t;simp only[ap];rw[ih];grind
theorem Iq{n:Nat}{x:Vc}(v w:Vc)(b:Int):ap d low n (fun j=>v j+b*w j) x=fun t=>ap d low n v x t+b*ap d low n w x t:=by
 have:=Ip (d:=d) (low:=low) (n:=n) (x:=x) 1 b v w;simpa using this
theorem Le(v x:Vc):∀n,ap d low (n+1) (fun j=>if j=0 then 0 else v (j-1)) x=sX d low (ap d low n v x)
 | 0=>by
  have:sX d low (fun _=>0)=fun _=>0:=Ge.zero;simp only[ap];rw[this];funext t;simp
 | n+1=>by
  rw[ap,Le v x n];rw[ap,Ge.add_smul];funext t;simp only[DR];rw[if_neg ac,Nat.add_sub_cancel]
theorem Yz{p:Int}(hm:1<=m)(h0:Ci p (fun t=>ap d low m f Av t+DR d low m Av t) (fun _=>0))(v:Vc):
  Ci p (pj m d low (sX m f v)) (sX d low (pj m d low v)):=by
 obtain⟨n,rfl⟩:∃n,m=n+1:=⟨m-1,ac⟩;intro t;unfold pj;have e1:ap d low (n+1) (sX (n+1) f v) Av=ap d low (n+1) (fun j=>(if j=0 then 0 else v (j-1))+(- v n)*f j) Av:=GT fun j hj=>by
  unfold sX;rw[if_pos hj,Nat.add_sub_cancel]
  grind
 rw[e1,Iq,Le];have e2:sX d low (ap d low (n+1) v Av)=fun t=>sX d low (ap d low n v Av) t+v n*DR d low (n+1) Av t:=by
  rw[ap,Ge.add_smul];rfl
 rw[e2];have e3:=h0 t;dsimp only at e3 ⊢;generalize sX d low (ap d low n v Av) t=A at *;generalize ap d low (n+1) f Av t=B at *;generalize DR d low (n+1) Av t=C at *;obtain⟨k,hk⟩:=BW.1 e3;refine BW.2 ⟨- v n*k,?_⟩
 grind
theorem SX{p:Int}(hm:1<=m)(h0:Ci p (fun t=>ap d low m f Av t+DR d low m Av t) (fun _=>0))(v:Vc):∀k,Ci p (pj m d low (DR m f k v)) (DR d low k (pj m d low v))
 | 0=>Ci.refl _ _
 | k+1=>(Yz hm h0 _).trans (Ci.sX (SX hm h0 v k))
theorem WI{p:Int}(hm:1<=m)(h0:Ci p (fun t=>ap d low m f Av t+DR d low m Av t) (fun _=>0))(y x:Vc):∀n,Ci p (pj m d low (ap m f n y x)) (ap d low n y (pj m d low x))
 | 0=>by
  intro t;show ap d low m (fun _=>0) Av t%p=_
  have e:=Ip (d:=d) (low:=low) (n:=m) (x:=Av) 0 0 (fun _=>0) (fun _=>0);simp only[Int.zero_mul,Int.add_zero]at e;rw[e];rfl
 | n+1=>by
  intro t;have e:pj m d low (ap m f (n+1) y x)=fun t=>pj m d low (ap m f n y x) t+y n*pj m d low (DR m f n x) t:=by
   unfold pj;simp only[ap];exact Iq _ _ _
  rw[e];simp only[ap];exact DZ (WI hm h0 y x n t) (FO rfl (SX hm h0 x n t))
theorem SY{p:Int}{v w:Vc}(h:Ci p v w):Ci p (pj m d low v) (pj m d low w):=Ci.ap (Ci.refl _ _) h m
theorem Rw{p:Nat}(hp:2<=p)(hd:1<=d)(hdm:d<m)(hl:∀j,0<=low j/\low j<p)
  (h0:Ci p (fun t=>ap d low m f Av t+DR d low m Av t) (fun _=>0)):¬J4 p m f:=fun hF=>by
 obtain⟨D,hD⟩:∃D:Vc,(fun j=>if j<d then low j else if j=d then 1 else 0)=D:=⟨_,rfl⟩;have aC:Zn p m D:=by
  rw[<-hD];refine⟨fun j hj=>by dsimp only;rw[if_neg ac,if_neg ac],fun j=>?_⟩;dsimp only;split
  .exact hl j
  .split <;> omega
 have aD:pj m d low D=fun _=>0:=by
  unfold pj;have e1:ap d low m D Av=ap d low (d+1) D Av:=by
   have aB:∀c,ap d low (d+1+c) D Av=ap d low (d+1) D Av:=by
    intro c
    induction c with
    | zero=>rfl
    | succ c ih=>
     rw[<-Nat.add_assoc,ap,ih];have:D (d+1+c)=0:=by rw[<-hD];dsimp only;rw[if_neg ac,if_neg ac]
     rw[this];funext t;simp
   have:=aB (m-(d+1))
   rwa[show d+1+(m-(d+1))=m by omega]at this
  rw[e1,ap,P9 hd];have e2:ap d low d D Av=ap d low d low Av:=GT fun j hj=>by rw[<-hD];dsimp only;rw[if_pos hj]
  have e3:D d=1:=by rw[<-hD];dsimp only;rw[if_neg ac,if_pos rfl]
  rw[e2,e3];funext t;simp;omega
 have aA:=JQ (show 1<=p by omega) aC;obtain⟨c,hc⟩:=nA ((DO p m D).toNat);rw[hc]at aA;have hr:=CR aC.2 m;have aE:c<p^m:=by omega
 have aF:1<=c:=by
  rcases Nat.eq_zero_or_pos c with e|e
  .exfalso;rw[e,GO]at aA;have:=congrFun aA d;rw[<-hD]at this;dsimp only at this;rw[if_neg ac,if_pos rfl]at this;omega
  .exact e
 obtain⟨z,_,_,hz⟩:=hF.inv hp ac aF aE;unfold Ap at hz;rw[aA]at hz;have h1:Ci p (Ek m f D (Bt p m z)) Av:=by
  have:=BD (p:=p) (m:=m) ac (Ej (low:=f) (y:=Bt p m z) aC.1);rw[hz,Mz hp ac]at this;exact this.symm
 have h2:=SY (m:=m) (d:=d) (low:=low) h1;have h3:=WI (m:=m) ac h0 (Bt p m z) D m;rw[aD,(JY m (Bt p m z)).zero]at h3;have h4:=(h3.symm.trans h2) 0;have h5:pj m d low Av 0=1:=by
  unfold pj;obtain⟨n,rfl⟩:∃n,m=n+1:=⟨m-1,ac⟩;have aB:∀k,ap d low (k+1) Av Av=Av:=by
   intro k
   induction k with
   | zero=>funext t;simp[ap,DR,Av]
   | succ k ih=>rw[ap,ih];funext t;simp[Av]
  rw[aB];rfl
 rw[h5]at h4;have:(1:Int)%(p:Int)=1:=Int.emod_eq_of_lt ac ac;simp at h4;omega
end
noncomputable section
def Yq(l:List Nat):Nat:=@List.rec Nat (fun _=>Nat) 0 (fun x _ _=>x) l
def WZ(l:List Nat):List Nat:=@List.rec Nat (fun _=>List Nat) [] (fun _ t _=>t) l
def Sh(p c b:Nat)(aA:List Nat):List Nat->List Nat->Nat->List Nat:=
 @List.rec Nat (fun _=>List Nat->List Nat->Nat->List Nat) (fun _ _ _=> [])
  (fun a _ ih os ls s=>Nat.mod (Nat.add (Nat.add s (Nat.mul c (Yq ls))) (Nat.mul b a)) p :: ih (WZ os) (WZ ls) (Yq os)) aA
def Tn(l:List Nat):Nat->Nat:=@List.rec Nat (fun _=>Nat->Nat) (fun d=>d) (fun x _ ih _=>ih x) l
def Na(p:Nat)(low a:List Nat)(b:Nat)(aA:List Nat):List Nat:=Sh p (Nat.sub p (Tn aA 0)) b a aA low 0
def Nx(p:Nat)(low z a:List Nat)(bs:List Nat):List Nat:=@List.rec Nat (fun _=>List Nat) z (fun b _ ih=>Na p low a b ih) bs
def Gr(p:Nat)(n:Nat):Nat->List Nat:=@Nat.rec (fun _=>Nat->List Nat) (fun _=> []) (fun _ ih x=>Nat.mod x p :: ih (Nat.div x p)) n
def N7(p:Nat)(l:List Nat):Nat:=@List.rec Nat (fun _=>Nat) 0 (fun x _ ih=>Nat.add x (Nat.mul p ih)) l
def UJ(p m:Nat)(low z:List Nat)(x y:Nat):Nat:=N7 p (Nx p low z (Gr p m x) (Gr p m y))
def lf(l:List Nat):Vc:=fun j=>((l.getD j 0:Nat):Int)
theorem TP(l:List Nat):Yq l=l.getD 0 0:=by cases l <;> rfl
theorem P5(l:List Nat)(j:Nat):(WZ l).getD j 0=l.getD (j+1) 0:=by cases l <;> simp[WZ]
theorem GY(p c b a:Nat)(aA os ls:List Nat)(s:Nat):Sh p c b (a :: aA) os ls s=(s+c*Yq ls+b*a)%p :: Sh p c b aA (WZ os) (WZ ls) (Yq os):=rfl
theorem MX(p c b:Nat):∀(aA os ls:List Nat) (s:Nat),(Sh p c b aA os ls s).length=aA.length
 | [],_,_,_=>rfl
 | a :: aA,os,ls,s=>by rw[GY,List.length_cons,MX p c b aA,List.length_cons]
theorem MY(p c b:Nat):∀(aA os ls:List Nat) (s j:Nat),j<aA.length->
  (Sh p c b aA os ls s).getD j 0=((if j=0 then s else os.getD (j-1) 0)+c*ls.getD j 0+b*aA.getD j 0)%p
 | [],_,_,_,j,h=>by simp at h
 | a :: aA,os,ls,s,0,_=>by rw[GY,TP];simp
 | a :: aA,os,ls,s,j+1,h=>by
  rw[GY];simp only[List.getD_cons_succ];have e:(if j=0 then Yq os else(WZ os).getD (j-1) 0)=os.getD j 0:=by
   by_cases hj:j=0
   .rw[if_pos hj,TP,hj]
   .rw[if_neg hj,P5,show j-1+1=j by omega]
  rw[MY p c b aA _ _ _ j ay,e,P5,if_neg (show ¬j+1=0 by omega),Nat.add_sub_cancel]
theorem NF:∀(l:List Nat) (d:Nat),Tn l d=if l= [] then d else l.getD (l.length-1) 0
 | [],d=>rfl
 | x :: l,d=>by
  show Tn l x=_
  rw[NF l x]
  cases l with
  | nil=>simp
  | cons y l=>simp
theorem Js{p m:Nat}{low z a:List Nat}(hp:1<=p)(hm:1<=m)(hl:low.length=m)(ha:a.length=m)(hz:z=List.replicate m 0):
  ∀bs:List Nat,(Nx p low z a bs).length=m/\∀j,j<m->(((Nx p low z a bs).getD j 0:Nat):Int)=Dz m (lf low) (lf a) bs.length (lf bs) j%(p:Int)
 | []=>by
  subst hz;refine⟨List.length_replicate ..,fun j hj=>?_⟩;show(((List.replicate m 0).getD j 0:Nat):Int)=0%(p:Int)
  rw[List.getD_eq_getElem?_getD,List.getElem?_replicate,if_pos hj];simp
 | b :: bs=>by
  obtain⟨h1,h2⟩:=Js hp hm hl ha hz bs;show(Na p low a b (Nx p low z a bs)).length=m/\_
  refine⟨by unfold Na;rw[MX,ha],fun j hj=>?_⟩;show(((Na p low a b (Nx p low z a bs)).getD j 0:Nat):Int)=_
  generalize Nx p low z a bs=o at *;unfold Na;rw[MY _ _ _ _ _ _ _ _ ac,NF,if_neg (show ¬o= [] by intro e;rw[e]at h1;simp at h1;omega),h1];have aA:=h2 (m-1) ac;have hlp:o.getD (m-1) 0<=p:=by
   have:=Int.emod_lt_of_pos (Dz m (lf low) (lf a) bs.length (lf bs) (m-1)) (show 0<(p:Int) by omega);omega
  rw[List.length_cons,Dz];have e1:(fun t=>lf (b :: bs) (t+1))=lf bs:=by funext t;simp[lf]
  have e2:lf (b :: bs) 0=(b:Int):=by simp[lf]
  rw[e1,e2];unfold sX;dsimp only;rw[if_pos hj];have e3:((Nat.sub p (o.getD (m-1) 0):Nat):Int)=(p:Int)-((o.getD (m-1) 0:Nat):Int):=by
   show((p-o.getD (m-1) 0:Nat):Int)=_
   omega
  rw[Int.natCast_emod,Int.natCast_add,Int.natCast_add,Int.natCast_mul,Int.natCast_mul,e3,aA];have e4:(((if j=0 then 0 else o.getD (j-1) 0:Nat)):Int)%(p:Int)=(if j=0 then 0 else Dz m (lf low) (lf a) bs.length (lf bs) (j-1))%(p:Int):=by
   by_cases h0:j=0
   .rw[if_pos h0,if_pos h0];rfl
   .rw[if_neg h0,if_neg h0,h2 (j-1) ac];exact Int.emod_emod_of_dvd _ (Int.dvd_refl _)
  generalize Dz m (lf low) (lf a) bs.length (lf bs)=H at *;refine DZ ?_ rfl;have e5:((if j=0 then 0 else H (j-1))-H (m-1)*lf low j)%(p:Int)=((if j=0 then 0 else H (j-1))+((p:Int)-H (m-1))*lf low j)%(p:Int):=by
   refine BW.2 ⟨- lf low j,?_⟩;generalize (if j=0 then 0 else H (j-1))=zz
   grind
  rw[e5];exact DZ e4 (FO (IU rfl (Int.emod_emod_of_dvd _ (Int.dvd_refl _))) rfl)
theorem QO(p:Nat):∀(n x j:Nat),j<n->(Gr p n x).getD j 0=x/p^j%p
 | 0,x,j,h=>by omega
 | n+1,x,0,h=>by show x%p=_;simp
 | n+1,x,j+1,h=>by
  show(Gr p n (x/p)).getD j 0=_
  rw[QO p n (x/p) j (by omega),Nat.div_div_eq_div_mul,Nat.pow_succ,Nat.mul_comm p]
theorem Cz(p:Nat):∀(n x:Nat),(Gr p n x).length=n
 | 0,x=>rfl
 | n+1,x=>by show(Gr p n (x/p)).length+1=_;rw[Cz p n]
theorem Hk(p m x:Nat):lf (Gr p m x)=Bt p m x:=by
 funext j;unfold lf Bt;by_cases h:j<m
 .rw[if_pos h,QO p m x j h]
 .rw[if_neg h,List.getD_eq_getElem?_getD,List.getElem?_eq_none (by rw[Cz];omega)];rfl
theorem La(p:Nat)(v:Vc):∀n,DO p (n+1) v=v 0+(p:Int)*DO p n (fun j=>v (j+1))
 | 0=>by simp[DO]
 | n+1=>by
  rw[DO,La p v n];simp only[DO];rw[Nat.pow_succ,Int.natCast_mul]
  grind
theorem QQ(p:Nat):∀l:List Nat,((N7 p l:Nat):Int)=DO p l.length (lf l)
 | []=>rfl
 | x :: l=>by
  show((x+p*N7 p l:Nat):Int)=_
  rw[List.length_cons,La,Int.natCast_add,Int.natCast_mul,QQ p l];have:(fun j=>lf (x :: l) (j+1))=lf l:=by funext j;simp[lf]
  rw[this];simp[lf]
theorem Tt{p m:Nat}{low:List Nat}(hp:1<=p)(hm:1<=m)(hl:low.length=m)(x y:Nat):UJ p m low (List.replicate m 0) x y=Ap p m (lf low) x y:=by
 have h:=Js (z:=List.replicate m 0) hp hm hl (Cz p m x) rfl (Gr p m y);have h1:((UJ p m low (List.replicate m 0) x y:Nat):Int)=((Ap p m (lf low) x y:Nat):Int):=by
  unfold UJ;rw[QQ,h.1];unfold Ap rep Ek;rw[Int.toNat_of_nonneg (CR (fun j=>⟨Int.emod_nonneg _ ac,Int.emod_lt_of_pos _ ac⟩) m).1];refine DE m fun j hj=>?_;show(((Nx p low (List.replicate m 0) (Gr p m x) (Gr p m y)).getD j 0:Nat):Int)=_
  rw[h.2 j hj,Cz,Hk,Hk,Mj]
 omega
section
variable {p m:Nat} {low:Vc}
theorem Fp(hp:2<=p)(hm:1<=m){x i:Nat}(h:Bm p m low x i=1):∀k,Bm p m low x (i*k)=1
 | 0=>rfl
 | k+1=>by rw[Nat.mul_succ,Cj hp hm,Fp hp hm h k,h,Cu hp hm (Bw hp hm)]
theorem NG(hp:2<=p)(hm:1<=m){x i j:Nat}(hi:Bm p m low x i=1)(hj:Bm p m low x j=1):Bm p m low x (j%i)=1:=by
 have h:Bm p m low x (i*(j/i)+j%i)=1:=by rw[Nat.div_add_mod];exact hj
 rw[Cj hp hm,Fp hp hm hi,Dl hp hm (CA hp hm x _)]at h;exact h
theorem NH(hp:2<=p)(hm:1<=m){x:Nat}:∀(i j:Nat),Bm p m low x i=1->Bm p m low x j=1->Bm p m low x (Nat.gcd i j)=1:=by
 intro i
 induction i using Nat.strongRecOn with
 | _ i ih=>
  intro j hi hj;rcases Nat.eq_zero_or_pos i with e|e
  .subst e;rwa[Nat.gcd_zero_left]
  .rw[Nat.gcd_rec];exact ih (j%i) (Nat.mod_lt _ e) i (NG hp hm hi hj) hi
theorem TS(hp:2<=p)(hm:1<=m){x:Nat}{D:List Nat}(h1:Bm p m low x (p^m-1)=1)(hD:∀y∈D,Bm p m low x y≠1)
  (hC:∀e,e<p^m-1->e ∣ p^m-1->∃y∈D,e ∣ y):Cx p m low x:=by
 refine⟨h1,fun k k1 k2 hk=>?_⟩;have hg:=NH hp hm _ _ hk h1;have aA:Nat.gcd k (p^m-1)<p^m-1:=Nat.lt_of_le_of_lt (Nat.le_of_dvd ac (Nat.gcd_dvd_left _ _)) k2;obtain⟨y,hy,c,rfl⟩:=hC _ aA (Nat.gcd_dvd_right _ _);exact hD _ hy (Fp hp hm hg c)
end
noncomputable section
def Xj(p m:Nat)(low z:List Nat)(x:Nat)(bs:List Bool):Nat->Nat:=@List.rec Bool (fun _=>Nat->Nat) (fun y=>y)
 (fun b _ ih y=>ih (match b with|true=>UJ p m low z (UJ p m low z y y) x|false=>UJ p m low z y y)) bs
end
def C8:Nat->List Bool->Nat
 | n, []=>n
 | n,b :: bs=>C8 (2*n+if b then 1 else 0) bs
theorem O4{p m:Nat}{low:List Nat}(hp:2<=p)(hm:1<=m)(hl:low.length=m)(x:Nat)(hx:x<p^m):∀(bs:List Bool) (n:Nat),Xj p m low (List.replicate m 0) x bs (Bm p m (lf low) x n)=Bm p m (lf low) x (C8 n bs)
 | [],n=>rfl
 | b :: bs,n=>by
  have e:UJ p m low (List.replicate m 0) (Bm p m (lf low) x n) (Bm p m (lf low) x n)=Bm p m (lf low) x (2*n):=by
   rw[Tt ac hm hl,<-Cj hp hm,Nat.two_mul]
  cases b with
  | true=>
   show Xj p m low (List.replicate m 0) x bs (UJ p m low (List.replicate m 0) (UJ p m low (List.replicate m 0) (Bm p m (lf low) x n) (Bm p m (lf low) x n)) x)=_
   rw[e,Tt ac hm hl];exact O4 hp hm hl x hx bs (2*n+1)
  | false=>
   show Xj p m low (List.replicate m 0) x bs (UJ p m low (List.replicate m 0) (Bm p m (lf low) x n) (Bm p m (lf low) x n))=_
   rw[e];exact O4 hp hm hl x hx bs (2*n)
end
def Jz(p m:Nat)(ml:List Int)(z:Nat):Nat:=((List.range (p^m)).find? fun y=>decide (1<=y)&&Ap p m (lw ml) z y==1).getD 0
theorem Qq{p m:Nat}{ml:List Int}(hp:2<=p)(hm:1<=m)(hF:J4 p m (lw ml)){z y:Nat}(hz:z<p^m)(aA:1<=z)(hy:y<p^m)(h:Ap p m (lw ml) z y=1):Jz p m ml z=y:=by
 have aB:1<=y:=by
  rcases Nat.eq_zero_or_pos y with e|e
  .subst e;rw[Bb,BK ac]at h;omega
  .exact e
 unfold Jz;rcases hf:(List.range (p^m)).find? (fun y=>decide (1<=y)&&Ap p m (lw ml) z y==1) with _|i
 .exfalso;have:=List.find?_eq_none.1 hf y (List.mem_range.2 hy);simp[aB,h]at this
 .have h1:=List.find?_some hf;have h2:=List.mem_range.1 (List.mem_of_find?_eq_some hf);simp at h1;exact hF.cancel hp hm aA hz h2 hy (by rw[Option.getD_some,Bb i z,h1.2,Bb y z,h])
section
variable {b p m x0:Nat} {ml:List Int}
theorem AP.isF{w:World}(hg:AP w b p m ml x0)(h1:1<=x0)(h2:x0<p^m):J4 p m (lw ml):=⟨x0,h1,h2,hg.gen⟩
theorem zbd{P:Prop}(h:P:=by
 go_enter Tryz.func106,Tryz.ntmps106
 go_wp2_with fail
 refine aF.o.mono ?_;rintro e w1⟨rfl,n0,rfl⟩;go_wp2_with fail
 refine(aE.o n0).mono ?_;rintro e w1⟨rfl,n1,rfl⟩;go_wp2_with fail
 go_ret;exact⟨Ag (by rw[HZ.o];rfl),_,rfl⟩):P:=h
theorem dy{P:Prop}(h:P:=by rw[<-hr];exact Nat.mod_lt _ ac):P:=h
theorem DC(w:World)(hg:AP w b p m ml x0)(x y:Int):
  Calls Tryz.prog 106 #[.pointer (some ⟨b,0,none⟩),.int .i64 x,.int .i64 y] w (Qt w (.int .i64 (Ap p m (lw ml) (Az (p^m) x) (Az (p^m) y):Nat))):=by
 have HI:=Aa (fun n x=>Gq (w.drewN n) (hg.drewN n) x);have aF:=Aa (Gq w hg x);have p2:=hg.sh.p2;have m1:=hg.sh.m1;have hq:=hg.sh.q;have aG:=Bw p2 m1;have c3:=hg.c3;obtain⟨ev,c4,he⟩:=hg.c4;obtain⟨lv,f,c5,hl,hf⟩:=hg.c5;obtain⟨ea,ec,rfl,e1,e2,e3⟩:=he.open;obtain⟨la,lc,rfl,l1,l2,l3⟩:=hl.open;rw[Am]at *;obtain⟨eb,eo,rfl,e4⟩:=e3 ac;obtain⟨lb,lo,rfl,l4⟩:=l3 ac;have hz:Az (p^m) x<p^m:=Cr ac x;have ht:Az (p^m) y<p^m:=Cr ac y;have aE:=Aa (fun n=>HI.o n y);clear HI e3 l3 he hl;unfold maxLen at e2 l2;generalize Az (p^m) x=z at *;generalize Az (p^m) y=t at *;by_cases h0:z=0
 .subst h0;have HZ:=Aa (BK (m:=m) (low:=lw ml) (show 1<=p by omega) t);clear hg c3 c4 c5 hz ht hq aG hf e4 l4 e1 e2 l1 l2;exact zbd
 .have z1:1<=z:=by omega
  have hzb:((z:Int)==0)=false:=aq;by_cases h1:t=0
  .subst h1;have HZ:=Aa (show Ap p m (lw ml) z 0=0 by rw[Bb];exact BK (show 1<=p by omega) z);clear hg c3 c4 c5 hz ht hq aG hf e4 l4 e1 e2 l1 l2 h0;exact zbd
  .have t1:1<=t:=by omega
   have htb:((t:Int)==0)=false:=aq;obtain⟨i,hi,aA⟩:=hg.gen.all p2 m1 z1 hz;obtain⟨j,hj,aB⟩:=hg.gen.all p2 m1 t1 ht;have aJ:=l4 z (f z) (AM hz f);have aK:=l4 t (f t) (AM ht f);have aC:=hf i hi;have aD:=hf j hj;rw[aA]at aC;rw[aB]at aD;rw[aC]at aJ;rw[aD]at aK;obtain⟨r,hr⟩:=nA ((i+j)%(p^m-1));have aI:r<p^m-1:=dy;have aL:=e4 r _ (AM aI _);have aH:Jk p m ml x0 r=((Ap p m (lw ml) z t:Nat):Int):=by
    unfold Jk;rw[<-hr,hg.gen.mod p2 m1,Cj p2 m1,aA,aB]
   rw[aH]at aL;have aM:Hia (((i:Int)+j).tmod (((p^m:Nat):Int)-1)=(r:Int)):=Aa (by
    rw[Int.tmod_eq_emod_of_nonneg ac,<-hr,Int.natCast_emod]
    congr 1
    omega)
   generalize Ap p m (lw ml) z t=kz at *;generalize p^m=q at *;have C3:=Aa c3;have C4:=Aa c4;have C5:=Aa c5;clear hg hf e4 l4 aC aD aA aB hr aH h0 h1 c3 c4 c5;go_enter Tryz.func106,Tryz.ntmps106
   go_wp2_with fail
   refine aF.o.mono ?_;rintro e w1⟨rfl,n0,rfl⟩;go_wp2_with fail
   refine(aE.o n0).mono ?_;rintro e w1⟨rfl,n1,rfl⟩;have c3:=C3.o;have c4:=C4.o;have c5:=C5.o;have i1:IntKind.i64.wrap ((i:Int)+j)=(i:Int)+j:=IntWalk.i64_in _ ac;have i2:IntKind.i64.wrap ((q:Int)-1)=(q:Int)-1:=IntWalk.i64_in _ ac;have i3:=aM.o;have i4:¬q=1:=db;have i5:¬((q:Int)-1=0):=ac;go_wp2_with fail
   go_quiet (fail)
   go_wp2_with fail
   go_ret;exact⟨rfl,_,World.drewN_drewN _ _ _⟩
def Pn(p m:Nat)(ml:List Int)(z:Nat):Value:=if z=0 then .tuple #[.int .i64 0,.int .i64 7] else .tuple #[.int .i64 (Jz p m ml z:Nat),.int .i64 0]
theorem Q7(w:World)(hg:AP w b p m ml x0)(aG:1<=x0)(aF:x0<p^m)(x:Int):
  Calls Tryz.prog 250 #[.pointer (some ⟨b,0,none⟩),.int .i64 x] w (Qt w (Pn p m ml (Az (p^m) x))):=by
 have aE:=Aa (Gq w hg x);have hF:=hg.isF aG aF;have p2:=hg.sh.p2;have m1:=hg.sh.m1;have hq:=hg.sh.q;have aI:=Bw p2 m1;have c3:=hg.c3;obtain⟨ev,c4,he⟩:=hg.c4;obtain⟨lv,f,c5,hl,hf⟩:=hg.c5;obtain⟨ea,ec,rfl,e1,e2,e3⟩:=he.open;obtain⟨la,lc,rfl,l1,l2,l3⟩:=hl.open;rw[Am]at *;obtain⟨eb,eo,rfl,e4⟩:=e3 ac;obtain⟨lb,lo,rfl,l4⟩:=l3 ac;have hz:Az (p^m) x<p^m:=Cr ac x;clear e3 l3 he hl;unfold maxLen at e2 l2;generalize Az (p^m) x=z at *;by_cases h0:z=0
 .subst h0;have HZ:=Aa (show Pn p m ml 0= .tuple #[.int .i64 0,.int .i64 7] from rfl);clear hg c3 c4 c5 hz hq aI hf e4 l4 e1 e2 l1 l2;go_enter Tryz.func250,Tryz.ntmps250
  go_wp2_with fail
  refine aE.o.mono ?_;rintro e w1⟨rfl,n0,rfl⟩;go_wp2_with fail
  go_ret2;exact⟨by rw[HZ.o];rfl,_,rfl⟩
 .have z1:1<=z:=by omega
  have hzb:((z:Int)==0)=false:=aq;obtain⟨i,hi,aB⟩:=hg.gen.all p2 m1 z1 hz;have aJ:=l4 z (f z) (AM hz f);have aC:=hf i hi;rw[aB]at aC;rw[aC]at aJ;obtain⟨r,hr⟩:=nA ((p^m-1-i)%(p^m-1));have aH:r<p^m-1:=dy;have aK:=e4 r _ (AM aH _);have aA:=hg.gen.inv p2 m1 hi;rw[hr,aB]at aA;have hk:=Qq p2 m1 hF hz z1 (CA p2 m1 _ _) aA;have aD:Jk p m ml x0 r=((Jz p m ml z:Nat):Int):=by unfold Jk;rw[hk]
  rw[aD]at aK;have HZ:=Aa (show Pn p m ml z= .tuple #[.int .i64 (Jz p m ml z:Nat),.int .i64 0] by unfold Pn;rw[if_neg h0]);have aL:Hia ((((p^m:Nat):Int)-1-(i:Int)).tmod (((p^m:Nat):Int)-1)=(r:Int)):=Aa (by
   rw[Int.tmod_eq_emod_of_nonneg ac,<-hr,Int.natCast_emod]
   congr 1
   .omega
   .omega)
  generalize Jz p m ml z=kz at *;generalize p^m=q at *;have C3:=Aa c3;have C4:=Aa c4;have C5:=Aa c5;clear hg hF hf e4 l4 aC aB hr aD h0 c3 c4 c5 aA hk;go_enter Tryz.func250,Tryz.ntmps250
  go_wp2_with fail
  refine aE.o.mono ?_;rintro e w1⟨rfl,n0,rfl⟩;have c3:=C3.o;have c4:=C4.o;have c5:=C5.o;have i1:IntKind.i64.wrap ((q:Int)-1-(i:Int))=(q:Int)-1-i:=IntWalk.i64_in _ ac;have i2:IntKind.i64.wrap ((q:Int)-1)=(q:Int)-1:=IntWalk.i64_in _ ac;have i3:=aL.o;have i4:¬q=1:=db;have i5:¬((q:Int)-1=0):=ac;go_wp2_with fail
  go_quiet (fail)
  go_wp2_with fail
  go_ret2;exact⟨by rw[HZ.o];rfl,_,World.drewN_drewN _ _ _⟩
theorem Qp{p m:Nat}{ml:List Int}(hq:1<=p^m)(z:Nat):Jz p m ml z<p^m:=by
 unfold Jz;rcases hf:(List.range (p^m)).find? (fun y=>decide (1<=y)&&Ap p m (lw ml) z y==1) with _|i
 .show 0<p^m;omega
 .exact List.mem_range.1 (List.mem_of_find?_eq_some hf)
def BH(p m:Nat)(ml:List Int):List Int->List Int->Nat->Nat
 | x :: l,y :: k,s=>BH p m ml l k (A5 p m s (Ap p m (lw ml) (Az (p^m) x) (Az (p^m) y)))
 | _,_,s=>s
theorem FI{p m:Nat}{ml:List Int}:∀(l k:List Int) (i:Nat) (s:Nat) (x y:Int),l[i]?=some x->k[i]?=some y->
  BH p m ml (l.take (i+1)) (k.take (i+1)) s=A5 p m (BH p m ml (l.take i) (k.take i) s) (Ap p m (lw ml) (Az (p^m) x) (Az (p^m) y))
 | [],k,i,s,x,y,h,_=>by simp at h
 | a :: l, [],i,s,x,y,_,h=>by simp at h
 | a :: l,c :: k,0,s,x,y,h,h'=>by
  simp at h h';subst h;subst h';cases l <;> cases k <;> simp[BH]
 | a :: l,c :: k,i+1,s,x,y,h,h'=>by
  simp only[List.take_succ_cons,BH];exact FI l k i _ x y (by simpa using h) (by simpa using h')
theorem IJ{p m:Nat}{ml:List Int}(hp:1<=p):∀(l k:List Int) (s:Nat),s<p^m->BH p m ml l k s<p^m
 | x :: l,y :: k,s,_=>IJ hp l k _ (Me hp _ _)
 | [],_,s,h=>by simpa[BH]using h
 | _ :: _, [],s,h=>by simpa[BH]using h
theorem Hm{p m:Nat}{ml:List Int}:∀(l k:List Int) (i s:Nat),min l.length k.length<=i->BH p m ml (l.take i) (k.take i) s=BH p m ml l k s
 | [],k,i,s,_=>by simp[BH]
 | a :: l, [],i,s,_=>by cases i <;> simp[BH]
 | a :: l,c :: k,0,s,h=>by simp at h
 | a :: l,c :: k,i+1,s,h=>by
  simp only[List.take_succ_cons,BH];exact Hm l k i _ (by simp at h;omega)
end
def AO(w:World)(base:Nat)(e:TypeId)(g n cap:Nat)(c:Nat->Value):Prop:=w.ownsRow base e 1 (.slice (some ⟨g,0,none⟩) n cap) n (vs n c)
section
variable {w:World} {base:Nat} {e:TypeId} {g n cap:Nat} {c:Nat->Value}
theorem AO.cell(h:AO w base e g n cap c){j:Nat}(hj:j<n):w.cell? ⟨g,j,none⟩=some (c j):=by
 rw[World.ownsRow.cellAt h j ac,DF hj]
theorem AO.frz(h:AO w base e g n cap c)(j:Nat):w.frozen? ⟨g,j,none⟩=false:=World.ownsRow.frozenAt h j
theorem AO.set(h:AO w base e g n cap c)(j:Nat)(u:Value):AO (w.setCell ⟨g,j,none⟩ u) base e g n cap (Ax c j u):=by
 have:=(World.ownsRow.stored h j u).1
 rwa[Sj]at this
theorem AO.congr{d:Nat->Value}(h:AO w base e g n cap c)(hc:∀j,j<n->c j=d j):AO w base e g n cap d:=by
 unfold AO at *
 rwa[M4 hc]at h
theorem AO.icongr{f k:Nat->Int}(h:AO w base e g n cap (iv f))(hc:∀j,j<n->f j=k j):AO w base e g n cap (iv k):=
 h.congr fun j hj=>congrArg (Value.int .i64) (hc j hj)
theorem AO.ex{w':World}(h:AO w base e g n cap c)(hx:Ex w w'):AO w' base e g n cap c:=Ai h hx
theorem AO.drew(h:AO w base e g n cap c):AO w.drew base e g n cap c:=h
theorem AO.drewN(h:AO w base e g n cap c)(k:Nat):AO (w.drewN k) base e g n cap c:=h.ex ((Ex.refl w).drewN k)
theorem AO.lt(h:AO w base e g n cap c):base<=g/\g<w.heap.size:=World.ownsRow.lt h g rfl
theorem AO.caps(h:AO w base e g n cap c):n<=cap/\cap<=maxLen:=by
 rcases h.2 with⟨h',_⟩|⟨g',cap',cur,h',_,hg,h1,h2,_⟩
 .simp at h'
 .simp only[Value.slice.injEq,Option.some.injEq,Addr.mk.injEq,and_true,true_and]at h';obtain⟨_,rfl⟩:=h';exact⟨h1,h2⟩
theorem AO.other(h:AO w base e g n cap c){a:Addr}(ha:g≠a.block)(u:Value):AO (w.setCell a u) base e g n cap c:=
 Ac h (fun e=>ha (by simpa[Value.ownBlock]using e)) u
theorem AO.exSet{a:World}(h:AO w base e g n cap c)(hb:a.heap.size<=base)(hx:Ex a w)(j:Nat)(u:Value):Ex a (w.setCell ⟨g,j,none⟩ u):=
 hx.setCell (p:=⟨g,j,none⟩) (Nat.le_trans hb h.lt.1) u
theorem AO.sl(h:AO w base e g n cap c):Sl w (.slice (some ⟨g,0,none⟩) n cap) n 1 (vs n c):=Sl.own h
theorem AO.isl{f:Nat->Int}(h:AO w base e g n cap (iv f)):Aj w (.slice (some ⟨g,0,none⟩) n cap) (il n f):=by
 unfold Aj;rw[Am,CO];exact h.sl
theorem LT{v:Value}(h:w.ownsRow base e 1 v n (vs n c))(hn:1<=n):∃g cap,v= .slice (some ⟨g,0,none⟩) n cap/\AO w base e g n cap c:=by
 rcases h.2 with⟨_,h0⟩|⟨g,cap,cur,rfl,_⟩
 .omega
 .exact⟨g,cap,rfl,h⟩
end
end Go.Proofs.YtehieobniamagaaGreat
