/- Plain mathematics: the product of polynomials, and its reduction from the highest power on. -/
import Derived.Test.YtgdmlmhpineibaaGreatRows
import Derived.WalkKit
import Derived.WalkSpells
import Derived.Deep.RegionWith
import Derived.Deep.QuietTactic
import Derived.BigQuiet
import Derived.WalkLawsBesides
import Derived.Test.YtgdmlmhpineibaaGreatZg00
namespace Go.Proofs.YtgdmlmhpineibaaGreat
set_option linter.unusedVariables false
set_option linter.unusedSimpArgs false
section
def updI (c:Vc) (k:Nat) (v:Int):Vc:=fun j=> if j=k then v else c j
section
variable {m:Nat} {low:Vc}
theorem ap_congr {n:Nat} {c d x:Vc} (h:∀j,j < n→c j=d j):ap m low n c x=ap m low n d x:=by
 induction n with
 | zero=> rfl
 | succ n ih=> simp only [ap];rw [ih fun j hj=> h j (by omega),h n (by omega)]
theorem ap_upd_ge {n k:Nat} {c x:Vc} {v:Int} (h:n≤k):ap m low n (updI c k v) x=ap m low n c x:=
 ap_congr fun j hj=> by unfold updI;rw [if_neg (by omega)]
theorem ap_upd {c x:Vc} {v:Int} {k:Nat}:∀n,k < n→ap m low n (updI c k v) x=fun j=> ap m low n c x j + (v - c k) * sXn m low k x j
 | 0,h=> by omega
 | n + 1,h=> by
  funext j;simp only [ap];rcases Nat.eq_or_lt_of_le (show k≤n by omega) with e | e
  ·subst e;rw [ap_upd_ge (Nat.le_refl _)];unfold updI;rw [if_pos rfl]
   grind
  ·rw [ap_upd n e];rw [show updI c k v n=c n by unfold updI;rw [if_neg (by omega)]]
   grind
theorem conv_step {p:Int} {n i j:Nat} {a b c:Vc} (hk:i + j < n)
  (h:EqM p (ap m low n c one_) (fun t=> ap m low i a b t + a i * sXn m low i (ap m low j b one_) t)):
  EqM p (ap m low n (updI c (i + j) ((c (i + j) + a i * b j) % p)) one_) (fun t=> ap m low i a b t + a i * sXn m low i (ap m low (j + 1) b one_) t):=by
 intro t;rw [ap_upd n hk];dsimp only;have e1:sXn m low i (ap m low (j + 1) b one_) t=sXn m low i (ap m low j b one_) t + b j * sXn m low (i + j) one_ t:=by
  simp only [ap];rw [(sXn_lin i).add_smul,sXn_add]
 rw [e1];have e2:=h t;dsimp only at e2;generalize ap m low n c one_ t=A at *;generalize ap m low i a b t=B at *;generalize sXn m low i (ap m low j b one_) t=C at *;generalize sXn m low (i + j) one_ t=D at *;have e3:((c (i + j) + a i * b j) % p - c (i + j)) % p=(a i * b j) % p:=by
  have:((c (i + j) + a i * b j) % p - c (i + j)) % p=((c (i + j) + a i * b j) - c (i + j)) % p:=eqm_sub (Int.emod_emod_of_dvd _ (Int.dvd_refl _)) rfl;rw [this];congr 1;omega
 refine (eqm_add e2 (eqm_mul e3 rfl)).trans ?_
 congr 1
 grind
theorem conv_zero (p:Int) (n:Nat) (a b:Vc):EqM p (ap m low n (fun _=> 0) one_) (fun t=> ap m low 0 a b t + a 0 * sXn m low 0 (ap m low 0 b one_) t):=by
 intro t;have:∀n,ap m low n (fun _=> 0) one_=fun _=> 0:=by
  intro n
  induction n with
  | zero=> rfl
  | succ n ih=> simp only [ap];rw [ih];funext j;simp
 rw [this n];simp [ap,sXn]
theorem conv_row {p:Int} {n i:Nat} {a b c:Vc} (hb:Sup m b)
  (h:EqM p (ap m low n c one_) (fun t=> ap m low i a b t + a i * sXn m low i (ap m low m b one_) t)):
  EqM p (ap m low n c one_) (fun t=> ap m low (i + 1) a b t + a (i + 1) * sXn m low (i + 1) (ap m low 0 b one_) t):=by
 intro t;rw [h t];dsimp only;have e:sXn m low (i + 1) (ap m low 0 b one_) t=0:=by
  simp only [ap];rw [(sXn_lin (i + 1)).zero]
 rw [e,hb.ap_one];simp only [ap]
 congr 1
 omega
theorem sXn_top (hm:1≤m):sXn m low m one_=fun j=> - ap m low m low one_ j:=by
 rw [ap_one m low (Nat.le_refl _)];obtain ⟨k,rfl⟩:∃k,m=k + 1:=⟨m - 1,by omega⟩;rw [show sXn (k + 1) low (k + 1) one_=sX (k + 1) low (sXn (k + 1) low k one_) from rfl,sXn_one k (by omega)];funext j;show (if j < k + 1 then (if j=0 then 0 else if j - 1=k then (1:Int) else 0) - (if k + 1 - 1=k then (1:Int) else 0) * low j else 0)=- (if j < k + 1 then low j else 0)
 by_cases hj:j < k + 1
 ·have e:(if j=0 then (0:Int) else if j - 1=k then 1 else 0)=0:=by
   split
   ·rfl
   ·rw [if_neg (by omega)]
  rw [if_pos hj,if_pos hj,e,show (if k + 1 - 1=k then (1:Int) else 0)=1 by rw [if_pos (by omega)]];omega
 ·rw [if_neg hj,if_neg hj];rfl
theorem red_step {p:Int} {i j:Nat} {c c0:Vc} {T:Vc} (hi:m≤i) (hj:j < m)
  (h:EqM p (fun t=> ap m low i c one_ t) (fun t=> ap m low i c0 one_ t - c0 i * sXn m low (i - m) (ap m low j low one_) t)) (hc:c i=c0 i):
  EqM p (fun t=> ap m low i (updI c (i - m + j) ((c (i - m + j) + (p - c i) * low j) % p)) one_ t) (fun t=> ap m low i c0 one_ t - c0 i * sXn m low (i - m) (ap m low (j + 1) low one_) t):=by
 intro t;show ap m low i (updI c (i - m + j) ((c (i - m + j) + (p - c i) * low j) % p)) one_ t % p=_
 rw [ap_upd i (by omega)];have e1:sXn m low (i - m) (ap m low (j + 1) low one_) t=sXn m low (i - m) (ap m low j low one_) t + low j * sXn m low (i - m + j) one_ t:=by
  simp only [ap];rw [(sXn_lin (i - m)).add_smul,sXn_add]
 have e2:=h t;dsimp only at e2 ⊢;rw [e1];have e3:((c (i - m + j) + (p - c i) * low j) % p - c (i - m + j)) % p=(- (c0 i * low j)) % p:=by
  have:((c (i - m + j) + (p - c i) * low j) % p - c (i - m + j)) % p=((c (i - m + j) + (p - c i) * low j) - c (i - m + j)) % p:=eqm_sub (Int.emod_emod_of_dvd _ (Int.dvd_refl _)) rfl;rw [this,hc];refine eqm_iff.2 ⟨low j,by grind⟩
 refine (eqm_add e2 (eqm_mul e3 rfl)).trans ?_
 congr 1
 generalize ap m low i c0 one_ t=A at *;generalize sXn m low (i - m) (ap m low j low one_) t=B at *;generalize sXn m low (i - m + j) one_ t=C at *
 grind
theorem red_row {p:Int} {i:Nat} {c c0 T:Vc} (hm:1≤m) (hi:m≤i) (h0:EqM p (ap m low (i + 1) c0 one_) T)
  (h:EqM p (fun t=> ap m low i c one_ t) (fun t=> ap m low i c0 one_ t - c0 i * sXn m low (i - m) (ap m low m low one_) t)):EqM p (ap m low i c one_) T:=by
 intro t;rw [←h0 t];have e:=h t;dsimp only at e;rw [e]
 congr 1
 simp only [ap];have e2:sXn m low i one_ t=- sXn m low (i - m) (ap m low m low one_) t:=by
  rw [show i=(i - m) + m by omega,sXn_add,sXn_top hm];have e3:=sXn_lin (m:=m) (low:=low) (i - m) (-1) 0 (ap m low m low one_) (fun _=> 0);have e4:=congrFun e3 t;simp only [Int.zero_mul,Int.add_zero,Int.neg_mul,Int.one_mul] at e4;rw [show i - m + m - m=i - m by omega];exact e4
 rw [e2]
 grind
theorem red_start (p:Int) {i:Nat} (c:Vc):EqM p (fun t=> ap m low i c one_ t) (fun t=> ap m low i c one_ t - c i * sXn m low (i - m) (ap m low 0 low one_) t):=by
 intro t;have e:sXn m low (i - m) (ap m low 0 low one_) t=0:=by simp only [ap];rw [(sXn_lin (i - m)).zero]
 dsimp only;rw [e];simp
theorem red_end {p m:Nat} {low:Vc} (hp:1≤p) {x y:Nat} {c:Vc} (hc:∀j,j < m→0≤c j∧c j < p) (h:EqM p (ap m low m c one_) (ap m low m (dig p m x) (dig p m y))):
  cod p m c=((kmul p m low x y:Nat):Int):=by
 unfold kmul rep;rw [mulV_comm (dig_sup p m x) (dig_sup p m y)];unfold mulV;rw [Int.toNat_of_nonneg (cod_rng (fun j=> ⟨Int.emod_nonneg _ (by omega),Int.emod_lt_of_pos _ (by omega)⟩) m).1];refine cod_congr m fun j hj=> ?_;have h1:=h j;rw [ap_one m c (Nat.le_refl _)] at h1;dsimp only at h1;rw [if_pos hj] at h1;rw [←h1];exact (Int.emod_eq_of_lt (hc j hj).1 (hc j hj).2).symm
end
end
section
section
variable {m d:Nat} {f low:Vc}
def pj (m d:Nat) (low v:Vc):Vc:=ap d low m v one_
theorem ap_coef_lin {n:Nat} {x:Vc} (a b:Int) (v w:Vc):ap d low n (fun j=> a * v j + b * w j) x=fun t=> a * ap d low n v x t + b * ap d low n w x t:=by
 induction n with
 | zero=> funext t;simp [ap]
 | succ n ih=> funext t;simp only [ap];rw [ih];grind
theorem ap_coef_add {n:Nat} {x:Vc} (v w:Vc) (b:Int):ap d low n (fun j=> v j + b * w j) x=fun t=> ap d low n v x t + b * ap d low n w x t:=by
 have:=ap_coef_lin (d:=d) (low:=low) (n:=n) (x:=x) 1 b v w;simpa using this
theorem ap_shift1 (v x:Vc):∀n,ap d low (n + 1) (fun j=> if j=0 then 0 else v (j - 1)) x=sX d low (ap d low n v x)
 | 0=> by
  have:sX d low (fun _=> 0)=fun _=> 0:=sX_lin.zero;simp only [ap];rw [this];funext t;simp
 | n + 1=> by
  rw [ap,ap_shift1 v x n];rw [ap,sX_lin.add_smul];funext t;simp only [sXn];rw [if_neg (by omega),Nat.add_sub_cancel]
theorem pj_sX {p:Int} (hm:1≤m) (h0:EqM p (fun t=> ap d low m f one_ t + sXn d low m one_ t) (fun _=> 0)) (v:Vc):
  EqM p (pj m d low (sX m f v)) (sX d low (pj m d low v)):=by
 obtain ⟨n,rfl⟩:∃n,m=n + 1:=⟨m - 1,by omega⟩;intro t;unfold pj;have e1:ap d low (n + 1) (sX (n + 1) f v) one_=ap d low (n + 1) (fun j=> (if j=0 then 0 else v (j - 1)) + (- v n) * f j) one_:=ap_congr fun j hj=> by
  unfold sX;rw [if_pos hj,Nat.add_sub_cancel]
  grind
 rw [e1,ap_coef_add,ap_shift1];have e2:sX d low (ap d low (n + 1) v one_)=fun t=> sX d low (ap d low n v one_) t + v n * sXn d low (n + 1) one_ t:=by
  rw [ap,sX_lin.add_smul];rfl
 rw [e2];have e3:=h0 t;dsimp only at e3 ⊢;generalize sX d low (ap d low n v one_) t=A at *;generalize ap d low (n + 1) f one_ t=B at *;generalize sXn d low (n + 1) one_ t=C at *;obtain ⟨k,hk⟩:=eqm_iff.1 e3;refine eqm_iff.2 ⟨- v n * k,?_⟩
 grind
theorem pj_sXn {p:Int} (hm:1≤m) (h0:EqM p (fun t=> ap d low m f one_ t + sXn d low m one_ t) (fun _=> 0)) (v:Vc):∀k,EqM p (pj m d low (sXn m f k v)) (sXn d low k (pj m d low v))
 | 0=> EqM.refl _ _
 | k + 1=> (pj_sX hm h0 _).trans (EqM.sX (pj_sXn hm h0 v k))
theorem pj_ap {p:Int} (hm:1≤m) (h0:EqM p (fun t=> ap d low m f one_ t + sXn d low m one_ t) (fun _=> 0)) (y x:Vc):∀n,EqM p (pj m d low (ap m f n y x)) (ap d low n y (pj m d low x))
 | 0=> by
  intro t;show ap d low m (fun _=> 0) one_ t % p=_
  have e:=ap_coef_lin (d:=d) (low:=low) (n:=m) (x:=one_) 0 0 (fun _=> 0) (fun _=> 0);simp only [Int.zero_mul,Int.add_zero] at e;rw [e];rfl
 | n + 1=> by
  intro t;have e:pj m d low (ap m f (n + 1) y x)=fun t=> pj m d low (ap m f n y x) t + y n * pj m d low (sXn m f n x) t:=by
   unfold pj;simp only [ap];exact ap_coef_add _ _ _
  rw [e];simp only [ap];exact eqm_add (pj_ap hm h0 y x n t) (eqm_mul rfl (pj_sXn hm h0 x n t))
theorem pj_congr {p:Int} {v w:Vc} (h:EqM p v w):EqM p (pj m d low v) (pj m d low w):=EqM.ap (EqM.refl _ _) h m
theorem not_field {p:Nat} (hp:2≤p) (hd:1≤d) (hdm:d < m) (hl:∀j,0≤low j∧low j < p)
  (h0:EqM p (fun t=> ap d low m f one_ t + sXn d low m one_ t) (fun _=> 0)):¬IsF p m f:=fun hF=> by
 obtain ⟨D,hD⟩:∃D:Vc,(fun j=> if j < d then low j else if j=d then 1 else 0)=D:=⟨_,rfl⟩;have hDs:IsD p m D:=by
  rw [←hD];refine ⟨fun j hj=> by dsimp only;rw [if_neg (by omega),if_neg (by omega)],fun j=> ?_⟩;dsimp only;split
  ·exact hl j
  ·split <;> omega
 have hpD:pj m d low D=fun _=> 0:=by
  unfold pj;have e1:ap d low m D one_=ap d low (d + 1) D one_:=by
   have key:∀c,ap d low (d + 1 + c) D one_=ap d low (d + 1) D one_:=by
    intro c
    induction c with
    | zero=> rfl
    | succ c ih=>
     rw [←Nat.add_assoc,ap,ih];have:D (d + 1 + c)=0:=by rw [←hD];dsimp only;rw [if_neg (by omega),if_neg (by omega)]
     rw [this];funext t;simp
   have:=key (m - (d + 1))
   rwa [show d + 1 + (m - (d + 1))=m by omega] at this
  rw [e1,ap,sXn_top hd];have e2:ap d low d D one_=ap d low d low one_:=ap_congr fun j hj=> by rw [←hD];dsimp only;rw [if_pos hj]
  have e3:D d=1:=by rw [←hD];dsimp only;rw [if_neg (by omega),if_pos rfl]
  rw [e2,e3];funext t;simp;omega
 have hdig:=dig_cod' (show 1≤p by omega) hDs;obtain ⟨c,hc⟩:∃c,(cod p m D).toNat=c:=⟨_,rfl⟩;rw [hc] at hdig;have hr:=cod_rng hDs.2 m;have hc2:c < p ^ m:=by omega
 have hc1:1≤c:=by
  rcases Nat.eq_zero_or_pos c with e | e
  ·exfalso;rw [e,dig_zero] at hdig;have:=congrFun hdig d;rw [←hD] at this;dsimp only at this;rw [if_neg (by omega),if_pos rfl] at this;omega
  ·exact e
 obtain ⟨z,_,_,hz⟩:=hF.inv hp (by omega) hc1 hc2;unfold kmul at hz;rw [hdig] at hz;have h1:EqM p (mulV m f D (dig p m z)) one_:=by
  have:=dig_rep_eqm (p:=p) (m:=m) (by omega) (mulV_sup (low:=f) (y:=dig p m z) hDs.1);rw [hz,dig_one hp (by omega)] at this;exact this.symm
 have h2:=pj_congr (m:=m) (d:=d) (low:=low) h1;have h3:=pj_ap (m:=m) (by omega) h0 (dig p m z) D m;rw [hpD,(ap_lin m (dig p m z)).zero] at h3;have h4:=(h3.symm.trans h2) 0;have h5:pj m d low one_ 0=1:=by
  unfold pj;obtain ⟨n,rfl⟩:∃n,m=n + 1:=⟨m - 1,by omega⟩;have key:∀k,ap d low (k + 1) one_ one_=one_:=by
   intro k
   induction k with
   | zero=> funext t;simp [ap,sXn,one_]
   | succ k ih=> rw [ap,ih];funext t;simp [one_]
  rw [key];rfl
 rw [h5] at h4;have:(1:Int) % (p:Int)=1:=Int.emod_eq_of_lt (by omega) (by omega);simp at h4;omega
end
end
section
noncomputable section
def hdC (l:List Nat):Nat:=@List.rec Nat (fun _=> Nat) 0 (fun x _ _=> x) l
def tlC (l:List Nat):List Nat:=@List.rec Nat (fun _=> List Nat) [] (fun _ t _=> t) l
def zipC (p c b:Nat) (as_:List Nat):List Nat→List Nat→Nat→List Nat:=
 @List.rec Nat (fun _=> List Nat→List Nat→Nat→List Nat) (fun _ _ _=> [])
  (fun a _ ih os ls s=> Nat.mod (Nat.add (Nat.add s (Nat.mul c (hdC ls))) (Nat.mul b a)) p :: ih (tlC os) (tlC ls) (hdC os)) as_
def lastC (l:List Nat):Nat→Nat:=@List.rec Nat (fun _=> Nat→Nat) (fun d=> d) (fun x _ ih _=> ih x) l
def stepC (p:Nat) (low a:List Nat) (b:Nat) (out:List Nat):List Nat:=zipC p (Nat.sub p (lastC out 0)) b a out low 0
def mulC (p:Nat) (low z a:List Nat) (bs:List Nat):List Nat:=@List.rec Nat (fun _=> List Nat) z (fun b _ ih=> stepC p low a b ih) bs
def dgC (p:Nat) (n:Nat):Nat→List Nat:=@Nat.rec (fun _=> Nat→List Nat) (fun _=> []) (fun _ ih x=> Nat.mod x p :: ih (Nat.div x p)) n
def codC (p:Nat) (l:List Nat):Nat:=@List.rec Nat (fun _=> Nat) 0 (fun x _ ih=> Nat.add x (Nat.mul p ih)) l
def kmC (p m:Nat) (low z:List Nat) (x y:Nat):Nat:=codC p (mulC p low z (dgC p m x) (dgC p m y))
end
def lf (l:List Nat):Vc:=fun j=> ((l.getD j 0:Nat):Int)
theorem hdC_eq (l:List Nat):hdC l=l.getD 0 0:=by cases l <;> rfl
theorem tlC_get (l:List Nat) (j:Nat):(tlC l).getD j 0=l.getD (j + 1) 0:=by cases l <;> simp [tlC]
theorem zipC_cons (p c b a:Nat) (as_ os ls:List Nat) (s:Nat):zipC p c b (a :: as_) os ls s=(s + c * hdC ls + b * a) % p :: zipC p c b as_ (tlC os) (tlC ls) (hdC os):=rfl
theorem zipC_len (p c b:Nat):∀(as_ os ls:List Nat) (s:Nat),(zipC p c b as_ os ls s).length=as_.length
 | [],_,_,_=> rfl
 | a :: as_,os,ls,s=> by rw [zipC_cons,List.length_cons,zipC_len p c b as_,List.length_cons]
theorem zipC_get (p c b:Nat):∀(as_ os ls:List Nat) (s j:Nat),j < as_.length→
  (zipC p c b as_ os ls s).getD j 0=((if j=0 then s else os.getD (j - 1) 0) + c * ls.getD j 0 + b * as_.getD j 0) % p
 | [],_,_,_,j,h=> by simp at h
 | a :: as_,os,ls,s,0,_=> by rw [zipC_cons,hdC_eq];simp
 | a :: as_,os,ls,s,j + 1,h=> by
  rw [zipC_cons];simp only [List.getD_cons_succ];have e:(if j=0 then hdC os else (tlC os).getD (j - 1) 0)=os.getD j 0:=by
   by_cases hj:j=0
   ·rw [if_pos hj,hdC_eq,hj]
   ·rw [if_neg hj,tlC_get,show j - 1 + 1=j by omega]
  rw [zipC_get p c b as_ _ _ _ j (by simpa using h),e,tlC_get,if_neg (show ¬j + 1=0 by omega),Nat.add_sub_cancel]
theorem lastC_eq:∀(l:List Nat) (d:Nat),lastC l d=if l= [] then d else l.getD (l.length - 1) 0
 | [],d=> rfl
 | x :: l,d=> by
  show lastC l x=_
  rw [lastC_eq l x]
  cases l with
  | nil=> simp
  | cons y l=> simp
theorem mulC_hor {p m:Nat} {low z a:List Nat} (hp:1≤p) (hm:1≤m) (hl:low.length=m) (ha:a.length=m) (hz:z=List.replicate m 0):
  ∀bs:List Nat,(mulC p low z a bs).length=m∧∀j,j < m→(((mulC p low z a bs).getD j 0:Nat):Int)=hor m (lf low) (lf a) bs.length (lf bs) j % (p:Int)
 | []=> by
  subst hz;refine ⟨List.length_replicate ..,fun j hj=> ?_⟩;show (((List.replicate m 0).getD j 0:Nat):Int)=0 % (p:Int)
  rw [List.getD_eq_getElem?_getD,List.getElem?_replicate,if_pos hj];simp
 | b :: bs=> by
  obtain ⟨h1,h2⟩:=mulC_hor hp hm hl ha hz bs;show (stepC p low a b (mulC p low z a bs)).length=m∧_
  refine ⟨by unfold stepC;rw [zipC_len,ha],fun j hj=> ?_⟩;show (((stepC p low a b (mulC p low z a bs)).getD j 0:Nat):Int)=_
  generalize mulC p low z a bs=o at *;unfold stepC;rw [zipC_get _ _ _ _ _ _ _ _ (by omega),lastC_eq,if_neg (show ¬o= [] by intro e;rw [e] at h1;simp at h1;omega),h1];have hlast:=h2 (m - 1) (by omega);have hlp:o.getD (m - 1) 0≤p:=by
   have:=Int.emod_lt_of_pos (hor m (lf low) (lf a) bs.length (lf bs) (m - 1)) (show 0 < (p:Int) by omega);omega
  rw [List.length_cons,hor];have e1:(fun t=> lf (b :: bs) (t + 1))=lf bs:=by funext t;simp [lf]
  have e2:lf (b :: bs) 0=(b:Int):=by simp [lf]
  rw [e1,e2];unfold sX;dsimp only;rw [if_pos hj];have e3:((Nat.sub p (o.getD (m - 1) 0):Nat):Int)=(p:Int) - ((o.getD (m - 1) 0:Nat):Int):=by
   show ((p - o.getD (m - 1) 0:Nat):Int)=_
   omega
  rw [Int.natCast_emod,Int.natCast_add,Int.natCast_add,Int.natCast_mul,Int.natCast_mul,e3,hlast];have e4:(((if j=0 then 0 else o.getD (j - 1) 0:Nat)):Int) % (p:Int)=(if j=0 then 0 else hor m (lf low) (lf a) bs.length (lf bs) (j - 1)) % (p:Int):=by
   by_cases h0:j=0
   ·rw [if_pos h0,if_pos h0];rfl
   ·rw [if_neg h0,if_neg h0,h2 (j - 1) (by omega)];exact Int.emod_emod_of_dvd _ (Int.dvd_refl _)
  generalize hor m (lf low) (lf a) bs.length (lf bs)=H at *;refine eqm_add ?_ rfl;have e5:((if j=0 then 0 else H (j - 1)) - H (m - 1) * lf low j) % (p:Int)=((if j=0 then 0 else H (j - 1)) + ((p:Int) - H (m - 1)) * lf low j) % (p:Int):=by
   refine eqm_iff.2 ⟨- lf low j,?_⟩;generalize (if j=0 then 0 else H (j - 1))=zz
   grind
  rw [e5];exact eqm_add e4 (eqm_mul (eqm_sub rfl (Int.emod_emod_of_dvd _ (Int.dvd_refl _))) rfl)
theorem dgC_get (p:Nat):∀(n x j:Nat),j < n→(dgC p n x).getD j 0=x / p ^ j % p
 | 0,x,j,h=> by omega
 | n + 1,x,0,h=> by show x % p=_;simp
 | n + 1,x,j + 1,h=> by
  show (dgC p n (x / p)).getD j 0=_
  rw [dgC_get p n (x / p) j (by omega),Nat.div_div_eq_div_mul,Nat.pow_succ,Nat.mul_comm p]
theorem dgC_len (p:Nat):∀(n x:Nat),(dgC p n x).length=n
 | 0,x=> rfl
 | n + 1,x=> by show (dgC p n (x / p)).length + 1=_;rw [dgC_len p n]
theorem lf_dgC (p m x:Nat):lf (dgC p m x)=dig p m x:=by
 funext j;unfold lf dig;by_cases h:j < m
 ·rw [if_pos h,dgC_get p m x j h]
 ·rw [if_neg h,List.getD_eq_getElem?_getD,List.getElem?_eq_none (by rw [dgC_len];omega)];rfl
theorem cod_shift (p:Nat) (v:Vc):∀n,cod p (n + 1) v=v 0 + (p:Int) * cod p n (fun j=> v (j + 1))
 | 0=> by simp [cod]
 | n + 1=> by
  rw [cod,cod_shift p v n];simp only [cod];rw [Nat.pow_succ,Int.natCast_mul]
  grind
theorem codC_eq (p:Nat):∀l:List Nat,((codC p l:Nat):Int)=cod p l.length (lf l)
 | []=> rfl
 | x :: l=> by
  show ((x + p * codC p l:Nat):Int)=_
  rw [List.length_cons,cod_shift,Int.natCast_add,Int.natCast_mul,codC_eq p l];have:(fun j=> lf (x :: l) (j + 1))=lf l:=by funext j;simp [lf]
  rw [this];simp [lf]
theorem kmC_eq {p m:Nat} {low:List Nat} (hp:1≤p) (hm:1≤m) (hl:low.length=m) (x y:Nat):kmC p m low (List.replicate m 0) x y=kmul p m (lf low) x y:=by
 have h:=mulC_hor (z:=List.replicate m 0) hp hm hl (dgC_len p m x) rfl (dgC p m y);have h1:((kmC p m low (List.replicate m 0) x y:Nat):Int)=((kmul p m (lf low) x y:Nat):Int):=by
  unfold kmC;rw [codC_eq,h.1];unfold kmul rep mulV;rw [Int.toNat_of_nonneg (cod_rng (fun j=> ⟨Int.emod_nonneg _ (by omega),Int.emod_lt_of_pos _ (by omega)⟩) m).1];refine cod_congr m fun j hj=> ?_;show (((mulC p low (List.replicate m 0) (dgC p m x) (dgC p m y)).getD j 0:Nat):Int)=_
  rw [h.2 j hj,dgC_len,lf_dgC,lf_dgC,hor_ap]
 omega
section
variable {p m:Nat} {low:Vc}
theorem kpw_mul_one (hp:2≤p) (hm:1≤m) {x i:Nat} (h:kpw p m low x i=1):∀k,kpw p m low x (i * k)=1
 | 0=> rfl
 | k + 1=> by rw [Nat.mul_succ,kpw_add hp hm,kpw_mul_one hp hm h k,h,kmul_one hp hm (one_lt_q hp hm)]
theorem kpw_mod_one (hp:2≤p) (hm:1≤m) {x i j:Nat} (hi:kpw p m low x i=1) (hj:kpw p m low x j=1):kpw p m low x (j % i)=1:=by
 have h:kpw p m low x (i * (j / i) + j % i)=1:=by rw [Nat.div_add_mod];exact hj
 rw [kpw_add hp hm,kpw_mul_one hp hm hi,one_kmul hp hm (kpw_lt hp hm x _)] at h;exact h
theorem kpw_gcd_one (hp:2≤p) (hm:1≤m) {x:Nat}:∀(i j:Nat),kpw p m low x i=1→kpw p m low x j=1→kpw p m low x (Nat.gcd i j)=1:=by
 intro i
 induction i using Nat.strongRecOn with
 | _ i ih=>
  intro j hi hj;rcases Nat.eq_zero_or_pos i with e | e
  ·subst e;rwa [Nat.gcd_zero_left]
  ·rw [Nat.gcd_rec];exact ih (j % i) (Nat.mod_lt _ e) i (kpw_mod_one hp hm hi hj) hi
theorem gen_of (hp:2≤p) (hm:1≤m) {x:Nat} {D:List Nat} (h1:kpw p m low x (p ^ m - 1)=1) (hD:∀y∈D,kpw p m low x y≠1)
  (hC:∀e,e < p ^ m - 1→e ∣ p ^ m - 1→∃y∈D,e ∣ y):GenOK p m low x:=by
 refine ⟨h1,fun k k1 k2 hk=> ?_⟩;have hg:=kpw_gcd_one hp hm _ _ hk h1;have hlt:Nat.gcd k (p ^ m - 1) < p ^ m - 1:=Nat.lt_of_le_of_lt (Nat.le_of_dvd (by omega) (Nat.gcd_dvd_left _ _)) k2;obtain ⟨y,hy,c,rfl⟩:=hC _ hlt (Nat.gcd_dvd_right _ _);exact hD _ hy (kpw_mul_one hp hm hg c)
end
noncomputable section
def pwC (p m:Nat) (low z:List Nat) (x:Nat) (bs:List Bool):Nat→Nat:=@List.rec Bool (fun _=> Nat→Nat) (fun y=> y)
 (fun b _ ih y=> ih (match b with | true=> kmC p m low z (kmC p m low z y y) x | false=> kmC p m low z y y)) bs
end
def ofBits:Nat→List Bool→Nat
 | n, []=> n
 | n,b :: bs=> ofBits (2 * n + if b then 1 else 0) bs
theorem pwC_eq {p m:Nat} {low:List Nat} (hp:2≤p) (hm:1≤m) (hl:low.length=m) (x:Nat) (hx:x < p ^ m):∀(bs:List Bool) (n:Nat),pwC p m low (List.replicate m 0) x bs (kpw p m (lf low) x n)=kpw p m (lf low) x (ofBits n bs)
 | [],n=> rfl
 | b :: bs,n=> by
  have e:kmC p m low (List.replicate m 0) (kpw p m (lf low) x n) (kpw p m (lf low) x n)=kpw p m (lf low) x (2 * n):=by
   rw [kmC_eq (by omega) hm hl,←kpw_add hp hm,Nat.two_mul]
  cases b with
  | true=>
   show pwC p m low (List.replicate m 0) x bs (kmC p m low (List.replicate m 0) (kmC p m low (List.replicate m 0) (kpw p m (lf low) x n) (kpw p m (lf low) x n)) x)=_
   rw [e,kmC_eq (by omega) hm hl];exact pwC_eq hp hm hl x hx bs (2 * n + 1)
  | false=>
   show pwC p m low (List.replicate m 0) x bs (kmC p m low (List.replicate m 0) (kpw p m (lf low) x n) (kpw p m (lf low) x n))=_
   rw [e];exact pwC_eq hp hm hl x hx bs (2 * n)
end
section
open Go.RowKit
theorem hid_ {p:Prop} (h:p):Hid p:=h
theorem ret_int {k:IntKind} {a b:Int} (h:a=b):Ending.returned (.int k a)= .returned (.int k b):=by rw [h]
theorem ret_bool {a b:Bool} (h:a=b):Ending.returned (.bool a)= .returned (.bool b):=by rw [h]
def Ex (w w':World):Prop:=Below w.heap.size w w'
theorem Ex.refl (w:World):Ex w w:=Below.refl _ _
theorem Ex.trans {a b c:World} (h:Ex a b) (k:Ex b c):Ex a c:=Below.trans h (Below.mono k h.size)
theorem Ex.drew {a b:World} (h:Ex a b):Ex a b.drew:=Below.drew h
theorem Ex.drewN {a b:World} (h:Ex a b) (n:Nat):Ex a (b.drewN n):=below_drewN h n
theorem Ex.alloc {a b:World} (h:Ex a b) (o:Obj):Ex a (b.alloc o):=Below.alloc h h.size o
theorem Ex.setCell {a b:World} (h:Ex a b) {p:Addr} (hp:a.heap.size≤p.block) (u:Value):Ex a (b.setCell p u):=Below.setCell h hp u
theorem Ex.cell {w w':World} (h:Ex w w') {p:Addr} {u:Value} (hc:w.cell? p=some u):w'.cell? p=some u:=
 (Below.cell h (World.block_lt_of_cell? w _ hc)).trans hc
def Sl (w:World) (v:Value) (n size:Nat) (xs:List Value):Prop:=
 xs.length=n * size∧∃a cap,v= .slice a n cap∧n≤cap∧cap≤maxLen∧
  (0 < n→∃b o,a=some ⟨b,o,none⟩∧∀j u,xs[j]?=some u→w.cell? ⟨b,o + j,none⟩=some u)
theorem Sl.ex {w w':World} {v:Value} {n size:Nat} {xs:List Value} (h:Sl w v n size xs) (hx:Ex w w'):Sl w' v n size xs:=by
 obtain ⟨h1,a,cap,h2,h3,h4,h5⟩:=h;refine ⟨h1,a,cap,h2,h3,h4,fun hn=> ?_⟩;obtain ⟨b,o,h6,h7⟩:=h5 hn;exact ⟨b,o,h6,fun j u hu=> hx.cell (h7 j u hu)⟩
theorem Sl.nil (w:World) (size:Nat):Sl w (.slice none 0 0) 0 size []:=⟨by simp,none,0,rfl,Nat.le_refl _,by unfold maxLen;omega,fun h=> absurd h (by omega)⟩
theorem Sl.own {w:World} {base:Nat} {e:TypeId} {size:Nat} {v:Value} {n:Nat} {xs:List Value} (h:w.ownsRow base e size v n xs):Sl w v n size xs:=by
 refine ⟨h.1,?_⟩;rcases h.2 with ⟨h2,h3⟩ | ⟨g,cap,cur,hv,hb,hg,h1,h2,h3,h4⟩
 ·exact ⟨none,0,by rw [h2,h3],by omega,by unfold maxLen;omega,fun h=> by omega⟩
 ·refine ⟨some ⟨g,0,none⟩,cap,hv,h1,h2,fun _=> ⟨g,0,rfl,fun j u hu=> ?_⟩⟩;rw [Nat.zero_add,cell_of_row w g j cur e (0,0) hg];rw [←h4,List.getElem?_take] at hu;split at hu
  ·simpa using hu
  ·cases hu
theorem ownsRow_setCell_ne {w:World} {base:Nat} {e:TypeId} {size:Nat} {v:Value} {n:Nat} {xs:List Value} (h:w.ownsRow base e size v n xs) {a:Addr} (ha:v.ownBlock≠some a.block) (u:Value):(w.setCell a u).ownsRow base e size v n xs:=by
 refine h.kept (row:=some a.block) ⟨rfl,rfl,rfl,by simp [World.setCell],fun k _ hk=> Below.heap_setCell _ _ _ _ (fun e=> hk (by rw [e]))⟩ ?_;exact .inr ha
theorem ownsRow_ex {w w':World} {base:Nat} {e:TypeId} {size:Nat} {v:Value} {n:Nat} {xs:List Value} (h:w.ownsRow base e size v n xs) (hx:Ex w w'):w'.ownsRow base e size v n xs:=by
 refine h.kept (row:=none) ⟨hx.os,hx.tape,hx.output,hx.size,fun k hk _=> hx.block k hk⟩ ?_;cases v.ownBlock <;> simp
theorem Ex.grown {a w w':World} {base:Nat} {e:TypeId} {size:Nat} {v:Value} {n:Nat} {xs:List Value} (h:Ex a w) (hown:w.ownsRow base e size v n xs) (hb:a.heap.size≤base) (hg:w.grownBy w' v.ownBlock):Ex a w':=
 Below.grown h hg h.size (fun k hk=> Nat.le_trans hb (hown.lt k hk).1)
theorem cell_set_off {w:World} {B i j:Nat} {u:Value} (h:i≠j):(w.setCell ⟨B,i,none⟩ u).cell? ⟨B,j,none⟩=w.cell? ⟨B,j,none⟩:=
 World.cell?_setCell_other _ _ _ _ (by intro e;injection e;omega)
theorem w64 {x:Int} (h1:-9223372036854775808≤x) (h2:x≤9223372036854775807):wrap64 x=x:=IntWalk.wrap64_in _ ⟨h1,h2⟩
def ints (l:List Int):List Value:=l.map (Value.int .i64)
theorem ints_length (l:List Int):(ints l).length=l.length:=List.length_map _
theorem ints_get {l:List Int} {j:Nat} {x:Int} (h:l[j]?=some x):(ints l)[j]?=some (.int .i64 x):=by simp [ints,h]
def ISl (w:World) (v:Value) (l:List Int):Prop:=Sl w v l.length 1 (ints l)
theorem ISl.ex {w w':World} {v:Value} {l:List Int} (h:ISl w v l) (hx:Ex w w'):ISl w' v l:=Sl.ex h hx
theorem ISl.open {w:World} {v:Value} {l:List Int} (h:ISl w v l):∃a cap,v= .slice a l.length cap∧l.length≤cap∧cap≤maxLen∧
  (0 < l.length→∃b o,a=some ⟨b,o,none⟩∧∀j x,l[j]?=some x→w.cell? ⟨b,o + j,none⟩=some (.int .i64 x)):=by
 obtain ⟨h1,a,cap,h2,h3,h4,h5⟩:=h;refine ⟨a,cap,h2,h3,h4,fun hn=> ?_⟩;obtain ⟨b,o,h6,h7⟩:=h5 hn;exact ⟨b,o,h6,fun j x hx=> h7 j _ (ints_get hx)⟩
theorem quiet_draw {P:Program} {f:FuncId} {args:Array Value} {w:World} {n:Nat} {v:Value}
  (h:Calls P f args (w.drewN n) fun e w'=> e= .returned v∧∃k,w'=(w.drewN n).drewN k):Calls P f args (w.drewN n) fun e w''=> e= .returned v∧∃m,w''=w.drewN m:=
 h.mono fun _ _ ⟨he,k,hm⟩=> ⟨he,n + k,by rw [hm,World.drewN_drewN]⟩
theorem isl_made (w:World) (l:List Int) (t:TypeId) (hl:l.length≤1000):ISl (w.alloc (.cells (ints l).toArray t)) (.slice (some ⟨w.heap.size,0,none⟩) l.length l.length) l:=by
 refine ⟨by rw [ints_length];omega,some ⟨w.heap.size,0,none⟩,l.length,rfl,Nat.le_refl _,by unfold maxLen;omega,fun _=> ⟨_,_,rfl,fun j u h=> ?_⟩⟩;rw [Nat.zero_add];simpa using h
end
end Go.Proofs.YtgdmlmhpineibaaGreat
