/- Plain mathematics: residues of polynomials with integer coefficients modulo a monic one, as functions on the coefficients' places; then modulo p. -/

namespace Go.Proofs.YtgdmlmhpineibaaGreat
set_option linter.unusedVariables false
set_option linter.unusedSimpArgs false
section
abbrev Vc:=Nat→Int
def sX (m:Nat) (low:Vc) (v:Vc):Vc:=fun j=> if j < m then (if j=0 then 0 else v (j - 1)) - v (m - 1) * low j else 0
def sXn (m:Nat) (low:Vc):Nat→Vc→Vc
 | 0,v=> v
 | k + 1,v=> sX m low (sXn m low k v)
def ap (m:Nat) (low:Vc):Nat→Vc→Vc→Vc
 | 0,_,_=> fun _=> 0
 | n + 1,y,x=> fun j=> ap m low n y x j + y n * sXn m low n x j
def one_:Vc:=fun j=> if j=0 then 1 else 0
def mulV (m:Nat) (low:Vc) (x y:Vc):Vc:=ap m low m y x
def Lin (T:Vc→Vc):Prop:=∀(a b:Int) (v w:Vc),T (fun j=> a * v j + b * w j)=fun j=> a * T v j + b * T w j
variable {m:Nat} {low:Vc}
theorem sX_lin:Lin (sX m low):=by
 intro a b v w;funext j;unfold sX;split
 ·split <;> grind
 ·simp
theorem Lin.comp {T U:Vc→Vc} (h:Lin T) (k:Lin U):Lin (fun v=> T (U v)):=by
 intro a b v w;show T (U _)=_
 rw [k,h]
theorem sXn_lin:∀k,Lin (sXn m low k)
 | 0=> fun _ _ _ _=> rfl
 | k + 1=> by
  have:=Lin.comp (sX_lin (m:=m) (low:=low)) (sXn_lin k);exact this
theorem Lin.zero {T:Vc→Vc} (h:Lin T):T (fun _=> 0)=fun _=> 0:=by
 have:=h 0 0 (fun _=> 0) (fun _=> 0);simp at this;exact this
theorem Lin.add {T:Vc→Vc} (h:Lin T) (v w:Vc):T (fun j=> v j + w j)=fun j=> T v j + T w j:=by
 have:=h 1 1 v w;simpa using this
theorem Lin.add_smul {T:Vc→Vc} (h:Lin T) (v w:Vc) (b:Int):T (fun j=> v j + b * w j)=fun j=> T v j + b * T w j:=by
 have:=h 1 b v w;simpa using this
theorem ap_lin:∀n y,Lin (ap m low n y)
 | 0,y=> by intro a b v w;funext j;simp [ap]
 | n + 1,y=> by
  intro a b v w;funext j;simp only [ap];rw [ap_lin n y,sXn_lin n]
  grind
theorem sXn_add:∀i k v,sXn m low (i + k) v=sXn m low i (sXn m low k v)
 | 0,k,v=> by simp [sXn]
 | i + 1,k,v=> by rw [Nat.add_right_comm];simp only [sXn];rw [sXn_add i k v]
theorem ap_comm {T:Vc→Vc} (h:Lin T) (hc:∀v,T (sX m low v)=sX m low (T v)):∀n y x,T (ap m low n y x)=ap m low n y (T x)
 | 0,y,x=> by simp only [ap];exact h.zero
 | n + 1,y,x=> by
  have hk:∀k v,T (sXn m low k v)=sXn m low k (T v):=by
   intro k
   induction k with
   | zero=> intro v;rfl
   | succ k ih=> intro v;simp only [sXn];rw [hc,ih]
  simp only [ap];rw [h.add_smul,ap_comm h hc n y x,hk]
theorem ap_sX (n:Nat) (y x:Vc):ap m low n y (sX m low x)=sX m low (ap m low n y x):=(ap_comm sX_lin (fun _=> rfl) n y x).symm
theorem ap_ap (n k:Nat) (y z x:Vc):ap m low n y (ap m low k z x)=ap m low k z (ap m low n y x):=
 ap_comm (ap_lin n y) (fun v=> ap_sX n y v) k z x
theorem sXn_one:∀i,i < m→sXn m low i one_=fun j=> if j=i then 1 else 0
 | 0,_=> rfl
 | i + 1,h=> by
  simp only [sXn];rw [sXn_one i (by omega)];funext j;unfold sX;show (if j < m then (if j=0 then 0 else if j - 1=i then (1:Int) else 0) - (if m - 1=i then (1:Int) else 0) * low j else 0)=_
  rw [show (if m - 1=i then (1:Int) else 0)=0 by rw [if_neg (by omega)]];by_cases h1:j=i + 1
  ·subst h1;simp [h]
  ·rw [if_neg h1];by_cases h2:j < m
   ·rw [if_pos h2];by_cases h3:j=0
    ·simp [h3]
    ·rw [if_neg h3,if_neg (by omega)];simp
   ·rw [if_neg h2]
theorem ap_one:∀n (y:Vc),n≤m→ap m low n y one_=fun j=> if j < n then y j else 0
 | 0,y,_=> by simp [ap]
 | n + 1,y,h=> by
  simp only [ap];rw [ap_one n y (by omega),sXn_one n (by omega)];funext j;show (if j < n then y j else 0) + y n * (if j=n then 1 else 0)=_
  by_cases h1:j < n
  ·rw [if_pos h1,if_neg (show ¬j=n by omega),if_pos (by omega)];simp
  ·rw [if_neg h1];by_cases h2:j=n
   ·subst h2;simp
   ·rw [if_neg h2,if_neg (by omega)];simp
def Sup (m:Nat) (v:Vc):Prop:=∀j,m≤j→v j=0
theorem Sup.ap_one {y:Vc} (h:Sup m y):ap m low m y one_=y:=by
 rw [Go.Proofs.YtgdmlmhpineibaaGreat.ap_one m y (Nat.le_refl _)];funext j;by_cases h1:j < m
 ·rw [if_pos h1]
 ·rw [if_neg h1,h j (by omega)]
theorem sX_sup (v:Vc):Sup m (sX m low v):=fun j h=> by unfold sX;rw [if_neg (by omega)]
theorem sXn_sup {v:Vc} (h:Sup m v):∀k,Sup m (sXn m low k v)
 | 0=> h
 | k + 1=> sX_sup _
theorem ap_sup {x:Vc} (h:Sup m x):∀n y,Sup m (ap m low n y x)
 | 0,y=> fun _ _=> rfl
 | n + 1,y=> fun j hj=> by simp only [ap];rw [ap_sup h n y j hj,sXn_sup h n j hj];simp
theorem mulV_comm {x y:Vc} (hx:Sup m x) (hy:Sup m y):mulV m low x y=mulV m low y x:=by
 unfold mulV
 conv=> lhs;rw [←hx.ap_one (low:=low),ap_ap,hy.ap_one]
theorem mulV_sup {x y:Vc} (hx:Sup m x):Sup m (mulV m low x y):=ap_sup hx _ _
theorem mulV_assoc {x y z:Vc} (hx:Sup m x) (hy:Sup m y) (hz:Sup m z):mulV m low (mulV m low x y) z=mulV m low x (mulV m low y z):=by
 rw [mulV_comm hx (mulV_sup hy),mulV_comm hx hy];unfold mulV;rw [ap_ap]
theorem mulV_one {x:Vc} (hx:Sup m x) (hm:1≤m):mulV m low x one_=x:=by
 have h1:Sup m one_:=fun j hj=> by unfold one_;rw [if_neg (by omega)]
 rw [mulV_comm hx h1];exact hx.ap_one
theorem mulV_add (x y z:Vc):mulV m low (fun j=> x j + y j) z=fun j=> mulV m low x z j + mulV m low y z j:=(ap_lin m z).add x y
def hor (m:Nat) (low:Vc) (x:Vc):Nat→Vc→Vc
 | 0,_=> fun _=> 0
 | k + 1,y=> fun j=> sX m low (hor m low x k (fun t=> y (t + 1))) j + y 0 * x j
theorem ap_shift:∀n (y x:Vc),ap m low (n + 1) y x=fun j=> y 0 * x j + sX m low (ap m low n (fun t=> y (t + 1)) x) j
 | 0,y,x=> by
  have h0:sX m low (fun _=> 0)=fun _=> 0:=sX_lin.zero;funext j;simp only [ap,sXn];rw [h0];simp
 | n + 1,y,x=> by
  funext j;rw [ap,ap_shift n y x];rw [ap,sX_lin.add_smul];simp only [sXn];exact Int.add_assoc _ _ _
theorem hor_ap:∀n (y x:Vc),hor m low x n y=ap m low n y x
 | 0,y,x=> rfl
 | n + 1,y,x=> by
  funext j;rw [ap_shift,hor,hor_ap n];exact Int.add_comm _ _
def EqM (p:Int) (v w:Vc):Prop:=∀j,v j % p=w j % p
theorem EqM.refl (p:Int) (v:Vc):EqM p v v:=fun _=> rfl
theorem EqM.symm {p:Int} {v w:Vc} (h:EqM p v w):EqM p w v:=fun j=> (h j).symm
theorem EqM.trans {p:Int} {u v w:Vc} (h:EqM p u v) (k:EqM p v w):EqM p u w:=fun j=> (h j).trans (k j)
theorem eqm_iff {p a b:Int}:a % p=b % p↔∃c,a=b + p * c:=by
 constructor
 ·intro h;have:=Int.emod_emod_of_dvd a (Int.dvd_refl p);have h1:=Int.mul_ediv_add_emod a p;have h2:=Int.mul_ediv_add_emod b p;exact ⟨a / p - b / p,by rw [Int.mul_sub];omega⟩
 ·rintro ⟨c,rfl⟩;exact Int.add_mul_emod_self_left b p c
theorem eqm_add {p a b c d:Int} (h:a % p=b % p) (k:c % p=d % p):(a + c) % p=(b + d) % p:=by
 obtain ⟨x,rfl⟩:=eqm_iff.1 h;obtain ⟨y,rfl⟩:=eqm_iff.1 k;exact eqm_iff.2 ⟨x + y,by grind⟩
theorem eqm_mul {p a b c d:Int} (h:a % p=b % p) (k:c % p=d % p):(a * c) % p=(b * d) % p:=by
 obtain ⟨x,rfl⟩:=eqm_iff.1 h;obtain ⟨y,rfl⟩:=eqm_iff.1 k;exact eqm_iff.2 ⟨x * d + b * y + p * x * y,by grind⟩
theorem eqm_sub {p a b c d:Int} (h:a % p=b % p) (k:c % p=d % p):(a - c) % p=(b - d) % p:=by
 obtain ⟨x,rfl⟩:=eqm_iff.1 h;obtain ⟨y,rfl⟩:=eqm_iff.1 k;exact eqm_iff.2 ⟨x - y,by grind⟩
theorem EqM.sX {p:Int} {v w:Vc} (h:EqM p v w):EqM p (sX m low v) (sX m low w):=fun j=> by
 unfold Go.Proofs.YtgdmlmhpineibaaGreat.sX;split
 ·refine eqm_sub ?_ (eqm_mul (h _) rfl);split
  ·rfl
  ·exact h _
 ·rfl
theorem EqM.sXn {p:Int} {v w:Vc} (h:EqM p v w):∀k,EqM p (sXn m low k v) (sXn m low k w)
 | 0=> h
 | k + 1=> (EqM.sXn h k).sX
theorem EqM.ap {p:Int} {v w y z:Vc} (h:EqM p v w) (k:EqM p y z):∀n,EqM p (ap m low n y v) (ap m low n z w)
 | 0=> fun _=> rfl
 | n + 1=> fun j=> by
  simp only [Go.Proofs.YtgdmlmhpineibaaGreat.ap];exact eqm_add (EqM.ap h k n j) (eqm_mul (k n) (h.sXn n j))
theorem EqM.mulV {p:Int} {v w y z:Vc} (h:EqM p v w) (k:EqM p y z):EqM p (mulV m low v y) (mulV m low w z):=h.ap k m
def dig (p m x:Nat):Vc:=fun j=> if j < m then ((x / p ^ j % p:Nat):Int) else 0
def cod (p:Nat):Nat→Vc→Int
 | 0,_=> 0
 | n + 1,v=> cod p n v + v n * ((p ^ n:Nat):Int)
theorem dig_sup (p m x:Nat):Sup m (dig p m x):=fun j h=> by unfold dig;rw [if_neg (by omega)]
theorem dig_rng {p:Nat} (hp:1≤p) (m x j:Nat):0≤dig p m x j∧dig p m x j < p:=by
 unfold dig;split
 ·have:=Nat.mod_lt (x / p ^ j) hp;omega
 ·omega
def IsD (p m:Nat) (v:Vc):Prop:=Sup m v∧∀j,0≤v j∧v j < p
theorem cod_rng {p:Nat} {v:Vc} (h:∀j,0≤v j∧v j < p):∀n,0≤cod p n v∧cod p n v < ((p ^ n:Nat):Int)
 | 0=> by simp [cod]
 | n + 1=> by
  obtain ⟨h1,h2⟩:=cod_rng h n;obtain ⟨h3,h4⟩:=h n;simp only [cod];have h5:0≤v n * ((p ^ n:Nat):Int):=Int.mul_nonneg h3 (by omega);have h6:(v n + 1) * ((p ^ n:Nat):Int)≤p * ((p ^ n:Nat):Int):=Int.mul_le_mul_of_nonneg_right (by omega) (by omega);have h7:((p ^ (n + 1):Nat):Int)=p * ((p ^ n:Nat):Int):=by rw [Nat.pow_succ,Int.natCast_mul,Int.mul_comm]
  rw [Int.add_mul] at h6;omega
theorem cod_congr {p:Nat} {v w:Vc}:∀n,(∀j,j < n→v j=w j)→cod p n v=cod p n w
 | 0,_=> rfl
 | n + 1,h=> by simp only [cod];rw [cod_congr n fun j hj=> h j (by omega),h n (by omega)]
theorem cod_dig {p:Nat} (hp:1≤p) (m x:Nat):∀n,n≤m→cod p n (dig p m x)=((x % p ^ n:Nat):Int)
 | 0,_=> by simp [cod,Nat.mod_one]
 | n + 1,h=> by
  simp only [cod];rw [cod_dig hp m x n (by omega)];unfold dig;rw [if_pos (by omega),Nat.pow_succ,Nat.mod_mul,Int.natCast_add,Int.natCast_mul,Int.mul_comm (((x / p ^ n % p:Nat)):Int)]
theorem cod_dig' {p m x:Nat} (hp:1≤p) (h:x < p ^ m):cod p m (dig p m x)=x:=by
 rw [cod_dig hp m x m (Nat.le_refl _),Nat.mod_eq_of_lt h]
theorem dig_cod {p:Nat} (hp:1≤p) {v:Vc} (h:∀j,0≤v j∧v j < p):∀n j,j < n→(cod p n v).toNat / p ^ j % p=(v j).toNat
 | 0,j,hj=> by omega
 | n + 1,j,hj=> by
  obtain ⟨h1,h2⟩:=cod_rng h n;obtain ⟨h3,h4⟩:=h n;have ih:=dig_cod hp h n;simp only [cod];obtain ⟨a,ha⟩:=Int.eq_ofNat_of_zero_le h1;obtain ⟨b,hb⟩:=Int.eq_ofNat_of_zero_le h3;have hab:(cod p n v + v n * ((p ^ n:Nat):Int)).toNat=a + b * p ^ n:=by rw [ha,hb,←Int.natCast_mul,←Int.natCast_add,Int.toNat_natCast]
  have hlt:a < p ^ n:=by omega
  have hpp:1≤p ^ n:=Nat.pow_pos hp;rw [hab];rcases Nat.eq_or_lt_of_le (show j≤n by omega) with e | e
  ·subst e;rw [hb,Nat.add_mul_div_right _ _ hpp,Nat.div_eq_of_lt hlt,Nat.zero_add,Nat.mod_eq_of_lt (by omega)];rfl
  ·rw [←ih j e,ha,Int.toNat_natCast];obtain ⟨c,rfl⟩:∃c,n=j + (c + 1):=⟨n - j - 1,by omega⟩;rw [show b * p ^ (j + (c + 1))=b * p ^ c * p * p ^ j by rw [Nat.pow_add,Nat.pow_succ];ac_rfl,Nat.add_mul_div_right _ _ (Nat.pow_pos hp),Nat.add_mul_mod_self_right]
theorem dig_cod' {p m:Nat} {v:Vc} (hp:1≤p) (h:IsD p m v):dig p m (cod p m v).toNat=v:=by
 funext j;unfold dig;split
 ·rw [dig_cod hp h.2 m j ‹_›];have:=(h.2 j).1;omega
 ·exact (h.1 j (by omega)).symm
end
section
def rep (p m:Nat) (v:Vc):Nat:=(cod p m (fun j=> v j % p)).toNat
section
variable {p m:Nat}
theorem red_isD (hp:1≤p) {v:Vc} (h:Sup m v):IsD p m (fun j=> v j % p):=
 ⟨fun j hj=> by show v j % p=0;rw [h j hj];simp,fun j=> ⟨Int.emod_nonneg _ (by omega),Int.emod_lt_of_pos _ (by omega)⟩⟩
theorem rep_lt (hp:1≤p) (v:Vc):rep p m v < p ^ m:=by
 have h:∀j,0≤v j % (p:Int)∧v j % (p:Int) < p:=fun j=> ⟨Int.emod_nonneg _ (by omega),Int.emod_lt_of_pos _ (by omega)⟩;have:=cod_rng (v:=fun j=> v j % (p:Int)) h m;unfold rep;omega
theorem dig_rep (hp:1≤p) {v:Vc} (h:Sup m v):dig p m (rep p m v)=fun j=> v j % p:=dig_cod' hp (red_isD hp h)
theorem dig_rep_eqm (hp:1≤p) {v:Vc} (h:Sup m v):EqM p (dig p m (rep p m v)) v:=by
 rw [dig_rep hp h];exact fun j=> Int.emod_emod_of_dvd _ (Int.dvd_refl _)
theorem rep_congr {v w:Vc} (h:EqM p v w):rep p m v=rep p m w:=by
 unfold rep
 congr 1
 exact cod_congr m fun j _=> h j
theorem rep_dig (hp:1≤p) {x:Nat} (h:x < p ^ m):rep p m (dig p m x)=x:=by
 unfold rep;rw [cod_congr (w:=dig p m x) m fun j _=> Int.emod_eq_of_lt (dig_rng hp m x j).1 (dig_rng hp m x j).2,cod_dig' hp h];rfl
def kadd (p m x y:Nat):Nat:=rep p m (fun j=> dig p m x j + dig p m y j)
def kneg (p m x:Nat):Nat:=rep p m (fun j=> - dig p m x j)
def kmul (p m:Nat) (low:Vc) (x y:Nat):Nat:=rep p m (mulV m low (dig p m x) (dig p m y))
variable {low:Vc}
theorem kadd_lt (hp:1≤p) (x y:Nat):kadd p m x y < p ^ m:=rep_lt hp _
theorem kneg_lt (hp:1≤p) (x:Nat):kneg p m x < p ^ m:=rep_lt hp _
theorem kmul_lt (hp:1≤p) (x y:Nat):kmul p m low x y < p ^ m:=rep_lt hp _
theorem add_sup {v w:Vc} (hv:Sup m v) (hw:Sup m w):Sup m (fun j=> v j + w j):=fun j hj=> by show v j + w j=0;rw [hv j hj,hw j hj];rfl
theorem neg_sup {v:Vc} (hv:Sup m v):Sup m (fun j=> - v j):=fun j hj=> by show - v j=0;rw [hv j hj];rfl
theorem EqM.add {p:Int} {v v' w w':Vc} (h:EqM p v v') (k:EqM p w w'):EqM p (fun j=> v j + w j) (fun j=> v' j + w' j):=fun j=> eqm_add (h j) (k j)
theorem kadd_comm (x y:Nat):kadd p m x y=kadd p m y x:=by
 unfold kadd;congr 1;funext j;exact Int.add_comm _ _
theorem kadd_assoc (hp:1≤p) (x y z:Nat):kadd p m (kadd p m x y) z=kadd p m x (kadd p m y z):=by
 unfold kadd;refine rep_congr ?_;refine ((dig_rep_eqm hp (add_sup (dig_sup p m x) (dig_sup p m y))).add (EqM.refl _ _)).trans ?_;refine EqM.symm (((EqM.refl _ _).add (dig_rep_eqm hp (add_sup (dig_sup p m y) (dig_sup p m z)))).trans ?_);intro j;show (_ + (_ + _)) % (p:Int)=(_ + _ + _) % (p:Int)
 rw [Int.add_assoc]
theorem dig_zero (p m:Nat):dig p m 0=fun _=> 0:=by
 funext j;unfold dig;split <;> simp
theorem kadd_zero (hp:1≤p) {x:Nat} (h:x < p ^ m):kadd p m x 0=x:=by
 unfold kadd;rw [dig_zero];simp only [Int.add_zero];exact rep_dig hp h
theorem zero_kadd (hp:1≤p) {x:Nat} (h:x < p ^ m):kadd p m 0 x=x:=by rw [kadd_comm,kadd_zero hp h]
theorem rep_zero (hp:1≤p):rep p m (fun _=> 0)=0:=by
 have:=rep_dig (m:=m) hp (x:=0) (Nat.pow_pos hp)
 rwa [dig_zero] at this
theorem kadd_kneg (hp:1≤p) (x:Nat):kadd p m x (kneg p m x)=0:=by
 unfold kadd kneg;refine (rep_congr ?_).trans (rep_zero hp);refine ((EqM.refl _ _).add (dig_rep_eqm hp (neg_sup (dig_sup p m x)))).trans ?_;intro j;show (_ + - _) % (p:Int)=_
 rw [Int.add_right_neg]
theorem kmul_comm (x y:Nat):kmul p m low x y=kmul p m low y x:=by
 unfold kmul;rw [mulV_comm (dig_sup p m x) (dig_sup p m y)]
theorem kmul_assoc (hp:1≤p) (x y z:Nat):kmul p m low (kmul p m low x y) z=kmul p m low x (kmul p m low y z):=by
 unfold kmul;refine rep_congr ?_;refine ((dig_rep_eqm hp (mulV_sup (dig_sup p m x))).mulV (EqM.refl _ _)).trans ?_;rw [mulV_assoc (dig_sup p m x) (dig_sup p m y) (dig_sup p m z)];exact (EqM.refl _ _).mulV (dig_rep_eqm hp (mulV_sup (dig_sup p m y))).symm
theorem dig_one (hp:2≤p) (hm:1≤m):dig p m 1=one_:=by
 funext j;unfold dig one_;rcases j with _ | j
 ·rw [if_pos (show 0 < m by omega),if_pos rfl,Nat.pow_zero,Nat.div_one,Nat.mod_eq_of_lt (by omega)];rfl
 ·rw [if_neg (show ¬j + 1=0 by omega)];split
  ·have:1 < p ^ (j + 1):=Nat.one_lt_pow (by omega) (by omega);rw [Nat.div_eq_of_lt this];simp
  ·rfl
theorem one_lt_q (hp:2≤p) (hm:1≤m):1 < p ^ m:=Nat.one_lt_pow (by omega) (by omega)
theorem kmul_one (hp:2≤p) (hm:1≤m) {x:Nat} (h:x < p ^ m):kmul p m low x 1=x:=by
 unfold kmul;rw [dig_one hp hm,mulV_one (dig_sup p m x) hm,rep_dig (by omega) h]
theorem one_kmul (hp:2≤p) (hm:1≤m) {x:Nat} (h:x < p ^ m):kmul p m low 1 x=x:=by rw [kmul_comm,kmul_one hp hm h]
theorem kmul_zero (hp:1≤p) (x:Nat):kmul p m low 0 x=0:=by
 unfold kmul mulV;rw [dig_zero,(ap_lin m _).zero,rep_zero hp]
theorem kmul_kadd (hp:1≤p) (x y z:Nat):kmul p m low (kadd p m x y) z=kadd p m (kmul p m low x z) (kmul p m low y z):=by
 unfold kmul kadd;refine rep_congr ?_;refine ((dig_rep_eqm hp (add_sup (dig_sup p m x) (dig_sup p m y))).mulV (EqM.refl _ _)).trans ?_;rw [mulV_add];exact ((dig_rep_eqm hp (mulV_sup (dig_sup p m x))).add (dig_rep_eqm hp (mulV_sup (dig_sup p m y)))).symm
def kpw (p m:Nat) (low:Vc) (x:Nat):Nat→Nat
 | 0=> 1
 | k + 1=> kmul p m low (kpw p m low x k) x
theorem kpw_lt (hp:2≤p) (hm:1≤m) (x:Nat):∀k,kpw p m low x k < p ^ m
 | 0=> one_lt_q hp hm
 | k + 1=> kmul_lt (by omega) _ _
theorem kpw_add (hp:2≤p) (hm:1≤m) (x i:Nat):∀k,kpw p m low x (i + k)=kmul p m low (kpw p m low x i) (kpw p m low x k)
 | 0=> by rw [Nat.add_zero,kpw,kmul_one hp hm (kpw_lt hp hm x i)]
 | k + 1=> by rw [←Nat.add_assoc,kpw,kpw_add hp hm x i k,kmul_assoc (by omega)];rfl
def GenOK (p m:Nat) (low:Vc) (x:Nat):Prop:=kpw p m low x (p ^ m - 1)=1∧∀k,1≤k→k < p ^ m - 1→kpw p m low x k≠1
theorem GenOK.inj (hp:2≤p) (hm:1≤m) {x:Nat} (h:GenOK p m low x) {i j:Nat} (hj:j < p ^ m - 1) (hij:i < j):kpw p m low x i≠kpw p m low x j:=fun e=> by
 have h1:kpw p m low x (i + (p ^ m - 1 - i))=kpw p m low x (j + (p ^ m - 1 - i)):=by rw [kpw_add hp hm,kpw_add hp hm,e]
 rw [show i + (p ^ m - 1 - i)=p ^ m - 1 by omega,show j + (p ^ m - 1 - i)=(j - i) + (p ^ m - 1) by omega,kpw_add hp hm,h.1,kmul_one hp hm (kpw_lt hp hm x _)] at h1;exact h.2 (j - i) (by omega) (by omega) h1.symm
theorem GenOK.ne (hp:2≤p) (hm:1≤m) {x:Nat} (h:GenOK p m low x) {i:Nat} (hi:i≤p ^ m - 1):kpw p m low x i≠0:=fun e=> by
 have h1:=kpw_add (low:=low) hp hm x i (p ^ m - 1 - i);rw [e,kmul_zero (by omega),show i + (p ^ m - 1 - i)=p ^ m - 1 by omega,h.1] at h1;omega
theorem pigeon:∀(n:Nat) (L:List Nat),L.Nodup→L.length=n→(∀x∈L,1≤x∧x≤n)→∀x,1≤x→x≤n→x∈L:=by
 intro n
 induction n with
 | zero=> intro L _ _ _ x h1 h2;omega
 | succ n ih=>
  intro L hd hl hr x h1 h2;by_cases hm:n + 1∈L
  ·have hd':=hd.erase (n + 1);have hmem:∀y,y∈L.erase (n + 1)↔y≠n + 1∧y∈L:=fun y=> hd.mem_erase_iff;by_cases hx:x=n + 1
   ·exact hx ▸ hm
   ·have:=ih (L.erase (n + 1)) hd' (by rw [List.length_erase_of_mem hm,hl];rfl) (fun y hy=> by
     obtain ⟨a,b⟩:=(hmem y).1 hy;have:=hr y b;omega) x h1 (by omega)
    exact ((hmem x).1 this).2
  ·exfalso;rcases L with _ | ⟨a,L⟩
   ·simp at hl
   ·have hd2:=List.nodup_cons.1 hd;have hr':∀y∈a :: L,1≤y∧y≤n:=fun y hy=> by
     have:=hr y hy;have:y≠n + 1:=fun e=> hm (e ▸ hy);omega
    have ha:=hr' a (List.mem_cons_self ..);exact hd2.1 (ih L hd2.2 (by simpa using hl) (fun y hy=> hr' y (List.mem_cons_of_mem _ hy)) a ha.1 ha.2)
theorem nodup_range_map {f:Nat→Nat} {n:Nat} (h:∀i j,j < n→i < j→f i≠f j):((List.range n).map f).Nodup:=by
 rw [List.nodup_iff_pairwise_ne,List.pairwise_map];refine List.Pairwise.imp_of_mem ?_ List.pairwise_lt_range;intro a b ha hb hab;exact h a b (List.mem_range.1 hb) hab
theorem GenOK.all (hp:2≤p) (hm:1≤m) {x:Nat} (h:GenOK p m low x) {y:Nat} (h1:1≤y) (h2:y < p ^ m):∃k,k < p ^ m - 1∧kpw p m low x k=y:=by
 have:=pigeon (p ^ m - 1) ((List.range (p ^ m - 1)).map (kpw p m low x)) (nodup_range_map fun i j hj hij=> h.inj hp hm hj hij) (by simp) (fun z hz=> by
  obtain ⟨k,hk,rfl⟩:=List.mem_map.1 hz;have:=h.ne hp hm (i:=k) (by have:=List.mem_range.1 hk;omega);have:=kpw_lt (low:=low) hp hm x k;omega) y h1 (by omega)
 obtain ⟨k,hk,e⟩:=List.mem_map.1 this;exact ⟨k,List.mem_range.1 hk,e⟩
def IsF (p m:Nat) (low:Vc):Prop:=∃x,1≤x∧x < p ^ m∧GenOK p m low x
theorem GenOK.mod (hp:2≤p) (hm:1≤m) {x:Nat} (h:GenOK p m low x) (k:Nat):kpw p m low x (k % (p ^ m - 1))=kpw p m low x k:=by
 have key:∀c r,kpw p m low x (c * (p ^ m - 1) + r)=kpw p m low x r:=by
  intro c
  induction c with
  | zero=> intro r;simp
  | succ c ih=> intro r;rw [Nat.succ_mul,Nat.add_assoc,ih,kpw_add hp hm,h.1,one_kmul hp hm (kpw_lt hp hm x r)]
 have:=key (k / (p ^ m - 1)) (k % (p ^ m - 1));rw [Nat.mul_comm,Nat.div_add_mod] at this;exact this.symm
theorem IsF.inv (hp:2≤p) (hm:1≤m) (h:IsF p m low) {y:Nat} (h1:1≤y) (h2:y < p ^ m):∃z,1≤z∧z < p ^ m∧kmul p m low y z=1:=by
 obtain ⟨x,_,_,hx⟩:=h;obtain ⟨k,hk,rfl⟩:=hx.all hp hm h1 h2;refine ⟨kpw p m low x (p ^ m - 1 - k),?_,kpw_lt hp hm x _,?_⟩
 ·have:=hx.ne hp hm (i:=p ^ m - 1 - k) (by omega);omega
 ·rw [←kpw_add hp hm,show k + (p ^ m - 1 - k)=p ^ m - 1 by omega,hx.1]
theorem IsF.cancel (hp:2≤p) (hm:1≤m) (h:IsF p m low) {y a b:Nat} (h1:1≤y) (h2:y < p ^ m) (ha:a < p ^ m) (hb:b < p ^ m) (e:kmul p m low a y=kmul p m low b y):a=b:=by
 obtain ⟨z,_,_,hz⟩:=h.inv hp hm h1 h2;have:kmul p m low (kmul p m low a y) z=kmul p m low (kmul p m low b y) z:=by rw [e]
 rwa [kmul_assoc (by omega),kmul_assoc (by omega),hz,kmul_one hp hm ha,kmul_one hp hm hb] at this
theorem IsF.ne_zero (hp:2≤p) (hm:1≤m) (h:IsF p m low) {a b:Nat} (ha:1≤a) (ha':a < p ^ m) (hb:1≤b) (hb':b < p ^ m):1≤kmul p m low a b:=by
 rcases Nat.eq_zero_or_pos (kmul p m low a b) with e | e
 ·have:=h.cancel hp hm hb hb' ha' (Nat.pow_pos (by omega)) (e.trans (kmul_zero (by omega) b).symm);omega
 ·exact e
theorem GenOK.inv (hp:2≤p) (hm:1≤m) {x:Nat} (h:GenOK p m low x) {k:Nat} (hk:k < p ^ m - 1):kmul p m low (kpw p m low x k) (kpw p m low x ((p ^ m - 1 - k) % (p ^ m - 1)))=1:=by
 rw [h.mod hp hm,←kpw_add hp hm,show k + (p ^ m - 1 - k)=p ^ m - 1 by omega,h.1]
def PwOK (p m:Nat) (low:Vc) (x k:Nat):Prop:=∀i,i < k→kpw p m low x i≠0∧∀j,j < i→kpw p m low x j≠kpw p m low x i
def PwEnd (p m:Nat) (low:Vc) (x L:Nat):Prop:=1≤L∧L≤p ^ m - 1∧PwOK p m low x L∧(kpw p m low x L=0∨∃i,i < L∧kpw p m low x i=kpw p m low x L)
theorem PwOK.succ {x k:Nat} (h:PwOK p m low x k) (h0:kpw p m low x k≠0) (hn:∀j,j < k→kpw p m low x j≠kpw p m low x k):PwOK p m low x (k + 1):=fun i hi=> by
 rcases Nat.eq_or_lt_of_le (show i≤k by omega) with e | e
 ·subst e;exact ⟨h0,hn⟩
 ·exact h i e
theorem PwOK.one (hp:2≤p) (hm:1≤m) (x:Nat):PwOK p m low x 1:=fun i hi=> by
 obtain rfl:i=0:=by omega
 exact ⟨by simp [kpw],fun j hj=> by omega⟩
theorem PwOK.len (hp:2≤p) (hm:1≤m) {x k:Nat} (h:PwOK p m low x k):k≤p ^ m - 1:=by
 rcases Nat.lt_or_ge (p ^ m - 1) k with hk | hk
 ·exfalso;have h1:PwOK p m low x (p ^ m - 1):=fun i hi=> h i (by omega);have:=pigeon (p ^ m - 1) ((List.range (p ^ m - 1)).map (kpw p m low x)) (nodup_range_map fun i j hj hij=> (h1 j hj).2 i hij) (by simp) (fun z hz=> by
   obtain ⟨i,hi,rfl⟩:=List.mem_map.1 hz;have:=(h1 i (List.mem_range.1 hi)).1;have:=kpw_lt (low:=low) hp hm x i;omega) (kpw p m low x (p ^ m - 1)) (by have:=(h _ hk).1;omega) (by have:=kpw_lt (low:=low) hp hm x (p ^ m - 1);omega)
  obtain ⟨i,hi,e⟩:=List.mem_map.1 this;exact (h _ hk).2 i (List.mem_range.1 hi) e
 ·exact hk
theorem PwEnd.gen (hp:2≤p) (hm:1≤m) {x L:Nat} (h:PwEnd p m low x L):GenOK p m low x↔L=p ^ m - 1∧kpw p m low x (p ^ m - 1)=1:=by
 obtain ⟨h1,h2,h3,h4⟩:=h;constructor
 ·intro hg;refine ⟨?_,hg.1⟩;rcases Nat.eq_or_lt_of_le h2 with e | e
  ·exact e
  ·exfalso;rcases h4 with h4 | ⟨i,hi,h4⟩
   ·exact hg.ne hp hm (by omega) h4
   ·exact hg.inj hp hm e hi h4
 ·rintro ⟨rfl,h5⟩;refine ⟨h5,fun k k1 k2 e=> ?_⟩;exact (h3 k k2).2 0 (by omega) (by rw [e];rfl)
end
end
end Go.Proofs.YtgdmlmhpineibaaGreat
