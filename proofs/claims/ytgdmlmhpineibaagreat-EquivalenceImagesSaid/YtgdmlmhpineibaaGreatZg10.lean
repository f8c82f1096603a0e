/- What the kernel's tables say. -/
import Derived.Test.YtgdmlmhpineibaaGreatZg02
import Derived.Test.YtgdmlmhpineibaaGreatZg03
import Derived.Test.YtgdmlmhpineibaaGreatZg09
namespace Go.Proofs.YtgdmlmhpineibaaGreat
set_option linter.unusedVariables false
set_option linter.unusedSimpArgs false
set_option maxRecDepth 100000
section
theorem tabC_get {p m:Nat} {b1:List Bool} {D:List (List Bool)}:∀(T:List Nat) (s i t:Nat),tabC p m b1 D T s=true→T[i]?=some t→entC p m b1 D t (dgC p m (s + i))=true
 | [],s,i,t,_,h=> by simp at h
 | x :: T,s,i,t,h,hi=> by
  have h1:(match entC p m b1 D x (dgC p m s) with | true=> tabC p m b1 D T (Nat.succ s) | false=> false)=true:=h
  cases he:entC p m b1 D x (dgC p m s) with
  | false=> rw [he] at h1;cases h1
  | true=>
   rw [he] at h1
   cases i with
   | zero=> simp at hi;subst hi;exact he
   | succ i=>
    have:=tabC_get T (s + 1) i t h1 (by simpa using hi)
    rwa [show s + 1 + i=s + (i + 1) by omega] at this
theorem allB_mem {f:List Bool→Bool}:∀(l:List (List Bool)),allB f l=true→∀x∈l,f x=true
 | [],_,x,h=> by cases h
 | y :: l,h,x,hx=> by
  have h1:(match f y with | true=> allB f l | false=> false)=true:=h
  cases hf:f y with
  | false=> rw [hf] at h1;cases h1
  | true=>
   rw [hf] at h1;rcases List.mem_cons.1 hx with rfl | hx
   ·exact hf
   ·exact allB_mem l h1 x hx
theorem dgC_zero (p:Nat):∀m,dgC p m 0=List.replicate m 0
 | 0=> rfl
 | m + 1=> by
  show Nat.mod 0 p :: dgC p m (Nat.div 0 p)=_
  have h1:Nat.mod 0 p=0:=Nat.zero_mod p;have h2:Nat.div 0 p=0:=Nat.zero_div p;rw [h1,h2,dgC_zero p m];rfl
theorem gnC_sound {p m g:Nat} {b1:List Bool} {D:List (List Bool)} {low:List Nat} (hp:2≤p) (hm:1≤m) (hl:low.length=m) (hg:g < p ^ m) (h:gnC p m g b1 D low=true):
  kpw p m (lf low) g (ofBits 0 b1)=1∧∀b∈D,kpw p m (lf low) g (ofBits 0 b)≠1:=by
 unfold gnC at h;rw [dgC_zero] at h;have key:=fun bs=> pwC_eq hp hm hl g hg bs 0
 cases h1:Nat.beq (pwC p m low (List.replicate m 0) g b1 1) 1 with
 | false=> rw [h1] at h;cases h
 | true=>
  rw [h1] at h;refine ⟨by rw [←key];exact Nat.eq_of_beq_eq_true h1,fun b hb e=> ?_⟩;have h2:=allB_mem D h b hb;rw [←key] at e;have e':pwC p m low (List.replicate m 0) g b 1=1:=e;rw [e'] at h2;simp at h2
theorem codC_zero {p:Nat} (hp:1≤p):∀l:List Nat,codC p l=0→∀j,l.getD j 0=0
 | [],_,j=> by simp
 | x :: l,h,j=> by
  have h1:x + p * codC p l=0:=h;have h2:codC p l=0:=by
   rcases Nat.eq_zero_or_pos (codC p l) with e | e
   ·exact e
   ·have:=Nat.mul_le_mul hp e;omega
  cases j with
  | zero=> simp;omega
  | succ j=> simpa using codC_zero hp l h2 j
theorem dvC_sound {p d u:Nat} {low:List Nat} (hp:2≤p) (hd:1≤d) (h:dvC p d u low=true):EqM p (ap d (dig p d u) (low.length + 1) (lf (low ++ [1])) one_) (fun _=> 0):=by
 unfold dvC at h;have h0:=codC_zero (show 1≤p by omega) _ (Nat.eq_of_beq_eq_true h);rw [dgC_zero] at h0;obtain ⟨h1,h2⟩:=mulC_hor (p:=p) (m:=d) (low:=dgC p d u) (a:=dgC p d 1) (by omega) hd (dgC_len p d u) (dgC_len p d 1) rfl (low ++ [1]);rw [lf_dgC,lf_dgC,dig_one hp hd] at h2;intro j;by_cases hj:j < d
 ·have:=h2 j hj;rw [h0 j,hor_ap,List.length_append] at this;rw [show low.length + 1=low.length + [1].length from rfl,←this];rfl
 ·have hs:Sup d one_:=fun i hi=> by unfold one_;rw [if_neg (by omega)]
  rw [ap_sup hs _ _ j (by omega)]
end
section
def bndC (p m q t:Nat):Bool:=
 if t % 2=0 then decide (1≤t / 2 % 8) && (decide (2 * (t / 2 % 8)≤m) && decide (t / 16 < p ^ (t / 2 % 8))) else decide (1≤t / 2) && decide (t / 2 < q)
def GenOrDiv (p m:Nat) (low:List Nat):Prop:=
 IsF p m (lf low)∨∃d u,1≤d∧2 * d≤m∧u < p ^ d∧EqM p (ap d (dig p d u) (m + 1) (lf (low ++ [1])) one_) (fun _=> 0)
theorem tab_sound {p m q:Nat} {b1:List Bool} {D:List (List Bool)} {T:List Nat} (hp:2≤p) (hm:1≤m) (hq:p ^ m=q) (hT:tabC p m b1 D T 0=true) (hl:T.length=q)
  (hb:∀t∈T,bndC p m q t=true) (ho:ofBits 0 b1=q - 1) (hC:∀e,e < q - 1→e ∣ q - 1→∃y∈D,e ∣ ofBits 0 y) (v:Nat) (hv:v < q):GenOrDiv p m (dgC p m v):=by
 obtain ⟨t,ht⟩:∃t,T[v]?=some t:=⟨_,List.getElem?_eq_getElem (by omega)⟩;have h1:=tabC_get T 0 v t hT ht;rw [Nat.zero_add] at h1;have h2:=hb t (List.mem_of_getElem? ht);unfold entC at h1;unfold bndC at h2;by_cases he:t % 2=0
 ·rw [if_pos he] at h2;have h3:Nat.beq (Nat.mod t 2) 0=true:=by
   show Nat.beq (t % 2) 0=true
   rw [he];rfl
  rw [h3] at h1;simp only [Bool.and_eq_true,decide_eq_true_eq] at h2;obtain ⟨a,b,c⟩:=h2;refine .inr ⟨t / 2 % 8,t / 16,a,b,c,?_⟩;have:=dvC_sound hp a h1
  rwa [dgC_len] at this
 ·rw [if_neg he] at h2;have h3:Nat.beq (Nat.mod t 2) 0=false:=by
   show Nat.beq (t % 2) 0=false
   cases h:Nat.beq (t % 2) 0 with
   | false=> rfl
   | true=> exact absurd (Nat.eq_of_beq_eq_true h) he
  rw [h3] at h1;simp only [Bool.and_eq_true,decide_eq_true_eq] at h2;obtain ⟨a,b⟩:=h2;have hgl:t / 2 < p ^ m:=by rw [hq];exact b
  obtain ⟨k1,k2⟩:=gnC_sound hp hm (dgC_len p m v) hgl h1;refine .inl ⟨t / 2,a,hgl,gen_of (D:=D.map (ofBits 0)) hp hm (by rw [hq,←ho];exact k1) (fun y hy=> ?_) (fun e h1 h2=> ?_)⟩
  ·obtain ⟨x,hx,rfl⟩:=List.mem_map.1 hy;exact k2 x hx
  ·rw [hq] at h1 h2;obtain ⟨y,hy,hd⟩:=hC e h1 h2;exact ⟨_,List.mem_map.2 ⟨y,hy,rfl⟩,hd⟩
theorem tab_one {p g:Nat} {b1:List Bool} {D:List (List Bool)} (hp:2≤p) (hg1:1≤g) (hg:g < p) (hT:gnC p 1 g b1 D (dgC p 1 0)=true) (ho:ofBits 0 b1=p - 1)
  (hC:∀e,e < p - 1→e ∣ p - 1→∃y∈D,e ∣ ofBits 0 y):GenOrDiv p 1 (dgC p 1 0):=by
 have hgl:g < p ^ 1:=by rw [Nat.pow_one];exact hg
 obtain ⟨k1,k2⟩:=gnC_sound hp (Nat.le_refl 1) (dgC_len p 1 0) hgl hT;refine .inl ⟨g,hg1,hgl,gen_of (D:=D.map (ofBits 0)) hp (Nat.le_refl 1) (by rw [Nat.pow_one,←ho];exact k1) (fun y hy=> ?_) (fun e h1 h2=> ?_)⟩
 ·obtain ⟨x,hx,rfl⟩:=List.mem_map.1 hy;exact k2 x hx
 ·rw [Nat.pow_one] at h1 h2;obtain ⟨y,hy,hd⟩:=hC e h1 h2;exact ⟨_,List.mem_map.2 ⟨y,hy,rfl⟩,hd⟩
end
section
theorem god_2_2 (v:Nat) (hv:v < 4):GenOrDiv 2 2 (dgC 2 2 v):=tab_sound (q:=4) (by omega) (by omega) (by decide +kernel) tab_2_2 (by decide +kernel) (by decide +kernel) (by decide +kernel) (by decide +kernel) v hv
theorem god_2_3 (v:Nat) (hv:v < 8):GenOrDiv 2 3 (dgC 2 3 v):=tab_sound (q:=8) (by omega) (by omega) (by decide +kernel) tab_2_3 (by decide +kernel) (by decide +kernel) (by decide +kernel) (by decide +kernel) v hv
theorem god_2_4 (v:Nat) (hv:v < 16):GenOrDiv 2 4 (dgC 2 4 v):=tab_sound (q:=16) (by omega) (by omega) (by decide +kernel) tab_2_4 (by decide +kernel) (by decide +kernel) (by decide +kernel) (by decide +kernel) v hv
theorem god_2_5 (v:Nat) (hv:v < 32):GenOrDiv 2 5 (dgC 2 5 v):=tab_sound (q:=32) (by omega) (by omega) (by decide +kernel) tab_2_5 (by decide +kernel) (by decide +kernel) (by decide +kernel) (by decide +kernel) v hv
theorem god_2_6 (v:Nat) (hv:v < 64):GenOrDiv 2 6 (dgC 2 6 v):=tab_sound (q:=64) (by omega) (by omega) (by decide +kernel) tab_2_6 (by decide +kernel) (by decide +kernel) (by decide +kernel) (by decide +kernel) v hv
theorem god_2_7 (v:Nat) (hv:v < 128):GenOrDiv 2 7 (dgC 2 7 v):=tab_sound (q:=128) (by omega) (by omega) (by decide +kernel) tab_2_7 (by decide +kernel) (by decide +kernel) (by decide +kernel) (by decide +kernel) v hv
theorem god_2_8 (v:Nat) (hv:v < 256):GenOrDiv 2 8 (dgC 2 8 v):=tab_sound (q:=256) (by omega) (by omega) (by decide +kernel) tab_2_8 (by decide +kernel) (by decide +kernel) (by decide +kernel) (by decide +kernel) v hv
theorem god_3_2 (v:Nat) (hv:v < 9):GenOrDiv 3 2 (dgC 3 2 v):=tab_sound (q:=9) (by omega) (by omega) (by decide +kernel) tab_3_2 (by decide +kernel) (by decide +kernel) (by decide +kernel) (by decide +kernel) v hv
theorem god_3_3 (v:Nat) (hv:v < 27):GenOrDiv 3 3 (dgC 3 3 v):=tab_sound (q:=27) (by omega) (by omega) (by decide +kernel) tab_3_3 (by decide +kernel) (by decide +kernel) (by decide +kernel) (by decide +kernel) v hv
theorem god_3_4 (v:Nat) (hv:v < 81):GenOrDiv 3 4 (dgC 3 4 v):=tab_sound (q:=81) (by omega) (by omega) (by decide +kernel) tab_3_4 (by decide +kernel) (by decide +kernel) (by decide +kernel) (by decide +kernel) v hv
theorem god_3_5 (v:Nat) (hv:v < 243):GenOrDiv 3 5 (dgC 3 5 v):=tab_sound (q:=243) (by omega) (by omega) (by decide +kernel) tab_3_5 (by decide +kernel) (by decide +kernel) (by decide +kernel) (by decide +kernel) v hv
theorem god_5_2 (v:Nat) (hv:v < 25):GenOrDiv 5 2 (dgC 5 2 v):=tab_sound (q:=25) (by omega) (by omega) (by decide +kernel) tab_5_2 (by decide +kernel) (by decide +kernel) (by decide +kernel) (by decide +kernel) v hv
theorem god_5_3 (v:Nat) (hv:v < 125):GenOrDiv 5 3 (dgC 5 3 v):=tab_sound (q:=125) (by omega) (by omega) (by decide +kernel) tab_5_3 (by decide +kernel) (by decide +kernel) (by decide +kernel) (by decide +kernel) v hv
theorem god_7_2 (v:Nat) (hv:v < 49):GenOrDiv 7 2 (dgC 7 2 v):=tab_sound (q:=49) (by omega) (by omega) (by decide +kernel) tab_7_2 (by decide +kernel) (by decide +kernel) (by decide +kernel) (by decide +kernel) v hv
theorem god_11_2 (v:Nat) (hv:v < 121):GenOrDiv 11 2 (dgC 11 2 v):=tab_sound (q:=121) (by omega) (by omega) (by decide +kernel) tab_11_2 (by decide +kernel) (by decide +kernel) (by decide +kernel) (by decide +kernel) v hv
theorem god_13_2 (v:Nat) (hv:v < 169):GenOrDiv 13 2 (dgC 13 2 v):=tab_sound (q:=169) (by omega) (by omega) (by decide +kernel) tab_13_2 (by decide +kernel) (by decide +kernel) (by decide +kernel) (by decide +kernel) v hv
theorem god_2_1 (v:Nat) (hv:v < 1):GenOrDiv 2 1 (dgC 2 1 v):=by
 obtain rfl:v=0:=by omega
 exact tab_one (b1:= [true]) (D:= []) (g:=1) (by omega) (by omega) (by omega) (by decide +kernel) (by decide +kernel) (by decide +kernel)
theorem god_3_1 (v:Nat) (hv:v < 1):GenOrDiv 3 1 (dgC 3 1 v):=by
 obtain rfl:v=0:=by omega
 exact tab_one (b1:= [true,false]) (D:= [[true]]) (g:=2) (by omega) (by omega) (by omega) (by decide +kernel) (by decide +kernel) (by decide +kernel)
theorem god_5_1 (v:Nat) (hv:v < 1):GenOrDiv 5 1 (dgC 5 1 v):=by
 obtain rfl:v=0:=by omega
 exact tab_one (b1:= [true,false,false]) (D:= [[true,false]]) (g:=2) (by omega) (by omega) (by omega) (by decide +kernel) (by decide +kernel) (by decide +kernel)
theorem god_7_1 (v:Nat) (hv:v < 1):GenOrDiv 7 1 (dgC 7 1 v):=by
 obtain rfl:v=0:=by omega
 exact tab_one (b1:= [true,true,false]) (D:= [[true,true], [true,false]]) (g:=3) (by omega) (by omega) (by omega) (by decide +kernel) (by decide +kernel) (by decide +kernel)
theorem god_11_1 (v:Nat) (hv:v < 1):GenOrDiv 11 1 (dgC 11 1 v):=by
 obtain rfl:v=0:=by omega
 exact tab_one (b1:= [true,false,true,false]) (D:= [[true,false,true], [true,false]]) (g:=2) (by omega) (by omega) (by omega) (by decide +kernel) (by decide +kernel) (by decide +kernel)
theorem god_13_1 (v:Nat) (hv:v < 1):GenOrDiv 13 1 (dgC 13 1 v):=by
 obtain rfl:v=0:=by omega
 exact tab_one (b1:= [true,true,false,false]) (D:= [[true,true,false], [true,false,false]]) (g:=2) (by omega) (by omega) (by omega) (by decide +kernel) (by decide +kernel) (by decide +kernel)
theorem god_17_1 (v:Nat) (hv:v < 1):GenOrDiv 17 1 (dgC 17 1 v):=by
 obtain rfl:v=0:=by omega
 exact tab_one (b1:= [true,false,false,false,false]) (D:= [[true,false,false,false]]) (g:=3) (by omega) (by omega) (by omega) (by decide +kernel) (by decide +kernel) (by decide +kernel)
theorem god_19_1 (v:Nat) (hv:v < 1):GenOrDiv 19 1 (dgC 19 1 v):=by
 obtain rfl:v=0:=by omega
 exact tab_one (b1:= [true,false,false,true,false]) (D:= [[true,false,false,true], [true,true,false]]) (g:=2) (by omega) (by omega) (by omega) (by decide +kernel) (by decide +kernel) (by decide +kernel)
theorem god_23_1 (v:Nat) (hv:v < 1):GenOrDiv 23 1 (dgC 23 1 v):=by
 obtain rfl:v=0:=by omega
 exact tab_one (b1:= [true,false,true,true,false]) (D:= [[true,false,true,true], [true,false]]) (g:=5) (by omega) (by omega) (by omega) (by decide +kernel) (by decide +kernel) (by decide +kernel)
theorem god_29_1 (v:Nat) (hv:v < 1):GenOrDiv 29 1 (dgC 29 1 v):=by
 obtain rfl:v=0:=by omega
 exact tab_one (b1:= [true,true,true,false,false]) (D:= [[true,true,true,false], [true,false,false]]) (g:=2) (by omega) (by omega) (by omega) (by decide +kernel) (by decide +kernel) (by decide +kernel)
theorem god_31_1 (v:Nat) (hv:v < 1):GenOrDiv 31 1 (dgC 31 1 v):=by
 obtain rfl:v=0:=by omega
 exact tab_one (b1:= [true,true,true,true,false]) (D:= [[true,true,true,true], [true,false,true,false], [true,true,false]]) (g:=3) (by omega) (by omega) (by omega) (by decide +kernel) (by decide +kernel) (by decide +kernel)
theorem god_37_1 (v:Nat) (hv:v < 1):GenOrDiv 37 1 (dgC 37 1 v):=by
 obtain rfl:v=0:=by omega
 exact tab_one (b1:= [true,false,false,true,false,false]) (D:= [[true,false,false,true,false], [true,true,false,false]]) (g:=2) (by omega) (by omega) (by omega) (by decide +kernel) (by decide +kernel) (by decide +kernel)
theorem god_41_1 (v:Nat) (hv:v < 1):GenOrDiv 41 1 (dgC 41 1 v):=by
 obtain rfl:v=0:=by omega
 exact tab_one (b1:= [true,false,true,false,false,false]) (D:= [[true,false,true,false,false], [true,false,false,false]]) (g:=6) (by omega) (by omega) (by omega) (by decide +kernel) (by decide +kernel) (by decide +kernel)
theorem god_43_1 (v:Nat) (hv:v < 1):GenOrDiv 43 1 (dgC 43 1 v):=by
 obtain rfl:v=0:=by omega
 exact tab_one (b1:= [true,false,true,false,true,false]) (D:= [[true,false,true,false,true], [true,true,true,false], [true,true,false]]) (g:=3) (by omega) (by omega) (by omega) (by decide +kernel) (by decide +kernel) (by decide +kernel)
theorem god_47_1 (v:Nat) (hv:v < 1):GenOrDiv 47 1 (dgC 47 1 v):=by
 obtain rfl:v=0:=by omega
 exact tab_one (b1:= [true,false,true,true,true,false]) (D:= [[true,false,true,true,true], [true,false]]) (g:=5) (by omega) (by omega) (by omega) (by decide +kernel) (by decide +kernel) (by decide +kernel)
theorem god_53_1 (v:Nat) (hv:v < 1):GenOrDiv 53 1 (dgC 53 1 v):=by
 obtain rfl:v=0:=by omega
 exact tab_one (b1:= [true,true,false,true,false,false]) (D:= [[true,true,false,true,false], [true,false,false]]) (g:=2) (by omega) (by omega) (by omega) (by decide +kernel) (by decide +kernel) (by decide +kernel)
theorem god_59_1 (v:Nat) (hv:v < 1):GenOrDiv 59 1 (dgC 59 1 v):=by
 obtain rfl:v=0:=by omega
 exact tab_one (b1:= [true,true,true,false,true,false]) (D:= [[true,true,true,false,true], [true,false]]) (g:=2) (by omega) (by omega) (by omega) (by decide +kernel) (by decide +kernel) (by decide +kernel)
theorem god_61_1 (v:Nat) (hv:v < 1):GenOrDiv 61 1 (dgC 61 1 v):=by
 obtain rfl:v=0:=by omega
 exact tab_one (b1:= [true,true,true,true,false,false]) (D:= [[true,true,true,true,false], [true,false,true,false,false], [true,true,false,false]]) (g:=2) (by omega) (by omega) (by omega) (by decide +kernel) (by decide +kernel) (by decide +kernel)
theorem god_67_1 (v:Nat) (hv:v < 1):GenOrDiv 67 1 (dgC 67 1 v):=by
 obtain rfl:v=0:=by omega
 exact tab_one (b1:= [true,false,false,false,false,true,false]) (D:= [[true,false,false,false,false,true], [true,false,true,true,false], [true,true,false]]) (g:=2) (by omega) (by omega) (by omega) (by decide +kernel) (by decide +kernel) (by decide +kernel)
theorem god_71_1 (v:Nat) (hv:v < 1):GenOrDiv 71 1 (dgC 71 1 v):=by
 obtain rfl:v=0:=by omega
 exact tab_one (b1:= [true,false,false,false,true,true,false]) (D:= [[true,false,false,false,true,true], [true,true,true,false], [true,false,true,false]]) (g:=7) (by omega) (by omega) (by omega) (by decide +kernel) (by decide +kernel) (by decide +kernel)
theorem god_73_1 (v:Nat) (hv:v < 1):GenOrDiv 73 1 (dgC 73 1 v):=by
 obtain rfl:v=0:=by omega
 exact tab_one (b1:= [true,false,false,true,false,false,false]) (D:= [[true,false,false,true,false,false], [true,true,false,false,false]]) (g:=5) (by omega) (by omega) (by omega) (by decide +kernel) (by decide +kernel) (by decide +kernel)
theorem god_79_1 (v:Nat) (hv:v < 1):GenOrDiv 79 1 (dgC 79 1 v):=by
 obtain rfl:v=0:=by omega
 exact tab_one (b1:= [true,false,false,true,true,true,false]) (D:= [[true,false,false,true,true,true], [true,true,false,true,false], [true,true,false]]) (g:=3) (by omega) (by omega) (by omega) (by decide +kernel) (by decide +kernel) (by decide +kernel)
theorem god_83_1 (v:Nat) (hv:v < 1):GenOrDiv 83 1 (dgC 83 1 v):=by
 obtain rfl:v=0:=by omega
 exact tab_one (b1:= [true,false,true,false,false,true,false]) (D:= [[true,false,true,false,false,true], [true,false]]) (g:=2) (by omega) (by omega) (by omega) (by decide +kernel) (by decide +kernel) (by decide +kernel)
theorem god_89_1 (v:Nat) (hv:v < 1):GenOrDiv 89 1 (dgC 89 1 v):=by
 obtain rfl:v=0:=by omega
 exact tab_one (b1:= [true,false,true,true,false,false,false]) (D:= [[true,false,true,true,false,false], [true,false,false,false]]) (g:=3) (by omega) (by omega) (by omega) (by decide +kernel) (by decide +kernel) (by decide +kernel)
theorem god_97_1 (v:Nat) (hv:v < 1):GenOrDiv 97 1 (dgC 97 1 v):=by
 obtain rfl:v=0:=by omega
 exact tab_one (b1:= [true,true,false,false,false,false,false]) (D:= [[true,true,false,false,false,false], [true,false,false,false,false,false]]) (g:=5) (by omega) (by omega) (by omega) (by decide +kernel) (by decide +kernel) (by decide +kernel)
theorem god_101_1 (v:Nat) (hv:v < 1):GenOrDiv 101 1 (dgC 101 1 v):=by
 obtain rfl:v=0:=by omega
 exact tab_one (b1:= [true,true,false,false,true,false,false]) (D:= [[true,true,false,false,true,false], [true,false,true,false,false]]) (g:=2) (by omega) (by omega) (by omega) (by decide +kernel) (by decide +kernel) (by decide +kernel)
theorem god_103_1 (v:Nat) (hv:v < 1):GenOrDiv 103 1 (dgC 103 1 v):=by
 obtain rfl:v=0:=by omega
 exact tab_one (b1:= [true,true,false,false,true,true,false]) (D:= [[true,true,false,false,true,true], [true,false,false,false,true,false], [true,true,false]]) (g:=5) (by omega) (by omega) (by omega) (by decide +kernel) (by decide +kernel) (by decide +kernel)
theorem god_107_1 (v:Nat) (hv:v < 1):GenOrDiv 107 1 (dgC 107 1 v):=by
 obtain rfl:v=0:=by omega
 exact tab_one (b1:= [true,true,false,true,false,true,false]) (D:= [[true,true,false,true,false,true], [true,false]]) (g:=2) (by omega) (by omega) (by omega) (by decide +kernel) (by decide +kernel) (by decide +kernel)
theorem god_109_1 (v:Nat) (hv:v < 1):GenOrDiv 109 1 (dgC 109 1 v):=by
 obtain rfl:v=0:=by omega
 exact tab_one (b1:= [true,true,false,true,true,false,false]) (D:= [[true,true,false,true,true,false], [true,false,false,true,false,false]]) (g:=6) (by omega) (by omega) (by omega) (by decide +kernel) (by decide +kernel) (by decide +kernel)
theorem god_113_1 (v:Nat) (hv:v < 1):GenOrDiv 113 1 (dgC 113 1 v):=by
 obtain rfl:v=0:=by omega
 exact tab_one (b1:= [true,true,true,false,false,false,false]) (D:= [[true,true,true,false,false,false], [true,false,false,false,false]]) (g:=3) (by omega) (by omega) (by omega) (by decide +kernel) (by decide +kernel) (by decide +kernel)
theorem god_127_1 (v:Nat) (hv:v < 1):GenOrDiv 127 1 (dgC 127 1 v):=by
 obtain rfl:v=0:=by omega
 exact tab_one (b1:= [true,true,true,true,true,true,false]) (D:= [[true,true,true,true,true,true], [true,false,true,false,true,false], [true,false,false,true,false]]) (g:=3) (by omega) (by omega) (by omega) (by decide +kernel) (by decide +kernel) (by decide +kernel)
theorem god_131_1 (v:Nat) (hv:v < 1):GenOrDiv 131 1 (dgC 131 1 v):=by
 obtain rfl:v=0:=by omega
 exact tab_one (b1:= [true,false,false,false,false,false,true,false]) (D:= [[true,false,false,false,false,false,true], [true,true,false,true,false], [true,false,true,false]]) (g:=2) (by omega) (by omega) (by omega) (by decide +kernel) (by decide +kernel) (by decide +kernel)
theorem god_137_1 (v:Nat) (hv:v < 1):GenOrDiv 137 1 (dgC 137 1 v):=by
 obtain rfl:v=0:=by omega
 exact tab_one (b1:= [true,false,false,false,true,false,false,false]) (D:= [[true,false,false,false,true,false,false], [true,false,false,false]]) (g:=3) (by omega) (by omega) (by omega) (by decide +kernel) (by decide +kernel) (by decide +kernel)
theorem god_139_1 (v:Nat) (hv:v < 1):GenOrDiv 139 1 (dgC 139 1 v):=by
 obtain rfl:v=0:=by omega
 exact tab_one (b1:= [true,false,false,false,true,false,true,false]) (D:= [[true,false,false,false,true,false,true], [true,false,true,true,true,false], [true,true,false]]) (g:=2) (by omega) (by omega) (by omega) (by decide +kernel) (by decide +kernel) (by decide +kernel)
theorem god_149_1 (v:Nat) (hv:v < 1):GenOrDiv 149 1 (dgC 149 1 v):=by
 obtain rfl:v=0:=by omega
 exact tab_one (b1:= [true,false,false,true,false,true,false,false]) (D:= [[true,false,false,true,false,true,false], [true,false,false]]) (g:=2) (by omega) (by omega) (by omega) (by decide +kernel) (by decide +kernel) (by decide +kernel)
theorem god_151_1 (v:Nat) (hv:v < 1):GenOrDiv 151 1 (dgC 151 1 v):=by
 obtain rfl:v=0:=by omega
 exact tab_one (b1:= [true,false,false,true,false,true,true,false]) (D:= [[true,false,false,true,false,true,true], [true,true,false,false,true,false], [true,true,true,true,false]]) (g:=6) (by omega) (by omega) (by omega) (by decide +kernel) (by decide +kernel) (by decide +kernel)
theorem god_157_1 (v:Nat) (hv:v < 1):GenOrDiv 157 1 (dgC 157 1 v):=by
 obtain rfl:v=0:=by omega
 exact tab_one (b1:= [true,false,false,true,true,true,false,false]) (D:= [[true,false,false,true,true,true,false], [true,true,false,true,false,false], [true,true,false,false]]) (g:=5) (by omega) (by omega) (by omega) (by decide +kernel) (by decide +kernel) (by decide +kernel)
theorem god_163_1 (v:Nat) (hv:v < 1):GenOrDiv 163 1 (dgC 163 1 v):=by
 obtain rfl:v=0:=by omega
 exact tab_one (b1:= [true,false,true,false,false,false,true,false]) (D:= [[true,false,true,false,false,false,true], [true,true,false,true,true,false]]) (g:=2) (by omega) (by omega) (by omega) (by decide +kernel) (by decide +kernel) (by decide +kernel)
theorem god_167_1 (v:Nat) (hv:v < 1):GenOrDiv 167 1 (dgC 167 1 v):=by
 obtain rfl:v=0:=by omega
 exact tab_one (b1:= [true,false,true,false,false,true,true,false]) (D:= [[true,false,true,false,false,true,true], [true,false]]) (g:=5) (by omega) (by omega) (by omega) (by decide +kernel) (by decide +kernel) (by decide +kernel)
theorem god_173_1 (v:Nat) (hv:v < 1):GenOrDiv 173 1 (dgC 173 1 v):=by
 obtain rfl:v=0:=by omega
 exact tab_one (b1:= [true,false,true,false,true,true,false,false]) (D:= [[true,false,true,false,true,true,false], [true,false,false]]) (g:=2) (by omega) (by omega) (by omega) (by decide +kernel) (by decide +kernel) (by decide +kernel)
theorem god_179_1 (v:Nat) (hv:v < 1):GenOrDiv 179 1 (dgC 179 1 v):=by
 obtain rfl:v=0:=by omega
 exact tab_one (b1:= [true,false,true,true,false,false,true,false]) (D:= [[true,false,true,true,false,false,true], [true,false]]) (g:=2) (by omega) (by omega) (by omega) (by decide +kernel) (by decide +kernel) (by decide +kernel)
theorem god_181_1 (v:Nat) (hv:v < 1):GenOrDiv 181 1 (dgC 181 1 v):=by
 obtain rfl:v=0:=by omega
 exact tab_one (b1:= [true,false,true,true,false,true,false,false]) (D:= [[true,false,true,true,false,true,false], [true,true,true,true,false,false], [true,false,false,true,false,false]]) (g:=2) (by omega) (by omega) (by omega) (by decide +kernel) (by decide +kernel) (by decide +kernel)
theorem god_191_1 (v:Nat) (hv:v < 1):GenOrDiv 191 1 (dgC 191 1 v):=by
 obtain rfl:v=0:=by omega
 exact tab_one (b1:= [true,false,true,true,true,true,true,false]) (D:= [[true,false,true,true,true,true,true], [true,false,false,true,true,false], [true,false,true,false]]) (g:=19) (by omega) (by omega) (by omega) (by decide +kernel) (by decide +kernel) (by decide +kernel)
theorem god_193_1 (v:Nat) (hv:v < 1):GenOrDiv 193 1 (dgC 193 1 v):=by
 obtain rfl:v=0:=by omega
 exact tab_one (b1:= [true,true,false,false,false,false,false,false]) (D:= [[true,true,false,false,false,false,false], [true,false,false,false,false,false,false]]) (g:=5) (by omega) (by omega) (by omega) (by decide +kernel) (by decide +kernel) (by decide +kernel)
theorem god_197_1 (v:Nat) (hv:v < 1):GenOrDiv 197 1 (dgC 197 1 v):=by
 obtain rfl:v=0:=by omega
 exact tab_one (b1:= [true,true,false,false,false,true,false,false]) (D:= [[true,true,false,false,false,true,false], [true,true,true,false,false]]) (g:=2) (by omega) (by omega) (by omega) (by decide +kernel) (by decide +kernel) (by decide +kernel)
theorem god_199_1 (v:Nat) (hv:v < 1):GenOrDiv 199 1 (dgC 199 1 v):=by
 obtain rfl:v=0:=by omega
 exact tab_one (b1:= [true,true,false,false,false,true,true,false]) (D:= [[true,true,false,false,false,true,true], [true,false,false,false,false,true,false], [true,false,false,true,false]]) (g:=3) (by omega) (by omega) (by omega) (by decide +kernel) (by decide +kernel) (by decide +kernel)
theorem god_211_1 (v:Nat) (hv:v < 1):GenOrDiv 211 1 (dgC 211 1 v):=by
 obtain rfl:v=0:=by omega
 exact tab_one (b1:= [true,true,false,true,false,false,true,false]) (D:= [[true,true,false,true,false,false,true], [true,false,false,false,true,true,false], [true,false,true,false,true,false], [true,true,true,true,false]]) (g:=2) (by omega) (by omega) (by omega) (by decide +kernel) (by decide +kernel) (by decide +kernel)
theorem god_223_1 (v:Nat) (hv:v < 1):GenOrDiv 223 1 (dgC 223 1 v):=by
 obtain rfl:v=0:=by omega
 exact tab_one (b1:= [true,true,false,true,true,true,true,false]) (D:= [[true,true,false,true,true,true,true], [true,false,false,true,false,true,false], [true,true,false]]) (g:=3) (by omega) (by omega) (by omega) (by decide +kernel) (by decide +kernel) (by decide +kernel)
theorem god_227_1 (v:Nat) (hv:v < 1):GenOrDiv 227 1 (dgC 227 1 v):=by
 obtain rfl:v=0:=by omega
 exact tab_one (b1:= [true,true,true,false,false,false,true,false]) (D:= [[true,true,true,false,false,false,true], [true,false]]) (g:=2) (by omega) (by omega) (by omega) (by decide +kernel) (by decide +kernel) (by decide +kernel)
theorem god_229_1 (v:Nat) (hv:v < 1):GenOrDiv 229 1 (dgC 229 1 v):=by
 obtain rfl:v=0:=by omega
 exact tab_one (b1:= [true,true,true,false,false,true,false,false]) (D:= [[true,true,true,false,false,true,false], [true,false,false,true,true,false,false], [true,true,false,false]]) (g:=6) (by omega) (by omega) (by omega) (by decide +kernel) (by decide +kernel) (by decide +kernel)
theorem god_233_1 (v:Nat) (hv:v < 1):GenOrDiv 233 1 (dgC 233 1 v):=by
 obtain rfl:v=0:=by omega
 exact tab_one (b1:= [true,true,true,false,true,false,false,false]) (D:= [[true,true,true,false,true,false,false], [true,false,false,false]]) (g:=3) (by omega) (by omega) (by omega) (by decide +kernel) (by decide +kernel) (by decide +kernel)
theorem god_239_1 (v:Nat) (hv:v < 1):GenOrDiv 239 1 (dgC 239 1 v):=by
 obtain rfl:v=0:=by omega
 exact tab_one (b1:= [true,true,true,false,true,true,true,false]) (D:= [[true,true,true,false,true,true,true], [true,false,false,false,true,false], [true,true,true,false]]) (g:=7) (by omega) (by omega) (by omega) (by decide +kernel) (by decide +kernel) (by decide +kernel)
theorem god_241_1 (v:Nat) (hv:v < 1):GenOrDiv 241 1 (dgC 241 1 v):=by
 obtain rfl:v=0:=by omega
 exact tab_one (b1:= [true,true,true,true,false,false,false,false]) (D:= [[true,true,true,true,false,false,false], [true,false,true,false,false,false,false], [true,true,false,false,false,false]]) (g:=7) (by omega) (by omega) (by omega) (by decide +kernel) (by decide +kernel) (by decide +kernel)
theorem god_251_1 (v:Nat) (hv:v < 1):GenOrDiv 251 1 (dgC 251 1 v):=by
 obtain rfl:v=0:=by omega
 exact tab_one (b1:= [true,true,true,true,true,false,true,false]) (D:= [[true,true,true,true,true,false,true], [true,true,false,false,true,false]]) (g:=6) (by omega) (by omega) (by omega) (by decide +kernel) (by decide +kernel) (by decide +kernel)
end
section
theorem primes_all:∀p,p < 257→prB p=true→p∈ [2,3,5,7,11,13,17,19,23,29,31,37,41,43,47,53,59,61,67,71,73,79,83,89,97,101,103,107,109,113,127,131,137,139,149,151,157,163,167,173,179,181,191,193,197,199,211,223,227,229,233,239,241,251]:=by decide +kernel
theorem pairs_b:((List.range 257).all fun p=> (List.range 9).all fun m=> !(decide (2≤m)) || (!(prB p) || (!(decide (p ^ m≤256)) || decide ((p,m)∈ [(2,2),(2,3),(2,4),(2,5),(2,6),(2,7),(2,8),(3,2),(3,3),(3,4),(3,5),(5,2),(5,3),(7,2),(11,2),(13,2)]))))=true:=by decide +kernel
theorem pairs_all (m:Nat) (hm:m < 9) (p:Nat) (hp:p < 257) (h2:2≤m) (hpr:prB p=true) (hq:p ^ m≤256):(p,m)∈ [(2,2),(2,3),(2,4),(2,5),(2,6),(2,7),(2,8),(3,2),(3,3),(3,4),(3,5),(5,2),(5,3),(7,2),(11,2),(13,2)]:=by
 have h:=List.all_eq_true.1 (List.all_eq_true.1 pairs_b p (List.mem_range.2 hp)) m (List.mem_range.2 hm);rw [decide_eq_true h2,hpr,decide_eq_true hq] at h;simpa using h
theorem god_all {p m v:Nat} (hpr:prB p=true) (hp:p≤256) (hm1:1≤m) (hm:m≤8) (hq:p ^ m≤256) (hv:v < p ^ m) (h0:m=1→v=0):GenOrDiv p m (dgC p m v):=by
 rcases Nat.eq_or_lt_of_le hm1 with e | e
 ·subst e;obtain rfl:=h0 rfl;have hmem:=primes_all p (by omega) hpr;simp only [List.mem_cons,List.not_mem_nil,or_false] at hmem;rcases hmem with rfl | rfl | rfl | rfl | rfl | rfl | rfl | rfl | rfl | rfl | rfl | rfl | rfl | rfl | rfl | rfl | rfl | rfl | rfl | rfl | rfl | rfl | rfl | rfl | rfl | rfl | rfl | rfl | rfl | rfl | rfl | rfl | rfl | rfl | rfl | rfl | rfl | rfl | rfl | rfl | rfl | rfl | rfl | rfl | rfl | rfl | rfl | rfl | rfl | rfl | rfl | rfl | rfl | rfl
  ·exact god_2_1 0 (by omega)
  ·exact god_3_1 0 (by omega)
  ·exact god_5_1 0 (by omega)
  ·exact god_7_1 0 (by omega)
  ·exact god_11_1 0 (by omega)
  ·exact god_13_1 0 (by omega)
  ·exact god_17_1 0 (by omega)
  ·exact god_19_1 0 (by omega)
  ·exact god_23_1 0 (by omega)
  ·exact god_29_1 0 (by omega)
  ·exact god_31_1 0 (by omega)
  ·exact god_37_1 0 (by omega)
  ·exact god_41_1 0 (by omega)
  ·exact god_43_1 0 (by omega)
  ·exact god_47_1 0 (by omega)
  ·exact god_53_1 0 (by omega)
  ·exact god_59_1 0 (by omega)
  ·exact god_61_1 0 (by omega)
  ·exact god_67_1 0 (by omega)
  ·exact god_71_1 0 (by omega)
  ·exact god_73_1 0 (by omega)
  ·exact god_79_1 0 (by omega)
  ·exact god_83_1 0 (by omega)
  ·exact god_89_1 0 (by omega)
  ·exact god_97_1 0 (by omega)
  ·exact god_101_1 0 (by omega)
  ·exact god_103_1 0 (by omega)
  ·exact god_107_1 0 (by omega)
  ·exact god_109_1 0 (by omega)
  ·exact god_113_1 0 (by omega)
  ·exact god_127_1 0 (by omega)
  ·exact god_131_1 0 (by omega)
  ·exact god_137_1 0 (by omega)
  ·exact god_139_1 0 (by omega)
  ·exact god_149_1 0 (by omega)
  ·exact god_151_1 0 (by omega)
  ·exact god_157_1 0 (by omega)
  ·exact god_163_1 0 (by omega)
  ·exact god_167_1 0 (by omega)
  ·exact god_173_1 0 (by omega)
  ·exact god_179_1 0 (by omega)
  ·exact god_181_1 0 (by omega)
  ·exact god_191_1 0 (by omega)
  ·exact god_193_1 0 (by omega)
  ·exact god_197_1 0 (by omega)
  ·exact god_199_1 0 (by omega)
  ·exact god_211_1 0 (by omega)
  ·exact god_223_1 0 (by omega)
  ·exact god_227_1 0 (by omega)
  ·exact god_229_1 0 (by omega)
  ·exact god_233_1 0 (by omega)
  ·exact god_239_1 0 (by omega)
  ·exact god_241_1 0 (by omega)
  ·exact god_251_1 0 (by omega)
 ·have hmem:=pairs_all m (by omega) p (by omega) e hpr hq;simp only [List.mem_cons,List.not_mem_nil,or_false,Prod.mk.injEq] at hmem;rcases hmem with ⟨rfl,rfl⟩ | ⟨rfl,rfl⟩ | ⟨rfl,rfl⟩ | ⟨rfl,rfl⟩ | ⟨rfl,rfl⟩ | ⟨rfl,rfl⟩ | ⟨rfl,rfl⟩ | ⟨rfl,rfl⟩ | ⟨rfl,rfl⟩ | ⟨rfl,rfl⟩ | ⟨rfl,rfl⟩ | ⟨rfl,rfl⟩ | ⟨rfl,rfl⟩ | ⟨rfl,rfl⟩ | ⟨rfl,rfl⟩ | ⟨rfl,rfl⟩
  ·exact god_2_2 v (by simpa using hv)
  ·exact god_2_3 v (by simpa using hv)
  ·exact god_2_4 v (by simpa using hv)
  ·exact god_2_5 v (by simpa using hv)
  ·exact god_2_6 v (by simpa using hv)
  ·exact god_2_7 v (by simpa using hv)
  ·exact god_2_8 v (by simpa using hv)
  ·exact god_3_2 v (by simpa using hv)
  ·exact god_3_3 v (by simpa using hv)
  ·exact god_3_4 v (by simpa using hv)
  ·exact god_3_5 v (by simpa using hv)
  ·exact god_5_2 v (by simpa using hv)
  ·exact god_5_3 v (by simpa using hv)
  ·exact god_7_2 v (by simpa using hv)
  ·exact god_11_2 v (by simpa using hv)
  ·exact god_13_2 v (by simpa using hv)
end
section
open Go.RowKit
theorem lw_isD {p m:Nat} {ml:List Int} (h:FSh p m ml):IsD p m (lw ml):=by
 have hp:=h.p2;refine ⟨fun j hj=> ?_,fun j=> ?_⟩
 ·unfold lw;rw [List.getD_eq_getElem?_getD,List.getElem?_eq_none (by have:=h.len;split at this <;> omega)];rfl
 ·unfold lw;rw [List.getD_eq_getElem?_getD];rcases hj:ml[j]? with _ | z
  ·simp;omega
  ·exact h.rng z (List.mem_of_getElem? hj)
theorem dvB_iff {p d:Nat} {low:Vc} {ml:List Int} (hl:∀j,d≤j→True):dvB p d low ml=true↔EqM p (ap d low (ml.length + 1) (mon ml) one_) (fun _=> 0)∨(dvB p d low ml=true∧d=0):=by
 unfold dvB;rw [List.all_eq_true];constructor
 ·intro h;rcases Nat.eq_zero_or_pos d with e | e
  ·exact .inr ⟨h,e⟩
  ·refine .inl fun j=> ?_;by_cases hj:j < d
   ·have:=h j (List.mem_range.2 hj);simpa using this
   ·have hs:Sup d one_:=fun i hi=> by unfold one_;rw [if_neg (by omega)]
    rw [ap_sup hs _ _ j (by omega)]
 ·rintro (h | ⟨h,_⟩)
  ·intro j _;have:=h j;simpa using this
  ·exact h
theorem field_iff {p m:Nat} {ml:List Int} (h:FSh p m ml) (hpr:prB p=true):IsF p m (lw ml)↔(m=1∨irB p ml=true):=by
 have hp:=h.p2;have hm:=h.m1;have hD:=lw_isD h;obtain ⟨v,hv⟩:∃v,(cod p m (lw ml)).toNat=v:=⟨_,rfl⟩;have hdv:dig p m v=lw ml:=by rw [←hv];exact dig_cod' (by omega) hD
 have hvq:v < p ^ m:=by have:=cod_rng hD.2 m;omega
 have hG:=god_all hpr h.p256 hm h.m8 h.q hvq (fun e=> by
  subst e;have hl:=h.len;rw [if_pos rfl] at hl;have:ml= []:=List.eq_nil_of_length_eq_zero hl;rw [←hv,this];simp [cod,lw])
 unfold GenOrDiv at hG;rw [lf_dgC,hdv] at hG;by_cases e1:m=1
 ·constructor
  ·intro _;exact .inl e1
  ·intro _;rcases hG with hG | ⟨d,u,h1,h2,_⟩
   ·exact hG
   ·omega
 ·have hl:=h.len;rw [if_neg e1] at hl;have hmon:lf (dgC p m v ++ [1])=mon ml:=by
   funext j;have hj0:=congrFun hdv j;unfold lf mon;rw [hl,List.getD_eq_getElem?_getD];by_cases hj:j < m
   ·rw [if_pos hj,List.getElem?_append_left (by rw [dgC_len];exact hj)];have h2:=congrFun (lf_dgC p m v) j;rw [hj0] at h2;unfold lf at h2;rw [List.getD_eq_getElem?_getD] at h2;exact h2
   ·rw [if_neg hj,List.getElem?_append_right (by rw [dgC_len];omega),dgC_len];by_cases hj2:j=m
    ·subst hj2;simp
    ·rw [if_neg hj2,List.getElem?_eq_none (by simp;omega)];rfl
  rw [hmon] at hG;constructor
  ·intro hF;right;refine irB_yes fun d u h1 h2=> ?_;rw [←Bool.not_eq_true];intro hdvB;rcases (dvB_iff (fun _ _=> trivial)).1 hdvB with h3 | ⟨_,h3⟩
   ·refine not_field (m:=m) (d:=d + 1) (low:=dig p (d + 1) u) hp (by omega) (by omega) (dig_rng (by omega) _ _) ?_ hF;intro t;have h4:=h3 t;rw [hl] at h4;rw [←h4];dsimp only
    congr 1
    rw [ap];rw [ap_congr (c:=mon ml) (d:=lw ml) (n:=m) (fun j hj=> by unfold mon lw;rw [hl,if_pos hj])];rw [show mon ml m=1 by unfold mon;rw [hl,if_neg (by omega),if_pos rfl]];dsimp only;rw [Int.one_mul]
   ·omega
  ·rintro (e | hir)
   ·exact absurd e e1
   ·rcases hG with hG | ⟨d,u,h1,h2,h3,h4⟩
    ·exact hG
    ·exfalso;obtain ⟨e,rfl⟩:∃e,d=e + 1:=⟨d - 1,by omega⟩;rw [←hl] at h4 h2;have:=irB_no h2 h3 ((dvB_iff (fun _ _=> trivial)).2 (.inl h4));rw [this] at hir;cases hir
theorem chk_iff (p m:Int) (ml:List Int):chkS p m ml=0↔FldB p m ml:=by
 unfold chkS;constructor
 ·intro h;split at h
  ·rename_i hc;simp only [Bool.and_eq_true,Bool.or_eq_true,decide_eq_true_eq] at hc;obtain ⟨h1,h2⟩:=hc;obtain ⟨pn,mn,rfl,rfl,hf,hpr,_⟩:=shB_FSh h1;refine ⟨pn,mn,rfl,rfl,hf,hpr,(field_iff hf hpr).2 ?_⟩;rcases h2 with h2 | h2
   ·left;omega
   ·right;simpa using h2
  ·cases h
 ·rintro ⟨pn,mn,rfl,rfl,hf,hpr,hF⟩;rw [if_pos];simp only [Bool.and_eq_true,Bool.or_eq_true,decide_eq_true_eq];refine ⟨(FSh_shB hf hpr).1,?_⟩;rcases (field_iff hf hpr).1 hF with h | h
  ·left;omega
  ·right;simpa using h
end
end Go.Proofs.YtgdmlmhpineibaaGreat
