/- Walks of the package field: order, isPrime, digitsOf, valueOf. -/
import Derived.Maps.AppendAt
import Derived.Deep.Upon
import Derived.Deep.RegionLaw
import Derived.Laws.Cover3
import Derived.Test.YtgdmlmhpineibaaGreatZg00
import Derived.Test.YtgdmlmhpineibaaGreatZg02
namespace Go.Proofs.YtgdmlmhpineibaaGreat
set_option linter.unusedVariables false
set_option linter.unusedSimpArgs false
set_option maxRecDepth 100000
set_option maxHeartbeats 1000000
section
open Go.RowKit
theorem infoInt:(Tryz.prog.info? 3).map (fun i=> (i.zero,i.size,i.bytes))=some (some (.int .i64 0),1,8):=by kernel_rfl
theorem infoBool:(Tryz.prog.info? 4).map (fun i=> (i.zero,i.size,i.bytes))=some (some (.bool false),1,1):=by kernel_rfl
def ordS (p m:Int):Int:=if 2≤p∧1≤m∧m≤8∧p ^ m.toNat≤256 then p ^ m.toNat else 0
theorem pow_mono_ {p:Int} (h:2≤p) {i j:Nat} (hij:i≤j):p ^ i≤p ^ j:=by
 obtain ⟨k,rfl⟩:∃k,j=i + k:=⟨j - i,by omega⟩;rw [Int.pow_add];have h1:1≤p ^ k:=Int.pow_pos (by omega);have h2:1≤p ^ i:=Int.pow_pos (by omega);have:=Int.mul_le_mul_of_nonneg_left h1 (show 0≤p ^ i by omega);omega
theorem le_pow_ {p:Int} (h:2≤p) {i:Nat} (hi:1≤i):p≤p ^ i:=by
 have:=pow_mono_ h hi;have e:p ^ 1=p:=Int.pow_one p;omega
theorem order_any (p m:Int) (w:World):
  Calls Tryz.prog 136 #[.int .i64 p,.int .i64 m] w fun r w'=> r= .returned (.int .i64 (ordS p m))∧w=w':=by
 by_cases h:2≤p∧p≤256∧1≤m∧m≤8
 ·obtain ⟨h1,h2,h3,h4⟩:=h;have HO:=hid_ (show ordS p m=if p ^ m.toNat≤256 then p ^ m.toNat else 0 by unfold ordS;by_cases h:p ^ m.toNat≤256 <;> simp [h,h1,h3,h4]);go_enter Tryz.func136,Tryz.ntmps136
  go_wp2
  go_loop [5,21] (fun q' i'=> ∃i:Nat,i≤m.toNat∧i'= .int .i64 i∧q'= .int .i64 (p ^ i)∧1≤p ^ i∧p ^ i≤256) (fun _ i'=> m.toNat - (intOf i').toNat)
  case atStart=> exact ⟨0,by omega,rfl,by simp,by simp,by simp⟩
  case round=>
   obtain ⟨i,hi,rfl,rfl,q1,q2⟩:=hrel;have HS:=hid_ (Int.pow_succ p i);have HM:=hid_ (show i < m.toNat→p ^ (i + 1)≤p ^ m.toNat from fun h=> pow_mono_ h1 h);have q3:p ^ i * p≤65536:=by
    have:=Int.mul_le_mul q2 h2 (by omega) (by omega);omega
   have q4:1≤p ^ i * p:=by
    have:=Int.mul_pos (show 0 < p ^ i by omega) (show 0 < p by omega);omega
   by_cases hlt:(i:Int) < m
   ·by_cases hq:256 < p ^ i * p
    ·have HB:=HM.out (by omega);rw [HS.out] at HB;have HN:=hid_ (show ¬p ^ m.toNat≤256 by omega);clear HB HM;generalize p ^ i=y at *
     go_wp2
     go_ret;exact ⟨ret_int (by rw [HO.out,if_neg (by have:=HN.out;omega)]),rfl⟩
    ·have HE:=hid_ (show p ^ (i + 1)=p ^ i * p from HS.out);clear HM HS;generalize p ^ i=y at *
     go_wp2
     go_round
     case rel=> exact ⟨i + 1,by omega,by go_num,by rw [HE.out],by rw [HE.out];omega,by rw [HE.out];omega⟩
     case measure=> simp [intOf];omega
   ·have hi':i=m.toNat:=by omega
    have HN:=hid_ (show p ^ m.toNat=p ^ i by rw [hi']);clear HM HS;generalize p ^ i=y at *
    go_wp2
    go_ret;exact ⟨ret_int (by rw [HO.out,HN.out,if_pos q2]),rfl⟩
 ·have HO:=hid_ (show ordS p m=0 by
   unfold ordS;rw [if_neg];rintro ⟨h1,h2,h3,h4⟩;have:=le_pow_ h1 (show 1≤m.toNat by omega);exact h ⟨h1,by omega,h2,h3⟩)
  have c:p < 2∨(2≤p∧256 < p)∨(2≤p∧p≤256∧m < 1)∨(2≤p∧p≤256∧1≤m∧8 < m):=by omega
  clear h;rcases c with c | ⟨c1,c2⟩ | ⟨c1,c2,c3⟩ | ⟨c1,c2,c3,c4⟩
  all_goals
   go_enter Tryz.func136,Tryz.ntmps136
   go_wp2
   go_ret;exact ⟨ret_int HO.out.symm,rfl⟩
def prB (n:Nat):Bool:=decide (2≤n∧∀d,d < n→2≤d→n % d≠0)
theorem prB_no {n d:Nat} (h2:2≤d) (h:d * d≤n) (hd:n % d=0):prB n=false:=by
 unfold prB;rw [decide_eq_false_iff_not];rintro ⟨h1,h3⟩;have h4:d < n:=by
  have:=Nat.mul_le_mul_right d h2;omega
 exact h3 d h4 h2 hd
theorem prB_yes {n k:Nat} (hn:2≤n) (hk:n < k * k) (h:∀d,2≤d→d < k→n % d≠0):prB n=true:=by
 unfold prB;rw [decide_eq_true_iff];refine ⟨hn,fun d h1 h2 h3=> ?_⟩;rcases Nat.lt_or_ge d k with h4 | h4
 ·exact h d h2 h4 h3
 ·have h5:=Nat.div_mul_cancel (Nat.dvd_of_mod_eq_zero h3);have h6:n / d < k:=by
   rcases Nat.lt_or_ge (n / d) k with h7 | h7
   ·exact h7
   ·have:=Nat.mul_le_mul h7 h4;omega
  have h7:2≤n / d:=by
   generalize n / d=q at *;rcases Nat.lt_or_ge q 2 with h8 | h8
   ·have h9:q=0∨q=1:=by omega
    rcases h9 with e | e <;> rw [e] at h5 <;> omega
   ·exact h8
  exact h (n / d) h7 h6 (Nat.mod_eq_zero_of_dvd ⟨d,h5.symm⟩)
theorem isPrime_any (n:Nat) (w:World) (h1:2≤n) (h2:n≤256):
  Calls Tryz.prog 166 #[.int .i64 n] w fun r w'=> r= .returned (.bool (prB n))∧w=w':=by
 go_enter Tryz.func166,Tryz.ntmps166
 go_wp2
 go_loop [3] (fun d'=> ∃d:Nat,2≤d∧d≤17∧d'= .int .i64 d∧Hid (∀c,2≤c→c < d→n % c≠0)) (fun d'=> 17 - (intOf d').toNat)
 case atStart=> exact ⟨2,by omega,by omega,rfl,hid_ (fun c a b=> by omega)⟩
 case round=>
  obtain ⟨d,d1,d2,rfl,hall⟩:=hrel;have hdd:(d:Int) * d=((d * d:Nat):Int):=by simp
  have q1:d * d≤289:=Nat.mul_le_mul d2 d2;have q2:17 * 17≤d * d∨d < 17:=by
   rcases Nat.lt_or_ge d 17 with h | h
   ·exact .inr h
   ·exact .inl (Nat.mul_le_mul h h)
  by_cases hlt:d * d≤n
  ·have HNO:=hid_ (fun h=> prB_no d1 hlt h);have q3:0≤(d:Int) * d:=by omega
   have q4:(d:Int) * d≤289:=by omega
   have q5:(d:Int) * d≤n:=by omega
   by_cases hd:n % d=0
   ·have hd':((n:Int) % (d:Int)==0)=true:=by simp;omega
    have HR:=hid_ (HNO.out hd);clear hd hdd
    go_wp2
    go_ret;exact ⟨ret_bool HR.out.symm,rfl⟩
   ·have hd':((n:Int) % (d:Int)==0)=false:=by simp;omega
    have HA:=hid_ (show ∀c,2≤c→c < d + 1→n % c≠0 from fun c a b=> by
     by_cases e:c=d
     ·subst e;exact hd
     ·exact hall.out c a (by omega))
    clear hd hdd
    go_wp2
    go_round
    case rel=> exact ⟨d + 1,by omega,by omega,by go_num,HA⟩
    case measure=> simp [intOf];omega
  ·have HR:=hid_ (prB_yes h1 (by omega) hall.out);have q3:0≤(d:Int) * d:=by omega
   have q4:(d:Int) * d≤289:=by omega
   have q5:(n:Int) < (d:Int) * d:=by omega
   clear hdd
   go_wp2
   go_ret;exact ⟨ret_bool (by rw [HR.out];simp;omega),rfl⟩
theorem digitsOf_any (x p m:Nat) (w:World) (hx:x≤65536) (hp:1≤p) (hp':p≤256) (hm:m≤256):
  Calls Tryz.prog 183 #[.int .i64 x,.int .i64 p,.int .i64 m] w fun r w'=> ∃v,r= .returned v∧ISl w' v (il m (dig p m x))∧Ex w w':=by
 go_enter Tryz.func183,Tryz.ntmps183
 go_wp2_with (at_make;refine wpList_make_arr _ rfl _ _ 22 rfl 3 (.int .i64 0) 8 Tryz.underlying22 infoInt rfl _ m rfl rfl rfl (by omega) (by unfold maxLen;omega) ?_)
 intro w1 hown hx1;have hgb:w.heap.size≤w.heap.size:=Nat.le_refl _;have HB:=hid_ hgb;clear hgb;obtain ⟨g,hg⟩:∃g,w.heap.size=g:=⟨_,rfl⟩;have hown1:Own w1 g 3 g m (iv fun j=> if j < 0 then dig p m x j else 0):=by
  rw [hg] at hown;exact hown.congr fun j _=> by simp [iv]
 have HG:=hid_ hg;simp only [hg];clear hown hg;go_wp2_with fail
 go_loopw [0,8,13] (fun x' _ k' wr=> ∃k:Nat,k≤m∧k'= .int .i64 k∧x'= .int .i64 ((x / p ^ k:Nat):Int)∧Own wr g 3 g m (iv fun j=> if j < k then dig p m x j else 0)∧Ex w wr) (fun _ _ k' _=> m - (intOf k').toNat)
 case atStart=> exact ⟨0,by omega,rfl,by simp,hown1,hx1⟩
 case round=>
  clear hown1 hx1;obtain ⟨k,hk,rfl,rfl,hown,hx1⟩:=hrel;have hxk:x / p ^ k≤65536:=Nat.le_trans (Nat.div_le_self _ _) hx;have HS:=hid_ (show x / p ^ (k + 1)=x / p ^ k / p by rw [Nat.pow_succ,Nat.div_div_eq_div_mul]);have HD:=hid_ (show k < m→dig p m x k=((x / p ^ k % p:Nat):Int) from fun h=> by unfold dig;rw [if_pos h]);generalize x / p ^ k=y at *;by_cases hlt:k < m
  ·have hf:=hown.frz k;have hc:=hown.cell hlt;have HO:=hid_ (hown.set k (.int .i64 ((y:Int) % (p:Int))));have HE:=hid_ (hown.exSet (by rw [HG.out];exact Nat.le_refl _) hx1 k (.int .i64 ((y:Int) % (p:Int))));clear hown hx1;go_wp2_with fail
   go_roundw
   case rel=>
    refine ⟨k + 1,by omega,by go_num,by rw [HS.out,w64_div _ _ (by omega)],?_,HE.out⟩;have:=HO.out;rw [iv_upd] at this;refine this.icongr fun j hj=> ?_;unfold upd;dsimp only;by_cases h:j=k
    ·subst h;rw [if_pos rfl,if_pos (by omega),HD.out hlt];simp
    ·rw [if_neg h];by_cases h2:j < k
     ·rw [if_pos h2,if_pos (by omega)]
     ·rw [if_neg h2,if_neg (by omega)]
   case measure=> simp [intOf];omega
  ·obtain rfl:k=m:=by omega
   have hown':Own wr g 3 g k (iv (dig p k x)):=hown.icongr fun j hj=> by rw [if_pos hj]
   have HO:=hid_ hown'.isl;clear hown hown' HD HS;go_wp2_with fail
   go_ret;exact ⟨_,rfl,HO.out,hx1⟩
def vl (p:Nat):List Int→Int
 | []=> 0
 | a :: l=> vl p l * p + a
theorem codGo (p:Nat) (l:List Int) (k:Nat) (x:Int) (h:l[k]?=some x):vl p (l.drop k)=vl p (l.drop (k + 1)) * (p:Int) + x:=by
 obtain ⟨hk,rfl⟩:=List.getElem?_eq_some_iff.1 h;rw [List.drop_eq_getElem_cons hk];rfl
theorem vl_rng {p:Nat} (hp:1≤p):∀(l:List Int),(∀x∈l,0≤x∧x < p)→0≤vl p l∧vl p l < ((p ^ l.length:Nat):Int)
 | [],_=> by simp [vl]
 | x :: l,h=> by
  obtain ⟨h1,h2⟩:=vl_rng hp l fun y hy=> h y (List.mem_cons_of_mem _ hy);obtain ⟨h3,h4⟩:=h x (List.mem_cons_self ..);show 0≤vl p l * p + x∧vl p l * p + x < _
  have h5:0≤vl p l * p:=Int.mul_nonneg h1 (by omega);have h6:(vl p l + 1) * (p:Int)≤((p ^ l.length:Nat):Int) * p:=Int.mul_le_mul_of_nonneg_right (by omega) (by omega);rw [List.length_cons,Nat.pow_succ,Int.natCast_mul];rw [Int.add_mul] at h6;omega
theorem vl_il (p:Nat):∀(m:Nat) (f:Nat→Int),vl p (il m f)=cod p m f
 | 0,f=> by simp [il,vl,cod]
 | m + 1,f=> by
  have key:∀(l:List Int) (x:Int),vl p (l ++ [x])=vl p l + x * ((p ^ l.length:Nat):Int):=by
   intro l
   induction l with
   | nil=> intro x;simp [vl]
   | cons a l ih=>
    intro x;show vl p (l ++ [x]) * p + a=vl p l * p + a + _
    rw [ih,List.length_cons,Nat.pow_succ,Int.natCast_mul,Int.add_mul,Int.mul_assoc];omega
  simp only [cod];rw [show il (m + 1) f=il m f ++ [f m] by simp [il,List.range_succ],key,vl_il p m f,il_length]
theorem valueOf_any (l:List Int) (v:Value) (p:Nat) (w:World) (hl:ISl w v l) (hp:1≤p) (hp':p≤256) (hb:∀x∈l,0≤x∧x < p) (hq:p ^ l.length≤65536):
  Calls Tryz.prog 184 #[v,.int .i64 p] w fun r w'=> r= .returned (.int .i64 (vl p l))∧w=w':=by
 obtain ⟨a,cap,rfl,s1,s2,s3⟩:=hl.open;unfold maxLen at s2;have S3:=hid_ s3;have HV:=hid_ (show vl p l=vl p (l.drop 0) from rfl);have HR:=hid_ (show ∀k,0≤vl p (l.drop k)∧vl p (l.drop k) * (p:Int)≤16777216∧vl p (l.drop k)≤65536 from fun k=> by
  obtain ⟨h1,h2⟩:=vl_rng hp (l.drop k) fun x hx=> hb x (List.mem_of_mem_drop hx);have h3:p ^ (l.drop k).length≤p ^ l.length:=Nat.pow_le_pow_right hp (by rw [List.length_drop];omega);have h4:=Int.mul_le_mul (show vl p (l.drop k)≤65536 by omega) (show (p:Int)≤256 by omega) (by omega) (by omega);exact ⟨h1,h4,by
    have:vl p (l.drop k)≤65536:=by omega
    exact this⟩)
 have HX:=hid_ (show ∀(k:Nat) (x:Int),l[k]?=some x→0≤x∧x≤256 from fun k x h=> by have:=hb x (List.mem_of_getElem? h);omega);have HN:=hid_ (show vl p (l.drop l.length)=0 by rw [List.drop_length];rfl);clear hl s3 hb hq;go_enter Tryz.func184,Tryz.ntmps184
 go_wp2_with fail
 go_loop [5,6] (fun x' i'=> ∃k:Nat,k≤l.length∧i'= .int .i64 ((k:Int) - 1)∧x'= .int .i64 (vl p (l.drop k))) (fun _ i'=> (intOf i' + 1).toNat)
 case atStart=> exact ⟨l.length,by omega,rfl,by rw [HN.out]⟩
 case round=>
  obtain ⟨k,hk,rfl,rfl⟩:=hrel;obtain ⟨r1,r2,r3⟩:=HR.out k;rcases k with _ | k
  ·have HF:=hid_ HV.out;generalize vl p (l.drop 0)=y at *;go_wp2_with fail
   go_ret;exact ⟨ret_int HF.out.symm,rfl⟩
  ·have r0:0≤vl p (l.drop (k + 1)) * (p:Int):=Int.mul_nonneg r1 (by omega);obtain ⟨x,hx⟩:∃x,l[k]?=some x:=⟨_,List.getElem?_eq_getElem (by omega)⟩;obtain ⟨b,o,rfl,hc⟩:=S3.out (by omega);have c1:=hc k x hx;obtain ⟨x1,x2⟩:=HX.out k x hx;have HG:=hid_ (codGo p l k x hx);have e:(((k + 1:Nat)):Int) - 1=k:=by omega
   rw [e];clear hc hx e;generalize vl p (l.drop (k + 1))=y at *;go_wp2_with fail
   go_round
   case rel=> exact ⟨k,by omega,rfl,by rw [HG.out]⟩
   case measure=> simp [intOf]
end
section
open Go.RowKit
def Aprt (u v:Value):Prop:=u.ownBlock=none∨u.ownBlock≠v.ownBlock
theorem Aprt.symm {u v:Value} (h:Aprt u v):Aprt v u:=by
 unfold Aprt at *;rcases h with h | h
 ·rcases hv:v.ownBlock with _ | b
  ·exact .inl rfl
  ·right;rw [h];simp
 ·exact .inr fun e=> h e.symm
theorem Aprt.nil (v:Value):Aprt (.slice none 0 0) v:= .inl rfl
structure Appd (w w':World) (base:Nat) (e:TypeId) (size:Nat) (v v':Value) (n:Nat) (xs news:List Value):Prop where
 own:w'.ownsRow base e size v' (n + 1) (xs ++ news)
 gr:∃o,(w.alloc o).grownBy w' v.ownBlock
 at_:v'.ownBlock=v.ownBlock∨v'.ownBlock=some (w.heap.size + 1)
 old:w.ownsRow base e size v n xs
section
variable {w w':World} {base:Nat} {e:TypeId} {size:Nat} {v v':Value} {n:Nat} {xs news:List Value}
theorem Appd.grow (h:Appd w w' base e size v v' n xs news):w.heap.size < w'.heap.size:=by
 obtain ⟨o,hg⟩:=h.gr;have:=hg.size;simp at this;omega
theorem Appd.ex (h:Appd w w' base e size v v' n xs news) {a:World} (hx:Ex a w) (hb:a.heap.size≤base):Ex a w':=by
 obtain ⟨o,hg⟩:=h.gr;exact Ex.grown (hx.alloc o) (h.old.alloc o) hb hg
theorem Appd.cell (h:Appd w w' base e size v v' n xs news) {a:Addr} {u:Value} (hc:w.cell? a=some u) (hne:some a.block≠v.ownBlock):w'.cell? a=some u:=by
 obtain ⟨o,hg⟩:=h.gr;exact hg.cell (by rw [World.cell?_alloc_lt _ _ _ (World.block_lt_of_cell? _ _ hc)];exact hc) hne
theorem Appd.row (h:Appd w w' base e size v v' n xs news) {b2:Nat} {e2:TypeId} {s2:Nat} {v2:Value} {n2:Nat} {ys:List Value} (k:w.ownsRow b2 e2 s2 v2 n2 ys) (ha:Aprt v2 v):
  w'.ownsRow b2 e2 s2 v2 n2 ys∧Aprt v2 v':=by
 obtain ⟨o,hg⟩:=h.gr;refine ⟨(k.alloc o).kept hg ha,?_⟩;unfold Aprt;rcases h2:v2.ownBlock with _ | b
 ·exact .inl rfl
 ·right;have hlt:=(k.lt b h2).2;rcases h.at_ with h3 | h3
  ·rw [h3,←h2];rcases ha with ha | ha
   ·rw [h2] at ha;cases ha
   ·exact ha
  ·rw [h3];intro e;injection e with e;omega
theorem Appd.arr (h:Appd w w' base e size v v' n xs news) {b2:Nat} {e2:TypeId} {g m:Nat} {c:Nat→Value} (k:Own w b2 e2 g m c) (ha:v.ownBlock≠some g):
  Own w' b2 e2 g m c∧v'.ownBlock≠some g:=by
 have h1:=h.row k (.inr (fun e=> ha e.symm));refine ⟨h1.1,?_⟩;rcases h1.2 with h2 | h2
 ·cases h2
 ·exact fun e=> h2 e.symm
end
theorem wpList_append1 {P:Program} (w:World) {ops:Array Oper} {rest:List Oper} {o:Oper} {a:Act} {Q:Exit→Act→World→Prop} (hgd:o.guard=none) (s x:Operand) (t:TypeId)
  (ho:o.op= .call { callee:= .builtin .append,args:= #[s,x],argTypes:= #[t,t] })
  (base:Nat) (e:TypeId) (z:Value) (size bytes:Nat) (ht:P.underlying t=some (.slice e)) (hi:(P.info? e).map (fun i=> (i.zero,i.size,i.bytes))=some (some z,size,bytes))
  (hzs:z.cells.size=size) (hsz:0 < size)
  (v:Value) (n:Nat) (xs:List Value) (hs:a.eval s=v) (hown:w.ownsRow base e size v n xs)
  (news:List Value) (te:TypeId) (B:Nat) (hx:a.eval x= .slice (some ⟨B,0,none⟩) 1 1) (hB:w.heap.size=B) (hl:news.length=size) (h1:∀u∈news,u.oneCell'=true)
  (h63:n + 1≤maxLen) (hbytes:(n + 1) * bytes≤140737488355328) (hbase:base≤w.heap.size)
  (h:∀v' w',Appd w w' base e size v v' n xs news→wpList P ops Q rest (a.put o.dst v') w'):
  wpList P ops Q (o :: rest) a (w.alloc (.cells news.toArray te)):=by
 subst hB;obtain ⟨i,hi0,hz0,hz1,hz2⟩:=info_parts hi;refine wpList_plain hgd fun K hK=> ?_;have hnews:∀j u,news[j]?=some u→(w.alloc (.cells news.toArray te)).cell? ((⟨w.heap.size,0,none⟩:Addr).add j)=some u:=by
  intro j u hu;have hadd:(⟨w.heap.size,0,none⟩:Addr).add j=⟨w.heap.size,j,none⟩:=by unfold Addr.add;split <;> simp_all
  rw [hadd];simpa using hu
 obtain ⟨v',w',hr,h2,h3,h4,h5⟩:=run_append_own_at (P:=P) (w.alloc (.cells news.toArray te)) base t o.type e i z size bytes ht hi0 hz0 hz1 hz2 hzs hsz v n xs (hown.alloc _) ⟨w.heap.size,0,none⟩ 1 1 news (by rw [hl,Nat.one_mul]) hnews h1 h63 hbytes (by simp;omega);unfold Oper.wp execOp;simp only [ho,resolve,invoke,builtin,Sem.run_bind,Sem.run_pure,Result.andThen_ok,List.map_toArray,List.map_cons,List.map_nil,hs,hx,hr];exact hK _ _ (h v' w' ⟨h2,⟨_,h3⟩,by simpa using h5,hown⟩)
def lenV:Value→Nat
 | .slice _ n _=> n
 | _=> 0
theorem lenV_own {w:World} {base:Nat} {e:TypeId} {size:Nat} {v:Value} {n:Nat} {xs:List Value} (h:w.ownsRow base e size v n xs):lenV v=n:=by
 rcases h.2 with ⟨rfl,rfl⟩ | ⟨g,cap,cur,rfl,_⟩ <;> rfl
theorem own_open {w:World} {base:Nat} {e:TypeId} {size:Nat} {v:Value} {n:Nat} {xs:List Value} (h:w.ownsRow base e size v n xs) (hn:1≤n):
  ∃g cap,v= .slice (some ⟨g,0,none⟩) n cap∧n≤cap∧cap≤maxLen:=by
 rcases h.2 with ⟨_,h0⟩ | ⟨g,cap,cur,rfl,_,_,h1,h2,_⟩
 ·omega
 ·exact ⟨g,cap,rfl,h1,h2⟩
theorem own_shape {w:World} {base:Nat} {e:TypeId} {size:Nat} {v:Value} {n:Nat} {xs:List Value} (h:w.ownsRow base e size v n xs):∃a c,v= .slice a n c:=by
 rcases h.2 with ⟨rfl,rfl⟩ | ⟨g,cap,cur,rfl,_⟩
 ·exact ⟨none,0,rfl⟩
 ·exact ⟨_,_,rfl⟩
theorem own_lit1 (w:World) (u:Value) (e:TypeId):(w.alloc (.cells #[u] e)).ownsRow w.heap.size e 1 (.slice (some ⟨w.heap.size,0,none⟩) 1 1) 1 [u]:=
 World.ownsRow_lit w #[u] 1 (Nat.le_refl _) (by unfold maxLen;omega) rfl
end
section
open Go.RowKit
theorem run_append_sl {P:Program} (w:World) (base:Nat) (t ty e:TypeId) (z:Value) (size bytes:Nat) (ht:P.underlying t=some (.slice e)) (hi:(P.info? e).map (fun i=> (i.zero,i.size,i.bytes))=some (some z,size,bytes))
  (hzs:z.cells.size=size) (hsz:0 < size) (v:Value) (n:Nat) (xs:List Value) (hown:w.ownsRow base e size v n xs)
  (x:Value) (m:Nat) (news:List Value) (hx:Sl w x m size news) (h1:∀u∈news,u.oneCell'=true)
  (h63:n + m≤maxLen) (hbytes:(n + m) * bytes≤140737488355328) (hbase:base≤w.heap.size):
  ∃v' w',(Builtin.append_ #[t,t] ty #[v,x]).run P w= .ok v' w'∧w'.ownsRow base e size v' (n + m) (xs ++ news)∧w.grownBy w' v.ownBlock∧(v'.ownBlock=v.ownBlock∨v'.ownBlock=some w.heap.size):=by
 obtain ⟨i,hi0,hz0,hz1,hz2⟩:=info_parts hi;obtain ⟨hl,a,cap,rfl,hmc,hcm,hcells⟩:=hx;rcases Nat.eq_zero_or_pos m with h0 | h0
 ·subst h0;have hnl:news= []:=List.eq_nil_of_length_eq_zero (by rw [hl];simp);subst hnl;have hsrc:Src P i.size t (.slice a 0 cap) 0 [] w:=by
   rcases a with _ | a
   ·exact Src.ofNil w ht cap
   ·exact Src.ofSlice w ht a 0 cap [] (by simp) (by simp) (by simp)
  have hv:∃ao c,v= .slice ao n c∧n≤c:=by
   rcases hown.2 with ⟨rfl,rfl⟩ | ⟨g,c,cur,rfl,_,_,h,_⟩
   ·exact ⟨none,0,rfl,Nat.le_refl _⟩
   ·exact ⟨_,_,rfl,h⟩
  obtain ⟨ao,c,rfl,hnc⟩:=hv;refine ⟨_,_,run_append_nothing w t t ty e i ht hi0 ao n c hnc _ hsrc,by simpa using hown,⟨rfl,rfl,rfl,Nat.le_refl _,fun _ _ _=> rfl⟩,.inl rfl⟩
 ·obtain ⟨b,o,rfl,hc⟩:=hcells h0;have hnews:∀j u,news[j]?=some u→w.cell? ((⟨b,o,none⟩:Addr).add j)=some u:=by
   intro j u hu;have hadd:(⟨b,o,none⟩:Addr).add j=⟨b,o + j,none⟩:=by unfold Addr.add;split <;> simp_all
   rw [hadd];exact hc j u hu
  obtain ⟨v',w',hr,h2,h3,h4,h5⟩:=run_append_own_at (P:=P) w base t ty e i z size bytes ht hi0 hz0 hz1 hz2 hzs hsz v n xs hown ⟨b,o,none⟩ m cap news hl hnews h1 h63 hbytes hbase;exact ⟨v',w',hr,h2,h3,h5⟩
theorem wpList_append_sl {P:Program} (w:World) {ops:Array Oper} {rest:List Oper} {o:Oper} {a:Act} {Q:Exit→Act→World→Prop} (hgd:o.guard=none) (s x:Operand) (t:TypeId)
  (ho:o.op= .call { callee:= .builtin .append,args:= #[s,x],argTypes:= #[t,t] })
  (base:Nat) (e:TypeId) (z:Value) (size bytes:Nat) (ht:P.underlying t=some (.slice e)) (hi:(P.info? e).map (fun i=> (i.zero,i.size,i.bytes))=some (some z,size,bytes))
  (hzs:z.cells.size=size) (hsz:0 < size) (v:Value) (n:Nat) (xs:List Value) (hs:a.eval s=v) (hown:w.ownsRow base e size v n xs)
  (xv:Value) (m:Nat) (news:List Value) (hx:a.eval x=xv) (hsl:Sl w xv m size news) (h1:∀u∈news,u.oneCell'=true)
  (h63:n + m≤maxLen) (hbytes:(n + m) * bytes≤140737488355328) (hbase:base≤w.heap.size)
  (h:∀v' w',w'.ownsRow base e size v' (n + m) (xs ++ news)→w.grownBy w' v.ownBlock→(v'.ownBlock=v.ownBlock∨v'.ownBlock=some w.heap.size)→wpList P ops Q rest (a.put o.dst v') w'):
  wpList P ops Q (o :: rest) a w:=by
 refine wpList_plain hgd fun K hK=> ?_;obtain ⟨v',w',hr,h2,h3,h4⟩:=run_append_sl (P:=P) w base t o.type e z size bytes ht hi hzs hsz v n xs hown xv m news hsl h1 h63 hbytes hbase;unfold Oper.wp execOp;simp only [ho,resolve,invoke,builtin,Sem.run_bind,Sem.run_pure,Result.andThen_ok,List.map_toArray,List.map_cons,List.map_nil,hs,hx,hr];exact hK _ _ (h v' w' h2 h3 h4)
theorem step_append_sl {P:Program} {w:World} {ops:Array Oper} {o:Oper} {a:Act} {K:Act→World→Prop} {Q:Exit→Act→World→Prop} {E:Prop} (hgd:o.guard=none) (s x:Operand) (t:TypeId)
  (ho:o.op= .call { callee:= .builtin .append,args:= #[s,x],argTypes:= #[t,t] })
  (base:Nat) (e:TypeId) (z:Value) (size bytes:Nat) (ht:P.underlying t=some (.slice e)) (hi:(P.info? e).map (fun i=> (i.zero,i.size,i.bytes))=some (some z,size,bytes))
  (hzs:z.cells.size=size) (hsz:0 < size) (v:Value) (n:Nat) (xs:List Value) (hs:a.eval s=v) (hown:w.ownsRow base e size v n xs)
  (xv:Value) (m:Nat) (news:List Value) (hx:a.eval x=xv) (hsl:Sl w xv m size news) (h1:∀u∈news,u.oneCell'=true)
  (h63:n + m≤maxLen) (hbytes:(n + m) * bytes≤140737488355328) (hbase:base≤w.heap.size)
  (h:∀v' w',w'.ownsRow base e size v' (n + m) (xs ++ news)→w.grownBy w' v.ownBlock→(v'.ownBlock=v.ownBlock∨v'.ownBlock=some w.heap.size)→K (a.put o.dst v') w'):
  if Region.wanted o (yielded ops a.tmps)=true then Oper.wp P o a w K Q else E:=by
 have hw:Region.wanted o (yielded ops a.tmps)=true:=by simp [Region.wanted,hgd]
 rw [if_pos hw];obtain ⟨v',w',hr,h2,h3,h4⟩:=run_append_sl (P:=P) w base t o.type e z size bytes ht hi hzs hsz v n xs hown xv m news hsl h1 h63 hbytes hbase;unfold Oper.wp execOp;simp only [ho,resolve,invoke,builtin,Sem.run_bind,Sem.run_pure,Result.andThen_ok,List.map_toArray,List.map_cons,List.map_nil,hs,hx,hr];exact h v' w' h2 h3 h4
theorem run_eql_slice_nil {P:Program} (w:World) (t e:TypeId) (a:Option Addr) (l c:Nat) (h:P.underlying t=some (.slice e)):(binOp .eql t (.slice a l c) (.slice none 0 0)).run P w= .ok (.bool a.isNone) w:=by
 simp only [binOp];simp [run_equal_slice_nil w t e a l c h]
theorem own_lit0 (w:World) (e:TypeId):(w.alloc (.cells #[] e)).ownsRow w.heap.size e 1 (.slice (some ⟨w.heap.size,0,none⟩) 0 0) 0 []:=
 World.ownsRow_lit w #[] 0 (Nat.le_refl _) (by unfold maxLen;omega) rfl
theorem upon_make_arr {P:Program} {w:World} {o:Oper} {a:Act} {K:Act→World→Prop} {Q:Exit→Act→World→Prop} (t e:TypeId) (z:Value) (bytes:Nat)
  (h1:P.underlying t=some (.slice e)) (hi:(P.info? e).map (fun i=> (i.zero,i.size,i.bytes))=some (some z,1,bytes)) (hz:z.cells= #[z])
  (n:Nat) (b2:bytes * n≤281474976710656) (b3:n≤maxLen)
  (hK:∀w',Own w' w.heap.size e w.heap.size n (fun _=> z)→Ex w w'→Oper.upon P o a K Q (.ok (.value (.slice (some ⟨w.heap.size,0,none⟩) n n)) w')):
  Oper.upon P o a K Q (((Instr.makeSlice t (.int .i64 (n:Int)) (.int .i64 (n:Int))).run P w).andThen fun a w'=> Result.ok (Next.value a) w'):=by
 obtain ⟨i,hi0,hz0,hz1,hz2⟩:=info_parts hi;obtain ⟨w',hrun,r1,r2⟩:=run_make_full (P:=P) w w.heap.size t e i z 1 h1 hi0 hz0 hz1 .i64 .i64 n (by rw [hz2];exact b2) b3 (Nat.le_refl _);rw [hrun,Result.andThen_ok];rw [hz,Nat.mul_one,toList_madeCells_one,vs_replicate] at r1;exact hK w' r1 (Below.grown (Below.refl _ _) r2 (Nat.le_refl _) (fun k hk=> by cases hk))
end
end Go.Proofs.YtgdmlmhpineibaaGreat
