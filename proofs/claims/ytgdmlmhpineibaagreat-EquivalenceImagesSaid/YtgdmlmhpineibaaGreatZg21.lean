/- A drawn region that reckons one element, lays it in a slice of its own, appends it, and stores the new slice: one proof per operation. -/
import Derived.Test.YtgdmlmhpineibaaGreatZg20
namespace Go.Proofs.YtgdmlmhpineibaaGreat
set_option linter.unusedVariables false
set_option linter.unusedSimpArgs false
open Go.RowKit
structure Apg (w w':World) (base:Nat) (e:TypeId) (size:Nat) (v v':Value) (n:Nat) (xs news:List Value):Prop where
 own:w'.ownsRow base e size v' (n + 1) (xs ++ news)
 gr:w.grownBy w' v.ownBlock
 at_:v'.ownBlock=v.ownBlock∨v'.ownBlock=some w.heap.size
 old:w.ownsRow base e size v n xs
section
variable {w w':World} {base:Nat} {e:TypeId} {size:Nat} {v v':Value} {n:Nat} {xs news:List Value}
theorem Apg.ex (h:Apg w w' base e size v v' n xs news) {a:World} (hx:Ex a w) (hb:a.heap.size≤base):Ex a w':=Ex.grown hx h.old hb h.gr
theorem Apg.cell (h:Apg w w' base e size v v' n xs news) {a:Addr} {u:Value} (hc:w.cell? a=some u) (hne:some a.block≠v.ownBlock):w'.cell? a=some u:=h.gr.cell hc hne
theorem Apg.frz (h:Apg w w' base e size v v' n xs news) {a:Addr} {u:Value} (hc:w.cell? a=some u) (hf:w.frozen? a=false) (hne:some a.block≠v.ownBlock):w'.frozen? a=false:=by
 have hlt:=World.block_lt_of_cell? _ _ hc;rw [←hf];have h2:=h.gr.block a.block hlt hne;unfold World.frozen?;rw [h2]
theorem Apg.row (h:Apg w w' base e size v v' n xs news) {b2:Nat} {e2:TypeId} {s2:Nat} {v2:Value} {n2:Nat} {ys:List Value} (k:w.ownsRow b2 e2 s2 v2 n2 ys) (ha:Aprt v2 v):
  w'.ownsRow b2 e2 s2 v2 n2 ys∧Aprt v2 v':=by
 refine ⟨k.kept h.gr ha,?_⟩;unfold Aprt;rcases h2:v2.ownBlock with _ | b
 ·exact .inl rfl
 ·right;have hlt:=(k.lt b h2).2;rcases h.at_ with h3 | h3
  ·rw [h3,←h2];rcases ha with ha | ha
   ·rw [h2] at ha;cases ha
   ·exact ha
  ·rw [h3];intro e;injection e with e;omega
end
theorem sl_lit1 {w:World} {B:Nat} {x:Value} {t:TypeId} (h:w.heap[B]?=some (.cells #[x] t)):Sl w (.slice (some ⟨B,0,none⟩) 1 1) 1 1 [x]:=
 ⟨rfl,some ⟨B,0,none⟩,1,rfl,Nat.le_refl _,by unfold maxLen;omega,fun _=> ⟨B,0,rfl,fun j u hu=> by
  match j,hu with
  | 0,hu=>
   simp at hu;subst hu;rw [Nat.zero_add,cell_of_row w B 0 #[x] t (0,0) h];rfl
  | j + 1,hu=> simp at hu⟩⟩
section
variable {P:Program} {Q:Exit→Act→World→Prop} {a0:Act}
def OpAs (P:Program) (Q:Exit→Act→World→Prop) (l:List Oper) (a0:Act) (pv:Nat→Value) (wr:World) (ib ia fa m i:Nat) (o:Oper):Prop:=
 ∀(L:Nat→Bool) (a:Act) (w:World),(∀k t o',L k=true→k < m→k≠ib→k≠ia→l[k]?=some o'→o'.dst=some t→a.tmps[t]?=some (pv k))→(∀t,(l.all fun o=> o.dst !=some t)=true→a.tmps[t]?=a0.tmps[t]?)→(∀e∈o.after,Region.binds .any e=true→L e.on=true)→
  ∀K:Act→World→Prop,
   if i=fa then (K (a.put o.dst (pv i)) w→o.wp P a w K Q)
   else if i=m∨i=ia then True
   else if i=ib then (Ex wr w→True)
   else Ex wr w→(∀w',Ex w w'→K (a.put o.dst (pv i)) w')→o.wp P a w K Q
def asChk (l:List Oper) (ib ia fa m:Nat):Bool:=
 l.length==m + 1 && decide (ib < m) && decide (ia < m) && decide (fa < m) && ib !=ia && ia !=fa && ib !=fa && (match l[m]? with | some om=> om.dst.isNone && (om.after.any fun e=> e.on==ia && Region.binds .any e) && (om.after.any fun e=> e.on==fa && Region.binds .any e) | none=> false) &&
 (match l[ia]? with | some oa=> oa.after.any fun e=> e.on==ib && Region.binds .any e | none=> false) &&
 (List.range m).all fun k=> k==fa || k==ia || (List.range m).any fun k'=> decide (k < k') && k' !=fa && (match l[k']? with | some o=> o.after.any fun e=> e.on==k && Region.binds .any e | none=> false)
structure AsJ (pv:Nat→Value) (wr:World) (ib ia fa m:Nat) (u:Value) (T:TypeId) (A Fin:Value→World→Prop) (L:Nat→Bool) (V:Nat→Value) (w:World):Prop where
 vals:∀k,L k=true→k < m→k≠ib→k≠ia→V k=pv k
 ex:L ia=false→Ex wr w
 vb:L ib=true→∃B,V ib= .slice (some ⟨B,0,none⟩) 1 1∧(L ia=false→w.heap[B]?=some (.cells #[u] T))
 va:L ia=true→L m=false→A (V ia) w
 fin:L m=true→L ia=true∧Fin (V ia) w
theorem any_edge {l:Array Edge} {k:Nat} (h:(l.any fun e=> e.on==k && Region.binds .any e)=true):∃e∈l,e.on=k∧Region.binds .any e=true:=by
 rw [Array.any_eq_true'] at h;obtain ⟨e,he,h⟩:=h;rw [Bool.and_eq_true,beq_iff_eq] at h;exact ⟨e,he,h.1,h.2⟩
theorem heap_ex_ {w w':World} {B:Nat} {o:Obj} (h:Ex w w') (hb:w.heap[B]?=some o):w'.heap[B]?=some o:=by
 have hlt:B < w.heap.size:=(Array.getElem?_eq_some_iff.1 hb).1;rw [h.block B hlt];exact hb
theorem wp_region_as {id:Nat} {l:List Oper} {w:World} (pv:Nat→Value) (ib ia fa m:Nat) (u:Value) (T:TypeId) (A Fin:Value→World→Prop) (hm:P.follows .mixedOrders=true) (hB:rgnG a0.tmps.size l 0 []=true) (hl:asChk l ib ia fa m=true)
  (hs:StepAll (OpAs P Q l a0 pv w ib ia fa m) l 0)
  (hb:∀(o:Oper) (a:Act) (w1:World) (K:Act→World→Prop),l[ib]?=some o→Ex w w1→(∀k t o',(o.after.any fun e=> e.on==k && Region.binds .any e)=true→k < m→k≠ib→k≠ia→l[k]?=some o'→o'.dst=some t→a.tmps[t]?=some (pv k))→K (a.put o.dst (.slice (some ⟨w1.heap.size,0,none⟩) 1 1)) (w1.alloc (.cells #[u] T))→o.wp P a w1 K Q)
  (ha:∀(o ob:Oper) (a:Act) (w1:World) (B:Nat) (K:Act→World→Prop),l[ia]?=some o→l[ib]?=some ob→Ex w w1→(∀t,ob.dst=some t→a.tmps[t]?=some (.slice (some ⟨B,0,none⟩) 1 1))→w1.heap[B]?=some (.cells #[u] T)→(∀k t o',(o.after.any fun e=> e.on==k && Region.binds .any e)=true→k < m→k≠ib→k≠ia→l[k]?=some o'→o'.dst=some t→a.tmps[t]?=some (pv k))→(∀v w2,A v w2→K (a.put o.dst v) w2)→o.wp P a w1 K Q)
  (hst:∀(o oa of:Oper) (a:Act) (w1:World) (v:Value) (K:Act→World→Prop),l[m]?=some o→l[ia]?=some oa→l[fa]?=some of→A v w1→(∀t,oa.dst=some t→a.tmps[t]?=some v)→(∀t,of.dst=some t→a.tmps[t]?=some (pv fa))→(∀w2,Fin v w2→K (a.put o.dst undef) w2)→o.wp P a w1 K Q)
  (pv2:Nat→Value→Nat→Value) (hpv:∀B v,(List.range m).map (pv2 B v)=(List.range m).map (upd (upd pv ib (.slice (some ⟨B,0,none⟩) 1 1)) ia v))
  (he:∀(B:Nat) (v:Value) (w1:World),Fin v w1→Q .normal (putK l (pv2 B v) 0 a0) w1):(Code.region id l.toArray true).wp P Q a0 w:=by
 unfold asChk at hl;simp only [Bool.and_eq_true,beq_iff_eq,decide_eq_true_eq,bne_iff_ne,ne_eq] at hl;obtain ⟨⟨⟨⟨⟨⟨⟨⟨⟨hlen,hibm⟩,hiam⟩,hfam⟩,hba⟩,haf⟩,hbf⟩,hom⟩,hoa⟩,hsucc⟩:=hl;obtain ⟨om,hom1⟩:∃om,l[m]?=some om:=by
  cases h:l[m]? with
  | none=> rw [h] at hom;cases hom
  | some om=> exact ⟨om,rfl⟩
 rw [hom1] at hom;simp only [Bool.and_eq_true] at hom;obtain ⟨⟨hnone,hea⟩,hef⟩:=hom;have hdn:om.dst=none:=by cases hd:om.dst with | none=> rfl | some d=> rw [hd] at hnone;cases hnone
 obtain ⟨ea,hea1,hea2,hea3⟩:=any_edge hea;obtain ⟨ef,hef1,hef2,hef3⟩:=any_edge hef;obtain ⟨oa,hoa1⟩:∃oa,l[ia]?=some oa:=⟨_,List.getElem?_eq_getElem (by omega)⟩;obtain ⟨ob,hob1⟩:∃ob,l[ib]?=some ob:=⟨_,List.getElem?_eq_getElem (by omega)⟩;obtain ⟨of,hof1⟩:∃of,l[fa]?=some of:=⟨_,List.getElem?_eq_getElem (by omega)⟩;rw [hoa1] at hoa;obtain ⟨eb,heb1,heb2,heb3⟩:=any_edge hoa;have hanc:∀(L:Nat→Bool),(∀(k:Nat) (o':Oper),L k=true→l.toArray[k]?=some o'→∀e∈o'.after,Region.binds .any e=true→L e.on=true)→L ia=true→∀d k,m - k≤d→k < m→k≠fa→L k=true:=fun L hcl hia d=> by
  induction d with
  | zero=> intro k h1 h2;omega
  | succ d ih=>
   intro k h1 h2 h3;by_cases e:k=ia
   ·rw [e];exact hia
   ·have:=List.all_eq_true.1 hsucc k (List.mem_range.2 h2);simp only [Bool.or_eq_true,beq_iff_eq] at this;rcases this with (h | h) | h
    ·exact absurd h h3
    ·exact absurd h e
    ·obtain ⟨k',hk',h⟩:=List.any_eq_true.1 h;simp only [Bool.and_eq_true,decide_eq_true_eq,bne_iff_ne,ne_eq] at h;obtain ⟨⟨h4,h5⟩,h6⟩:=h;have hk'm:=List.mem_range.1 hk';have hLk:=ih k' (by omega) hk'm h5;obtain ⟨o',ho'⟩:∃o',l[k']?=some o':=⟨_,List.getElem?_eq_getElem (by omega)⟩;rw [ho'] at h6;obtain ⟨e1,g1,g2,g3⟩:=any_edge h6;have:=hcl k' o' hLk (by simpa using ho') e1 g1 g3;rw [g2] at this;exact this
 refine wp_region_inv (AsJ pv w ib ia fa m u T A Fin) hm hB ⟨fun k h=> (by cases h),fun _=> (Ex.refl w).drew,fun h=> (by cases h),fun h=> (by cases h),fun h=> (by cases h)⟩ ?_ ?_
 ·have key:∀(l':List Oper) (k0:Nat),(∀i o,l'[i]?=some o→l[k0 + i]?=some o)→StepAll (OpAs P Q l a0 pv w ib ia fa m) l' k0→StepAll (OpSt P Q (AsJ pv w ib ia fa m u T A Fin) l.toArray a0) l' k0:=fun l'=> by
   induction l' with
   | nil=> intro _ _ _;trivial
   | cons o l' ih=>
    intro k0 hsub h;refine ⟨?_,ih (k0 + 1) (fun i o' hi=> by rw [show k0 + 1 + i=k0 + (i + 1) from by omega];exact hsub (i + 1) o' hi) h.2⟩;intro L V a w' hf hj hi hd hcl K hK;have hok:l[k0]?=some o:=by have:=hsub 0 o rfl;simpa using this
    have hk0:k0 < l.length:=(List.getElem?_eq_some_iff.1 hok).1;have hin:∀k t o',L k=true→k < m→k≠ib→k≠ia→l[k]?=some o'→o'.dst=some t→a.tmps[t]?=some (pv k):=fun k t o' hk h1 h2 h3 ho' hd'=> by
     rw [←hj.vals k hk h1 h2 h3];exact hf.in_ k t hk ho' hd'
    have hpre:∀k t o',(o.after.any fun e=> e.on==k && Region.binds .any e)=true→k < m→k≠ib→k≠ia→l[k]?=some o'→o'.dst=some t→a.tmps[t]?=some (pv k):=fun k t o' hk h1 h2 h3 ho' hd'=> by
     obtain ⟨e,g1,g2,g3⟩:=any_edge hk;exact hin k t o' (by have:=hd e g1 g3;rw [g2] at this;exact this) h1 h2 h3 ho' hd'
    have hLia:k0≠fa→k0≠m→L ia=false:=fun h1 h2=> bool_no fun hb=> by
     have:=hanc L hcl hb _ k0 (Nat.le_refl _) (by omega) h1;rw [hi] at this;cases this
    have hLm:L m=false:=by
     by_cases e:k0=m
     ·rw [←e];exact hi
     ·refine bool_no fun hb=> ?_;by_cases e2:k0=fa
      ·have:=hcl m om hb (by simpa using hom1) ef hef1 hef3;rw [hef2,←e2,hi] at this;cases this
      ·have:=hcl m om hb (by simpa using hom1) ea hea1 hea3;rw [hea2,hLia e2 e] at this;cases this
    have h1:=h.1 L a w' hin (fun t ht=> hf.out_ t ht) hd K;by_cases e1:k0=fa
    ·rw [if_pos e1] at h1;refine h1 (hK (pv k0) _ ⟨fun k hk a1 a2 a3=> ?_,fun hh=> ?_,fun hh=> ?_,fun h2 h3=> ?_,fun h2=> ?_⟩)
     ·by_cases e2:k=k0
      ·rw [e2,upd_same]
      ·rw [upd_ne _ _ e2] at hk ⊢;exact hj.vals k hk a1 a2 a3
     ·rw [upd_ne _ _ (by omega)] at hh;exact hj.ex hh
     ·rw [upd_ne _ _ (by omega)] at hh ⊢;obtain ⟨B,g1,g2⟩:=hj.vb hh;exact ⟨B,g1,fun g3=> g2 (by rw [upd_ne _ _ (by omega)] at g3;exact g3)⟩
     ·rw [upd_ne _ _ (by omega)] at h2 h3 ⊢;exact hj.va h2 h3
     ·rw [upd_ne _ _ (by omega),hLm] at h2;cases h2
    ·rw [if_neg e1] at h1;by_cases e2:k0=m
     ·rw [e2,hom1] at hok;injection hok with hok;have hia:L ia=true:=by
       have:=hd ea (by rw [←hok];exact hea1) hea3;rw [hea2] at this;exact this
      have hfa:L fa=true:=by
       have:=hd ef (by rw [←hok];exact hef1) hef3;rw [hef2] at this;exact this
      rw [←hok];refine hst om oa of a w' (V ia) K hom1 hoa1 hof1 (hj.va hia hLm) (fun t ht=> hf.in_ ia t hia hoa1 ht) (fun t ht=> hin fa t of hfa (by omega) (by omega) (by omega) hof1 ht) fun w2 hw2=> ?_;rw [hok];refine hK undef _ ⟨fun k hk a1 a2 a3=> ?_,fun hh=> ?_,fun hh=> ?_,fun h2 h3=> ?_,fun h2=> ?_⟩
      ·rw [upd_ne _ _ (by omega)] at hk ⊢;exact hj.vals k hk a1 a2 a3
      ·rw [upd_ne _ _ (by omega),hia] at hh;cases hh
      ·rw [upd_ne _ _ (by omega)] at hh ⊢;obtain ⟨B,g1,g2⟩:=hj.vb hh;exact ⟨B,g1,fun g3=> by rw [upd_ne _ _ (by omega),hia] at g3;cases g3⟩
      ·rw [e2,upd_same] at h3;cases h3
      ·rw [upd_ne _ _ (by omega),upd_ne _ _ (by omega)];exact ⟨hia,hw2⟩
     ·have hLa:=hLia e1 e2;have hex:=hj.ex hLa;by_cases e3:k0=ia
      ·rw [e3,hoa1] at hok;injection hok with hok;have hib:L ib=true:=by
        have:=hd eb (by rw [←hok];exact heb1) heb3;rw [heb2] at this;exact this
       obtain ⟨B,g1,g2⟩:=hj.vb hib;rw [←hok];rw [←hok] at hpre;refine ha oa ob a w' B K hoa1 hob1 hex (fun t ht=> by rw [←g1];exact hf.in_ ib t hib hob1 ht) (g2 hLa) hpre fun v w2 hA=> ?_;rw [hok];refine hK v _ ⟨fun k hk a1 a2 a3=> ?_,fun hh=> ?_,fun hh=> ?_,fun h2 h3=> ?_,fun h2=> ?_⟩
       ·rw [upd_ne _ _ (by omega)] at hk ⊢;exact hj.vals k hk a1 a2 a3
       ·rw [e3,upd_same] at hh;cases hh
       ·rw [upd_ne _ _ (by omega)];exact ⟨B,g1,fun g3=> by rw [e3,upd_same] at g3;cases g3⟩
       ·rw [e3,upd_same];exact hA
       ·rw [upd_ne _ _ (by omega),hLm] at h2;cases h2
      ·by_cases e4:k0=ib
       ·rw [e4,hob1] at hok;injection hok with hok;rw [←hok] at hpre;rw [←hok];refine hb ob a w' K hob1 hex hpre ?_;rw [hok];refine hK (.slice (some ⟨w'.heap.size,0,none⟩) 1 1) _ ⟨fun k hk a1 a2 a3=> ?_,fun hh=> ?_,fun hh=> ?_,fun h2 h3=> ?_,fun h2=> ?_⟩
        ·rw [upd_ne _ _ (by omega)] at hk ⊢;exact hj.vals k hk a1 a2 a3
        ·exact hex.alloc _
        ·rw [e4,upd_same];exact ⟨_,rfl,fun _=> by show (w'.heap.push _)[w'.heap.size]?=_;rw [Array.getElem?_push_size]⟩
        ·rw [upd_ne _ _ (by omega),hLa] at h2;cases h2
        ·rw [upd_ne _ _ (by omega),hLm] at h2;cases h2
       ·rw [if_neg (by omega),if_neg e4] at h1;refine h1 hex fun w2 hx2=> hK (pv k0) _ ⟨fun k hk a1 a2 a3=> ?_,fun hh=> ?_,fun hh=> ?_,fun h2 h3=> ?_,fun h2=> ?_⟩
        ·by_cases e2:k=k0
         ·rw [e2,upd_same]
         ·rw [upd_ne _ _ e2] at hk ⊢;exact hj.vals k hk a1 a2 a3
        ·exact hex.trans hx2
        ·rw [upd_ne _ _ (by omega)] at hh ⊢;obtain ⟨B,g1,g2⟩:=hj.vb hh;exact ⟨B,g1,fun g3=> heap_ex_ hx2 (g2 hLa)⟩
        ·rw [upd_ne _ _ (by omega),hLa] at h2;cases h2
        ·rw [upd_ne _ _ (by omega),hLm] at h2;cases h2
  exact key l 0 (fun i o h=> by rw [Nat.zero_add];exact h) hs
 ·intro L V w' hall hj;obtain ⟨hia,hF⟩:=hj.fin (hall m (by omega));obtain ⟨B,hBv,-⟩:=hj.vb (hall ib (by omega));have hpw:∀i,i < m→pv2 B (V ia) i=upd (upd pv ib (.slice (some ⟨B,0,none⟩) 1 1)) ia (V ia) i:=fun i hi=> by
   have:=congrArg (fun L=> L[i]?) (hpv B (V ia));simpa [hi] using this
  have hp:putK l V 0 a0=putK l (pv2 B (V ia)) 0 a0:=putK_congr l 0 V _ a0 fun i o hi hd=> by
   rw [Nat.zero_add];have hil:i < l.length:=(List.getElem?_eq_some_iff.1 hi).1;have him:i < m:=by
    refine Nat.lt_of_le_of_ne (by omega) fun e=> hd ?_;rw [e,hom1] at hi;injection hi with hi;rw [←hi];exact hdn
   rw [hpw i him];by_cases e1:i=ia
   ·rw [e1,upd_same]
   ·rw [upd_ne _ _ e1];by_cases e2:i=ib
    ·rw [e2,upd_same];exact hBv
    ·rw [upd_ne _ _ e2];by_cases e3:i=m
     ·omega
     ·exact hj.vals i (hall i hil) him e2 e1
  rw [hp];exact he B (V ia) w' hF
def OpFs (P:Program) (Q:Exit→Act→World→Prop) (l:List Oper) (a0:Act) (pv:Nat→Value) (wr:World) (A Fin:Value→World→Prop) (ia m i:Nat) (o:Oper):Prop:=
 ∀(L:Nat→Bool) (a:Act) (w:World),(∀k t o',L k=true→k < m→k≠ia→l[k]?=some o'→o'.dst=some t→a.tmps[t]?=some (pv k))→(∀t,(l.all fun o=> o.dst !=some t)=true→a.tmps[t]?=a0.tmps[t]?)→(∀e∈o.after,Region.binds .any e=true→L e.on=true)→Ex wr w→
  ∀K:Act→World→Prop,
   if i=ia then (∀v w',Ex w w'→A v w'→K (a.put o.dst v) w')→o.wp P a w K Q
   else if i=m then ∀v,A v w→(∀t oa,l[ia]?=some oa→oa.dst=some t→a.tmps[t]?=some v)→(∀w',Fin v w'→K (a.put o.dst undef) w')→o.wp P a w K Q
   else (∀w',Ex w w'→K (a.put o.dst (pv i)) w')→o.wp P a w K Q
def fsChk (l:List Oper) (ia m:Nat):Bool:=
 match l[m]? with | some om=> l.length==m + 1 && decide (ia < m) && om.dst.isNone && (List.range m).all fun k=> om.after.any fun e=> e.on==k && Region.binds .any e | none=> false
structure FsJ (pv:Nat→Value) (wr:World) (ia m:Nat) (A Fin:Value→World→Prop) (L:Nat→Bool) (V:Nat→Value) (w:World):Prop where
 vals:∀k,L k=true→k < m→k≠ia→V k=pv k
 ex:L m=false→Ex wr w
 va:L ia=true→L m=false→A (V ia) w
 fin:L m=true→Fin (V ia) w
theorem wp_region_fs {id:Nat} {l:List Oper} {w:World} (pv:Nat→Value) (ia m:Nat) (A Fin:Value→World→Prop) (hA:∀v w1 w2,A v w1→Ex w1 w2→A v w2) (hm:P.follows .mixedOrders=true) (hB:rgnG a0.tmps.size l 0 []=true) (hl:fsChk l ia m=true)
  (hs:StepAll (OpFs P Q l a0 pv w A Fin ia m) l 0) (pv2:Value→Nat→Value) (hpv:∀v,(List.range m).map (pv2 v)=(List.range m).map (upd pv ia v))
  (he:∀(v:Value) (w1:World),Fin v w1→Q .normal (putK l (pv2 v) 0 a0) w1):(Code.region id l.toArray true).wp P Q a0 w:=by
 obtain ⟨om,hom⟩:∃om,l[m]?=some om:=by
  unfold fsChk at hl
  cases h:l[m]? with
  | none=> rw [h] at hl;cases hl
  | some om=> exact ⟨om,rfl⟩
 unfold fsChk at hl;rw [hom] at hl;simp only [Bool.and_eq_true,beq_iff_eq,decide_eq_true_eq] at hl;obtain ⟨⟨⟨hlen,hiam⟩,hnone⟩,hall⟩:=hl;have hdn:om.dst=none:=by cases hd:om.dst with | none=> rfl | some d=> rw [hd] at hnone;cases hnone
 have hlast:∀k,k < m→∃e∈om.after,(e:Edge).on=k∧Region.binds .any e=true:=fun k hk=> any_edge (List.all_eq_true.1 hall k (List.mem_range.2 hk));refine wp_region_inv (FsJ pv w ia m A Fin) hm hB ⟨fun k h=> (by cases h),fun _=> (Ex.refl w).drew,fun h=> (by cases h),fun h=> (by cases h)⟩ ?_ ?_
 ·have key:∀(l':List Oper) (k0:Nat),(∀i o,l'[i]?=some o→l[k0 + i]?=some o)→StepAll (OpFs P Q l a0 pv w A Fin ia m) l' k0→StepAll (OpSt P Q (FsJ pv w ia m A Fin) l.toArray a0) l' k0:=fun l'=> by
   induction l' with
   | nil=> intro _ _ _;trivial
   | cons o l' ih=>
    intro k0 hsub h;refine ⟨?_,ih (k0 + 1) (fun i o' hi=> by rw [show k0 + 1 + i=k0 + (i + 1) from by omega];exact hsub (i + 1) o' hi) h.2⟩;intro L V a w' hf hj hi hd hcl K hK;have hok:l[k0]?=some o:=by have:=hsub 0 o rfl;simpa using this
    have hk0:k0 < l.length:=(List.getElem?_eq_some_iff.1 hok).1;have hLm:L m=false:=by
     by_cases e:k0=m
     ·rw [←e];exact hi
     ·refine bool_no fun hb=> ?_;obtain ⟨e2,h1,h2,h3⟩:=hlast k0 (by omega);have:=hcl m om hb (by simpa using hom) e2 h1 h3;rw [h2,hi] at this;cases this
    have hex:=hj.ex hLm;have h1:=h.1 L a w' (fun k t o' hk h1 h2 ho' hd'=> by rw [←hj.vals k hk h1 h2];exact hf.in_ k t hk ho' hd') (fun t ht=> hf.out_ t ht) hd hex K;by_cases e1:k0=ia
    ·rw [if_pos e1] at h1;refine h1 fun v w2 hx2 hA2=> hK v _ ⟨fun k hk a1 a2=> ?_,fun hh=> hex.trans hx2,fun h2 h3=> ?_,fun h2=> ?_⟩
     ·rw [upd_ne _ _ (by omega)] at hk ⊢;exact hj.vals k hk a1 a2
     ·rw [e1,upd_same];exact hA2
     ·rw [upd_ne _ _ (by omega),hLm] at h2;cases h2
    ·rw [if_neg e1] at h1;by_cases e2:k0=m
     ·rw [if_pos e2] at h1;have hia:L ia=true:=by
       obtain ⟨e3,g1,g2,g3⟩:=hlast ia hiam;have hoo:o=om:=by rw [e2,hom] at hok;injection hok with hok;exact hok.symm
       have:=hd e3 (by rw [hoo];exact g1) g3;rw [g2] at this;exact this
      refine h1 (V ia) (hj.va hia hLm) (fun t oa hoa ht=> hf.in_ ia t hia hoa ht) fun w2 hw2=> hK undef _ ⟨fun k hk a1 a2=> ?_,fun hh=> ?_,fun h2 h3=> ?_,fun h2=> ?_⟩
      ·rw [upd_ne _ _ (by omega)] at hk ⊢;exact hj.vals k hk a1 a2
      ·rw [e2,upd_same] at hh;cases hh
      ·rw [e2,upd_same] at h3;cases h3
      ·rw [upd_ne _ _ (by omega)];exact hw2
     ·rw [if_neg e2] at h1;refine h1 fun w2 hx2=> hK (pv k0) _ ⟨fun k hk a1 a2=> ?_,fun hh=> hex.trans hx2,fun h2 h3=> ?_,fun h2=> ?_⟩
      ·by_cases e3:k=k0
       ·rw [e3,upd_same]
       ·rw [upd_ne _ _ e3] at hk ⊢;exact hj.vals k hk a1 a2
      ·rw [upd_ne _ _ (by omega)] at h2 h3 ⊢;exact hA _ _ _ (hj.va h2 h3) hx2
      ·rw [upd_ne _ _ (by omega),hLm] at h2;cases h2
  exact key l 0 (fun i o h=> by rw [Nat.zero_add];exact h) hs
 ·intro L V w' hall' hj;have hF:=hj.fin (hall' m (by omega));have hpw:∀i,i < m→pv2 (V ia) i=upd pv ia (V ia) i:=fun i hi=> by
   have:=congrArg (fun L=> L[i]?) (hpv (V ia));simpa [hi] using this
  have hp:putK l V 0 a0=putK l (pv2 (V ia)) 0 a0:=putK_congr l 0 V _ a0 fun i o hi hd=> by
   rw [Nat.zero_add];have hil:i < l.length:=(List.getElem?_eq_some_iff.1 hi).1;have him:i < m:=by
    refine Nat.lt_of_le_of_ne (by omega) fun e=> hd ?_;rw [e,hom] at hi;injection hi with hi;rw [←hi];exact hdn
   rw [hpw i him];by_cases e1:i=ia
   ·rw [e1,upd_same]
   ·rw [upd_ne _ _ e1];exact hj.vals i (hall' i hil) him e1
  rw [hp];exact he (V ia) w' hF
end
end Go.Proofs.YtgdmlmhpineibaaGreat
