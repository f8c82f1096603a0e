/- Walk of codewrightref31.Small. -/
import Derived.Test.YtgdmlmhpineibaaGreatZf27
import Derived.Test.YtgdmlmhpineibaaGreatZf35
import Derived.Test.YtgdmlmhpineibaaGreatZf36
import Derived.Test.YtgdmlmhpineibaaGreatZf40
import Derived.Test.YtgdmlmhpineibaaGreatZf47
import Derived.Test.YtgdmlmhpineibaaGreatZf48
import Derived.Test.YtgdmlmhpineibaaGreatZf49
namespace Go.Proofs.YtgdmlmhpineibaaGreat
set_option linter.unusedVariables false
set_option linter.unusedSimpArgs false
set_option maxRecDepth 100000
set_option maxHeartbeats 4000000
section
open Go.RowKit
theorem ordS_rng (p m:Int):0≤ordS p m∧ordS p m≤256:=by
 unfold ordS;split
 ·rename_i h;have:0≤p ^ m.toNat:=Int.pow_nonneg (by omega);exact ⟨this,h.2.2.2⟩
 ·omega
theorem smK_le {N q i k:Nat} (h:i≤k):(smK N q i).2≤(smK N q k).2:=by
 induction k with
 | zero=>
   obtain rfl:i=0:=by omega
   exact Nat.le_refl _
 | succ k ih=>
  by_cases e:i=k + 1
  ·rw [e];exact Nat.le_refl _
  ·refine Nat.le_trans (ih (by omega)) ?_;show _≤(smK N q k).2 + _
   omega
theorem smK_fst {N q:Nat}:∀i,(smK N q i).1≤(smK N q i).2
 | 0=> Nat.le_refl _
 | i + 1=> by
  show (smK N q i).1 * ((N - i) * max 1 (q - 1))≤(smK N q i).2 + (smK N q i).1 * ((N - i) * max 1 (q - 1))
  omega
theorem rSmall_any (w:World) (c:CdV) (m1 v1:Value) (hc:c.at w m1 v1):
  Calls Tryz.prog 28 #[c.arg m1 v1] w fun r w'=> BolR (SmlP c.n (ordS c.p c.m).toNat) r∧Ex w w':=by
 obtain ⟨c0,c1,c2,c3,c4⟩:=boxC5 w c m1 v1;have HX:=hid_ (e_al w (c.obj m1 v1));have HOR:=hid_ (fun w'=> rOrder_any c.p c.m m1 w');obtain ⟨x1,y1,rfl,-,z1,-⟩:=hc.g.open;obtain ⟨x3,y3,rfl,-,z3,-⟩:=hc.m.open;obtain ⟨p,m,ml,n,rows⟩:=c;obtain ⟨B,hB⟩:∃B,w.heap.size=B:=⟨_,rfl⟩;rw [hB] at c0 c1 c2 c3 c4;dsimp only [CdV.arg,CdV.obj] at *;obtain ⟨hq1,hq2⟩:=ordS_rng p m;obtain ⟨Q,hQ⟩:∃Q:Nat,ordS p m=Q:=⟨(ordS p m).toNat,by omega⟩;rw [hQ] at HOR ⊢;have hQ2:Q≤256:=by omega
 rw [Int.toNat_natCast];obtain ⟨P,hP⟩:∃P,SmlP n Q=P:=⟨_,rfl⟩;have HP:=hid_ (show P↔(n < 1∨7 < n→n < 1∨64 < n)∧(1≤n→n≤7→∀i,i≤n.toNat→(smK n.toNat Q i).2≤3000) from by rw [←hP];exact Iff.rfl);rw [hP];clear hc hP z1 z3 hQ hq1 hq2;go_enter Tryz.func28,Tryz.ntmps28
 go_upto_region 1 with fail
 try simp only [hB]
 clear hB;generalize w.alloc (.cells #[.int .i64 p,.int .i64 m,.slice x3 ml.length y3,.int .i64 n,.slice x1 rows.length y1] 47)=w1 at *;have HALL:=hid_ (fun w' (h:Ex w1 w')=> (⟨h.cell c0,h.cell c1,h.cell c2,h.cell c3,h.cell c4⟩:_∧_∧_∧_∧_));by_cases h1:n < 1
 ·have k1:decide (n < 1)=true:=decide_eq_true h1;have HN:=hid_ (show P from HP.out.2 ⟨fun _=> .inl h1,fun h=> absurd h (by omega)⟩);clear h1;go_wp2_with fail
  go_ret;exact ⟨bolR_yes HN.out,HX.out⟩
 have k1:decide (n < 1)=false:=decide_eq_false h1;by_cases h2:7 < n
 ·have k2:decide (7 < n)=true:=decide_eq_true h2;by_cases h3:64 < n
  ·have k3:decide (64 < n)=true:=decide_eq_true h3;have HN:=hid_ (show P from HP.out.2 ⟨fun _=> .inr h3,fun _ h=> absurd h (by omega)⟩);clear h1 h2 h3;go_wp2_with fail
   go_ret;exact ⟨bolR_yes HN.out,HX.out⟩
  ·have k3:decide (64 < n)=false:=decide_eq_false h3;have HN:=hid_ (show ¬P from fun h=> by rcases (HP.out.1 h).1 (.inr h2) with h | h <;> omega);clear h1 h2 h3;go_wp2_with fail
   go_ret;exact ⟨bolR_no HN.out,HX.out⟩
 have k2:decide (7 < n)=false:=decide_eq_false h2;obtain ⟨N,rfl⟩:∃N:Nat,n=N:=⟨n.toNat,by omega⟩;have HN17:=hid_ (show 1≤N∧N≤7 from ⟨by omega,by omega⟩);rw [Int.toNat_natCast] at HP;clear h1 h2;go_wp2_with fail
 clear c0 c1 c2 c3 c4
 go_loopw [3,4,5] (fun a' b' i' wr=> ∃(i:Nat),i≤N∧a'= .int .i64 (smK N Q i).1∧b'= .int .i64 (smK N Q i).2∧i'= .int .i64 i∧Hid ((smK N Q i).2≤3000)∧Hid (Ex w1 wr)) (fun a' b' i' _=> N - (intOf i').toNat)
 case atStart=> exact ⟨0,by omega,rfl,rfl,rfl,hid_ (by simp [smK]),hid_ (Ex.refl w1)⟩
 case round=>
  obtain ⟨i,hi,rfl,rfl,rfl,hle,hex⟩:=hrel;obtain ⟨c0,c1,c2,c3,c4⟩:=HALL.out wr hex.out;by_cases hlt:i < N
  ·have i1:(0:Int)≤(i:Int):=by omega
   have i2:(i:Int) < (N:Int):=by omega
   obtain ⟨A,hA⟩:∃A,(smK N Q i).1=A:=⟨_,rfl⟩;obtain ⟨S,hS⟩:∃S,(smK N Q i).2=S:=⟨_,rfl⟩;have HA:=hid_ hA;have HS:=hid_ hS;have hfs:=smK_fst (N:=N) (q:=Q) i;have hS3:=hle.out;rw [hA,hS] at hfs;rw [hS] at hS3;rw [hA,hS];obtain ⟨T,hT⟩:∃T:Nat,max 1 (Q - 1)=T:=⟨_,rfl⟩;have hT1:1≤T∧T≤255:=by omega
   obtain ⟨D,hD⟩:∃D:Nat,N - i=D:=⟨_,rfl⟩;have hDi:(N:Int) - (i:Int)=(D:Int):=by omega
   have hD7:D≤7:=by have:=HN17.out;omega
   have hDT:D * T≤1785:=Nat.mul_le_mul hD7 hT1.2;have hAA:A * (D * T)≤3000 * 1785:=Nat.mul_le_mul (by omega) hDT;have hmx:(if (1:Int) < (Q:Int) - 1 then (Q:Int) - 1 else 1)=(T:Int):=by split <;> omega
   have HSU:=hid_ (show (smK N Q (i + 1)).1=A * (D * T)∧(smK N Q (i + 1)).2=S + A * (D * T) from by
    rw [←hA,←hS,←hD,←hT];exact ⟨rfl,rfl⟩)
   obtain ⟨M,hM⟩:∃M:Nat,A * (D * T)=M:=⟨_,rfl⟩;have hMi:(A:Int) * ((D:Int) * (T:Int))=(M:Int):=by rw [←hM];push_cast;rfl
   rw [hM] at HSU hAA;have HOR2:=hid_ (fun w' (h:Ex wr w')=> HOR.out w');have HAL:=hid_ (fun w' (h:Ex wr w')=> HALL.out w' (hex.out.trans h));clear hA hS hT hD hfs;have W1:=hid_ (show IntKind.i64.wrap (D:Int)=(D:Int) from IntWalk.i64_in _ (by omega));have W2:=hid_ (show IntKind.i64.wrap ((Q:Int) - 1)=(Q:Int) - 1 from IntWalk.i64_in _ (by omega));have hDTn:(D:Int) * (T:Int)=((D * T:Nat):Int):=by push_cast;rfl
   have W3:=hid_ (show IntKind.i64.wrap ((D:Int) * (T:Int))=(D:Int) * (T:Int) from IntWalk.i64_in _ (by rw [hDTn];omega));have W4:=hid_ (show IntKind.i64.wrap ((A:Int) * ((D:Int) * (T:Int)))=(M:Int) from by rw [hMi];exact IntWalk.i64_in _ (by omega));have HB:=hid_ (show S≤3000∧M≤3000 * 1785 from ⟨hS3,hAA⟩);clear hMi hDTn hM hAA hDT;go_upto_region 7 with fail
   go_cut [3] from 28 to 39 (fun a wx=> a= .int .i64 (M:Int)∧Hid (Ex wr wx))
   case first=>
    have y1:=W1.out;have y2:=W2.out;have y3:=W3.out;have y4:=W4.out
    go_region_law ((go_simp;refine (HOR2.out _ (by repeat (first | exact Ex.refl _ | apply Ex.drew))).mono ?_;rintro e w5 ⟨rfl,hx5⟩;have HX5:=hid_ (Ex.trans (show Ex wr _ by repeat (first | exact Ex.refl _ | apply Ex.drew)) hx5);have z0:=(HAL.out w5 HX5.out).1;have z3:=(HAL.out w5 HX5.out).2.2.2.1;go_simp))
    all_goals go_wp2_with fail
    all_goals go_meet
    all_goals exact ⟨by rfl,hid_ (by repeat (first | exact HX5.out | apply Ex.drew))⟩
   case rest=>
    obtain ⟨rfl,hxc⟩:=hcut;obtain ⟨hS3,hAA⟩:=HB.out;have hi7:i≤7:=by have:=HN17.out;omega
    clear c0 c1 c2 c3 c4;by_cases h5:3000 < S + M
    ·have k5:decide ((3000:Int) < (S:Int) + (M:Int))=true:=decide_eq_true (by omega);have j5:(3000:Int) < (S:Int) + (M:Int):=by omega
     have HN:=hid_ (show ¬P from fun h=> by
      have:=(HP.out.1 h).2 (by have:=HN17.out;omega) (by have:=HN17.out;omega) (i + 1) (by omega);rw [HSU.out.2] at this;omega)
     clear h5;go_wp2_with fail
     go_ret;exact ⟨bolR_no HN.out,HX.out.trans (hex.out.trans hxc.out)⟩
    ·have k5:decide ((3000:Int) < (S:Int) + (M:Int))=false:=decide_eq_false (by omega);have j5:¬(3000:Int) < (S:Int) + (M:Int):=by omega
     have HL:=hid_ (show (smK N Q (i + 1)).2≤3000 from by rw [HSU.out.2];omega);clear h5;go_wp2_with fail
     go_roundw
     case rel=> exact ⟨i + 1,by omega,by rw [HSU.out.1],by rw [HSU.out.2];go_num,by go_num,HL,hid_ (hex.out.trans hxc.out)⟩
     case measure=> simp [intOf];omega
  ·obtain rfl:i=N:=by omega
   have HN:=hid_ (show P from HP.out.2 ⟨fun h=> by have:=HN17.out;omega,fun _ _ k hk=> Nat.le_trans (smK_le hk) hle.out⟩);go_wp2_with fail
   go_ret;exact ⟨bolR_yes HN.out,HX.out.trans hex.out⟩
end
section
open Go.RowKit
theorem grown_set {w w':World} {ob:Option Nat} (h:w.grownBy w' ob) {B:Nat} (hB:w.heap.size≤B) (i:Nat) (u:Value):w.grownBy (w'.setCell ⟨B,i,none⟩ u) ob:=
 ⟨h.os,h.tape,h.output,by rw [heap_size_set];exact h.size,fun k hk hne=> by
  rw [Below.heap_setCell w' ⟨B,i,none⟩ u k (fun e=> by have:k=B:=e;omega)];exact h.block k hk hne⟩
theorem own_typ' {w:World} {base:Nat} {e t:TypeId} {size n:Nat} {v:Value} {xs:List Value} {g:Nat} {cs:Array Value} (h:w.ownsRow base e size v n xs) (hg:w.heap[g]?=some (.cells cs t)) (he:e≠t):v.ownBlock≠some g:=by
 intro e0;rcases h.2 with ⟨h1,h2⟩ | ⟨g',cap,cur,h1,h2,h3,_⟩
 ·rw [h1] at e0;cases e0
 ·rw [h1] at e0;injection e0 with e0;have e0:g'=g:=e0;subst e0;rw [hg] at h3;injection h3 with h3;injection h3 with _ h3;exact he h3.symm
theorem isl_set {w:World} {v:Value} {l:List Int} (h:ISl w v l) {A:Addr} {a:Option Addr} {n c:Nat} (hA:w.cell? A=some (.slice a n c)) (u:Value):ISl (w.setCell A u) v l:=by
 obtain ⟨h1,b,cap,h2,h3,h4,h5⟩:=h;refine ⟨h1,b,cap,h2,h3,h4,fun hn=> ?_⟩;obtain ⟨B,o,h6,h7⟩:=h5 hn;refine ⟨B,o,h6,fun j x hx=> ?_⟩;have h8:=h7 j x hx;rw [World.cell?_setCell_other _ _ _ _ (fun e=> ?_)]
 ·exact h8
 ·rw [e] at hA;rw [hA] at h8;injection h8 with h8;unfold ints at hx;rw [List.getElem?_map] at hx
  cases hl:l[j]? with
  | none=> rw [hl] at hx;cases hx
  | some z=> rw [hl,←h8] at hx;cases hx
theorem isl_kept {w w':World} {v lv:Value} {l:List Int} (h:ISl w v l) (hg:w.grownBy w' lv.ownBlock) (ha:l≠ []→Aprt v lv):ISl w' v l:=by
 obtain ⟨h1,b,cap,h2,h3,h4,h5⟩:=h;refine ⟨h1,b,cap,h2,h3,h4,fun hn=> ?_⟩;obtain ⟨B,o,h6,h7⟩:=h5 hn;refine ⟨B,o,h6,fun j x hx=> hg.cell (h7 j x hx) (fun e=> ?_)⟩;rcases ha (List.length_pos_iff.1 hn) with h8 | h8
 ·rw [h2,h6] at h8;cases h8
 ·exact h8 (by rw [←e,h2,h6];rfl)
structure RGr (w0 w:World) (v:Value) (L:List Nd) (mvs:List Value):Prop where
 ex:Ex w0 w
 len:mvs.length=L.length
 own:w.ownsRow w0.heap.size 78 4 v L.length (rfC (rfOf L) mvs)
 at_:∀(i:Nat) (e:Rf) (mv:Value),(rfOf L)[i]?=some e→mvs[i]?=some mv→w.ownsRow w0.heap.size 3 1 mv e.msg.length (ints e.msg)∧Aprt mv v
section
variable {w0 w w':World} {v v' mv:Value} {L:List Nd} {mvs:List Value} {x:Nd}
theorem RGr.nil (h:Ex w0 w):RGr w0 w (.slice none 0 0) [] []:=⟨h,rfl,World.ownsRow_nil _ _ _ _,fun i e mv h=> by simp [rfOf] at h⟩
theorem RGr.later (h:RGr w0 w v L mvs) (hx:Ex w w'):RGr w0 w' v L mvs:=
 ⟨h.ex.trans hx,h.len,ownsRow_ex h.own hx,fun i e mv a b=> ⟨ownsRow_ex (h.at_ i e mv a b).1 hx,(h.at_ i e mv a b).2⟩⟩
theorem RGr.set (h:RGr w0 w v L mvs) {B:Nat} {cs:Array Value} {t:TypeId} (hb:w.heap[B]?=some (.cells cs t)) (h1:v.ownBlock≠some B) (h2:3≠t) (hB:w0.heap.size≤B) (i:Nat) (u:Value):RGr w0 (w.setCell ⟨B,i,none⟩ u) v L mvs:=
 ⟨h.ex.setCell (p:=⟨B,i,none⟩) hB u,h.len,ownsRow_setCell_ne (a:=⟨B,i,none⟩) h.own h1 u,fun j e mv a b=> ⟨ownsRow_setCell_ne (a:=⟨B,i,none⟩) (h.at_ j e mv a b).1 (own_typ' (h.at_ j e mv a b).1 hb h2) u,(h.at_ j e mv a b).2⟩⟩
theorem RGr.app (h:RGr w0 w v L mvs) (om:w.ownsRow w0.heap.size 3 1 mv x.msg.length (ints x.msg)) (am:Aprt mv v)
  (ha:Appd w w' w0.heap.size 78 4 v v' L.length (rfC (rfOf L) mvs) ((if L= [] then (⟨0,0,x.side,x.msg⟩:Rf) else ndR x).cells mv)):RGr w0 w' v' (L ++ [x]) (mvs ++ [mv]):=by
 refine ⟨ha.ex h.ex (Nat.le_refl _),by simp [h.len],?_,fun i e u hi hu=> ?_⟩
 ·rw [List.length_append,rfOf_snoc,rfC_snoc _ _ _ _ (by rw [h.len,rfOf_len])];exact ha.own
 ·rw [rfOf_snoc] at hi;by_cases hil:i < L.length
  ·rw [List.getElem?_append_left (by rw [rfOf_len];exact hil)] at hi;rw [List.getElem?_append_left (by rw [h.len];exact hil)] at hu;obtain ⟨p1,p2⟩:=h.at_ i e u hi hu;exact ha.row p1 p2
  ·rw [List.getElem?_append_right (by rw [rfOf_len];omega)] at hi;rw [List.getElem?_append_right (by rw [h.len];omega)] at hu;rw [rfOf_len] at hi;rw [h.len] at hu;have h0:i - L.length=0:=by
    have:=(List.getElem?_eq_some_iff.1 hi).1;simp at this;omega
   rw [h0] at hi hu;simp at hi hu;subst hu;have:e.msg=x.msg:=by rw [←hi];split <;> rfl
   rw [this];exact ha.row om am
end
structure NxR (w2 wr:World) (xv:Value) (xs:List (List Int × List Int)) (cs:List (Value × Value)) (lv:Value):Prop where
 len:cs.length=xs.length
 own:wr.ownsRow w2.heap.size 49 2 xv xs.length (cs.flatMap fun c=> [c.1,c.2])
 at_:∀(i:Nat) (x:List Int × List Int) (c:Value × Value),xs[i]?=some x→cs[i]?=some c→wr.ownsRow w2.heap.size 3 1 c.1 x.1.length (ints x.1)∧wr.ownsRow w2.heap.size 3 1 c.2 x.2.length (ints x.2)∧Aprt c.1 lv∧Aprt c.2 lv
 ap:Aprt xv lv
section
variable {w w2 wr w':World} {xv lv lv':Value} {xs:List (List Int × List Int)} {cs:List (Value × Value)}
theorem NxR.of (h:PGr w2 wr xv xs cs) (hl:∀B,lv.ownBlock=some B→B < w2.heap.size):NxR w2 wr xv xs cs lv:=
 ⟨h.len,h.own,fun i x c a b=> ⟨(h.at_ i x c a b).1.1,(h.at_ i x c a b).2.1,aprt_new (fun B hB=> ((h.at_ i x c a b).1.1.lt B hB).1) hl,aprt_new (fun B hB=> ((h.at_ i x c a b).2.1.lt B hB).1) hl⟩,aprt_new (fun B hB=> (h.own.lt B hB).1) hl⟩
theorem NxR.kept (h:NxR w2 wr xv xs cs lv) (hg:wr.grownBy w' lv.ownBlock) (hat:lv'.ownBlock=lv.ownBlock∨∀B,lv'.ownBlock=some B→wr.heap.size≤B):NxR w2 w' xv xs cs lv':=by
 have key:∀ {e:TypeId} {s n:Nat} {c:Value} {ys:List Value},wr.ownsRow w2.heap.size e s c n ys→Aprt c lv→Aprt c lv':=fun {e s n c ys} ho ha=> by
  rcases hat with h1 | h1
  ·unfold Aprt at *;rw [h1];exact ha
  ·exact (aprt_new h1 fun B hB=> (ho.lt B hB).2).symm
 exact ⟨h.len,h.own.kept hg h.ap,fun i x c a b=> by
  obtain ⟨p1,p2,p3,p4⟩:=h.at_ i x c a b;exact ⟨p1.kept hg p3,p2.kept hg p4,key p1 p3,key p2 p4⟩,key h.own h.ap⟩
theorem NxR.get (h:NxR w2 wr xv xs cs lv) {i:Nat} (hi:i < xs.length):∃(b cap:Nat) (u1 u2:Value),xv= .slice (some ⟨b,0,none⟩) xs.length cap∧wr.cell? ⟨b,i * 2,none⟩=some u1∧wr.cell? ⟨b,i * 2 + 1,none⟩=some u2∧ISl wr u1 (xs[i]'hi).1∧ISl wr u2 (xs[i]'hi).2∧Aprt u1 lv∧Aprt u2 lv∧some b≠lv.ownBlock:=by
 have hg:cs[i]?=some (cs[i]'(by rw [h.len];exact hi)):=List.getElem?_eq_getElem _;obtain ⟨p1,p2,p3,p4⟩:=h.at_ i _ _ (List.getElem?_eq_getElem hi) hg;obtain ⟨g1,g2⟩:=fm2_get cs i _ hg;obtain ⟨b,cap,e,-,-⟩:=own_open h.own (by omega);obtain ⟨-,a',cap',e2,-,-,h5⟩:=Sl.own h.own;obtain ⟨b',o',e3,h6⟩:=h5 (by omega);rw [e] at e2;injection e2 with e2 _ _;rw [e3] at e2;injection e2 with e2;injection e2 with e4 e5 _;subst e4 e5;refine ⟨b,cap,_,_,e,?_,?_,Sl.own p1,Sl.own p2,p3,p4,by
  rcases h.ap with h7 | h7
  ·rw [e] at h7;cases h7
  ·rw [e] at h7;exact h7⟩
 ·have:=h6 _ _ g1;rw [Nat.zero_add] at this;exact this
 ·have:=h6 _ _ g2;rw [Nat.zero_add] at this;exact this
end
def SrV (w0 w:World) (lv:Value) (R:(Nat × List Nd) × Int) (v qt qs:Value) (e:Int) (w':World):Prop:=
 Ex w0 w'∧w.grownBy w' lv.ownBlock∧(∃a n c,qt= .slice a n c)∧(∃a n c,qs= .slice a n c)∧
 ((R.2=0∧e=0∧R.1.1=R.1.2.length∧R.1.2.length≤65536∧R.1.2≠ []∧(∃mvs,RGr w0 w' v R.1.2 mvs)∧(v.ownBlock=lv.ownBlock∨∀B,v.ownBlock=some B→w.heap.size≤B))∨
 (R.2=18∧e=11∧ISl w' qt (lastN R.1.2).tl∧ISl w' qs (lastN R.1.2).sc)∨(R.2=8∧e=8))
def SrO (w0 w:World) (lv:Value) (R:(Nat × List Nd) × Int) (r:Ending) (w':World):Prop:=
 ∃(v qt qs:Value) (e:Int),r= .returned (.tuple #[v,.agg #[qt,qs],.int .i64 e])∧SrV w0 w lv R v qt qs e w'
section
variable {w0 w wa w' w'':World} {lv v qt qs:Value} {R:(Nat × List Nd) × Int} {e:Int}
theorem SrV.later (h:SrV w0 w lv R v qt qs e w') (hx:Ex w' w''):SrV w0 w lv R v qt qs e w'':=by
 obtain ⟨h1,h2,h3,h4,h5⟩:=h;refine ⟨h1.trans hx,h2.trans (grown_ex hx _),h3,h4,?_⟩;rcases h5 with ⟨a1,a2,a3,a4,a5,⟨mvs,a6⟩,a7⟩ | ⟨a1,a2,a3,a4⟩ | h5
 ·exact .inl ⟨a1,a2,a3,a4,a5,⟨mvs,a6.later hx⟩,a7⟩
 ·exact .inr (.inl ⟨a1,a2,a3.ex hx,a4.ex hx⟩)
 ·exact .inr (.inr h5)
theorem SrV.set (h:SrV w0 w lv R v qt qs e w') {B:Nat} {cs:Array Value} {t:TypeId} (hb:w'.heap[B]?=some (.cells cs t)) (t1:78≠t) (t2:3≠t) (hB:w.heap.size≤B) (hB0:w0.heap.size≤B) (i:Nat) {a:Option Addr} {n c:Nat} (hc:w'.cell? ⟨B,i,none⟩=some (.slice a n c)) (u:Value):SrV w0 w lv R v qt qs e (w'.setCell ⟨B,i,none⟩ u):=by
 obtain ⟨h1,h2,h3,h4,h5⟩:=h;refine ⟨h1.setCell (p:=⟨B,i,none⟩) hB0 u,grown_set h2 hB i u,h3,h4,?_⟩;rcases h5 with ⟨a1,a2,a3,a4,a5,⟨mvs,a6⟩,a7⟩ | ⟨a1,a2,a3,a4⟩ | h5
 ·exact .inl ⟨a1,a2,a3,a4,a5,⟨mvs,a6.set hb (own_typ' a6.own hb t1) t2 hB0 i u⟩,a7⟩
 ·exact .inr (.inl ⟨a1,a2,isl_set a3 hc u,isl_set a4 hc u⟩)
 ·exact .inr (.inr h5)
theorem SrV.from (h:SrV w0 wa lv R v qt qs e w') (hx:Ex w wa):SrV w0 w lv R v qt qs e w':=by
 obtain ⟨h1,h2,h3,h4,h5⟩:=h;refine ⟨h1,(grown_ex hx _).trans h2,h3,h4,?_⟩;rcases h5 with ⟨a1,a2,a3,a4,a5,a6,a7⟩ | h5
 ·exact .inl ⟨a1,a2,a3,a4,a5,a6,a7.imp id fun k B hB=> Nat.le_trans hx.size (k B hB)⟩
 ·exact .inr h5
end
theorem box2_set {w:World} {B:Nat} {u v x y:Value} {t:TypeId} (hb:w.heap[B]?=some (.cells #[u,v] t)):
  ((w.setCell ⟨B,0,none⟩ x).setCell ⟨B,1,none⟩ y).cell? ⟨B,0,none⟩=some x∧((w.setCell ⟨B,0,none⟩ x).setCell ⟨B,1,none⟩ y).cell? ⟨B,1,none⟩=some y:=by
 have h0:w.cell? ⟨B,0,none⟩=some u:=by unfold World.cell?;simp [hb]
 have h1:w.cell? ⟨B,1,none⟩=some v:=by unfold World.cell?;simp [hb]
 refine ⟨?_,?_⟩
 ·rw [cell_set_off (by decide)];exact World.cell?_setCell_same _ _ _ h0
 ·exact World.cell?_setCell_same _ _ _ (by rw [cell_set_off (by decide)];exact h1)
theorem heap_setc {w:World} {B i:Nat} {u v x:Value} {t:TypeId} (hb:w.heap[B]?=some (.cells #[u,v] t)):∃cs,(w.setCell ⟨B,i,none⟩ x).heap[B]?=some (.cells cs t):=by
 have hlt:B < w.heap.size:=(Array.getElem?_eq_some_iff.1 hb).1;refine ⟨(#[u,v]:Array Value).setIfInBounds i x,?_⟩;unfold World.setCell;show (w.heap.modify B _)[B]?=_
 rw [Array.getElem?_modify,if_pos rfl,hb];rfl
theorem SrV.fin {w0 w w':World} {lv v qt qs:Value} {R:(Nat × List Nd) × Int} {e:Int} (h:SrV w0 w lv R v qt qs e w') {B:Nat} (hb:w'.heap[B]?=some (.cells #[.slice none 0 0,.slice none 0 0] 49)) (hB:w.heap.size≤B) (hB0:w0.heap.size≤B) (x y:Value):SrV w0 w lv R v qt qs e ((w'.setCell ⟨B,0,none⟩ x).setCell ⟨B,1,none⟩ y):=by
 have h0:w'.cell? ⟨B,0,none⟩=some (.slice none 0 0):=by unfold World.cell?;simp [hb]
 have h1:w'.cell? ⟨B,1,none⟩=some (.slice none 0 0):=by unfold World.cell?;simp [hb]
 obtain ⟨cs,hc⟩:=heap_setc (i:=0) (x:=x) hb;exact (h.set hb (by decide) (by decide) hB hB0 0 h0 x).set hc (by decide) (by decide) hB hB0 1 (by rw [cell_set_off (by decide)];exact h1) y
theorem heap_setq {w:World} {B i:Nat} {cs:Array Value} {x:Value} {t:TypeId} (hb:w.heap[B]?=some (.cells cs t)):(w.setCell ⟨B,i,none⟩ x).heap[B]?=some (.cells (cs.setIfInBounds i x) t):=by
 unfold World.setCell;show (w.heap.modify B _)[B]?=_
 rw [Array.getElem?_modify,if_pos rfl,hb];rfl
theorem box4_use {w:World} {B:Nat} {a b c d:Value} {t:TypeId} (h:w.heap[B]?=some (.cells #[a,b,c,d] t)):(w.cell? ⟨B,0,none⟩=some a∧w.cell? ⟨B,1,none⟩=some b∧w.cell? ⟨B,2,none⟩=some c∧w.cell? ⟨B,3,none⟩=some d)∧(w.frozen? ⟨B,0,none⟩=false∧w.frozen? ⟨B,1,none⟩=false∧w.frozen? ⟨B,2,none⟩=false∧w.frozen? ⟨B,3,none⟩=false):=by
 unfold World.cell? World.frozen?;simp [h]
theorem box2_use {w:World} {B:Nat} {a b:Value} {t:TypeId} (h:w.heap[B]?=some (.cells #[a,b] t)):w.cell? ⟨B,0,none⟩=some a∧w.cell? ⟨B,1,none⟩=some b∧w.frozen? ⟨B,0,none⟩=false∧w.frozen? ⟨B,1,none⟩=false:=by
 unfold World.cell? World.frozen?;simp [h]
theorem foX_snoc {σ:Type} (step:σ→List Int→List Int→σ × Int) (xs:List (List Int × List Int)) (x:List Int × List Int) (s s':σ) (h:foX step xs s=(s',0)):foX step (xs ++ [x]) s=step s' x.1 x.2:=by
 rw [foX_app,if_neg (by rw [h];simp),h,foX_one]
theorem foX_hit {σ:Type} (step:σ→List Int→List Int→σ × Int) (xs:List (List Int × List Int)) {i:Nat} (hi:i < xs.length) (s s':σ) (h:foX step (xs.take i) s=(s',0)) (hn:(step s' (xs[i]'hi).1 (xs[i]'hi).2).2≠0):foX step xs s=step s' (xs[i]'hi).1 (xs[i]'hi).2:=by
 have e:xs=xs.take i ++ xs[i] :: xs.drop (i + 1):=by
  rw [←List.drop_eq_getElem_cons hi,List.take_append_drop]
 have e2:foX step xs s=foX step (xs.take i ++ xs[i] :: xs.drop (i + 1)) s:=by rw [←e]
 rw [e2,foX_app,if_neg (by rw [h];simp),h,foX_cons,if_pos hn]
end
section
open Go.RowKit
def parS (q:Nat) (tl sl:List Int) (n:Int):Int:=if tl.length≠sl.length∨n < tl.length then 3 else if injS tl n≠0 then injS tl n else facS q sl
theorem rPartial_any {p m:Nat} {ml:List Int} {mv:Value} (w:World) (hf:FSh p m ml) (hmv:ISl w mv ml) (N:Nat) (hN:N≤64) (tl sl:List Int) (tv sv:Value) (ht:ISl w tv tl) (hs:ISl w sv sl):
  Calls Tryz.prog 106 #[.agg #[.int .i64 p,.int .i64 m,mv],.int .i64 N,.agg #[tv,sv]] w fun r w'=> r= .returned (.int .i64 (parS (p ^ m) tl sl N))∧Ex w w':=by
 obtain ⟨a0,a1,a2,ea,asz⟩:=box_facts w p m mv;obtain ⟨b0,b1,eb,-⟩:=boxP_facts (w.alloc (.cells #[.int .i64 p,.int .i64 m,mv] 24)) tv sv;rw [asz] at b0 b1;replace a0:=eb.cell a0;replace a1:=eb.cell a1;replace a2:=eb.cell a2;have HX:=hid_ (ea.trans eb);have HT:=hid_ ht;have HDI:=hid_ (fun (w':World) (h:Ex w w')=> rDist_any w' tl tv (ht.ex h) N);have HTW:=hid_ (fun (w':World) (h:Ex w w')=> rTwice_any w' tl tv (ht.ex h));have HFA:=hid_ (fun (w':World) (h:Ex w w')=> rFac_any (mv:=mv) w' hf sl sv (hs.ex h));obtain ⟨ma,mc,rfl,-,-,-⟩:=hmv.open;obtain ⟨ta,tc,rfl,t1,t2,-⟩:=ht.open;obtain ⟨sa,sc,rfl,s1,s2,-⟩:=hs.open;unfold maxLen at t2 s2;obtain ⟨B,hB⟩:∃B,w.heap.size=B:=⟨_,rfl⟩;rw [hB] at a0 a1 a2 b0 b1;obtain ⟨M,hM⟩:∃M,parS (p ^ m) tl sl N=M:=⟨_,rfl⟩;have HM:=hid_ (show M=if tl.length≠sl.length∨(N:Int) < tl.length then 3 else if injS tl N≠0 then injS tl N else facS (p ^ m) sl from hM.symm);rw [hM];obtain ⟨F,hF⟩:∃F,facS (p ^ m) sl=F:=⟨_,rfl⟩;rw [hF] at HM HFA;clear hmv ht hs hf ea eb asz hM hF;go_enter Tryz.func106,Tryz.ntmps106
 go_upto_region 1 with fail
 try simp only [hB]
 clear hB;generalize (w.alloc (.cells #[.int .i64 p,.int .i64 m,.slice ma ml.length mc] 24)).alloc (.cells #[.slice ta tl.length tc,.slice sa sl.length sc] 49)=w1 at *;have HALL:=hid_ (fun w' (h:Ex w1 w')=> (⟨h.cell a0,h.cell a1,h.cell a2,h.cell b0,h.cell b1⟩:_∧_∧_∧_∧_));by_cases h1:tl.length=sl.length
 rotate_left
 ·have k1:((tl.length:Int) !=(sl.length:Int))=true:=by simp;omega
  have HE:=hid_ (show M=3 from by rw [HM.out,if_pos (.inl h1)]);clear h1;go_wp2_with fail
  go_ret;exact ⟨ret_int HE.out.symm,HX.out⟩
 have k1:((tl.length:Int) !=(sl.length:Int))=false:=by simp;omega
 by_cases h2:N < tl.length
 ·have k2:decide ((N:Int) < (tl.length:Int))=true:=by simp;omega
  have j2:(N:Int) < (tl.length:Int):=by omega
  have HE:=hid_ (show M=3 from by rw [HM.out,if_pos (.inr (by omega))]);clear h1 h2;go_wp2_with fail
  go_ret;exact ⟨ret_int HE.out.symm,HX.out⟩
 have k2:decide ((N:Int) < (tl.length:Int))=false:=by simp;omega
 have j2:¬(N:Int) < (tl.length:Int):=by omega
 have HM1:=hid_ (show M=if injS tl N≠0 then injS tl N else F from by rw [HM.out,if_neg (by omega)]);clear h1 h2;go_wp2_with fail
 refine (HDI.out w1 HX.out).mono ?_;rintro e w2 ⟨rfl,rfl⟩;by_cases hr:rngB tl N=true
 rotate_left
 ·have hr:rngB tl N=false:=by simpa using hr
  have HE:=hid_ (show M=6 from by rw [HM1.out];unfold injS;rw [hr];simp);rw [show disS tl N=6 from by unfold disS;rw [hr];rfl];clear hr;go_wp2_with fail
  go_ret;exact ⟨ret_int HE.out.symm,HX.out⟩
 rw [show disS tl N=0 from by unfold disS;rw [if_pos hr]];have HR:=hid_ hr;clear hr;go_wp2_with fail
 refine (HTW.out w1 HX.out).mono ?_;rintro e w3 ⟨rfl,hx3⟩;have HX3:=hid_ hx3;clear hx3 a0 a1 a2 b0 b1;obtain ⟨a0,a1,a2,b0,b1⟩:=HALL.out w3 HX3.out
 cases hd:dupB tl with
 | true=>
  have HE:=hid_ (show M=18 from by rw [HM1.out];unfold injS;rw [HR.out,hd];simp);clear hd;go_wp2_with fail
  go_ret;exact ⟨ret_int HE.out.symm,HX.out.trans HX3.out⟩
 | false=>
  have HE:=hid_ (show M=F from by rw [HM1.out];unfold injS;rw [HR.out,hd];simp);clear hd;go_wp2_with fail
  refine (HFA.out w3 (HX.out.trans HX3.out)).mono ?_;rintro e w4 ⟨rfl,hx4⟩;have HX4:=hid_ (HX3.out.trans hx4);clear hx4 a0 a1 a2 b0 b1;go_wp2_with fail
  go_ret;exact ⟨ret_int HE.out.symm,HX.out.trans HX4.out⟩
def ThrO (c d:CdV) (tl sl:List Int) (e:Int):Prop:=∃e1 e2:Int,CodO c.p c.m c.ml c.n c.rows e1∧(e1=0→CodO d.p d.m d.ml d.n d.rows e2)∧e=stE e1 e2 (samF c.p c.m c.ml d.p d.m d.ml) c.n d.n tl sl (c.p.toNat ^ c.m.toNat)
theorem rThree_any (w:World) (c d:CdV) (m1 m2 v1 v2:Value) (hc:c.at w m1 v1) (hd:d.at w m2 v2) (tl sl:List Int) (tv sv:Value) (ht:ISl w tv tl) (hs:ISl w sv sl):
  Calls Tryz.prog 67 #[c.arg m1 v1,d.arg m2 v2,.agg #[tv,sv]] w fun r w'=> (∃e:Int,r= .returned (.int .i64 e)∧ThrO c d tl sl e)∧Ex w w':=by
 obtain ⟨c0,c1,c2,c3,c4⟩:=boxC5 w c m1 v1;obtain ⟨d0,d1,d2,d3,d4⟩:=boxC5 (w.alloc (c.obj m1 v1)) d m2 v2;obtain ⟨b0,b1,e3,-⟩:=boxP_facts ((w.alloc (c.obj m1 v1)).alloc (d.obj m2 v2)) tv sv;have hz1:(w.alloc (c.obj m1 v1)).heap.size=w.heap.size + 1:=by simp
 have hz2:((w.alloc (c.obj m1 v1)).alloc (d.obj m2 v2)).heap.size=w.heap.size + 1 + 1:=by simp
 have e1:=e_al w (c.obj m1 v1);have e2:=e_al (w.alloc (c.obj m1 v1)) (d.obj m2 v2);rw [hz1] at d0 d1 d2 d3 d4;rw [hz2] at b0 b1;replace c0:=(e2.trans e3).cell c0;replace c1:=(e2.trans e3).cell c1;replace c2:=(e2.trans e3).cell c2;replace c3:=(e2.trans e3).cell c3;replace c4:=(e2.trans e3).cell c4;replace d0:=e3.cell d0;replace d1:=e3.cell d1;replace d2:=e3.cell d2;replace d3:=e3.cell d3;replace d4:=e3.cell d4;have HX:=hid_ (e1.trans (e2.trans e3));have HFT:=hid_ (fun (w':World) (h:Ex w w')=> rFit_any w' c.p c.m c.ml m1 (hc.ex h).m c.n c.rows v1 (hc.ex h).g d.p d.m d.ml m2 (hd.ex h).m d.n d.rows v2 (hd.ex h).g);have HC:=hid_ hc;have HT:=hid_ ht;have HS:=hid_ hs;obtain ⟨ta,tc,rfl,-,t2,-⟩:=ht.open;obtain ⟨sa,sc,rfl,-,s2,-⟩:=hs.open;obtain ⟨x1,y1,rfl,-,z1,-⟩:=hc.g.open;obtain ⟨x2,y2,rfl,-,z2,-⟩:=hd.g.open;obtain ⟨x3,y3,rfl,-,z3,-⟩:=hc.m.open;obtain ⟨x4,y4,rfl,-,z4,-⟩:=hd.m.open;unfold maxLen at t2 s2 z1 z2 z3 z4;have HTO:=hid_ (fun e (h:ThrO c d tl sl e)=> h);have HTF:=hid_ (show ∀e,ThrO c d tl sl e↔∃e1 e2:Int,CodO c.p c.m c.ml c.n c.rows e1∧(e1=0→CodO d.p d.m d.ml d.n d.rows e2)∧e=stE e1 e2 (samF c.p c.m c.ml d.p d.m d.ml) c.n d.n tl sl (c.p.toNat ^ c.m.toNat) from fun e=> Iff.rfl);obtain ⟨p,m,ml,n,rows⟩:=c;obtain ⟨p',m',ml',n',rows'⟩:=d;obtain ⟨B,hB⟩:∃B,w.heap.size=B:=⟨_,rfl⟩;rw [hB] at c0 c1 c2 c3 c4 d0 d1 d2 d3 d4 b0 b1;obtain ⟨TO,hTO⟩:∃T,ThrO ⟨p,m,ml,n,rows⟩ ⟨p',m',ml',n',rows'⟩ tl sl=T:=⟨_,rfl⟩;rw [hTO] at HTF ⊢;dsimp only [CdV.arg,CdV.obj] at *;clear hc hd ht hs e1 e2 e3 hz1 hz2 hTO HTO;go_enter Tryz.func67,Tryz.ntmps67
 go_upto_region 1 with fail
 try simp only [hB]
 clear hB;generalize ((w.alloc (.cells #[.int .i64 p,.int .i64 m,.slice x3 ml.length y3,.int .i64 n,.slice x1 rows.length y1] 47)).alloc (.cells #[.int .i64 p',.int .i64 m',.slice x4 ml'.length y4,.int .i64 n',.slice x2 rows'.length y2] 47)).alloc (.cells #[.slice ta tl.length tc,.slice sa sl.length sc] 49)=w1 at *;have HALL:=hid_ (fun w' (h:Ex w1 w')=> (⟨h.cell c0,h.cell c1,h.cell c2,h.cell c3,h.cell b0,h.cell b1⟩:_∧_∧_∧_∧_∧_));go_wp2_with fail
 refine (HFT.out w1 HX.out).mono ?_;rintro e w2 ⟨⟨E,rfl,hfo⟩,hx2⟩;have HX2:=hid_ hx2;clear hx2 c0 c1 c2 c3 c4 d0 d1 d2 d3 d4 b0 b1;obtain ⟨c0,c1,c2,c3,b0,b1⟩:=HALL.out w2 HX2.out;by_cases h0:E=0
 rotate_left
 ·have k1:(E !=0)=true:=by simpa using h0
  have HT0:=hid_ (show TO E from (HTF.out E).2 (by
   rcases hfo with ⟨h1,h2⟩ | ⟨h1,h2,h3⟩ | ⟨h1,h2,h3⟩
   ·exact ⟨E,0,h1,fun h=> absurd h h2,by unfold stE;rw [if_pos h2]⟩
   ·exact ⟨0,E,h1,fun _=> h2,by unfold stE;rw [if_neg (by simp),if_pos h3]⟩
   ·refine ⟨0,0,h1,fun _=> h2,?_⟩;have hn:¬(samF p m ml p' m' ml'=true∧n=n'):=fun h=> h0 (by rw [h3,if_pos h]);rw [h3,if_neg hn];unfold stE;rw [if_neg (by simp),if_neg (by simp),if_pos]
    cases hs:samF p m ml p' m' ml' with
    | false=> exact .inl rfl
    | true=> exact .inr fun e=> hn ⟨hs,e⟩))
  clear h0 hfo;go_wp2_with fail
  go_ret;exact ⟨⟨_,rfl,HT0.out⟩,HX.out.trans HX2.out⟩
 ·subst h0;have k1:((0:Int) !=0)=false:=by simp
  rcases hfo with ⟨h1,h2⟩ | ⟨h1,h2,h3⟩ | ⟨h1,h2,h3⟩
  ·exact absurd rfl h2
  ·exact absurd rfl h3
  ·have hsn:samF p m ml p' m' ml'=true∧n=n':=by
    apply Classical.byContradiction;intro h;rw [if_neg h] at h3;cases h3
   have HSN:=hid_ hsn;have H1:=hid_ h1;have H2:=hid_ h2;clear hsn h2 h3;obtain ⟨pn,mn,N,rfl,rfl,rfl,hsh,_,_,n64,_,_⟩:=codO_two h1;have HPA:=hid_ (rPartial_any w2 hsh ((HC.out.ex (HX.out.trans HX2.out)).m) N n64 tl sl _ _ (HT.out.ex (HX.out.trans HX2.out)) (HS.out.ex (HX.out.trans HX2.out)));have HT0:=hid_ (show TO (parS (pn ^ mn) tl sl N) from (HTF.out _).2 ⟨0,0,H1.out,fun _=> H2.out,by
    have hs:¬(samF (pn:Int) mn ml p' m' ml'=false∨(N:Int)≠n'):=by
     rintro (h | h)
     ·rw [HSN.out.1] at h;cases h
     ·exact h HSN.out.2
    unfold stE;rw [if_neg (by simp),if_neg (by simp),if_neg hs];unfold parS;simp only [Int.toNat_natCast]⟩)
   obtain ⟨Q,hQ⟩:∃Q,parS (pn ^ mn) tl sl N=Q:=⟨_,rfl⟩;rw [hQ] at HPA HT0;clear h1 hsh n64 hQ
   try dsimp only at HPA
   go_wp2_with fail
   refine HPA.out.mono ?_;rintro e w3 ⟨rfl,hx3⟩;have HX3:=hid_ (HX2.out.trans hx3);clear hx3;go_wp2_with fail
   go_ret;exact ⟨⟨_,rfl,HT0.out⟩,HX.out.trans HX3.out⟩
end
section
open Go.RowKit
structure PairOK (c d:CdV) (tl sl:List Int) (p m n:Nat):Prop where
 cp:c.p=p
 cm:c.m=m
 cn:c.n=n
 dp:d.p=p
 dm:d.m=m
 dn:d.n=n
 dl:d.ml=c.ml
 fs:FSh p m c.ml
 isf:IsF p m (lw c.ml)
 n1:1≤n
 n64:n≤64
 r1:∀r∈c.rows,r.length=n∧entS (p ^ m) r=0
 r2:∀r∈d.rows,r.length=n∧entS (p ^ m) r=0
 k1:c.rows.length≤256
 k2:d.rows.length≤256
 len:tl.length=sl.length
 le:tl.length≤n
 rng:rngB tl n=true
 dup:dupB tl=false
 fac:facS (p ^ m) sl=0
theorem pair_ok {c d:CdV} {tl sl:List Int} {e1 e2:Int} (h1:CodO c.p c.m c.ml c.n c.rows e1) (h2:e1=0→CodO d.p d.m d.ml d.n d.rows e2) (h:stE e1 e2 (samF c.p c.m c.ml d.p d.m d.ml) c.n d.n tl sl (c.p.toNat ^ c.m.toNat)=0):∃p m n,PairOK c d tl sl p m n:=by
 obtain ⟨a1,a2,a3,a4,a5,a6,a7,a8,a9⟩:=stE_ok h;subst a1;have h2:=h2 rfl;subst a2;obtain ⟨p,m,n,e1,e2,e3,b1,b2,b3,b4,b5,b6⟩:=codO_two h1;obtain ⟨p',m',n',e1',e2',e3',c1,c2,c3,c4,c5,c6⟩:=codO_two h2;obtain ⟨s1,s2,s3⟩:=samF_iff.1 a3;have q1:p'=p:=by omega
 have q2:m'=m:=by omega
 have q3:n'=n:=by omega
 subst q1 q2 q3;refine ⟨p',m',n',⟨e1,e2,e3,by omega,by omega,by omega,s3.symm,b1,b2,b3,b4,b6,c6,b5,c5,a5,by omega,by rw [e3] at a7;exact a7,a8,?_⟩⟩;rw [e1,e2] at a9;simpa using a9
end
end Go.Proofs.YtgdmlmhpineibaaGreat
