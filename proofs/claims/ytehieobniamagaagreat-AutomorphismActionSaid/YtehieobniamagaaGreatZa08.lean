/- Lists of rows of the call's own; slices.Index, Contains and Clone at Al; the reference's SameInts, SameRows. -/
import Derived.Deep.CutRange
import Derived.Deep.LoopGhost
import Derived.Test.YtehieobniamagaaGreatZa07
namespace Go.Proofs.YtehieobniamagaaGreat
open Go.RowKit
set_option linter.all false
set_option maxRecDepth 100000
set_option maxHeartbeats 4000000
theorem BB:(Tryz.prog.info? 22).map (fun i=>(i.zero,i.size,i.bytes))=some (some (.slice none 0 0),1,24):=ah
theorem Ex.frz{w w':World}(h:Ex w w'){p:Addr}{u:Value}(hc:w.cell? p=some u)(hf:w.frozen? p=false):w'.frozen? p=false:=
 (Below.frozen h (World.block_lt_of_cell? w _ hc)).trans hf
theorem AZ.frz{w w':World}{base:Nat}{e:TypeId}{size:Nat}{v v':Value}{n:Nat}{xs news:List Value}(h:AZ w w' base e size v v' n xs news){a:Addr}{u:Value}(hc:w.cell? a=some u)(hf:w.frozen? a=false)(aA:some a.block≠v.ownBlock):w'.frozen? a=false:=by
 obtain⟨o,hg⟩:=h.gr;have aB:=World.block_lt_of_cell? _ _ hc;have e1:(w.alloc o).frozen? a=w.frozen? a:=((Ex.refl w).alloc o).frozen aB;rw[<-hf,<-e1];have h2:=hg.block a.block aq aA;unfold World.frozen?;rw[h2]
theorem Gl{q:Nat}{aA:Int}{rows:List (List Int)}(h:BR q aA rows=0):0<=aA/\aA<=256/\rows.length<=256/\∀r∈rows,(r.length:Int)=aA/\Cs q r=0:=by
 unfold BR at h;split at h
 .cases h
 .split at h
  .rename_i h2;split at h
   .rename_i h1 h3;refine⟨ac,ac,ac,fun r hr=>⟨?_,?_⟩⟩
    .have:=List.all_eq_true.1 h2 r hr;simpa using this
    .have:=List.all_eq_true.1 h3 r hr;simpa using this
   .cases h
  .cases h
theorem AF(w:World):Aj w (.slice none 0 0) []:=Sl.nil w 1
theorem Bq{w:World}{base b':Nat}{e:TypeId}{size:Nat}{v:Value}{n:Nat}{xs:List Value}(h:w.ownsRow base e size v n xs)(hb:b'<=base):w.ownsRow b' e size v n xs:=by
 exact zbS
theorem Ah{w:World}{a b:Nat}{i j:Nat}{u:Value}(h:a≠b):(w.setCell ⟨a,i,none⟩ u).cell? ⟨b,j,none⟩=w.cell? ⟨b,j,none⟩:=
 World.cell?_setCell_other _ _ _ _ (by intro e;injection e with e1;exact h e1)
theorem AK(w:World)(u:Value)(t:TypeId){n:Nat}(h:w.heap.size=n):(w.alloc (.cells #[u] t)).cell? ⟨n,0,none⟩=some u:=by subst h;simp
theorem EN(w:World)(u:Value)(t:TypeId){n:Nat}(h:w.heap.size=n):(w.alloc (.cells #[u] t)).frozen? ⟨n,0,none⟩=false:=by subst h;simp
structure BA(w:World)(base:Nat)(cv:Value)(M:List (List Int))(vals:List Value):Prop where
 cvo:w.ownsRow base 22 1 cv M.length vals
 row:∀(i:Nat) (r:List Int) (u:Value),M[i]?=some r->vals[i]?=some u->w.ownsRow base 3 1 u r.length (Al r)
 apart:∀u∈vals,AJ u cv
theorem BA.nil(w:World)(base:Nat):BA w base (.slice none 0 0) [] []:=⟨World.ownsRow_nil _ _ _ _,fun i r u h=>by simp at h,fun u h=>by cases h⟩
theorem BA.len{w:World}{base:Nat}{cv:Value}{M:List (List Int)}{vals:List Value}(h:BA w base cv M vals):vals.length=M.length:=by
 have:=h.cvo.1;omega
theorem BA.ex{w w':World}{base:Nat}{cv:Value}{M:List (List Int)}{vals:List Value}(h:BA w base cv M vals)(hx:Ex w w'):BA w' base cv M vals:=
 ⟨Ai h.cvo hx,fun i r u h1 h2=>Ai (h.row i r u h1 h2) hx,h.apart⟩
theorem BA.setNe{w:World}{base:Nat}{cv:Value}{M:List (List Int)}{vals:List Value}(h:BA w base cv M vals){a:Addr}(ha:a.block<base)(u:Value):BA (w.setCell a u) base cv M vals:=by
 have aA:∀ {e:TypeId} {size:Nat} {v:Value} {n:Nat} {xs:List Value},w.ownsRow base e size v n xs->v.ownBlock≠some a.block:=fun k e=>by
  have:=(k.lt _ e).1;omega
 exact⟨Ac h.cvo (aA h.cvo) u,fun i r t h1 h2=>Ac (h.row i r t h1 h2) (aA (h.row i r t h1 h2)) u,h.apart⟩
theorem BA.app{w w':World}{base:Nat}{cv aB l:Value}{M:List (List Int)}{vals:List Value}{L:List Int}(h:BA w base cv M vals)(hl:w.ownsRow base 3 1 l L.length (Al L))(aA:AJ l cv)
  (ha:AZ w w' base 22 1 cv aB M.length vals [l]):BA w' base aB (M ++ [L]) (vals ++ [l]):=by
 have hn:=h.len;have key:∀u∈vals,∃r,w.ownsRow base 3 1 u r (Al [])∨∃L:List Int,w.ownsRow base 3 1 u L.length (Al L):=fun u hu=>by
  obtain⟨i,hi,e⟩:=List.getElem_of_mem hu;exact⟨0,.inr ⟨_,h.row i (M[i]'ac) u (List.getElem?_eq_getElem _) ar⟩⟩
 refine⟨by simpa using ha.own,fun i r u h1 h2=>?_,fun u hu=>?_⟩
 .by_cases e:i<M.length
  .rw[List.getElem?_append_left e]at h1;rw[List.getElem?_append_left ac]at h2;exact(ha.row (h.row i r u h1 h2) (h.apart u (List.mem_of_getElem? h2))).1
  .rw[List.getElem?_append_right ac]at h1 h2;have hi:i-M.length=0:=by
    have:=(List.getElem?_eq_some_iff.1 h1).1;simp at this;omega
   rw[hi]at h1;rw[hn,hi]at h2;simp at h1 h2;subst h1 h2;exact(ha.row hl aA).1
 .rcases List.mem_append.1 hu with hu|hu
  .obtain⟨i,hi,e⟩:=List.getElem_of_mem hu;exact(ha.row (h.row i (M[i]'ac) u (List.getElem?_eq_getElem _) ar) (h.apart u hu)).2
  .simp at hu;subst hu;exact(ha.row hl aA).2
theorem BA.msl{w:World}{base:Nat}{cv:Value}{M:List (List Int)}{vals:List Value}(h:BA w base cv M vals):BT w cv M:=
 ⟨vals,Sl.own h.cvo,fun i r u h1 h2=>Sl.own (h.row i r u h1 h2)⟩
def CD(pr:Nat->Bool)(n:Nat):Int:=match (List.range n).find? pr with|some i=>i|none=> -1
theorem Cg{pr:Nat->Bool}{n i:Nat}(h:i<n)(hb:pr i=true)(ha:∀j,j<i->pr j=false):CD pr n=i:=by
 unfold CD;have:(List.range n).find? pr=some i:=by
  rw[List.find?_range_eq_some];exact⟨hb,List.mem_range.2 h,fun j hj=>by rw[ha j hj];rfl⟩
 rw[this]
theorem BL{pr:Nat->Bool}{n:Nat}(ha:∀j,j<n->pr j=false):CD pr n=-1:=by
 unfold CD;have:(List.range n).find? pr=none:=by
  rw[List.find?_eq_none];intro j hj;rw[ha j (List.mem_range.1 hj)];simp
 rw[this]
theorem DL(pr:Nat->Bool)(n:Nat):(List.range n).any pr=decide (0<=CD pr n):=by
 unfold CD
 cases h:(List.range n).find? pr with
 | some i=>
  have:=List.find?_some h;have hm:=List.mem_of_find?_eq_some h;simp only;rw[List.any_eq_true.2 ⟨i,hm,this⟩];simp
 | none=>
  rw[List.find?_eq_none]at h;simp only;rw[Bool.eq_iff_iff];constructor
  .intro h';obtain⟨i,hi,hb⟩:=List.any_eq_true.1 h';exact absurd hb (h i hi)
  .intro h';simp at h'
theorem zbG{P:Prop}(h:P:=by
 go_wp2_with fail
 go_round
 case rel=>exact⟨i+1,by omega,by go_num,HA⟩
 case measure=>simp[intOf];omega):P:=h
theorem R6(w:World)(l:List Int)(v:Value)(x:Int)(hl:Aj w v l):
  Calls Tryz.prog 155 #[v,.int .i64 x] w fun r w'=>r= .returned (.int .i64 (CD (fun j=>x==l.getD j 0) l.length))/\w=w':=by
 obtain⟨a,cap,rfl,s1,s2,s3⟩:=hl.open;have S3:=Aa s3;unfold maxLen at s2;obtain⟨pr,aB⟩:∃pr:Nat->Bool,(fun j=>x==l.getD j 0)=pr:=⟨_,rfl⟩;have aC:=Aa (show ∀(j:Nat) (y:Int),l[j]?=some y->pr j=(x==y) from fun j y h=>by rw[<-aB];show(x==l.getD j 0)=_;rw[List.getD_eq_getElem?_getD,h];rfl);rw[aB];clear hl s3 aB;go_enter Tryz.func155,Tryz.ntmps155
 go_wp2_with fail
 go_loop [5,8] (fun _ i'=>∃i:Nat,i<=l.length/\i'= .int .i64 i/\Hia (∀j,j<i->pr j=false)) (fun _ i'=>l.length-(intOf i').toNat)
 case atStart=>exact⟨0,ac,rfl,Aa (fun j hj=>ac)⟩
 case round=>
  obtain⟨i,hi,rfl,aA⟩:=hrel;by_cases hlt:i<l.length
  .obtain⟨y,hy⟩:∃y,l[i]?=some y:=⟨_,List.getElem?_eq_getElem hlt⟩;obtain⟨bb,o,rfl,hc⟩:=S3.o ac;have c1:=hc i y hy;have HP:=Aa (aC.o i y hy);clear hc hy
   cases hb:(x==y) with
   | true=>
    have HF:=Aa (Cg hlt (HP.o.trans hb) aA.o);exact zcJ
   | false=>
    have HA:=Aa (show ∀j,j<i+1->pr j=false from fun j hj=>by
     by_cases e:j=i
     .subst e;exact HP.o.trans hb
     .exact aA.o j ac)
    exact zbG
  .obtain rfl:i=l.length:=by omega
   have HF:=Aa (BL aA.o);exact zcJ
theorem Iv(x:Int)(l:List Int):((List.range l.length).any fun j=>x==l.getD j 0)=l.contains x:=by
 rw[Bool.eq_iff_iff];simp only[List.any_eq_true,List.mem_range,List.contains_iff_mem,beq_iff_eq,List.getD_eq_getElem?_getD];constructor
 .rintro⟨j,hj,e⟩;rw[List.getElem?_eq_getElem hj]at e;rw[e];exact List.getElem_mem hj
 .intro h;obtain⟨j,hj,e⟩:=List.getElem_of_mem h;exact⟨j,hj,by rw[List.getElem?_eq_getElem hj,e];rfl⟩
theorem CY(w:World)(l:List Int)(v:Value)(x:Int)(hl:Aj w v l):
  Calls Tryz.prog 132 #[v,.int .i64 x] w fun r w'=>r= .returned (.bool (l.contains x))/\w=w':=by
 have HC:=Aa (R6 w l v x hl);have HB:=Aa ((Iv x l).symm.trans (DL _ _));obtain⟨z,hz⟩:∃z,CD (fun j=>x==l.getD j 0) l.length=z:=⟨_,rfl⟩;rw[hz]at HC HB;clear hz hl;go_enter Tryz.func132,Tryz.ntmps132
 go_wp2_with (go_at_call 155;refine HC.o.mono ?_;rintro e w'⟨rfl,rfl⟩)
 go_ret;exact⟨Ao HB.o.symm,rfl⟩
theorem VO(l:List Int):Al l=vs l.length (iv fun j=>l.getD j 0):=by
 apply List.ext_getElem?;intro j;by_cases h:j<l.length
 .rw[DF h];simp[Al,iv,h,List.getD_eq_getElem?_getD]
 .rw[List.getElem?_eq_none_iff.2 (by rw[AS];omega),List.getElem?_eq_none_iff.2 (by rw[Bu];omega)]
theorem Lk(w:World)(l:List Int)(v:Value)(hl:Aj w v l)(hn:1<=l.length)(hn2:l.length<=1000):
  Calls Tryz.prog 154 #[v] w fun r w'=>∃g cap,r= .returned (.slice (some ⟨g,0,none⟩) l.length cap)/\AO w' w.heap.size 3 g l.length cap (iv fun j=>l.getD j 0)/\Ex w w':=by
 have HL:=Aa hl;obtain⟨a,cap,rfl,s1,s2,s3⟩:=hl.open;obtain⟨b,o,rfl,_⟩:=s3 ac;have aC:=fun w'=>AD (P:=Tryz.prog) w' 22 3 (some ⟨b,o,none⟩) l.length cap Tryz.underlying22;simp only[Option.isNone]at aC;have aE:∀u∈Al l,u.oneCell'=true:=by
  exact zcK
 have aH:=Aa aE;have aI:=Aa (VO l);clear s3 hl aE;go_enter Tryz.func154,Tryz.ntmps154
 go_wp2_with (at_builtin;refine A8 _ rfl _ _ 22 rfl w.heap.size 3 (.int .i64 0) 1 8 Tryz.underlying22 Au rfl ae _ 0 [] rfl (Bn w 3) (.slice (some ⟨b,o,none⟩) l.length cap) l.length (Al l) rfl (HL.o.ex ((Ex.refl w).alloc _)) aH.o ai ac ag ?_)
 intro v1 w1 aA aF aG;have aD:Ex w w1:=Ex.grown ((Ex.refl w).alloc _) (Bn w 3) (Nat.le_refl _) aF;rw[aI.o]at aA;obtain⟨g,c2,rfl,aB⟩:=LT aA hn;have HO:=Aa aB;have HX:=Aa aD;clear aB aA aF aG aD aC;go_wp2_with fail
 go_ret;exact⟨g,c2,rfl,HO.o,HX.o⟩
theorem zaI{P:Prop}(h:P:=by
 rw[List.getElem?_eq_none_iff.2 (by omega),List.getElem?_eq_none_iff.2 (by omega)]):P:=h
theorem zb7{P:Prop}(h:P:=by
 apply List.ext_getElem?;intro j;by_cases hj:j<l.length
 .exact h j hj
 .exact zaI):P:=h
theorem K7{l k:List Int}(hl:l.length=k.length)(h:∀j,j<l.length->l[j]?=k[j]?):l=k:=by
 exact zb7
theorem zae{P:Prop}(h:P:=by
 obtain⟨x,hx⟩:∃x,l[i]?=some x:=⟨_,List.getElem?_eq_getElem hlt⟩;have aE:i<k.length:=by have:=aD.o;omega
 obtain⟨y,hy⟩:∃y,k[i]?=some y:=⟨_,List.getElem?_eq_getElem aE⟩;obtain⟨b,o,rfl,hc⟩:=S3.o (by omega);obtain⟨b2,o2,rfl,aB⟩:=T3.o (by omega);have c1:=((Ex.refl w).drewN n).cell (hc i x hx);have c2:=((Ex.refl w).drewN n).cell (aB i y hy);have i1:(0:Int)<=(i:Int):=by omega
 have i2:(i:Int)<(l.length:Int):=by omega
 have i3:(i:Int)<(k.length:Int):=by omega
 obtain⟨W,hW⟩:=nA (w.drewN n);rw[hW]at c1 c2 ⊢;have aC:=Aa hW;clear hW;by_cases hxy:x=y
 .have HA:=Aa (show ∀j,j<i+1->l[j]?=k[j]? from fun j hj=>by
   by_cases e:j=i
   .subst e;rw[hx,hy,hxy]
   .exact aA.o j (by omega))
  have aF:(x !=y)=false:=by simpa using hxy
  clear hc aB hx hy hxy;go_wp2_with fail
  go_quiet (fail)
  go_wp2_with fail
  go_roundw
  case rel=>exact⟨i+1,_,by omega,by go_num,by rw[<-aC.o,World.drewN_drewN],HA⟩
  case measure=>simp[intOf];omega
 .have HN:=Aa (show ¬l=k from fun e=>hxy (by rw[e,hy]at hx;injection hx with hx;exact hx.symm));have aF:(x !=y)=true:=by simpa using hxy
  clear hc aB hx hy hxy;go_wp2_with fail
  go_quiet (fail)
  go_wp2_with fail
  go_ret;exact⟨Ao (decide_eq_false HN.o).symm,_,by rw[<-aC.o,World.drewN_drewN]⟩):P:=h
theorem zcq{P:Prop}(h:P:=by
 go_wp2_with fail
 go_ret;exact⟨Ao (decide_eq_true HE.o).symm,n,rfl⟩):P:=h
theorem zav{P:Prop}(h:P:=by
 obtain rfl:i=l.length:=by omega
 have HE:=Aa (K7 aD.o aA.o);exact zcq):P:=h
theorem zb3{P:Prop}(h:P:=by
 obtain⟨i,n,hi,rfl,rfl,aA⟩:=hrel;by_cases hlt:i<l.length
 .exact zae
 .exact zav):P:=h
theorem zcn{P:Prop}(h:P:=by
 go_wp2_with fail
 go_ret;exact⟨Ao (decide_eq_false HN.o).symm,0,rfl⟩):P:=h
theorem CW(w:World)(l k:List Int)(v u:Value)(hl:Aj w v l)(hk:Aj w u k):
  Calls Tryz.prog 19 #[v,u] w fun r w'=>r= .returned (.bool (decide (l=k)))/\∃n,w'=w.drewN n:=by
 obtain⟨a,cap,rfl,s1,s2,s3⟩:=hl.open;obtain⟨c,cc,rfl,t1,t2,t3⟩:=hk.open;have S3:=Aa s3;have T3:=Aa t3;unfold maxLen at s2 t2;clear hl hk s3 t3;by_cases hlk:l.length=k.length
 .have hb:((l.length:Int) !=(k.length:Int))=false:=by simp;omega
  have aD:=Aa hlk;clear hlk;go_enter Tryz.func19,Tryz.ntmps19
  go_wp2_with fail
  go_loopw [5] (fun i' wr=>∃i n:Nat,i<=l.length/\i'= .int .i64 i/\wr=w.drewN n/\Hia (∀j,j<i->l[j]?=k[j]?)) (fun i' _=>l.length-(intOf i').toNat)
  case atStart=>exact⟨0,0,ac,rfl,rfl,Aa (fun j hj=>ac)⟩
  case round=>
   exact zb3
 .have hb:((l.length:Int) !=(k.length:Int))=true:=by simp;omega
  have HN:=Aa (show ¬l=k from fun e=>hlk cj);clear hlk;go_enter Tryz.func19,Tryz.ntmps19
  exact zcn
theorem Fg{l k:List (List Int)}(hl:l.length=k.length)(h:∀j,j<l.length->l[j]?=k[j]?):l=k:=by
 exact zb7
theorem zaw{P:Prop}(h:P:=by
 obtain rfl:i=l.length:=by omega
 have HE:=Aa (Fg aI.o aC.o);exact zcq):P:=h
theorem zbx{P:Prop}(h:P:=by
 go_roundw
 case rel=>exact⟨i+1,_,by omega,by go_num,by rw[<-aH.o,World.drewN_drewN],HA⟩
 case measure=>simp[intOf];omega):P:=h
theorem zb1{P:Prop}(h:P:=by
 go_ret;exact⟨Ao (decide_eq_false HN.o).symm,_,by rw[<-aH.o,World.drewN_drewN]⟩):P:=h
theorem EO(w:World)(l k:List (List Int))(v u:Value)(hl:BT w v l)(hk:BT w u k):
  Calls Tryz.prog 27 #[v,u] w fun r w'=>r= .returned (.bool (decide (l=k)))/\∃n,w'=w.drewN n:=by
 obtain⟨a,cap,rfl,s1,s2,s3⟩:=hl.open;obtain⟨c,cc,rfl,t1,t2,t3⟩:=hk.open;have S3:=Aa s3;have T3:=Aa t3;unfold maxLen at s2 t2;clear hl hk s3 t3;by_cases hlk:l.length=k.length
 .have hb:((l.length:Int) !=(k.length:Int))=false:=by simp;omega
  have aI:=Aa hlk;clear hlk;go_enter Tryz.func27,Tryz.ntmps27
  go_wp2_with fail
  go_loopw [5] (fun i' wr=>∃i n:Nat,i<=l.length/\i'= .int .i64 i/\wr=w.drewN n/\Hia (∀j,j<i->l[j]?=k[j]?)) (fun i' _=>l.length-(intOf i').toNat)
  case atStart=>exact⟨0,0,ac,rfl,rfl,Aa (fun j hj=>ac)⟩
  case round=>
   obtain⟨i,n,hi,rfl,rfl,aC⟩:=hrel;by_cases hlt:i<l.length
   .obtain⟨x,hx⟩:∃x,l[i]?=some x:=⟨_,List.getElem?_eq_getElem hlt⟩;have aJ:i<k.length:=by have:=aI.o;omega
    obtain⟨y,hy⟩:∃y,k[i]?=some y:=⟨_,List.getElem?_eq_getElem aJ⟩;obtain⟨b,o,rfl,hc⟩:=S3.o ac;obtain⟨b2,o2,rfl,aG⟩:=T3.o ac;obtain⟨u1,e1,aF⟩:=hc i x hx;obtain⟨u2,e2,aE⟩:=aG i y hy;have c1:=((Ex.refl w).drewN n).cell e1;have c2:=((Ex.refl w).drewN n).cell e2;have aB:=aF.ex ((Ex.refl w).drewN n);have aA:=aE.ex ((Ex.refl w).drewN n);have i1:(0:Int)<=(i:Int):=db;have i2:(i:Int)<(l.length:Int):=ac;have i3:(i:Int)<(k.length:Int):=ac;obtain⟨W,hW⟩:=nA (w.drewN n);rw[hW]at c1 c2 aB aA ⊢;have aH:=Aa hW;have aD:=Aa (fun n'=>CW (W.drewN n') x y u1 u2 (aB.ex ((Ex.refl W).drewN n')) (aA.ex ((Ex.refl W).drewN n')));obtain⟨ua,uc,rfl,_,_,_⟩:=aB.open;obtain⟨va,vc,rfl,_,_,_⟩:=aA.open;by_cases hxy:x=y
    .have HA:=Aa (show ∀j,j<i+1->l[j]?=k[j]? from fun j hj=>by
      by_cases e:j=i
      .subst e;rw[hx,hy,hxy]
      .exact aC.o j ac)
     rw[decide_eq_true hxy]at aD;clear hc aG hx hy hxy hW aF aE e1 e2 aB aA;go_wp2_with fail
     go_quiet ((go_at_call 19;exact Ji (aD.o _)))
     go_wp2_with fail
     exact zbx
    .have HN:=Aa (show ¬l=k from fun e=>hxy (by rw[e,hy]at hx;injection hx with hx;exact hx.symm));rw[decide_eq_false hxy]at aD;clear hc aG hx hy hxy hW aF aE e1 e2 aB aA;go_wp2_with fail
     go_quiet ((go_at_call 19;exact Ji (aD.o _)))
     go_wp2_with fail
     exact zb1
   .exact zaw
 .have hb:((l.length:Int) !=(k.length:Int))=true:=by simp;omega
  have HN:=Aa (show ¬l=k from fun e=>hlk cj);clear hlk;go_enter Tryz.func27,Tryz.ntmps27
  exact zcn
theorem RI{p m:Nat}(hp:1<=p):Dy p m 0=0:=by
 have h:=FJ (p:=p) (m:=m) hp 0
 rwa[Fz hp (DX hp 0)]at h
theorem Mf{p m a b:Nat}(hp:1<=p)(ha:a<p^m)(hb:b<p^m)(h:A5 p m a (Dy p m b)=0):a=b:=by
 have h1:A5 p m (A5 p m a (Dy p m b)) b=a:=by
  rw[CC hp,FK (Dy p m b),FJ hp,Ck hp ha]
 rw[h,Fz hp hb]at h1;exact h1.symm
theorem VK{q:Nat}{x y:Int}(hx:0<=x/\x<q)(hy:0<=y/\y<q)(h:Az q x=Az q y):x=y:=by
 have h1:=JA hx.1 hx.2;have h2:=JA hy.1 hy.2;rw[h]at h1;omega
theorem II{p m:Nat}(hp:2<=p)(hm:1<=m):Az (p^m) 1=1:=Bj (q:=p^m) (x:=1) (Bw hp hm)
theorem QY:∀ {l k:List Nat},l.Pairwise (·< ·)->k.Pairwise (·< ·)->(∀x,x∈l↔x∈k)->l=k
 | [], [],_,_,_=>rfl
 | [],y :: k,_,_,h=>by have:=(h y).2 (List.mem_cons_self ..);cases this
 | x :: l, [],_,_,h=>by have:=(h x).1 (List.mem_cons_self ..);cases this
 | x :: l,y :: k,hl,hk,h=>by
  obtain⟨l1,l2⟩:=List.pairwise_cons.1 hl;obtain⟨k1,k2⟩:=List.pairwise_cons.1 hk;have e:x=y:=by
   rcases List.mem_cons.1 ((h x).1 (List.mem_cons_self ..)) with e|e
   .exact e
   .rcases List.mem_cons.1 ((h y).2 (List.mem_cons_self ..)) with e2|e2
    .exact e2.symm
    .have h1:=k1 x e;have h2:=l1 y e2;omega
  subst e;rw[QY l2 k2 fun z=>?_];constructor
  .intro hz;rcases List.mem_cons.1 ((h z).1 (List.mem_cons_of_mem _ hz)) with e|e
   .have:=l1 z hz;omega
   .exact e
  .intro hz;rcases List.mem_cons.1 ((h z).2 (List.mem_cons_of_mem _ hz)) with e|e
   .have:=k1 z hz;omega
   .exact e
section
variable {p m:Nat} {ml:List Int} {N R:Nat} {a:Nat->Nat->Int} {piv:List Nat} {c0 c:Nat} {x:Nat->Int}
theorem Kv.ex(hP:PV p m R N a piv c0)(aA:∀i:Nat,piv[i]?≠some c):∀k,k<=piv.length->∃x,Kv p m a piv c k x
 | 0,_=>⟨_,Kv.zero⟩
 | k+1,hk=>by
  obtain⟨x,hx⟩:=Kv.ex hP aA k ac;have hq:piv[k]?=some (piv[k]'ac):=List.getElem?_eq_getElem _;exact⟨_,hx.succ hP hq fun e=>aA k (by rw[hq,e])⟩
theorem K8(hp:2<=p){f:Nat->Int}{k:Nat}(hk:k<N)(h:∀j,j<N->j≠k->f j≠0->x j=0):dt p m ml N f x=Ap p m (lw ml) (Az (p^m) (f k)) (Az (p^m) (x k)):=by
 have aA:(il N f).length=N:=AR _ _;have hg:∀j,j<N->(il N f).getD j 0=f j:=fun j hj=>by
  exact zcU
 have e1:BH p m ml (il N f) (il N x) 0=A5 p m (BH p m ml (il N f) (il N fun _=>(0:Int)) 0) (Ap p m (lw ml) (Az (p^m) ((il N f).getD k 0)) (Az (p^m) (x k))):=
  Mu hp aA hk rfl fun j hj aB hr=>h j hj aB (by rwa[hg j hj]at hr)
 have e0:BH p m ml (il N f) (il N fun _=>(0:Int)) 0=0:=by
  have:=Mr (p:=p) (m:=m) (ml:=ml) (N:=N) hp (f:=fun _=>0) (x:=f) (fun j _=>rfl);rw[QL]at this;exact this
 show BH p m ml (il N f) (il N x) 0=_
 rw[e1,e0,hg k hk,Fz ac (Cb ac _ _)]
theorem Kv.dt_piv(hp:2<=p)(hm:1<=m)(hc:c<N)(h:Kv p m a piv c piv.length x){f:Nat->Int}{i q:Nat}(hq:piv[i]?=some q)(aC:q<N)(aD:q≠c)(aI:f q=1)(hz:∀k r:Nat,piv[k]?=some r->k≠i->f r=0):
  dt p m ml N f x=A5 p m (Az (p^m) (f c)) (Dy p m (Az (p^m) (a i c))):=by
 have aB:(il N f).length=N:=AR _ _;have aE:0<p^m:=Nat.pow_pos ac;have hg:∀j,j<N->(il N f).getD j 0=f j:=fun j hj=>by
  exact zcU
 have aH:i<piv.length:=(List.getElem?_eq_some_iff.1 hq).1;have e1:dt p m ml N f (Ax (fun _=>(0:Int)) c 1)=Az (p^m) (f c):=by
  rw[K8 hp hc fun j hj aG _=>(show Ax (fun _=>(0:Int)) c 1 j=0 from Ae _ _ aG),Ad,II hp hm,Cu hp hm (Cr aE _)]
 have e2:BH p m ml (il N f) (il N x) 0=A5 p m (BH p m ml (il N f) (il N (Ax (fun _=>(0:Int)) c 1)) 0) (Ap p m (lw ml) (Az (p^m) ((il N f).getD q 0)) (Az (p^m) (x q))):=
  Mu hp aB aC (Ae _ _ aD) fun j hj aF hr=>by
   rw[hg j hj]at hr;by_cases e:j=c
   .rw[e,h.c1,Ad]
   .rw[Ae _ _ e];refine h.z j e fun k hk aA=>?_;by_cases ek:k=i
    .subst ek;rw[hq]at aA;injection aA with aA;exact aF aA.symm
    .exact hr (hz k j aA ek)
 show BH p m ml (il N f) (il N x) 0=_
 rw[e2];show A5 p m (dt p m ml N f (Ax (fun _=>(0:Int)) c 1)) _=_
 rw[e1,hg q aC,aI,h.pv i q aH hq,II hp hm,Bj (DX ac _),Dl hp hm (DX ac _)]
def RR(p m N R:Nat)(a:Nat->Nat->Int)(piv:List Nat):Prop:=∃c,c<=N/\PV p m R N a piv c/\(piv.length=R∨c=N)
theorem RR.sol(hp:2<=p)(hm:1<=m)(h:RR p m N R a piv)(hc:c<N)(aA:∀i:Nat,piv[i]?≠some c)(hx:Kv p m a piv c piv.length x):Ez p m ml N R a x:=by
 obtain⟨c1,h1,h2,h3⟩:=h;exact hx.sol hp hm h2 h3 h1 hc aA
theorem RR.piv_iff(hp:2<=p)(hm:1<=m)(h:RR p m N R a piv)(hc:c<N):c∈piv↔¬∃x,Ez p m ml N R a x/\Az (p^m) (x c)≠0/\∀j,c<j->x j=0:=by
 have h0:=h;obtain⟨c1,h1,hP,h3⟩:=h;constructor
 .rintro aA⟨x,hS,hx,hz⟩;obtain⟨i,hi,e⟩:=List.getElem_of_mem aA;have hq:piv[i]?=some c:=by rw[List.getElem?_eq_getElem hi,e]
  have:=hS i (by have:=hP.le;omega);rw[K8 hp hc fun j hj aD hf=>by
   rcases Nat.lt_or_gt_of_ne aD with e1|e1
   .exact absurd (hP.lead i c j hq e1) hf
   .exact hz j e1,hP.one i c hq,II hp hm,Dl hp hm (Cr (Nat.pow_pos ac) _)]at this
  exact hx this
 .intro hn;by_cases aA:c∈piv
  .exact aA
  .exfalso;have aC:∀i:Nat,piv[i]?≠some c:=fun i hi=>aA (List.mem_of_getElem? hi);obtain⟨x,hx⟩:=Kv.ex hP aC piv.length (Nat.le_refl _);refine hn ⟨x,h0.sol hp hm hc aC hx,by rw[hx.c1,II hp hm];decide,fun j hj=>?_⟩;by_cases hj2:∃i,i<piv.length/\piv[i]?=some j
   .obtain⟨i,hi,aB⟩:=hj2;rw[hx.pv i j hi aB,hP.lead i j c aB hj,Dm,RI ac];rfl
   .exact hx.z j ac fun i hi aB=>hj2 ⟨i,hi,aB⟩
theorem RR.asc(h:RR p m N R a piv):piv.Pairwise (·< ·)/\∀q∈piv,q<N:=by
 obtain⟨c1,h1,hP,h3⟩:=h;refine⟨List.pairwise_iff_getElem.2 fun i j hi hj aA=>hP.asc i j _ _ aA (List.getElem?_eq_getElem hi) (List.getElem?_eq_getElem hj),fun q hq=>?_⟩;obtain⟨i,hi,e⟩:=List.getElem_of_mem hq;have:=hP.lt i q ar;omega
theorem Vd(hp:2<=p)(hm:1<=m){R':Nat}{a':Nat->Nat->Int}{piv':List Nat}(h:RR p m N R a piv)(h':RR p m N R' a' piv')(hS:∀x,Ez p m ml N R a x↔Ez p m ml N R' a' x):
  piv=piv'/\∀i,i<piv.length->∀j,j<N->a i j=a' i j:=by
 have aF:piv=piv':=QY h.asc.1 h'.asc.1 fun q=>by
  constructor
  .intro hq;have aA:=h.asc.2 q hq;refine(h'.piv_iff (ml:=ml) hp hm aA).2 ?_;rintro⟨x,h1,h2⟩;exact(h.piv_iff (ml:=ml) hp hm aA).1 hq ⟨x,(hS x).2 h1,h2⟩
  .intro hq;have aA:=h'.asc.2 q hq;refine(h.piv_iff (ml:=ml) hp hm aA).2 ?_;rintro⟨x,h1,h2⟩;exact(h'.piv_iff (ml:=ml) hp hm aA).1 hq ⟨x,(hS x).1 h1,h2⟩
 subst aF;refine⟨rfl,fun i hi j hj=>?_⟩;have hq:piv[i]?=some piv[i]:=List.getElem?_eq_getElem hi;obtain⟨q,aE⟩:=nA (piv[i]);rw[aE]at hq;have aA:=h.asc.2 q (List.mem_of_getElem? hq);have aH:=h';obtain⟨c1,h1,hP,h3⟩:=h;obtain⟨c1',h1',aB,h3'⟩:=h';by_cases hjp:∃k:Nat,piv[k]?=some j
 .obtain⟨k,hk⟩:=hjp;by_cases e:k=i
  .subst e;rw[hP.one k j hk,aB.one k j hk]
  .rw[hP.zer k j i hk (by have:=hP.le;omega) (fun e2=>e e2.symm),aB.zer k j i hk (by have:=aB.le;omega) (fun e2=>e e2.symm)]
 .have aC:∀k:Nat,piv[k]?≠some j:=fun k hk=>hjp ⟨k,hk⟩;obtain⟨x,hx⟩:=Kv.ex aB aC piv.length (Nat.le_refl _);have hs:=(hS x).2 (aH.sol hp hm hj aC hx) i (by have:=hP.le;omega);rw[hx.dt_piv hp hm hj hq aA (fun e=>aC i (by rw[<-e];exact hq)) (hP.one i q hq) fun k r hk aG=>hP.zer k r i hk (by have:=hP.le;omega) (fun e=>aG e.symm)]at hs;have aD:0<p^m:=Nat.pow_pos ac;exact VK (hP.rng i (by have:=hP.le;omega) j hj) (aB.rng i (by have:=aB.le;omega) j hj) (Mf ac (Cr aD _) (Cr aD _) hs)
end
theorem JE{a b c:World}{row:Option Nat}(h:a.grownBy b row)(k:b.grownBy c row):a.grownBy c row:=
 ⟨k.os.trans h.os,k.tape.trans h.tape,k.output.trans h.output,Nat.le_trans h.size k.size,fun i hi aA=>(k.block i (Nat.lt_of_lt_of_le hi h.size) aA).trans (h.block i hi aA)⟩
theorem VX{a b:World}(row:Option Nat)(h:Ex a b):a.grownBy b row:=⟨h.os,h.tape,h.output,h.size,fun i hi _=>h.block i hi⟩
theorem TR(w:World)(g j:Nat)(u:Value):w.grownBy (w.setCell ⟨g,j,none⟩ u) (some g):=by
 have h:Below g w (w.setCell ⟨g,j,none⟩ u):=Below.setCell (Below.refl g w) (Nat.le_refl _) u;refine⟨h.os,h.tape,h.output,h.size,fun k hk aA=>?_⟩;have aB:k≠g:=fun e=>aA cj;by_cases hlt:k<g
 .exact h.block k hlt
 .exact Below.heap_setCell w ⟨g,j,none⟩ u k aB
theorem zaZ{P:Prop}(h:P:=by
 rw[if_pos h,if_pos (by omega)]):P:=h
theorem Ti{p m:Nat}{ml:List Int}{b x0:Nat}(w0 w:World)(hg:AP w0 b p m ml x0)(hx:Ex w0 w)(N vb cap base:Nat)(f u:Nat->Int)(a:Int)(uv:Value)(hb:w0.heap.size<=base)(hv:AO w base 3 vb N cap (iv f))(hu:Aj w uv (il N u))(aL:uv.ownBlock≠some vb)(hN:N<=1000):
  Calls Tryz.prog 254 #[.pointer (some ⟨b,0,none⟩),.slice (some ⟨vb,0,none⟩) N cap,.int .i64 a,uv] w fun r w'=>(∃t,r= .returned t)/\AO w' base 3 vb N cap (iv (CV p m ml f (Az (p^m) a) u))/\w.grownBy w' (some vb):=by
 obtain⟨ua,uc,rfl,u1,u2,u3⟩:=hu.open;rw[AR]at u1 u3 ⊢;unfold maxLen at u2;obtain⟨c1,c2⟩:=hv.caps;unfold maxLen at c2;obtain⟨U3,aQ,HX,aI,HV,HO⟩:=To u3 aL hx hg hv (show AO w base 3 vb N cap (iv fun j=>if j<0 then CV p m ml f (Az (p^m) a) u j else f j) from hv.icongr fun j _=>ag);clear u3 hu aL hv hx hg;go_enter Tryz.func254,Tryz.ntmps254
 go_wp2_with fail
 go_loopw [12] (fun k' wr=>∃k:Nat,k<=N/\k'= .int .i64 k/\Hia (AO wr base 3 vb N cap (iv fun j=>if j<k then CV p m ml f (Az (p^m) a) u j else f j))/\Hia (w.grownBy wr (some vb))) (fun k' _=>N-(intOf k').toNat)
 case atStart=>exact⟨0,ac,rfl,HO,Aa (World.grownBy.refl _ _)⟩
 case round=>
  clear HO;obtain⟨k,hk,rfl,aA,aD⟩:=hrel;by_cases hkl:k<N
  .obtain⟨ub,uo,rfl,aK⟩:=U3.o ac;have aM:ub≠vb:=fun e=>aQ.o (by rw[e];rfl);have d1:=aD.o.cell (aK k (u k) (AM hkl u)) (by intro e;injection e with e;exact aM e);have i1:(0:Int)<=(k:Int):=by omega
   have i2:(k:Int)<(N:Int):=ac;have aJ:=Aa (Ex.grown HX.o HV.o hb aD.o);clear aK aM;by_cases h0:u k=0
   .have aP:(u k !=0)=false:=by simp[h0]
    have aF:=Aa (show AO wr base 3 vb N cap (iv fun j=>if j<k+1 then CV p m ml f (Az (p^m) a) u j else f j) from aA.o.icongr fun j hj=>by
     by_cases e:j=k
     .subst e;rw[if_neg (show ¬j<j by omega),if_pos (show j<j+1 by omega)];unfold CV;rw[if_pos h0]
     .by_cases h:j<k
      .rw[if_pos h,if_pos (show j<k+1 by omega)]
      .rw[if_neg h,if_neg (show ¬j<k+1 by omega)])
    clear aA h0;go_wp2_with fail
    go_roundw
    case rel=>exact⟨k+1,ac,by go_num,aF,aD⟩
    case measure=>simp[intOf];omega
   .have aP:(u k !=0)=true:=by simpa using h0
    have aO:wr.cell? ⟨vb,k,none⟩=some (.int .i64 (f k)):=by
     rw[aA.o.cell hkl];show some (Value.int .i64 (if k<k then _ else f k))=_;rw[if_neg ac]
    have aN:=aA.o.frz k;obtain⟨K1,aG⟩:∃K,Ap p m (lw ml) (Az (p^m) a) (Az (p^m) (u k))=K:=⟨_,rfl⟩;have aE:K1<p^m:=by rw[<-aG];exact Cb (by have:=aI.o.sh.p2;omega) _ _
    have aB:=Aa (fun w' (h:Ex w0 w')=>DC w' (aI.o.ex h) a (u k));rw[aG]at aB;obtain⟨K2,aH⟩:∃K,A5 p m (Az (p^m) (f k)) (Az (p^m) (K1:Nat))=K:=⟨_,rfl⟩;have aC:=Aa (fun w' (h:Ex w0 w')=>IZ w' (aI.o.ex h) (f k) (K1:Nat));rw[aH]at aC;have aS:=Aa (show CV p m ml f (Az (p^m) a) u k=(K2:Nat) from by
     unfold CV;rw[if_neg h0,aG,<-aH,Bj aE])
    clear aG aH aE h0;go_upto_region 4 with fail
    have E1:Ex wr wr.drew:=(Ex.refl wr).drew;have G0:Ex w0 wr.drew:=aJ.o.trans E1
    go_region_law
     ((first
            | (go_simp;go_at_call 106;(with_reducible refine(aB.o _ (aJ.o.drewN _)).mono ?_);rintro e wx1⟨rfl,n1,rfl⟩)
            | (go_simp;go_at_call 106;(with_reducible refine(aB.o _ G0).mono ?_);rintro e wx1⟨rfl,n1,rfl⟩)
            | (go_simp;go_at_call 163;(with_reducible refine(aC.o _ (aJ.o.drewN _)).mono ?_);rintro e wx2⟨rfl,n2,rfl⟩)))
    all_goals
     have aF:=Aa (fun n=>((aA.o.drewN n).set k (.int .i64 (K2:Nat))));have aR:=Aa (fun n=>JE aD.o (JE (VX (some vb) ((Ex.refl wr).drewN n)) (TR (wr.drewN n) vb k (.int .i64 (K2:Nat)))));clear aA aD aB aC E1 G0 aO aN;go_wp2_with fail
     go_roundw
     case rel=>exact⟨k+1,ac,by go_num,Aa ((aF.o _).congr fun j hj=>by
      by_cases e:j=k
      .subst e;rw[Ad];show _=Value.int .i64 (if j<j+1 then CV p m ml f (Az (p^m) a) u j else f j);rw[if_pos ac,aS.o]
      .rw[Ae _ _ e];show Value.int .i64 (if j<k then CV p m ml f (Az (p^m) a) u j else f j)=Value.int .i64 (if j<k+1 then CV p m ml f (Az (p^m) a) u j else f j)
       by_cases h:j<k
       .exact zaZ
       .rw[if_neg h,if_neg ac]),Aa (aR.o _)⟩
     case measure=>simp[intOf];omega
  .obtain rfl:N=k:=by omega
   have aF:=Aa (show AO wr base 3 vb N cap (iv (CV p m ml f (Az (p^m) a) u)) from aA.o.icongr fun j hj=>by rw[if_pos hj]);clear aA;go_wp2_with fail
   go_end0
   exact⟨⟨_,rfl⟩,aF.o,aD.o⟩
theorem Lg{p m:Nat}{ml:List Int}{b x0:Nat}(w:World)(hg:AP w b p m ml x0)(N:Nat)(u:Nat->Int)(a:Int)(uv:Value)(hu:Aj w uv (il N u))(hN:N<=1000):
  Calls Tryz.prog 252 #[.pointer (some ⟨b,0,none⟩),.int .i64 a,uv] w fun r w'=>∃g,r= .returned (.slice (some ⟨g,0,none⟩) N N)/\AI w' w.heap.size 3 g N (iv (CI p m ml (Az (p^m) a) u))/\Ex w w':=by
 obtain⟨ua,uc,rfl,u1,u2,u3⟩:=hu.open;rw[AR]at u1 u3 ⊢;unfold maxLen at u2;have U3:=Aa u3;have aM:=Aa hg;clear u3 hu hg;go_enter Tryz.func252,Tryz.ntmps252
 go_wp2_with (at_make;refine Aq _ rfl _ _ 22 rfl 3 (.int .i64 0) 8 Tryz.underlying22 Au rfl _ N rfl rfl rfl ac ai ?_)
 intro w3 aA aF;obtain⟨g,aC⟩:=nA w.heap.size;have aH:=Aa aC;rw[aC]at aA ⊢
 try simp only[aC]
 have HO:=Aa (show AI w3 g 3 g N (iv fun j=>if j<0 then CI p m ml (Az (p^m) a) u j else 0) from aA.icongr fun j _=>ag);have HX:=Aa aF;clear aA aF aC;go_wp2_with fail
 go_loopw [15] (fun k' wr=>∃k:Nat,k<=N/\k'= .int .i64 k/\Hia (AI wr g 3 g N (iv fun j=>if j<k then CI p m ml (Az (p^m) a) u j else 0))/\Hia (Ex w wr)) (fun k' _=>N-(intOf k').toNat)
 case atStart=>exact⟨0,ac,rfl,HO,HX⟩
 case round=>
  clear HO HX;obtain⟨k,hk,rfl,aA,hx⟩:=hrel;by_cases hkl:k<N
  .obtain⟨ub,uo,rfl,aG⟩:=U3.o ac;have d1:=hx.o.cell (aG k (u k) (AM hkl u));have i1:(0:Int)<=(k:Int):=by omega
   have i2:(k:Int)<(N:Int):=ac;have aJ:=aA.o.cell hkl;have aI:=aA.o.frz k;obtain⟨K1,aD⟩:∃K,Ap p m (lw ml) (Az (p^m) a) (Az (p^m) (u k))=K:=⟨_,rfl⟩;have aB:=Aa (DC wr (aM.o.ex hx.o) a (u k));rw[aD]at aB;have aL:=Aa (show CI p m ml (Az (p^m) a) u k=(K1:Nat) from by unfold CI;rw[aD]);clear aD aG;go_wp2_with (go_at_call 106;refine aB.o.mono ?_;rintro e w4⟨rfl,n,rfl⟩)
   have aE:=Aa (fun n=>(aA.o.drewN n).set k (.int .i64 (K1:Nat)));have aK:=Aa (fun n=>(aA.o.drewN n).exSet (a:=w) (by have:=aH.o;omega) (hx.o.drewN n) k (.int .i64 (K1:Nat)));clear aA hx aB aJ aI d1;go_roundw
   case rel=>exact⟨k+1,ac,by go_num,Aa ((aE.o _).congr fun j hj=>by
    by_cases e:j=k
    .subst e;rw[Ad];show _=Value.int .i64 (if j<j+1 then CI p m ml (Az (p^m) a) u j else 0);rw[if_pos ac,aL.o]
    .rw[Ae _ _ e];show Value.int .i64 (if j<k then CI p m ml (Az (p^m) a) u j else 0)=Value.int .i64 (if j<k+1 then CI p m ml (Az (p^m) a) u j else 0)
     by_cases h:j<k
     .exact zaZ
     .rw[if_neg h,if_neg ac]),Aa (aK.o _)⟩
   case measure=>simp[intOf];omega
  .obtain rfl:N=k:=by omega
   have aE:=Aa (show AI wr g 3 g N (iv (CI p m ml (Az (p^m) a) u)) from aA.o.icongr fun j hj=>by rw[if_pos hj]);clear aA;go_wp2_with fail
   go_ret;exact⟨g,rfl,by rw[aH.o];exact aE.o,hx.o⟩
end Go.Proofs.YtehieobniamagaaGreat
