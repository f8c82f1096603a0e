/- Walks of perm.Check, perm.generators, and of the reference's Check, all, group. -/
import Derived.Laws.EntriesVeiled
import Derived.Test.YtehieobniamagaaGreatZs15
namespace Go.Proofs.YtehieobniamagaaGreat
open Go.RowKit
set_option linter.all false
set_option maxRecDepth 100000
set_option maxHeartbeats 8000000
def Mr(n:Int):Int:=if n<1∨64<n then 4 else 0
def BR(l:List Int):Int:=if (l.length:Int)<1∨64<(l.length:Int) then 4 else if (∃x∈l,x<0∨(l.length:Int)<=x) then 6 else if l.Nodup then 0 else 18
def Sj(n:Int)(rows:List (List Int)):Int:=match rows.find? (fun r=>BR r !=0) with
 | some r=>BR r
 | none=>if (∃r∈rows,(r.length:Int)≠n) then 10 else 0
def Es(n:Int)(rows:List (List Int)):Int:=if n<1∨64<n then 4 else Sj n rows
theorem XP{n:Int}{rows:List (List Int)}{i:Nat}{r:List Int}(hr:rows[i]?=some r)(h:BR r≠0)(ha:∀(j:Nat) (s:List Int),j<i->rows[j]?=some s->BR s=0):Sj n rows=BR r:=by
 have:rows.find? (fun r=>BR r !=0)=some r:=by
  rw[List.find?_eq_some_iff_getElem];obtain⟨hi,e⟩:=List.getElem?_eq_some_iff.1 hr;refine⟨by simpa using h,i,hi,e,fun j hj=>?_⟩;have:=ha j _ hj (List.getElem?_eq_getElem ac);simp[this]
 unfold Sj;rw[this]
theorem Nv{n:Int}{rows:List (List Int)}(ha:∀(j:Nat) (s:List Int),rows[j]?=some s->BR s=0):Sj n rows=if (∃r∈rows,(r.length:Int)≠n) then 10 else 0:=by
 have:rows.find? (fun r=>BR r !=0)=none:=by
  rw[List.find?_eq_none];intro r hr;obtain⟨j,hj,e⟩:=List.getElem_of_mem hr;have:=ha j r ar;simp[this]
 unfold Sj;rw[this]
theorem Fg{l:List Int}:l.Nodup↔∀i j,j<i->i<l.length->l[i]?≠l[j]?:=by
 rw[List.nodup_iff_pairwise_ne,List.pairwise_iff_getElem];constructor
 .intro h i j hj hi e;rw[List.getElem?_eq_getElem hi,List.getElem?_eq_getElem ac]at e;injection e with e;exact h j i ac hi hj e.symm
 .intro h i j hi hj aA e;exact h j i aA hj (by rw[List.getElem?_eq_getElem hi,List.getElem?_eq_getElem hj,e])
theorem dz{P:Prop}(h:P:=by rw[List.getElem?_eq_getElem hi,List.getElem?_eq_getElem hj,e2]):P:=h
theorem eh{P:Prop}(h:P:=by rw[Ch];omega):P:=h
theorem Ir{l:List Int}(h:BR l=0):∃n f,1<=n/\n<=64/\l.length=n/\Be n f/\l=li n f:=by
 unfold BR at h;split at h
 .cases h
 .split at h
  .cases h
  .split at h
   .rename_i h1 h2 h3;have hr:∀i,i<l.length->0<=l.getD i 0/\l.getD i 0<l.length:=fun i hi=>by
     rw[List.getD_eq_getElem?_getD,List.getElem?_eq_getElem hi];show 0<=l[i]/\l[i]<(l.length:Int)
     have hm:=List.getElem_mem hi;apply Classical.byContradiction;intro hn;exact h2 ⟨_,hm,ac⟩
    refine⟨l.length,fun i=>if i<l.length then(l.getD i 0).toNat else i,ac,ac,rfl,?_,?_⟩
    .refine Be.of_inj (fun i hi=>?_) (fun i hi=>if_neg ac) (fun i j hi hj e=>?_)
     .rw[if_pos hi];have:=hr i hi;omega
     .rw[if_pos hi,if_pos hj]at e;have h4:=hr i hi;have h5:=hr j hj;have e2:l.getD i 0=l.getD j 0:=by omega
      rw[List.getD_eq_getElem?_getD,List.getD_eq_getElem?_getD,List.getElem?_eq_getElem hi,List.getElem?_eq_getElem hj]at e2;have e2:l[i]=l[j]:=e2;apply Classical.byContradiction;intro aA;rcases Nat.lt_or_gt_of_ne aA with hij|hij
      .exact Fg.1 h3 j i hij hj dz
      .exact Fg.1 h3 i j hij hi dz
    .apply List.ext_getElem?;intro i;by_cases hi:i<l.length
     .rw[Dl hi,if_pos hi];have:=hr i hi;rw[List.getD_eq_getElem?_getD,List.getElem?_eq_getElem hi]at *;have this:0<=l[i]/\l[i]<(l.length:Int):=this;show some l[i]=some ((l[i].toNat:Nat):Int)
      congr 1;omega
     .rw[List.getElem?_eq_none ac,List.getElem?_eq_none eh]
   .cases h
theorem N4{n:Nat}{f:Nat->Nat}(h1:1<=n)(h2:n<=64)(hf:Be n f):BR (li n f)=0:=by
 unfold BR;rw[Ch,if_neg ac,if_neg,if_pos]
 .rw[Fg];intro i j hj hi e;rw[Ch]at hi;rw[Dl hi,Dl ac]at e;injection e with e;have:=hf.inj i j ac;omega
 .rintro⟨x,hx,h⟩;unfold li at hx;obtain⟨j,hj,rfl⟩:=V6 hx;have:=hf.lt j hj;omega
theorem Kl{n:Int}{rows:List (List Int)}(h:Es n rows=0):∃N:Nat,n=N/\1<=N/\N<=64/\∃S:List (Nat->Nat),rows=S.map (li N)/\∀s∈S,Be N s:=by
 unfold Es at h;split at h
 .cases h
 .rename_i hn;obtain⟨N,rfl⟩:∃N:Nat,n=N:=⟨n.toNat,ac⟩;refine⟨N,rfl,ac,ac,?_⟩;unfold Sj at h;split at h
  .rename_i r hr;have:=List.find?_some hr;simp[h]at this
  .rename_i hr;split at h
   .cases h
   .rename_i hl;have aA:∀r∈rows,∃f,Be N f/\r=li N f:=fun r hm=>by
     have h1:=List.find?_eq_none.1 hr r hm;obtain⟨m,f,_,_,h3,h4,h5⟩:=Ir br;have hm:m=N:=by
      have:¬(r.length:Int)≠N:=fun h6=>hl ⟨r,hm,h6⟩;omega
     subst hm;exact⟨f,h4,h5⟩
    clear hr hl h hn
    induction rows with
    | nil=>exact⟨[],rfl,fun s hs=>by cases hs⟩
    | cons r rs ih=>
     obtain⟨f,hf,rfl⟩:=aA r (List.mem_cons_self ..);obtain⟨S,e,hS⟩:=ih fun r hr=>aA r (List.mem_cons_of_mem _ hr);exact⟨f :: S,by rw[e];rfl,fun s hs=>by
      rcases List.mem_cons.1 hs with h|h
      .rw[h];exact hf
      .exact hS s h⟩
theorem Tp{N:Nat}{S:List (Nat->Nat)}(h1:1<=N)(h2:N<=64)(hS:∀s∈S,Be N s):Es N (S.map (li N))=0:=by
 unfold Es;rw[if_neg ac,Nv,if_neg]
 .rintro⟨r,hr,h⟩;obtain⟨s,hs,rfl⟩:=List.mem_map.1 hr;rw[Ch]at h;exact h rfl
 .intro j s hs;obtain⟨s',h3,rfl⟩:=List.mem_map.1 (List.mem_of_getElem? hs);exact N4 h1 h2 (hS s' h3)
theorem zcE{P:Prop}(h:P:=by
 go_enter Tryz.func115,Tryz.ntmps115
 exact zdm):P:=h
theorem H6(w:World)(n:Int):
  Calls Tryz.prog 115 #[n] w fun r w'=>r= .returned (.int .i64 (Mr n))/\w=w':=by
 unfold Mr;by_cases h1:n<1
 .rw[if_pos (.inl h1)];exact zcE
 .by_cases h2:64<n
  .rw[if_pos (.inr h2)];exact zcE
  .rw[if_neg ac];exact zcE
theorem zcv{P:Prop}(h:P:=by
 go_enter Tryz.func117,Tryz.ntmps117
 go_wp2_with fail
 go_ret;exact⟨rfl,0,rfl⟩):P:=h
theorem SA(w:World)(B:Nat)(x:Int)(a:Option Addr)(n cap:Nat)(c0:w.cell? (B,0)=some (.slice a n cap)):
  Calls Tryz.prog 117 #[x,.pointer (some (B,0))] w fun r w'=>r= .returned (.bool (decide (x<0∨(n:Int)<=x)))/\∃q,w'=w.drewN q:=by
 by_cases h1:x<0
 .rw[decide_eq_true (.inl h1)];exact zcv
 .by_cases h2:(n:Int)<=x
  .rw[decide_eq_true (.inr h2)];exact zcv
  .rw[decide_eq_false ac];exact zcv
theorem zaE{P:Prop}(h:P:=by
 rintro⟨i,hi,h⟩;rw[List.getD_eq_getElem?_getD,List.getElem?_eq_getElem hi]at h;exact⟨_,List.getElem_mem hi,h⟩):P:=h
theorem zch{P:Prop}(h:P:=by
 obtain⟨a',cap',e,_,_,h⟩:=S3.o;injection e with e1 e2 e3;subst e1;exact h (by omega)):P:=h
theorem zcU{P:Prop}(h:P:=by
 rw[hz];clear hd hz;go_wp2_with fail
 go_ret;exact⟨Af HP.o.symm,e0⟩):P:=h
theorem JI(w:World)(l:List Int)(v:Value)(hl:Al w v l):
  Calls Tryz.prog 57 #[v] w fun r w'=>r= .returned (.int .i64 (BR l))/\Ex w w':=by
 have HL:=Aa hl;obtain⟨a,cap,rfl,s1,s2,s3⟩:=hl.open;unfold maxLen at s2;have e0:Ex w (w.alloc (.cells #[.slice a l.length cap] 22)):=(Ex.refl _).alloc _;have c0:(w.alloc (.cells #[.slice a l.length cap] 22)).cell? (w.heap.size,0)=some (.slice a l.length cap):=ag;have S3:=Aa (hl.ex e0).open;clear s3 hl;go_enter Tryz.func57,Tryz.ntmps57
 go_wp2_with fail
 generalize w.alloc (.cells #[.slice a l.length cap] 22)=w1 at *;refine(H6 w1 l.length).mono ?_;rintro e w2⟨rfl,rfl⟩;by_cases hd:(l.length:Int)<1∨64<(l.length:Int)
 .have hz:Mr l.length=4:=if_pos hd;have HP:=Aa (show BR l=4 from if_pos hd);exact zcU
 .have hz:Mr l.length=0:=if_neg hd;rw[hz];have aH:=Aa (show 1<=l.length/\l.length<=64 from ac);have aC:=Aa (JC w1 (.pointer (some ⟨w.heap.size,0,none⟩)) (.slice a l.length cap) l.length (Ao l) (HL.o.ex e0) (fun i=>decide (l.getD i 0<0∨(l.length:Int)<=l.getD i 0)) fun q i u hu=>by
   obtain⟨x,hx,rfl⟩:∃x,l[i]?=some x/\u= .int .i64 x:=by
    simp only[Ao,List.getElem?_map]at hu;obtain⟨x,h1,h2⟩:=Option.map_eq_some_iff.1 hu;exact⟨x,h1,h2.symm⟩
   have hd:l.getD i 0=x:=by rw[List.getD_eq_getElem?_getD,hx];rfl
   rw[hd];exact SA _ w.heap.size x a l.length cap (((Ex.refl w1).drewN q).cell c0))
  have aN:=Aa (show((List.range l.length).any fun i=>decide (l.getD i 0<0∨(l.length:Int)<=l.getD i 0))=decide (∃x∈l,x<0∨(l.length:Int)<=x) from by
   rw[Bool.eq_iff_iff];simp only[List.any_eq_true,List.mem_range,decide_eq_true_eq];constructor
   .exact zaE
   .rintro⟨x,hx,h⟩;obtain⟨i,hi,rfl⟩:=List.getElem_of_mem hx;exact⟨i,hi,by rw[List.getD_eq_getElem?_getD,List.getElem?_eq_getElem hi];exact h⟩)
  rw[aN.o]at aC;clear aN hd hz;by_cases ho:∃x∈l,x<0∨(l.length:Int)<=x
  .have HP:=Aa (show BR l=6 from by unfold BR;rw[if_neg (by have:=aH.o;omega),if_pos ho]);rw[decide_eq_true ho]at aC;clear ho;go_wp2_with (go_at_call 116;refine aC.o.mono ?_;rintro e w'⟨rfl,q,rfl⟩)
   go_ret;exact⟨Af HP.o.symm,e0.drewN _⟩
  .rw[decide_eq_false ho]at aC;have aQ:=Aa (show ∀(i:Nat) (x:Int),l[i]?=some x->0<=x/\x<l.length from fun i x h=>by
    apply Classical.byContradiction;intro hn;exact ho ⟨x,List.mem_of_getElem? h,ac⟩)
   have aK:=Aa (show BR l=if l.Nodup then 0 else 18 from by unfold BR;rw[if_neg (by have:=aH.o;omega),if_neg ho]);have HE:=Aa e0;have hl64:=aH.o.2;clear ho e0;go_wp2_with (first|(go_at_call 116;refine aC.o.mono ?_;rintro e w'⟨rfl,q,rfl⟩;have c0:=((Ex.refl w1).drewN q).cell c0)|(at_make;refine Au _ rfl _ _ 168 rfl 4 (.bool false) 1 Tryz.underlying168 Ll rfl _ l.length rfl rfl rfl ac ai ?_))
   intro w3 aA aF;have aJ:=Aa (((Ex.refl w1).drewN q).trans aF);have c0:=aF.cell c0;obtain⟨g,aG⟩:=nA w1.heap.size;rw[aG]at aA ⊢;have aP:=Aa (show w1.heap.size<=g from by rw[<-aG];exact Nat.le_refl _);have aL:=Aa (show AH w3 g 4 g l.length (bv fun x=>decide ((x:Int)∈l.take 0)) from aA.bcongr fun j _=>ag);have aM:=Aa (show(l.take 0).Nodup from ag);clear aA aF aG aC;go_wp2_with fail
   go_loopw [21] (fun k' wr=>∃(k:Nat),k<=l.length/\k'= .int .i64 k/\Hia (AH wr g 4 g l.length (bv fun x=>decide ((x:Int)∈l.take k)))/\Hia ((l.take k).Nodup)/\Hia (Ex w1 wr)) (fun k' _=>l.length-(intOf k').toNat)
   case atStart=>exact⟨0,ac,rfl,aL,aM,aJ⟩
   case round=>
    clear aL aM aJ c0;obtain⟨k,hk,rfl,aA,aD,hx⟩:=hrel;by_cases hkn:k<l.length
    .obtain⟨b,o,rfl,hc⟩:∃b o,a=some ⟨b,o,none⟩/\∀(j:Nat) (x:Int),l[j]?=some x->w1.cell? ⟨b,o+j,none⟩=some (.int .i64 x):=by
      exact zch
     obtain⟨x,aE⟩:∃x,l[k]?=some x:=⟨_,List.getElem?_eq_getElem hkn⟩;obtain⟨y1,y2⟩:=aQ.o k x aE;obtain⟨X,rfl⟩:∃X:Nat,x=X:=⟨x.toNat,ac⟩;have aO:X<l.length:=bf;have c1:=hx.o.cell (hc k X aE);have c3:=aA.o.cell aO;have c4:=aA.o.frz X;have i1:(0:Int)<=(k:Int):=ac;have i2:(k:Int)<(l.length:Int):=ac;have aB:l.take (k+1)=l.take k ++ [(X:Int)]:=by rw[List.take_add_one,aE];rfl
     by_cases hin:(X:Int)∈l.take k
     .have c5:wr.cell? (g,X)=some (.bool true):=by rw[c3];show some (Value.bool (decide ((X:Int)∈l.take k)))=_;rw[decide_eq_true hin]
      have aR:=Aa (show BR l=18 from by
       rw[aK.o,if_neg];intro h;have h2:(l.take (k+1)).Nodup:=h.sublist (List.take_sublist _ _);rw[aB,List.nodup_append]at h2;exact h2.2.2 _ hin _ (List.mem_singleton.2 rfl) rfl)
      have aI:=Aa (HE.o.trans hx.o);clear hc c3 aA aD hx aB hin;go_wp2_with fail
      go_ret;exact⟨Af aR.o.symm,aI.o⟩
     .have c5:wr.cell? (g,X)=some (.bool false):=by rw[c3];show some (Value.bool (decide ((X:Int)∈l.take k)))=_;rw[decide_eq_false hin]
      have HO:=Aa (show AH (wr.setCell (g,X) (.bool true)) g 4 g l.length (bv fun x=>decide ((x:Int)∈l.take (k+1))) from by
       refine(aA.o.set X _).congr fun i hi=>?_;by_cases e:i=X
       .subst e;rw[Ab];show _=Value.bool (decide ((i:Int)∈l.take (k+1)));rw[aB,decide_eq_true ag]
       .rw[Ad _ _ e];show Value.bool (decide ((i:Int)∈l.take k))=Value.bool (decide ((i:Int)∈l.take (k+1)))
        rw[aB]
        congr 1
        have:¬(i:Int)=X:=ac;simp[this])
      have aS:=Aa (show(l.take (k+1)).Nodup from by
       rw[aB,List.nodup_append];exact⟨aD.o,ag,fun y hy z hz e=>by rw[List.mem_singleton.1 hz]at e;subst e;exact hin hy⟩)
      have HX:=Aa (aA.o.exSet (a:=w1) aP.o hx.o X (.bool true));clear hc c3 aA aD hx aB hin;go_wp2_with fail
      go_roundw
      case rel=>exact⟨k+1,ac,by go_num,HO,aS,HX⟩
      case measure=>simp[intOf];omega
    .obtain rfl:k=l.length:=by omega
     have HP:=Aa (show BR l=0 from by
      rw[aK.o,if_pos];have:=aD.o
      rwa[List.take_length]at this)
     have aI:=Aa (HE.o.trans hx.o);clear aA aD hx;go_wp2_with fail
     go_ret;exact⟨Af HP.o.symm,aI.o⟩
theorem boxRf(w:World)(ev:Value):(w.alloc (.cells #[ev] 94)).cell? (w.heap.size,0)=some ev:=ag
def flS(c d:AT)(es:List Rf)(tl sl:List Int):Nat × Int:=Xb c.p.toNat c.m.toNat c.ml c.rows d.rows c.n.toNat es (c.n.toNat-tl.length) 0 tl sl
def ckE(E:Int)(R:Nat × Int)(es:List Rf):Int:=if E≠0 then E else if R.2=0/\R.1<es.length then 13 else R.2
theorem Hh(w:World)(c d:AT)(m1 m2 v1 v2:Value)(hc:c.at w m1 v1)(hd:d.at w m2 v2)(tl sl:List Int)(tv sv:Value)(ht:Al w tv tl)(hs:Al w sv sl)(es:List Rf)(ev:Value)(hr:O9 w ev es):
  Calls Tryz.prog 133 #[c.arg m1 v1,d.arg m2 v2,.agg #[tv,sv],.agg #[ev]] w fun r w'=>(∃e1 e2:Int,BI c.p c.m c.ml c.n c.rows e1/\(e1=0->BI d.p d.m d.ml d.n d.rows e2)/\r= .returned (.int .i64 (ckE (Gd e1 e2 (CA c.p c.m c.ml d.p d.m d.ml) c.n d.n tl sl (c.p.toNat^c.m.toNat)) (flS c d es tl sl) es)))/\Ex w w':=by
 obtain⟨c0,c1,c2,c3,c4⟩:=CY w c m1 v1;obtain⟨d0,d1,d2,d3,d4⟩:=CY (w.alloc (c.obj m1 v1)) d m2 v2;obtain⟨b0,b1,e3,aY⟩:=AX ((w.alloc (c.obj m1 v1)).alloc (d.obj m2 v2)) tv sv;have aI:=boxRf (((w.alloc (c.obj m1 v1)).alloc (d.obj m2 v2)).alloc (.cells #[tv,sv] 71)) ev;have aZ:(w.alloc (c.obj m1 v1)).heap.size=w.heap.size+1:=ag;have aO:((w.alloc (c.obj m1 v1)).alloc (d.obj m2 v2)).heap.size=w.heap.size+1+1:=ag;have e1:=AI w (c.obj m1 v1);have e2:=AI (w.alloc (c.obj m1 v1)) (d.obj m2 v2);have e4:=AI (((w.alloc (c.obj m1 v1)).alloc (d.obj m2 v2)).alloc (.cells #[tv,sv] 71)) (.cells #[ev] 94);rw[aY,aO]at aI;rw[aZ]at d0 d1 d2 d3 d4;rw[aO]at b0 b1;have aC:=e1.trans (e2.trans (e3.trans e4));replace c0:=(e2.trans (e3.trans e4)).cell c0;replace c1:=(e2.trans (e3.trans e4)).cell c1;replace c2:=(e2.trans (e3.trans e4)).cell c2;replace c3:=(e2.trans (e3.trans e4)).cell c3;replace c4:=(e2.trans (e3.trans e4)).cell c4;replace d0:=(e3.trans e4).cell d0;replace d1:=(e3.trans e4).cell d1;replace d2:=(e3.trans e4).cell d2;replace d3:=(e3.trans e4).cell d3;replace d4:=(e3.trans e4).cell d4;replace b0:=e4.cell b0;replace b1:=e4.cell b1;obtain⟨B,hB⟩:=nA w.heap.size;rw[hB]at c0 c1 c2 c3 c4 d0 d1 d2 d3 d4 b0 b1 aI;have aL:=Aa (I3 _ c d m1 m2 v1 v2 (hc.ex aC) (hd.ex aC) tl sl tv sv (ht.ex aC) (hs.ex aC));obtain⟨ta,tc,rfl,-,t2,-⟩:=ht.open;obtain⟨sa,sc,rfl,-,s2,-⟩:=hs.open;obtain⟨x1,y1,rfl,-,z1,-⟩:=hc.g.open;obtain⟨x2,y2,rfl,-,z2,-⟩:=hd.g.open;obtain⟨x3,y3,rfl,-,z3,-⟩:=hc.m.open;obtain⟨x4,y4,rfl,-,z4,-⟩:=hd.m.open;unfold maxLen at t2 s2 z1 z2 z3 z4;obtain⟨HX,HC,HD,HT,HS,HR,aS⟩:=OK aC hc hd ht hs hr aI;obtain⟨ra,rc,rfl,bJ,-,-⟩:=Im hr;unfold maxLen at bJ;have HWB:=Aa hB;clear hc hd ht hs hr e1 e2 e3 e4 aZ aO aY aC aI;unfold AT.arg at aL ⊢;go_enter Tryz.func133,Tryz.ntmps133
 unfold AT.obj at c0 c1 c2 c3 c4 d0 d1 d2 d3 d4 b0 b1 HX aS aL;go_upto_region 1 with fail
 try simp only[hB]
 clear hB;generalize (((w.alloc (.cells #[c.p,c.m,.slice x3 c.ml.length y3,c.n,.slice x1 c.rows.length y1] 39)).alloc (.cells #[d.p,d.m,.slice x4 d.ml.length y4,d.n,.slice x2 d.rows.length y2] 39)).alloc (.cells #[.slice ta tl.length tc,.slice sa sl.length sc] 71)).alloc (.cells #[.slice ra es.length rc] 94)=w1 at *;have B0:=Aa b0;have B1:=Aa b1;go_wp2_with fail
 refine aL.o.mono ?_;rintro e w3⟨ho,bA⟩;have aK:=Aa bA;obtain⟨e1,e2,bC,aF,ho⟩:=ho;have aM:=Aa bC;have bE:=Aa aF;clear c0 c1 c2 c3 c4 d0 d1 d2 d3 d4 bA bC aF aL b0 b1;obtain⟨E,hE⟩:=nA (Gd e1 e2 (CA c.p c.m c.ml d.p d.m d.ml) c.n d.n tl sl (c.p.toNat^c.m.toNat));rw[hE]at ho;have HE:=Aa hE;rcases ho with⟨h0,ptr,rfl⟩|⟨h0,w2,A,b,x0,pn,mn,nn,hp,hm,hnn,rfl,hx2,hg,hx01,hx02,hA,hx23,hpr,h11,hf11⟩
 .have hb0:(E !=0)=true:=by simpa using h0
  have H0:=Aa h0;clear h0 hE;go_wp2_with fail
  go_ret;refine⟨⟨e1,e2,aM.o,bE.o,?_⟩,(HX.o.trans aK.o).alloc _⟩;rw[HE.o];unfold ckE;rw[if_pos H0.o];rfl
 .subst h0;obtain⟨k1,k2,k3,k4,k5,k6,k7,k8,k9⟩:=Rd hE;subst k1;have aF:=bE.o rfl;subst k2;obtain⟨aX,aV⟩:=Ds aM.o;obtain⟨aW,aU⟩:=Ds aF;obtain⟨-,bI,bH⟩:=EI aM.o;obtain⟨SB,aJ⟩:∃B,w3.heap.size=B:=⟨_,rfl⟩;have aA:=HX.o.trans hx2;have b0:=aK.o.cell B0.o;have b1:=aK.o.cell B1.o;have r0:=aK.o.cell aS.o;have HK:=Aa (show c.n=d.n/\tl.length=sl.length/\(tl.length:Int)<=c.n/\BB tl c.n=true from⟨k4,k5,k6,k7⟩);have aB:=Aa (show c.p=pn/\c.m=mn/\c.n=nn from⟨hp,hm,hnn⟩);clear aS hp hm hnn k3 k4 k5 k6 k7 k8 k9 hE;go_upto_region 7 with fail
  have f1:=AI w3 (.cells #[.pointer (some ⟨A,0,none⟩)] 186);have f2:=AI (w3.alloc (.cells #[.pointer (some ⟨A,0,none⟩)] 186)) (.cells #[(0:Int)] 3);have f3:=AI ((w3.alloc (.cells #[.pointer (some ⟨A,0,none⟩)] 186)).alloc (.cells #[(0:Int)] 3)) (.cells #[Jp (SB+1) (B+1+1+1) SB (SB+1+1)] 216);have aT:(w3.alloc (.cells #[.pointer (some ⟨A,0,none⟩)] 186)).cell? (SB,0)=some (.pointer (some (A,0))):=A6 _ _ _ aJ;have aH:(w3.alloc (.cells #[.pointer (some ⟨A,0,none⟩)] 186)).heap.size=SB+1:=by simp[aJ]
  have aR:((w3.alloc (.cells #[.pointer (some ⟨A,0,none⟩)] 186)).alloc (.cells #[(0:Int)] 3)).cell? (SB+1,0)=some (.int .i64 0):=A6 _ _ _ aH;have bD:((w3.alloc (.cells #[.pointer (some ⟨A,0,none⟩)] 186)).alloc (.cells #[(0:Int)] 3)).frozen? (SB+1,0)=false:=F6 _ _ _ aH;have bB:((w3.alloc (.cells #[.pointer (some ⟨A,0,none⟩)] 186)).alloc (.cells #[(0:Int)] 3)).heap.size=SB+1+1:=by simp[aJ]
  have aQ:(((w3.alloc (.cells #[.pointer (some ⟨A,0,none⟩)] 186)).alloc (.cells #[(0:Int)] 3)).alloc (.cells #[Jp (SB+1) (B+1+1+1) SB (SB+1+1)] 216)).cell? (SB+1+1,0)=some (Jp (SB+1) (B+1+1+1) SB (SB+1+1)):=A6 _ _ _ bB;have aD:=hx23.trans f1;have aG:=Aa (show CkE pn mn c.ml c.rows d.rows nn A b x0 (B+1+1+1) SB (.slice x1 c.rows.length y1) (.slice x2 d.rows.length y2) (.slice ra es.length rc) es (w3.alloc (.cells #[.pointer (some ⟨A,0,none⟩)] 186)) from
   { pr:=hpr.ex f1,gf:=hg.ex aD,m1:=(HC.o.g.ex aA).ex aD,m2:=(HD.o.g.ex aA).ex aD,x1:=hx01,x2:=hx02,n64:=by have:=aB.o.2.2;omega,r1:=fun r hr=>by have:=aV r hr;have:=aB.o.2.2;omega,r2:=fun r hr=>by have:=aU r hr;have:=aB.o.2.2;have:=HK.o.1;omega,k1:=aX,k2:=aW,rb:=f1.cell r0,sb:=aT,rs:=(HR.o.ex aA).ex aD })
  have bF:=Aa (show Gp (w3.alloc (.cells #[.pointer (some ⟨A,0,none⟩)] 186)) (SB+1) (SB+1+1) (Jp (SB+1) (B+1+1+1) SB (SB+1+1)) es.length 0 (((w3.alloc (.cells #[.pointer (some ⟨A,0,none⟩)] 186)).alloc (.cells #[(0:Int)] 3)).alloc (.cells #[Jp (SB+1) (B+1+1+1) SB (SB+1+1)] 216)) from
   { ex:=f2.trans f3,c:=f3.cell aR,f:=f3.frz aR bD,fb:=aQ,ne:=ac,lb:=by rw[aH];omega,le:=Nat.zero_le _ })
  have HP:=Aa (fun (v:Value) (l:List Int) (h:Al w v l)=>show C6 (T5 (SB+1)) (((w3.alloc (.cells #[.pointer (some ⟨A,0,none⟩)] 186)).alloc (.cells #[(0:Int)] 3)).alloc (.cells #[Jp (SB+1) (B+1+1+1) SB (SB+1+1)] 216)) v l from by
   refine⟨h.ex (((aA.trans hx23).trans f1).trans (f2.trans f3)),fun hl X hX hd=>?_⟩;have h2:=h.ex (aA.trans hx23);obtain⟨a,cap,rfl,-,-,h5⟩:=h2.open;obtain⟨b',o,rfl,h6⟩:=h5 (List.length_pos_iff.2 hl);injection hX with hX;have hX:b'=X:=hX;have:=World.block_lt_of_cell? _ _ (h6 0 _ (AS (List.length_pos_iff.2 hl)));have hd:X=SB+1:=hd;simp only at this;omega)
  have b0:=(f1.trans (f2.trans f3)).cell b0;have b1:=(f1.trans (f2.trans f3)).cell b1;have r0:=(f1.trans (f2.trans f3)).cell r0;have aN:=Aa (R5 aG.o (nn-tl.length) 0 _ tl sl (.slice ta tl.length tc) (.slice sa sl.length sc) (by have:=HK.o.2.2.1;have:=aB.o.2.2;omega) HK.o.2.1.symm (by have:=HK.o.2.2.2;rw[aB.o.2.2]at this;exact this) (fun h=>absurd rfl h) bF.o (HP.o _ _ HT.o) (HP.o _ _ HS.o));have hR:Xb pn mn c.ml c.rows d.rows nn es (nn-tl.length) 0 tl sl=flS c d es tl sl:=by
   unfold flS;rw[aB.o.1,aB.o.2.1,aB.o.2.2];rfl
  rw[hR]at aN;have fb1:=Aa aQ;unfold Jp at b0 b1 r0 aQ aN bF f3;have bK:=Aa (aA.trans aD);have bG:=aG.o.rb;clear aD aA aH bB aT aR bD f1 f2 HP hx23 hpr hg hx01 hx02 hA h11 hf11 hx2 aX aW aV aU bI bH hR;generalize ((w3.alloc (.cells #[.pointer (some ⟨A,0,none⟩)] 186)).alloc (.cells #[(0:Int)] 3)).alloc (.cells #[.func (.func 180) #[] #[.pointer (some ⟨SB+1,0,none⟩),.pointer (some ⟨B+1+1+1,0,none⟩),.pointer (some ⟨SB,0,none⟩),.pointer (some ⟨SB+1+1,0,none⟩)]] 216)=w6 at *;obtain⟨R,hR⟩:=nA (flS c d es tl sl);rw[hR]at aN;have bM:=Aa hR
  try simp only[aJ]
  clear hR;have aP:R.1<=es.length∨True:=Or.inr trivial;clear aP;go_wp2_with (go_at_call 180;refine aN.o.mono ?_;rintro e7 w7⟨rfl,aE,-⟩;have bL:=Aa aE;have a7:=aE.c;have r7:=aE.ex.cell bG;have hl7:=aE.le;clear aE)
  all_goals
   go_ret;refine⟨⟨0,0,aM.o,fun _=>aF,?_⟩,bK.o.trans bL.o.ex⟩;rw[HE.o,bM.o];unfold ckE
   simp_all
structure Vh(w1 wr:World)(E:Nat)(n:Int)(M:List (List Int))(rv:Value)(vals:List Value):Prop where
 c0:wr.cell? (E,0)=some (.int .i64 n)
 c1:wr.cell? (E,1)=some rv
 f1:wr.frozen? (E,1)=false
 rows:BD wr (E+1) rv M vals
 lb:w1.heap.size<=E
 ex:Ex w1 wr
section
variable {w1 wr w':World} {E:Nat} {n:Int} {M:List (List Int)} {rv v' l:Value} {vals:List Value} {L:List Int}
theorem Vh.later(h:Vh w1 wr E n M rv vals)(hx:Ex wr w'):Vh w1 w' E n M rv vals:=
 ⟨hx.cell h.c0,hx.cell h.c1,hx.frz h.c1 h.f1,h.rows.ex hx,h.lb,h.ex.trans hx⟩
theorem Vh.at1(h:Vh w1 wr E n M rv vals)(ha:Bv wr w' (E+1) 22 1 rv v' M.length vals [l]):w'.cell? (E,1)=some rv/\w'.frozen? (E,1)=false:=
 ⟨ha.cell h.c1 (fun e=>EG h.rows.cvo e.symm),ha.frz h.c1 h.f1 (fun e=>EG h.rows.cvo e.symm)⟩
theorem Vh.app1(h:Vh w1 wr E n M rv vals)(hl:wr.ownsRow (E+1) 3 1 l L.length (Ao L))(h1:AR l rv)(ha:Bv wr w' (E+1) 22 1 rv v' M.length vals [l]):
  Vh w1 (w'.setCell (E,1) v') E n (M ++ [L]) v' (vals ++ [l]):=by
 have aA:some E≠rv.ownBlock:=fun e=>EG h.rows.cvo e.symm;have hm:=h.rows.app hl h1 ha;refine⟨?_,World.cell?_setCell_same _ _ _ (ha.cell h.c1 aA),?_,hm.setNe (a:=⟨E,1,none⟩) (by show E<E+1;omega) v',h.lb,(ha.ex h.ex (by have:=h.lb;omega)).setCell (p:=⟨E,1,none⟩) h.lb _⟩
 .exact za4
 .rw[Ax];exact ha.frz h.c1 h.f1 aA
end
theorem Vh.new(w1:World)(n:Int):Vh w1 (w1.alloc (.cells #[n,.slice none 0 0] 137)) w1.heap.size n [] (.slice none 0 0) [] where
 c0:=ag
 c1:=ag
 f1:=ag
 rows:=BD.nil _ _
 lb:=Nat.le_refl _
 ex:=(Ex.refl _).alloc _
def E6(p m:Nat)(ml pl sl:List Int)(fr N:Nat)(rows:List (List Int))(k:Nat):List (List Int):=(rows.take k).map fun x=>il N (Ln p m ml pl sl fr x N)
theorem IC{p m:Nat}{ml pl sl:List Int}{fr N:Nat}{rows:List (List Int)}{k:Nat}(h:k<=rows.length):(E6 p m ml pl sl fr N rows k).length=k:=by
 unfold E6;simp;omega
theorem WR{p m:Nat}{ml pl sl:List Int}{fr N:Nat}{rows:List (List Int)}{k:Nat}(h:k<rows.length):E6 p m ml pl sl fr N rows (k+1)=E6 p m ml pl sl fr N rows k ++ [il N (Ln p m ml pl sl fr (rows[k]'h) N)]:=by
 unfold E6;rw[List.take_add_one,List.getElem?_eq_getElem h,List.map_append];rfl
def imA(p m:Int)(ml pl sl:List Int)(fr n:Int)(rows:List (List Int)):List (List Int):=E6 p.toNat m.toNat ml pl sl fr.toNat n.toNat rows rows.length
def AppR(p m:Int)(ml:List Int)(n:Int)(rows:List (List Int))(pl sl:List Int)(fr:Int)(b0:Nat)(r:Ending)(w':World):Prop:=
 ∃e1:Int,BI p m ml n rows e1/\
  ((e1≠0/\r= .returned (.tuple #[.agg #[(0:Int),(0:Int),.slice none 0 0,(0:Int),.slice none 0 0],e1]))∨
  (e1=0/\CI p m ml n pl sl fr≠0/\r= .returned (.tuple #[.agg #[(0:Int),(0:Int),.slice none 0 0,(0:Int),.slice none 0 0],.int .i64 (CI p m ml n pl sl fr)]))∨
  (e1=0/\CI p m ml n pl sl fr=0/\CNewR p m ml n (imA p m ml pl sl fr n rows) b0 r w'))
theorem ba{P:Prop}(h:P:=by simp[results,Tryz.results39,go_sem,q0,q1,q2,q3,q4]):P:=h
theorem b9{P:Prop}(h:P:=by show B+1+1<base;omega):P:=h
theorem NE(w:World)(p m:Int)(ml:List Int)(mv:Value)(aX:Al w mv ml)(n:Int)(rows:List (List Int))(v:Value)(hv:BZ w v rows)(pl sl:List Int)(pv sv:Value)(hp:Al w pv pl)(hs:Al w sv sl)(fr:Int):
  Calls Tryz.prog 39 #[.agg #[p,m,mv,n,v],.agg #[pv,sv,fr]] w fun r w'=>AppR p m ml n rows pl sl fr w.heap.size r w'/\Ex w w':=by
 obtain⟨c0,c1,c2,c3,c4,ea⟩:=EN w p m mv n v;obtain⟨b0,b1,b2,eb⟩:=Bd (w.alloc (.cells #[p,m,mv,n,v] 39)) pv sv fr;have bT:(w.alloc (.cells #[p,m,mv,n,v] 39)).heap.size=w.heap.size+1:=ag;have aL:((w.alloc (.cells #[p,m,mv,n,v] 39)).alloc (.cells #[pv,sv,fr] 26)).heap.size=w.heap.size+1+1:=ag;rw[bT]at b0 b1 b2;replace c0:=eb.cell c0;replace c1:=eb.cell c1;replace c2:=eb.cell c2;replace c3:=eb.cell c3;replace c4:=eb.cell c4;obtain⟨HX,HM,HV,HP,HS⟩:=Of (ea.trans eb) aX hv hp hs;obtain⟨va,vc,rfl,-,q1,v3⟩:=hv.open;obtain⟨ma,mc,rfl,-,q2,-⟩:=aX.open;obtain⟨pa,pc,rfl,-,q3,-⟩:=hp.open;obtain⟨sa,sc,rfl,-,q4,-⟩:=hs.open;unfold maxLen at q1 q2 q3 q4;have V3:=Aa v3;obtain⟨B,hB⟩:=nA w.heap.size;rw[hB]at c0 c1 c2 c3 c4 b0 b1 b2 aL;clear aX hv hp hs ea eb bT v3;go_enter Tryz.func39,Tryz.ntmps39
 go_upto_region 1 with fail
 try simp only[hB]
 have HB:=Aa hB;clear hB;generalize (w.alloc (.cells #[p,m,.slice ma ml.length mc,n,.slice va rows.length vc] 39)).alloc (.cells #[.slice pa pl.length pc,.slice sa sl.length sc,fr] 26)=wB at *;have bq:=BxC.new wB;rw[aL]at bq;have ec:Ex wB _:=AI wB (.cells #[(0:Int),(0:Int),.slice none 0 0,(0:Int),.slice none 0 0] 39);have bS:(wB.alloc (.cells #[(0:Int),(0:Int),.slice none 0 0,(0:Int),.slice none 0 0] 39)).heap.size=B+1+1+1:=by simp[aL]
 try simp only[aL]
 generalize wB.alloc (.cells #[(0:Int),(0:Int),.slice none 0 0,(0:Int),.slice none 0 0] 39)=wC at *;obtain⟨aA,BQ,aB,CSZ⟩:=Eq (fun w' (h:Ex wC w')=>(⟨h.cell (ec.cell c0),h.cell (ec.cell c1),h.cell (ec.cell c2),h.cell (ec.cell c3),h.cell (ec.cell c4),h.cell (ec.cell b0),h.cell (ec.cell b1),h.cell (ec.cell b2)⟩:_/\_/\_/\_/\_/\_/\_/\_)) bq (HX.o.trans ec) bS;have cC:=Aa (D7 wC p m ml _ (HM.o.ex aB.o) n rows _ (HV.o.ex aB.o));clear c0 c1 c2 c3 c4 b0 b1 b2 bq ec bS aL HX;obtain⟨c0,c1,c2,c3,c4,b0,b1,b2⟩:=aA.o wC (Ex.refl _);go_wp2_with fail
 refine cC.o.mono ?_;rintro e w2⟨⟨e1,rfl,bN⟩,aU⟩;clear c0 c1 c2 c3 c4 b0 b1 b2 cC;obtain⟨c0,c1,c2,c3,c4,b0,b1,b2⟩:=aA.o w2 aU;have aE:=Aa aU;have aJ:=Aa bN;clear aU bN;by_cases h1:e1=0
 .subst h1;have HF:=Aa (EI aJ.o);have HR:=Aa (Ds aJ.o);have bA:=Aa (Nl w2 p m ml _ (HM.o.ex (aB.o.trans aE.o)) n pl sl _ _ (HP.o.ex (aB.o.trans aE.o)) (HS.o.ex (aB.o.trans aE.o)) fr);obtain⟨E,hE⟩:=nA (CI p m ml n pl sl fr);rw[hE]at bA;have HE:=Aa hE;clear hE;go_wp2_with fail
  refine bA.o.mono ?_;rintro e w3⟨ho,aT⟩;clear c0 c1 c2 c3 c4 b0 b1 b2 bA;obtain⟨c0,c1,c2,c3,c4,b0,b1,b2⟩:=aA.o w3 (aE.o.trans aT);have aD:=Aa (aE.o.trans aT);clear aT aE;rcases ho with⟨rfl,b,pn,mn,x0,rfl,rfl,rfl,hg,x1,x2'⟩|⟨h0,ptr,rfl⟩
  .obtain⟨_,n1,n2,n3,n4,n5,n6,n7,_,_⟩:=Ji HE.o;obtain⟨fn,rfl⟩:∃fn:Nat,fr=fn:=⟨fr.toNat,ac⟩;obtain⟨N,rfl⟩:∃N:Nat,n=N:=⟨n.toNat,ac⟩;have HR2:=HR.o.1;have bL:∀r∈rows,r.length=N:=fun r hr=>by have:=HR.o.2 r hr;omega
   obtain⟨cO,bZ,cT,aR⟩:=Eq bL (show 1<=N/\N<=64/\ml.length<=1000 from⟨ac,ac,by have h:=hg.sh.len;have h8:=hg.sh.m8;rw[h];split <;> omega⟩) (fun (w1:World) (h1:Ex w3 w1) (x:List Int) (xv:Value) (hx:Al w1 xv x) (cF:x.length=N)=>UQ w1 (hg.ex h1) N ac pl sl x _ _ xv (HP.o.ex ((aB.o.trans aD.o).trans h1)) (HS.o.ex ((aB.o.trans aD.o).trans h1)) hx fn ac ac ac cF n5) (show imA pn mn ml pl sl fn N rows=E6 pn mn ml pl sl fn N rows rows.length from by unfold imA;simp only[Int.toNat_natCast]);clear n1 n2 n3 n4 n5 n6 n7 bL x1 x2' hg HR;go_upto_region 8 with fail
   obtain⟨F,hF⟩:=nA w3.heap.size;have aV:=Vh.new w3 (N:Int)
   try simp only[hF]
   rw[hF]at aV;have bY:=Aa aV;have HFW:=Aa hF;have ec:=AI w3 (.cells #[N,.slice none 0 0] 137);generalize w3.alloc (.cells #[N,.slice none 0 0] 137)=w4 at *;clear c0 c1 c2 c3 c4 b0 b1 b2 hF aV;obtain⟨c0,c1,c2,c3,c4,b0,b1,b2⟩:=aA.o w4 (aD.o.trans ec);have EC:=Aa ec;clear ec;go_wp2_with fail
   go_loopw [37] (fun i' wr=>∃(k:Nat) (rv:Value) (vals:List Value),k<=rows.length/\i'= .int .i64 k/\Hia (Vh w3 wr F N (E6 pn mn ml pl sl fn N rows k) rv vals)) (fun i' _=>rows.length-(intOf i').toNat)
   case atStart=>exact⟨0,_,_,ac,rfl,bY⟩
   case round=>
    clear bY c0 c1 c2 c3 c4 b0 b1 b2;obtain⟨k,rv,vals,hk,rfl,BC⟩:=hrel;by_cases hkR:k<rows.length
    .obtain⟨rb,ro,rfl,bM⟩:=V3.o ac;obtain⟨uv,bK,aN⟩:=bM k _ (List.getElem?_eq_getElem hkR);have aP:=Aa BC.o.ex;have cu:=((aB.o.trans aD.o).trans aP.o).cell bK;have i1:(0:Int)<=(k:Int):=by omega
     have i2:(k:Int)<(rows.length:Int):=ac;obtain⟨x,hx⟩:=nA (rows[k]);have bU:=Aa (WR (p:=pn) (m:=mn) (ml:=ml) (pl:=pl) (sl:=sl) (fr:=fn) (N:=N) hkR);have cJ:=Aa (show x.length=N from hx ▸ cO.o _ (List.getElem_mem hkR));rw[hx]at bU aN;have cL:=Aa (aN.ex ((aB.o.trans aD.o).trans aP.o));have aH:=Aa (IC (p:=pn) (m:=mn) (ml:=ml) (pl:=pl) (sl:=sl) (fr:=fn) (N:=N) hk);have aG:=Aa BC.o;obtain⟨b0,b1,b2⟩:=(aA.o wr (aD.o.trans aP.o)).2.2.2.2.2;have t1:=BC.o.c1;have T1F:=Aa BC.o.f1;obtain⟨qa,qc,aW⟩:=Ae BC.o.rows.cvo;subst aW;rw[IC ac]at t1;have bW:=Aa t1;obtain⟨ua,uc,rfl,-,u2,-⟩:=aN.open;unfold maxLen at u2;have bX:=Aa (fun (w1:World) (h1:Ex wr w1)=>cT.o w1 (aP.o.trans h1) x _ (cL.o.ex h1) cJ.o);clear bM bK aN hx BC;go_upto_region 11 with fail
     have aF:=Aa (show Ex wr wr.drew from(Ex.refl wr).drew)
     go_region_law
      ((first
              | (refine Co bp _ _ _ bp (F+1) 22 (.slice none 0 0) 1 24 Tryz.underlying37 BU rfl ae (.slice qa k qc) k vals bp (by have h:=Aj aG.o.rows.cvo ((aF.o.trans aI).trans (AI w5 (.cells #[.slice (some ⟨g5,0,none⟩) N N] 22)));rw[aH.o]at h;exact h) _ 1 [.slice (some ⟨g5,0,none⟩) N N] bp (Sl.own (Ft w5 (.slice (some ⟨g5,0,none⟩) N N) 22)) aj ai ac (by have:=cN.o;simp;omega) ?_;intro v8 w8 aC bP bQ;have bC:=Aa (Xq (by have h:=Aj aG.o.rows.cvo (aF.o.trans aI);rw[aH.o]at h;exact h) aC bP bQ);obtain⟨bE,cD⟩:=(aG.o.later (aF.o.trans aI)).at1 (by rw[aH.o];exact bC.o);rw[aH.o]at bE;obtain⟨va8,vc8,cI⟩:=Ae aC;subst cI)
              | (go_simp;refine(bX.o _ aF.o).mono ?_;rintro e w5⟨g5,rfl,aO,aI⟩;have t1:=aI.cell (show wr.drew.cell? (F,1)=some (.slice qa k qc) from bW.o);have cE:=(AI w5 (.cells #[.slice (some ⟨g5,0,none⟩) N N] 22)).cell t1;have cN:=Aa (show F+1<=w5.heap.size from by have h1:=aO.lt;have h2:=World.block_lt_of_cell? _ _ t1;exact h2);go_simp)))
     all_goals
      have aK:=aF.o.trans aI;have aM:=aG.o.later aK;have bO:w5.ownsRow (F+1) 3 1 (.slice (some ⟨g5,0,none⟩) N N) (il N (Ln pn mn ml pl sl fn x N)).length (Ao (il N (Ln pn mn ml pl sl fn x N))):=by
       rw[AL,Cu];exact Bj aO (World.block_lt_of_cell? _ _ (aF.o.cell bW.o))
      have bR:∀v2 (e2:TypeId) (n2:Nat) bD,wr.ownsRow (F+1) e2 1 v2 n2 bD->AR (.slice (some ⟨g5,0,none⟩) N N) v2:=fun v2 e2 n2 bD h=>by
       right;show some g5≠_
       intro e;have h1:=(h.lt g5 e.symm).2;have h2:=aO.lt.1;have h3:=aF.o.size;omega
      have aZ:=Aa (aM.app1 bO (bR _ _ _ _ aG.o.rows.cvo) (by rw[aH.o];exact bC.o));rw[<-bU.o]at aZ;clear aM bO bR aK bE cD t1 cE bC aC bP bQ aO aI bX;go_wp2_with fail
      go_roundw
      case rel=>first|exact⟨k+1,_,_,ac,by go_num,aZ⟩|((repeat apply Exists.intro);exact⟨⟨k+1,_,_,ac,by go_num,aZ⟩,rfl⟩)
      case measure=>simp[intOf];omega
    .obtain rfl:k=rows.length:=by omega
     have aG:=Aa BC.o;obtain⟨c0,c1,c2,c3,c4,-,-,-⟩:=aA.o wr (aD.o.trans BC.o.ex);have t0:=BC.o.c0;have t1:=BC.o.c1;have aY:=Aa ((aB.o.trans aD.o).trans BC.o.ex);have bV:=Aa (aD.o.trans BC.o.ex);obtain⟨qa,qc,aW⟩:=Ae BC.o.rows.cvo;subst aW;have aH:=Aa (IC (p:=pn) (m:=mn) (ml:=ml) (pl:=pl) (sl:=sl) (fr:=fn) (N:=N) (Nat.le_refl rows.length));have bB:=Aa (QG wr pn mn ml _ (HM.o.ex aY.o) bZ.o.2.2 N _ _ aG.o.rows.msl (fun _=>by have:=bZ.o.1;omega));rw[aH.o]at t1 bB;clear BC;go_wp2_with fail
     refine bB.o.mono ?_;rintro e w7⟨hc,aS⟩;obtain⟨q0,q1,q2,q3,q4,bJ,bI,bH,bG,bF⟩:=BQ.o.ex (bV.o.trans aS);have X7:=Aa (aY.o.trans aS);have hw:=HB.o;have cM:=Aa (show B+1+1<wr.heap.size from World.block_lt_of_cell? _ _ (BQ.o.ex bV.o).c0);clear aS bB;rcases hc with⟨hne,rfl⟩|⟨hne,pn',mn',N',piv,a',rv,v',e1,e2,e3,hfb,hmk,rfl,hel,hv',hrv,hb',g,blk,cap,base,hbase,rfl,hem,hp2,hr2⟩
     .have cA:=Aa hne;have HFE:=Aa aR.o;obtain⟨Z,hZ⟩:=nA (K8 pn mn ml N (E6 pn mn ml pl sl fn N rows rows.length));rw[hZ]at cA
      try rw[hZ]
      have HZ:=Aa hZ;clear hne hZ;go_wp2_with fail
      exact bodyPost_ret (v:= .tuple #[.agg #[(0:Int),(0:Int),.slice none 0 0,(0:Int),.slice none 0 0],Z]) ba rfl ⟨⟨0,aJ.o,.inr (.inr ⟨rfl,HE.o,.inl ⟨by rw[aR.o,HZ.o];exact cA.o,by rw[aR.o,HZ.o]⟩⟩)⟩,DY X7.o ac _ _ _ _ _⟩
     .have cH:=cM.o;have cG:=aY.o.size;obtain⟨cB,cV,cU,cS⟩:=Eq (((((hem.low (A:=⟨B+1+1,0,none⟩) b9 (.int .i64 pn)).low (A:=⟨B+1+1,1,none⟩) b9 (.int .i64 mn)).low (A:=⟨B+1+1,2,none⟩) b9 v').low (A:=⟨B+1+1,3,none⟩) b9 (.int .i64 N)).low (A:=⟨B+1+1,4,none⟩) b9 (.slice (some ⟨g,0,none⟩) piv.length piv.length)) (show ∀B',v'.ownBlock=some B'->B'≠B+1+1 from fun B' h=>by have:=hb' B' h;omega) (show ∀B',v'.ownBlock=some B'->w.heap.size<=B' from fun B' h=>by have:=hb' B' h;omega) (show w.heap.size<=base from ac);have aQ:=Aa (show K8 pn mn ml N (E6 pn mn ml pl sl fn N rows rows.length)=0/\Ga pn mn ml/\B6 (pn^mn) N (E6 pn mn ml pl sl fn N rows rows.length)=0/\H7 pn mn ml N (E6 pn mn ml pl sl fn N rows rows.length).length (Ak (E6 pn mn ml pl sl fn N rows rows.length)) a' piv from by
       obtain rfl:pn=pn':=ac;obtain rfl:mn=mn':=ac;obtain rfl:N=N':=ac;exact⟨hne,hfb,hmk,hel⟩)
      obtain rfl:N=N':=ac;obtain⟨cP,cQ,cR,cK,HEQ⟩:=Of hp2 hr2 (cB.o.msl hp2 hr2) hv' (show pn=pn'/\mn=mn' from⟨ac,ac⟩);obtain⟨xa,xc,rfl,-,-,-⟩:=hv'.open;clear hne hfb hmk hel hv' hrv hb' hbase hem hp2 hr2 cH cG e1 e2 e3;go_wp2_with fail
      exact bodyPost_ret (v:= .tuple #[.agg #[pn,mn,.slice xa ml.length xc,N,.slice (some ⟨g,0,none⟩) piv.length piv.length],(0:Int)]) ba rfl ⟨⟨0,aJ.o,.inr (.inr ⟨rfl,HE.o,by rw[aR.o];exact .inr ⟨aQ.o.1,pn,mn,N,piv,a',_,_,rfl,rfl,rfl,aQ.o.2.1,aQ.o.2.2.1,rfl,aQ.o.2.2.2,KH cK.o cV.o _ _ _ _ _,cR.o,cU.o,g,blk,cap,base,cS.o,rfl,cB.o,cP.o,cQ.o⟩⟩)⟩,DY X7.o ac _ _ _ _ _⟩
  .have k1:(E==0)=false:=by simpa using h0
   obtain⟨q0,q1,q2,q3,q4,bJ,bI,bH,bG,bF⟩:=BQ.o.ex aD.o;have H0:=Aa h0;have hw:=HB.o;clear h0;go_wp2_with fail
   exact bodyPost_ret (v:= .tuple #[.agg #[(0:Int),(0:Int),.slice none 0 0,(0:Int),.slice none 0 0],E]) ba rfl ⟨⟨0,aJ.o,.inr (.inl ⟨rfl,by rw[HE.o];exact H0.o,by rw[HE.o]⟩)⟩,DY (aB.o.trans aD.o) ac _ _ _ _ _⟩
 .have k1:(e1==0)=false:=by simpa using h1
  obtain⟨q0,q1,q2,q3,q4,bJ,bI,bH,bG,bF⟩:=BQ.o.ex aE.o;have H1:=Aa h1;have hw:=HB.o;clear h1;go_wp2_with fail
  exact bodyPost_ret (v:= .tuple #[.agg #[(0:Int),(0:Int),.slice none 0 0,(0:Int),.slice none 0 0],e1]) ba rfl ⟨⟨e1,aJ.o,.inl ⟨H1.o,rfl⟩⟩,DY (aB.o.trans aE.o) ac _ _ _ _ _⟩
end Go.Proofs.YtehieobniamagaaGreat
