/- Walks of perm.Check, perm.generators, and of the reference's Check, all, group. -/
import Derived.Lib.SmallJoins
import Derived.Deep.Matrix
import Derived.Deep.Slices
import Derived.OpenShut
import Derived.ProofKit
import Derived.ChangeOld
import Derived.Test.YtehieobniamagaaGreatZi24
namespace Go.Proofs.YtehieobniamagaaGreat
open List renaming getElem?_eq_some_iff→θ,getElem?_eq_getElem→γ,find?_eq_none→δa,getElem_of_mem→χ,getD_eq_getElem?_getD→δ,getElem_mem→Ϙ,ext_getElem?→γs,getElem?_eq_none→ϛ,mem_map→ψ,mem_of_getElem?→ι,getElem?_map→ϖ,range→ξ,any_eq_true→ϗ,mem_range→κ,nodup_append→ιi,mem_singleton→ϙ,take_length→γf,all_eq_true→υ,length_append→ν
open Classical renaming byContradiction→Γ
open Nat renaming lt_or_gt_of_ne→ζm,le_refl→ζ,le_trans→μ,add_mul→ηb,one_mul→ζs,mul_le_mul→γo
open Option renaming map_eq_some_iff→ζh
open Go.Value renaming bool→ηt,okWide→ιx
open Int renaming toNat_natCast→ώ
open Go.IntWalk renaming i64_in→ρ
open Go.RowKit
set_option linter.all false
set_option maxRecDepth 100000
set_option maxHeartbeats 4000000
def Mt(n:Int):Int:=if n<1∨64<n then 4 else 0
def Ch(l:List Int):Int:=if (l.length:Int)<1∨64<(l.length:Int) then 4 else if (∃x∈l,x<0∨(l.length:Int)<=x) then 6 else if l.Nodup then 0 else 18
def SE(n:Int)(rows:List (List Int)):Int:=match rows.find? (fun r=>Ch r !=0) with
 | some r=>Ch r
 | none=>if (∃r∈rows,(r.length:Int)≠n) then 10 else 0
def Es(n:Int)(rows:List (List Int)):Int:=if n<1∨64<n then 4 else SE n rows
theorem Yo{n:Int}{rows:List (List Int)}{i:Nat}{r:List Int}(hr:rows[i]?=some r)(h:Ch r≠0)(ha:∀(j:Nat) (s:List Int),j<i->rows[j]?=some s->Ch s=0):SE n rows=Ch r:=by
 have:rows.find? (fun r=>Ch r !=0)=some r:=by
  rw[List.find?_eq_some_iff_getElem];obtain⟨hi,e⟩:=θ.1 hr;refine⟨by simpa using h,i,hi,e,fun j hj=>?_⟩;have:=ha j _ hj (γ ac);simp[this]
 unfold SE;rw[this]
theorem Nx{n:Int}{rows:List (List Int)}(ha:∀(j:Nat) (s:List Int),rows[j]?=some s->Ch s=0):SE n rows=if (∃r∈rows,(r.length:Int)≠n) then 10 else 0:=by
 have:rows.find? (fun r=>Ch r !=0)=none:=by
  rw[δa];intro r hr;obtain⟨j,hj,e⟩:=χ hr;have:=ha j r ar;simp[this]
 unfold SE;rw[this]
theorem E9{l:List Int}:l.Nodup↔∀i j,j<i->i<l.length->l[i]?≠l[j]?:=by
 rw[List.nodup_iff_pairwise_ne,List.pairwise_iff_getElem];constructor
 .intro h i j hj hi e;rw[γ hi,γ ac]at e;injection e with e;exact h j i ac hi hj e.symm
 .intro h i j hi hj aA e;exact h j i aA hj (by rw[γ hi,γ hj,e])
theorem ey{P:Prop}(h:P:=by rw[List.getElem?_eq_getElem hi,List.getElem?_eq_getElem hj,e2]):P:=h
theorem N9{l:List Int}(h:Ch l=0):∃n f,1<=n/\n<=64/\l.length=n/\Bo n f/\l=li n f:=by
 unfold Ch at h;split at h
 .cases h
 .split at h
  .cases h
  .split at h
   .rename_i h1 h2 h3;have hr:∀i,i<l.length->0<=l.getD i 0/\l.getD i 0<l.length:=fun i hi=>by
     rw[δ,γ hi];show 0<=l[i]/\l[i]<(l.length:Int)
     have hm:=Ϙ hi;apply Γ;intro hn;exact h2 ⟨_,hm,ac⟩
    refine⟨l.length,fun i=>if i<l.length then(l.getD i 0).toNat else i,ac,ac,rfl,?_,?_⟩
    .refine Bo.of_inj (fun i hi=>?_) (fun i hi=>if_neg ac) (fun i j hi hj e=>?_)
     .rw[if_pos hi];have:=hr i hi;omega
     .rw[if_pos hi,if_pos hj]at e;have h4:=hr i hi;have h5:=hr j hj;have e2:l.getD i 0=l.getD j 0:=by omega
      rw[δ,δ,γ hi,γ hj]at e2;have e2:l[i]=l[j]:=e2;apply Γ;intro aA;rcases ζm aA with hij|hij
      .exact E9.1 h3 j i hij hj ey
      .exact E9.1 h3 i j hij hi ey
    .apply γs;intro i;by_cases hi:i<l.length
     .rw[DU hi,if_pos hi];have:=hr i hi;rw[δ,γ hi]at *;have this:0<=l[i]/\l[i]<(l.length:Int):=this;show some l[i]=some ((l[i].toNat:Nat):Int)
      congr 1;omega
     .rw[ϛ ac,ϛ (by rw[Fb];omega)]
   .cases h
theorem ZB{n:Nat}{f:Nat->Nat}(h1:1<=n)(h2:n<=64)(hf:Bo n f):Ch (li n f)=0:=by
 unfold Ch;rw[Fb,if_neg ac,if_neg,if_pos]
 .rw[E9];intro i j hj hi e;rw[Fb]at hi;rw[DU hi,DU ac]at e;injection e with e;have:=hf.inj i j ac;omega
 .rintro⟨x,hx,h⟩;unfold li at hx;obtain⟨j,hj,rfl⟩:=WE hx;have:=hf.lt j hj;omega
theorem Kh{n:Int}{rows:List (List Int)}(h:Es n rows=0):∃N:Nat,n=N/\1<=N/\N<=64/\∃S:List (Nat->Nat),rows=S.map (li N)/\∀s∈S,Bo N s:=by
 unfold Es at h;split at h
 .cases h
 .rename_i hn;obtain⟨N,rfl⟩:∃N:Nat,n=N:=⟨n.toNat,ac⟩;refine⟨N,rfl,ac,ac,?_⟩;unfold SE at h;split at h
  .rename_i r hr;have:=List.find?_some hr;simp[h]at this
  .rename_i hr;split at h
   .cases h
   .rename_i hl;have aA:∀r∈rows,∃f,Bo N f/\r=li N f:=fun r hm=>by
     have h1:=δa.1 hr r hm;obtain⟨m,f,_,_,h3,h4,h5⟩:=N9 dd;have hm:m=N:=by
      have:¬(r.length:Int)≠N:=fun h6=>hl ⟨r,hm,h6⟩;omega
     subst hm;exact⟨f,h4,h5⟩
    clear hr hl h hn
    induction rows with
    | nil=>exact⟨[],rfl,fun s hs=>by cases hs⟩
    | cons r rs ih=>
     obtain⟨f,hf,rfl⟩:=aA r (List.mem_cons_self ..);obtain⟨S,e,hS⟩:=ih fun r hr=>aA r (List.mem_cons_of_mem _ hr);exact⟨f :: S,by rw[e];rfl,fun s hs=>by
      rcases List.mem_cons.1 hs with h|h
      .rw[h];exact hf
      .exact hS s h⟩
theorem TL{N:Nat}{S:List (Nat->Nat)}(h1:1<=N)(h2:N<=64)(hS:∀s∈S,Bo N s):Es N (S.map (li N))=0:=by
 unfold Es;rw[if_neg ac,Nx,if_neg]
 .rintro⟨r,hr,h⟩;obtain⟨s,hs,rfl⟩:=ψ.1 hr;rw[Fb]at h;exact h rfl
 .intro j s hs;obtain⟨s',h3,rfl⟩:=ψ.1 (ι hs);exact ZB h1 h2 (hS s' h3)
theorem zcH{P:Prop}(h:P:=by
 go_enter Tryz.func115,Tryz.ntmps115
 exact zdj):P:=h
theorem H4(w:World)(n:Int):
  Calls Tryz.prog 115 #[n] w fun r w'=>r= .returned (.int .i64 (Mt n))/\w=w':=by
 unfold Mt;by_cases h1:n<1
 .rw[if_pos (.inl h1)];exact zcH
 .by_cases h2:64<n
  .rw[if_pos (.inr h2)];exact zcH
  .rw[if_neg ac];exact zcH
theorem zcy{P:Prop}(h:P:=by
 go_enter Tryz.func117,Tryz.ntmps117
 go_wp2_with fail
 go_ret;exact⟨rfl,0,rfl⟩):P:=h
theorem SZ(w:World)(B:Nat)(x:Int)(a:Option Addr)(n cap:Nat)(c0:w.cell? (B,0)=some (.slice a n cap)):
  Calls Tryz.prog 117 #[x,(B,0)] w fun r w'=>r= .returned (.bool (decide (x<0∨(n:Int)<=x)))/\∃q,w'=w.drewN q:=by
 by_cases h1:x<0
 .rw[decide_eq_true (.inl h1)];exact zcy
 .by_cases h2:(n:Int)<=x
  .rw[decide_eq_true (.inr h2)];exact zcy
  .rw[decide_eq_false ac];exact zcy
theorem zaI{P:Prop}(h:P:=by
 rintro⟨i,hi,h⟩;rw[List.getD_eq_getElem?_getD,List.getElem?_eq_getElem hi]at h;exact⟨_,List.getElem_mem hi,h⟩):P:=h
theorem zcl{P:Prop}(h:P:=by
 obtain⟨a',cap',e,_,_,h⟩:=S3.o;injection e with e1 e2 e3;subst e1;exact h (by omega)):P:=h
theorem zcY{P:Prop}(h:P:=by
 rw[hz];clear hd hz;go_wp2_with fail
 go_ret;exact⟨Ai HP.o.symm,e0⟩):P:=h
theorem NG(w:World)(l:List Int)(v:Value)(hl:Ak w v l):
  Calls Tryz.prog 57 #[v] w fun r w'=>r= .returned (.int .i64 (Ch l))/\Ex w w':=by
 have HL:=Aa hl;obtain⟨a,cap,rfl,s1,s2,s3⟩:=hl.open;unfold maxLen at s2;have e0:Ex w (w.alloc (.cells #[.slice a l.length cap] 22)):=(Ex.refl _).alloc _;have c0:(w.alloc (.cells #[.slice a l.length cap] 22)).cell? (w.heap.size,0)=some (.slice a l.length cap):=ag;have S3:=Aa (hl.ex e0).open;clear s3 hl;go_enter Tryz.func57,Tryz.ntmps57
 go_wp2_with fail
 generalize w.alloc (.cells #[.slice a l.length cap] 22)=w1 at *;refine(H4 w1 l.length).mono ?_;rintro e w2⟨rfl,rfl⟩;by_cases hd:(l.length:Int)<1∨64<(l.length:Int)
 .have hz:Mt l.length=4:=if_pos hd;have HP:Hia (Ch l=4):=Aa (if_pos hd);exact zcY
 .have hz:Mt l.length=0:=if_neg hd;rw[hz];have aH:Hia (1<=l.length/\l.length<=64):=Aa (ac);have aC:=Aa (Jv w1 (.pointer (some (w.heap.size,0))) (.slice a l.length cap) l.length (Aj l) (HL.o.ex e0) (fun i=>decide (l.getD i 0<0∨(l.length:Int)<=l.getD i 0)) fun q i u hu=>by
   obtain⟨x,hx,rfl⟩:∃x,l[i]?=some x/\u= .int .i64 x:=by
    simp only[Aj,ϖ]at hu;obtain⟨x,h1,h2⟩:=ζh.1 hu;exact⟨x,h1,h2.symm⟩
   have hd:l.getD i 0=x:=by rw[δ,hx];rfl
   rw[hd];exact SZ _ w.heap.size x a l.length cap (((Ex.refl w1).drewN q).cell c0))
  have aN:=Aa (show((ξ l.length).any fun i=>decide (l.getD i 0<0∨(l.length:Int)<=l.getD i 0))=decide (∃x∈l,x<0∨(l.length:Int)<=x) from by
   rw[Bool.eq_iff_iff];simp only[ϗ,κ,decide_eq_true_eq];constructor
   .exact zaI
   .rintro⟨x,hx,h⟩;obtain⟨i,hi,rfl⟩:=χ hx;exact⟨i,hi,by rw[δ,γ hi];exact h⟩)
  rw[aN.o]at aC;clear aN hd hz;by_cases ho:∃x∈l,x<0∨(l.length:Int)<=x
  .have HP:Hia (Ch l=6):=Aa (by unfold Ch;rw[if_neg (by have:=aH.o;omega),if_pos ho]);rw[decide_eq_true ho]at aC;clear ho;go_wp2_with (go_at_call 116;refine aC.o.mono ?_;rintro e w'⟨rfl,q,rfl⟩)
   go_ret;exact⟨Ai HP.o.symm,e0.drewN _⟩
  .rw[decide_eq_false ho]at aC;have aQ:Hia (∀(i:Nat) (x:Int),l[i]?=some x->0<=x/\x<l.length):=Aa (fun i x h=>by
    apply Γ;intro hn;exact ho ⟨x,ι h,ac⟩)
   have aK:Hia (Ch l=if l.Nodup then 0 else 18):=Aa (by unfold Ch;rw[if_neg (by have:=aH.o;omega),if_neg ho]);have HE:=Aa e0;have hl64:=aH.o.2;clear ho e0;go_wp2_with (first|(go_at_call 116;refine aC.o.mono ?_;rintro e w'⟨rfl,q,rfl⟩;have c0:=((Ex.refl w1).drewN q).cell c0)|(at_make;refine Ar _ rfl _ _ 168 rfl 4 (.bool false) 1 Tryz.underlying168 Lj rfl _ l.length rfl rfl rfl ac ai ?_))
   intro w3 aA aF;have aJ:=Aa (((Ex.refl w1).drewN q).trans aF);have c0:=aF.cell c0;obtain⟨g,aG⟩:=nA w1.heap.size;rw[aG]at aA ⊢;have aP:Hia (w1.heap.size<=g):=Aa (by rw[<-aG];exact ζ _);have aL:Hia (AJ w3 g 4 g l.length (bv fun x=>decide ((x:Int)∈l.take 0))):=Aa (aA.bcongr fun j _=>ag);have aM:=Aa (show(l.take 0).Nodup from ag);clear aA aF aG aC;go_wp2_with fail
   go_loopw [21] (fun k' wr=>∃(k:Nat),k<=l.length/\k'= .int .i64 k/\Hia (AJ wr g 4 g l.length (bv fun x=>decide ((x:Int)∈l.take k)))/\Hia ((l.take k).Nodup)/\Hia (Ex w1 wr)) (fun k' _=>l.length-(intOf k').toNat)
   case atStart=>exact⟨0,ac,rfl,aL,aM,aJ⟩
   case round=>
    clear aL aM aJ c0;obtain⟨k,hk,rfl,aA,aD,hx⟩:=hrel;by_cases hkn:k<l.length
    .obtain⟨b,o,rfl,hc⟩:∃b o,a=some ⟨b,o,none⟩/\∀(j:Nat) (x:Int),l[j]?=some x->w1.cell? ⟨b,o+j,none⟩=some (.int .i64 x):=by
      exact zcl
     obtain⟨x,aE⟩:∃x,l[k]?=some x:=⟨_,γ hkn⟩;obtain⟨y1,y2⟩:=aQ.o k x aE;obtain⟨X,rfl⟩:∃X:Nat,x=X:=⟨x.toNat,ac⟩;have aO:X<l.length:=bz;have c1:=hx.o.cell (hc k X aE);have c3:=aA.o.cell aO;have c4:=aA.o.frz X;have i1:(0:Int)<=(k:Int):=ac;have i2:(k:Int)<(l.length:Int):=ac;have aB:l.take (k+1)=l.take k ++ [(X:Int)]:=by rw[List.take_add_one,aE];rfl
     by_cases hin:(X:Int)∈l.take k
     .have c5:wr.cell? (g,X)=some (.bool true):=by rw[c3];show some (ηt (decide ((X:Int)∈l.take k)))=_;rw[decide_eq_true hin]
      have aR:Hia (Ch l=18):=Aa (by
       rw[aK.o,if_neg];intro h;have h2:(l.take (k+1)).Nodup:=h.sublist (List.take_sublist _ _);rw[aB,ιi]at h2;exact h2.2.2 _ hin _ (ϙ.2 rfl) rfl)
      have aI:=Aa (HE.o.trans hx.o);clear hc c3 aA aD hx aB hin;go_wp2_with fail
      go_ret;exact⟨Ai aR.o.symm,aI.o⟩
     .have c5:wr.cell? (g,X)=some (.bool false):=by rw[c3];show some (ηt (decide ((X:Int)∈l.take k)))=_;rw[decide_eq_false hin]
      have HO:Hia (AJ (wr.setCell (g,X) (.bool true)) g 4 g l.length (bv fun x=>decide ((x:Int)∈l.take (k+1)))):=Aa (by
       refine(aA.o.set X _).congr fun i hi=>?_;by_cases e:i=X
       .subst e;rw[Ab];show _=ηt (decide ((i:Int)∈l.take (k+1)));rw[aB,decide_eq_true ag]
       .rw[Ac _ _ e];show ηt (decide ((i:Int)∈l.take k))=ηt (decide ((i:Int)∈l.take (k+1)))
        rw[aB]
        congr 1
        have:¬(i:Int)=X:=ac;simp[this])
      have aS:=Aa (show(l.take (k+1)).Nodup from by
       rw[aB,ιi];exact⟨aD.o,ag,fun y hy z hz e=>by rw[ϙ.1 hz]at e;subst e;exact hin hy⟩)
      have HX:=Aa (aA.o.exSet (a:=w1) aP.o hx.o X (.bool true));clear hc c3 aA aD hx aB hin;go_wp2_with fail
      go_roundw
      case rel=>exact⟨k+1,ac,by go_num,HO,aS,HX⟩
      case measure=>exact Ωm
    .obtain rfl:k=l.length:=by omega
     have HP:Hia (Ch l=0):=Aa (by
      rw[aK.o,if_pos];have:=aD.o
      rwa[γf]at this)
     have aI:=Aa (HE.o.trans hx.o);clear aA aD hx;go_wp2_with fail
     go_ret;exact⟨Ai HP.o.symm,aI.o⟩
def Pj(B:Nat):Nat->Nat
 | 0=>1
 | d+1=>1+B*Pj B d
theorem M8(B:Nat):∀d,Pj B d<=Pj B (d+1)
 | 0=>by simp[Pj]
 | d+1=>by
  show 1+B*Pj B d<=1+B*Pj B (d+1)
  have:=Nat.mul_le_mul_left B (M8 B d);omega
theorem WN(B:Nat){d e:Nat}(h:d<=e):Pj B d<=Pj B e:=by
 obtain⟨k,rfl⟩:=Nat.exists_eq_add_of_le h
 induction k with
 | zero=>exact ζ _
 | succ k ih=>exact μ (ih ac) (M8 B _)
theorem TQ{l:List Int}{x:Int}{i:Nat}(h:i<l.length):(l ++ [x]).getD i 0=l.getD i 0:=by
 rw[δ,List.getElem?_append_left h,<-δ]
theorem Ki{l:List Int}{x:Int}:(l ++ [x]).getD l.length 0=x:=by
 exact zcF
structure Q5(q n:Nat)(tl sc:List Int):Prop where
 len:sc.length=tl.length
 rng:∀i,i<tl.length->0<=tl.getD i 0/\tl.getD i 0<n
 inj:∀i j,i<tl.length->j<i->tl.getD j 0≠tl.getD i 0
 sc:∀i,i<tl.length->∃z:Nat,sc.getD i 0=z/\1<=z/\z<q
theorem Q5.snoc{q n:Nat}{tl sc:List Int}(h:Q5 q n tl sc){j a:Nat}(hj:j<n)(hc:tl.contains (j:Int)=false)(h1:1<=a)(h2:a<q):Q5 q n (tl ++ [(j:Int)]) (sc ++ [(a:Int)]):=by
 have hl:(tl ++ [(j:Int)]).length=tl.length+1:=ag;refine⟨by simp[h.len],fun i hi=>?_,fun i k hi hk=>?_,fun i hi=>?_⟩
 .rw[hl]at hi;by_cases e:i=tl.length
  .rw[e,Ki];omega
  .rw[TQ ac];exact h.rng i ac
 .rw[hl]at hi;rw[TQ (l:=tl) (i:=k) ac];by_cases e:i=tl.length
  .rw[e,Ki];intro e2;have:tl.contains (j:Int)=true:=List.contains_iff_mem.2 (by
    rw[<-e2,δ,γ ac];exact Ϙ _)
   rw[hc]at this;cases this
  .rw[TQ ac];exact h.inj i k ac hk
 .rw[hl]at hi;by_cases e:i=tl.length
  .rw[e,<-h.len,Ki];exact⟨a,rfl,h1,h2⟩
  .rw[TQ (by rw[h.len];omega)];exact h.sc i ac
theorem Q5.rngB{q n:Nat}{tl sc:List Int}(h:Q5 q n tl sc):BW tl n=true:=by
 unfold Go.Proofs.YtehieobniamagaaGreat.BW;refine υ.2 fun x hx=>?_;obtain⟨i,hi,rfl⟩:=χ hx;have h1:=h.rng i hi;have e:tl.getD i 0=tl[i]:=aw;rw[e]at h1;simp;omega
theorem Q5.injN{q n:Nat}{tl sc:List Int}(h:Q5 q n tl sc)(hl:tl.length=n):FX n (BJ tl):=by
 refine⟨fun i hi=>?_,fun i j hi hj e=>Γ fun aA=>?_⟩
 .have:=h.rng i ac;unfold BJ;omega
 .have h1:=h.rng i ac;have h2:=h.rng j ac;unfold BJ at e;rcases ζm aA with g|g
  .exact h.inj j i ac g ac
  .exact h.inj i j ac g ac
structure YL(p m:Nat)(ml:List Int)(l1 l2:List (List Int))(n:Nat)(nd:Nd)(tl sc:List Int):Prop where
 v:Q5 (p^m) n nd.tl nd.sc
 len:nd.tl.length=n
 t:nd.tl.take tl.length=tl
 s:nd.sc.take tl.length=sc
 c:Ph p m ml l1 l2 nd.tl nd.sc
def NC(n:Nat)(nd:Nd)(pl sl:List Int):Prop:=
 ∃i,i<=n/\(∀k,k<i->nd.tl.getD k 0=pl.getD k 0/\nd.sc.getD k 0=sl.getD k 0)/\(i=n∨nd.tl.getD i 0<pl.getD i 0∨(nd.tl.getD i 0=pl.getD i 0/\nd.sc.getD i 0<sl.getD i 0))
theorem MQ{l t:List Int}{x:Int}(h:l.take (t.length+1)=t ++ [x]):l.take t.length=t/\l.getD t.length 0=x:=by
 constructor
 .have:(l.take (t.length+1)).take t.length=(t ++ [x]).take t.length:=by rw[h]
  rw[List.take_take,show min t.length (t.length+1)=t.length from ac,List.take_left]at this;exact this
 .have h2:(l.take (t.length+1)).getD t.length 0=l.getD t.length 0:=Cp ac;rw[<-h2,h,Ki]
section
variable {p m:Nat} {ml:List Int} {n:Nat} {l1 l2:List (List Int)} {pl sl tl sc:List Int} {nd:Nd}
theorem YL.back{j a:Int}(h:YL p m ml l1 l2 n nd (tl ++ [j]) (sc ++ [a]))(hl:sc.length=tl.length):YL p m ml l1 l2 n nd tl sc/\nd.tl.getD tl.length 0=j/\nd.sc.getD tl.length 0=a:=by
 have h1:=h.t;have h2:=h.s;rw[ν]at h1 h2;obtain⟨a1,a2⟩:=MQ (t:=tl) h1;obtain⟨b1,b2⟩:=MQ (t:=sc) (by rw[hl];exact h2);rw[hl]at b1 b2;exact⟨⟨h.v,h.len,a1,b1,h.c⟩,a2,b2⟩
theorem YL.lex{j a:Int}(h:YL p m ml l1 l2 n nd (tl ++ [j]) (sc ++ [a]))(hl:sc.length=tl.length)(hK:tl.length<n)(hp:pl.take tl.length=tl)(hs:sl.take tl.length=sc)(aA:j<pl.getD tl.length 0∨(j=pl.getD tl.length 0/\a<sl.getD tl.length 0)):NC n nd pl sl:=by
 obtain⟨h0,h1,h2⟩:=h.back hl;refine⟨tl.length,ac,fun k hk=>?_,.inr (by rw[h1,h2];exact aA)⟩;have e1:nd.tl.getD k 0=tl.getD k 0:=by rw[<-Cp (l:=nd.tl) hk,h0.t]
 have e2:nd.sc.getD k 0=sc.getD k 0:=by rw[<-Cp (l:=nd.sc) hk,h0.s]
 have e3:pl.getD k 0=tl.getD k 0:=by rw[<-Cp (l:=pl) hk,hp]
 have e4:sl.getD k 0=sc.getD k 0:=by rw[<-Cp (l:=sl) hk,hs]
 rw[e1,e2,e3,e4];exact⟨rfl,rfl⟩
structure Yr(p m:Nat)(ml:List Int)(l1 l2:List (List Int))(n b s0:Nat)(tl sc:List Int)(r:(Nat × List Nd) × Int):Prop where
 cnt:r.1.1<=s0+b
 res:r.2=0∨(r.2=18/\YL p m ml l1 l2 n (Cs r.1.2) tl sc)
 fnd:∀pl sl,AW p m ml n l1 l2 pl sl->pl.take tl.length=tl->sl.take tl.length=sc->r.2=18/\NC n (Cs r.1.2) pl sl
variable {step:Nat × List Nd->List Int->List Int->(Nat × List Nd) × Int} {b:Nat}
theorem PH(hl:sc.length=tl.length)(hK:tl.length<n){j:Nat}(aA:∀(a:Nat) s,1<=a->a<=p^m-1->s.1+b<=65536->Yr p m ml l1 l2 n b s.1 (tl ++ [(j:Int)]) (sc ++ [(a:Int)]) (step s (tl ++ [(j:Int)]) (sc ++ [(a:Int)]))):
  ∀c,c<=p^m-1->∀s,s.1+c*b<=65536->(Gb step tl sc j c s).1.1<=s.1+c*b/\((Gb step tl sc j c s).2=0∨((Gb step tl sc j c s).2=18/\∃a:Nat,1<=a/\a<=c/\YL p m ml l1 l2 n (Cs (Gb step tl sc j c s).1.2) (tl ++ [(j:Int)]) (sc ++ [(a:Int)])))/\
   ∀pl sl,AW p m ml n l1 l2 pl sl->pl.take tl.length=tl->sl.take tl.length=sc->pl.getD tl.length 0=j->sl.getD tl.length 0<=c->(Gb step tl sc j c s).2=18/\NC n (Cs (Gb step tl sc j c s).1.2) pl sl
 | 0,_,s,_=>by
  refine⟨by show s.1<=_;omega,.inl rfl,fun pl sl hT h1 h2 h3 h4=>?_⟩;obtain⟨z,hz,h5,_⟩:=hT.sc tl.length hK;rw[hz]at h4;omega
 | c+1,hc,s,hs=>by
  have hm:(c+1)*b=c*b+b:=by rw[ηb,ζs]
  obtain⟨i1,i2,i3⟩:=PH hl hK aA c ac s ac;by_cases h0:(Gb step tl sc j c s).2=0
  .have e:Gb step tl sc j (c+1) s=step (Gb step tl sc j c s).1 (tl ++ [(j:Int)]) (sc ++ [((c+1:Nat):Int)]):=by
    show(if _ then _ else _)=_
    rw[if_neg (fun h=>h h0)]
   rw[e];have ho:=aA (c+1) (Gb step tl sc j c s).1 ac hc ac;refine⟨by have:=ho.cnt;omega,?_,fun pl sl hT h1 h2 h3 h4=>?_⟩
   .rcases ho.res with h|⟨h,hf⟩
    .exact .inl h
    .exact .inr ⟨h,c+1,ac,ac,hf⟩
   .by_cases h5:sl.getD tl.length 0<=c
    .have:=(i3 pl sl hT h1 h2 h3 h5).1;rw[h0]at this;cases this
    .obtain⟨a,a1,a2,b1,b2,_,_,c1,c2⟩:=hT.step hK;have ea:a=c+1:=by omega
     have ej:((BJ pl tl.length:Nat):Int)=j:=by rw[<-b1,h3]
     refine ho.fnd pl sl hT ?_ ?_
     .rw[ν];show pl.take (tl.length+1)=_
      rw[c1,h1,ej]
     .rw[ν];show sl.take (tl.length+1)=_
      rw[c2,h2,ea]
  .have e:Gb step tl sc j (c+1) s=Gb step tl sc j c s:=by
    show(if _ then _ else _)=_
    rw[if_pos h0]
   rw[e];rcases i2 with h|⟨h,a,a1,a2,hf⟩
   .exact absurd h h0
   .refine⟨ac,.inr ⟨h,a,a1,ac,hf⟩,fun pl sl hT h1 h2 h3 h4=>?_⟩;by_cases h5:sl.getD tl.length 0<=c
    .exact i3 pl sl hT h1 h2 h3 h5
    .exact⟨h,hf.lex hl hK h1 h2 (.inr ⟨h3.symm,ac⟩)⟩
theorem PD(hl:sc.length=tl.length)(hK:tl.length<n)(aA:∀(j a:Nat) s,j<n->tl.contains (j:Int)=false->1<=a->a<=p^m-1->s.1+b<=65536->Yr p m ml l1 l2 n b s.1 (tl ++ [(j:Int)]) (sc ++ [(a:Int)]) (step s (tl ++ [(j:Int)]) (sc ++ [(a:Int)]))):
  ∀J,J<=n->∀s,s.1+J*((p^m-1)*b)<=65536->(Ek step (p^m) tl sc J s).1.1<=s.1+J*((p^m-1)*b)/\((Ek step (p^m) tl sc J s).2=0∨((Ek step (p^m) tl sc J s).2=18/\∃j a:Nat,j<J/\YL p m ml l1 l2 n (Cs (Ek step (p^m) tl sc J s).1.2) (tl ++ [(j:Int)]) (sc ++ [(a:Int)])))/\
   ∀pl sl,AW p m ml n l1 l2 pl sl->pl.take tl.length=tl->sl.take tl.length=sc->pl.getD tl.length 0<J->(Ek step (p^m) tl sc J s).2=18/\NC n (Cs (Ek step (p^m) tl sc J s).1.2) pl sl
 | 0,_,s,_=>by
  refine⟨by show s.1<=_;omega,.inl rfl,fun pl sl hT h1 h2 h3=>?_⟩;have:=hT.nn tl.length hK;omega
 | J+1,hJ,s,hs=>by
  have hm:(J+1)*((p^m-1)*b)=J*((p^m-1)*b)+(p^m-1)*b:=by rw[ηb,ζs]
  obtain⟨i1,i2,i3⟩:=PD hl hK aA J ac s ac;by_cases h0:(Ek step (p^m) tl sc J s).2=0
  .cases hc:tl.contains (J:Int) with
   | true=>
    have e:Ek step (p^m) tl sc (J+1) s=Ek step (p^m) tl sc J s:=by
     show(if _ then _ else if _ then _ else _)=_
     rw[if_neg (fun h=>h h0),if_pos hc]
    rw[e];refine⟨ac,.inl h0,fun pl sl hT h1 h2 h3=>?_⟩;by_cases h5:pl.getD tl.length 0<J
    .exact i3 pl sl hT h1 h2 h5
    .obtain⟨a,a1,a2,b1,b2,_,d1,c1,c2⟩:=hT.step hK;have ej:((BJ pl tl.length:Nat):Int)=J:=by rw[<-b1];omega
     rw[h1,ej,hc]at d1;cases d1
   | false=>
    have e:Ek step (p^m) tl sc (J+1) s=Gb step tl sc J (p^m-1) (Ek step (p^m) tl sc J s).1:=by
     show(if _ then _ else if _ then _ else _)=_
     rw[if_neg (fun h=>h h0),if_neg (by rw[hc];decide)]
    rw[e];obtain⟨k1,k2,k3⟩:=PH (p:=p) (m:=m) (ml:=ml) (l1:=l1) (l2:=l2) (step:=step) (b:=b) hl hK (j:=J) (fun a s h1 h2 h3=>aA J a s ac hc h1 h2 h3) (p^m-1) (ζ _) (Ek step (p^m) tl sc J s).1 ac;refine⟨ac,?_,fun pl sl hT h1 h2 h3=>?_⟩
    .rcases k2 with h|⟨h,a,a1,a2,hf⟩
     .exact .inl h
     .exact .inr ⟨h,J,a,ac,hf⟩
    .by_cases h5:pl.getD tl.length 0<J
     .have:=(i3 pl sl hT h1 h2 h5).1;rw[h0]at this;cases this
     .obtain⟨a,a1,a2,b1,b2,_,_,c1,c2⟩:=hT.step hK;exact k3 pl sl hT h1 h2 ac ac
  .have e:Ek step (p^m) tl sc (J+1) s=Ek step (p^m) tl sc J s:=by
    show(if _ then _ else if _ then _ else _)=_
    rw[if_pos h0]
   rw[e];rcases i2 with h|⟨h,j,a,hj,hf⟩
   .exact absurd h h0
   .refine⟨ac,.inr ⟨h,j,a,ac,hf⟩,fun pl sl hT h1 h2 h3=>?_⟩;by_cases h5:pl.getD tl.length 0<J
    .exact i3 pl sl hT h1 h2 h5
    .exact⟨h,hf.lex hl hK h1 h2 (.inl ac)⟩
theorem S7(hW:VN p m ml n l1 l2):∀d tl sc s,Q5 (p^m) n tl sc->tl.length+d=n->s.1+Pj (n*(p^m-1)) d<=65536->Yr p m ml l1 l2 n (Pj (n*(p^m-1)) d) s.1 tl sc (Mj p m ml l1 l2 n d s tl sc)
 | d,tl,sc,s,hv,hd,hs=>by
  have hb1:1<=Pj (n*(p^m-1)) d:=by cases d <;> simp[Pj]
  have aA:=hW.wit (sc:=sc) hv.rngB;unfold Mj;rw[if_neg ac];simp only;by_cases h1:0<=(E3 p m ml l1 l2 tl sc).1
  .rw[if_pos h1];refine⟨by show s.1+1<=_;omega,.inl rfl,fun pl sl hT e1 e2=>?_⟩;have hc:=hT.compat hW.hp (K:=tl.length) ac;rw[e1,e2]at hc;have:=aA.2 hc;omega
  .have hc:=aA.1 ac;rw[if_neg h1];by_cases h2:tl.length=n
   .rw[if_pos h2];refine⟨by show s.1+1<=_;omega,.inr ⟨rfl,?_⟩,fun pl sl hT e1 e2=>⟨rfl,?_⟩⟩
    .simp only[Fr];exact⟨hv,h2,γf,by rw[<-hv.len];exact γf,hc⟩
    .simp only[Fr];refine⟨n,ζ _,fun k hk=>⟨?_,?_⟩,.inl rfl⟩
     .show tl.getD k 0=_
      rw[<-e1,Cp ac]
     .show sc.getD k 0=_
      rw[<-e2,Cp ac]
   .rw[if_neg h2]
    cases d with
    | zero=>omega
    | succ d=>
     simp only;have hB:Pj (n*(p^m-1)) (d+1)=1+n*((p^m-1)*Pj (n*(p^m-1)) d):=by
      show 1+n*(p^m-1)*Pj (n*(p^m-1)) d=_
      rw[Nat.mul_assoc]
     have hK:tl.length<n:=ac;obtain⟨k1,k2,k3⟩:=PD (p:=p) (m:=m) (ml:=ml) (l1:=l1) (l2:=l2) (n:=n) (step:=Mj p m ml l1 l2 n d) (b:=Pj (n*(p^m-1)) d) hv.len hK (fun j a s hj aB h1 h2 h3=>S7 hW d _ _ s (hv.snoc hj aB h1 ac) (by rw[ν];show tl.length+1+d=n;omega) h3) n (ζ _) (s.1+1,s.2 ++ [⟨tl,sc,(E3 p m ml l1 l2 tl sc).1,JS l1.length l2.length (E3 p m ml l1 l2 tl sc)⟩]) (by show s.1+1+_<=_;omega);refine⟨by rw[hB];have k1':_<=s.1+1+_:=k1;omega,?_,fun pl sl hT e1 e2=>?_⟩
     .rcases k2 with h|⟨h,j,a,hj,hf⟩
      .exact .inl h
      .exact .inr ⟨h,(hf.back hv.len).1⟩
     .have:=hT.inj.lt tl.length hK;have hnn:=hT.nn tl.length hK;unfold BJ at this;exact k3 pl sl hT e1 e2 ac
end
def Ku(N q:Nat):Nat->Nat × Nat
 | 0=>(1,1)
 | i+1=>((Ku N q i).1*((N-i)*max 1 (q-1)),(Ku N q i).2+(Ku N q i).1*((N-i)*max 1 (q-1)))
def VF(n:Int)(q:Nat):Prop:=(n<1∨7<n->n<1∨64<n)/\(1<=n->n<=7->∀i,i<=n.toNat->(Ku n.toNat q i).2<=3000)
theorem UF:∀N,N<8->∀q,q<17->(Ku N q N).2<=3000->Pj (N*(q-1)) N<=65536:=ak
theorem Tv{q N:Nat}{rows:List (List Int)}(hN:N<=256)(hr:rows.length<=256)(h:∀r∈rows,r.length=N/\Ct q r=0):BV q N rows=0:=by
 unfold BV;rw[if_neg ac,if_pos (υ.2 fun r hr=>by simp[(h r hr).1]),if_pos (υ.2 fun r hr=>by simp[(h r hr).2])]
theorem Xq{p m:Nat}{ml pl ul:List Int}{fr N:Nat}{x:List Int}(h:Bv p m ml pl ul fr N):Ct (p^m) (il N (Lk p m ml pl ul fr x N))=0:=T6 fun y hy=>by
 obtain⟨i,hi,rfl⟩:=χ hy;rw[AM]at hi;obtain⟨z,h1,h2⟩:=Z4 h (x:=x) i hi;rw[δ,γ (by rw[AM];exact hi)]at h1;have aA:(il N (Lk p m ml pl ul fr x N))[i]'(by rw[AM];exact hi)=z:=h1;rw[aA];omega
theorem imL_ok{p m:Nat}{ml pl ul:List Int}{fr N:Nat}{l1:List (List Int)}(h:Bv p m ml pl ul fr N):∀r∈Fv p m ml pl ul fr N l1 l1.length,r.length=N/\Ct (p^m) r=0:=fun r hr=>by
 unfold Fv at hr;obtain⟨x,_,rfl⟩:=ψ.1 hr;exact⟨AM _ _,Xq h⟩
theorem P0{p m:Nat}{ml pl ul:List Int}{fr N:Nat}{l1:List (List Int)}(hc:Cm p m ml=0)(hl:l1.length<=256)(h:Bv p m ml pl ul fr N):K6 p m ml N (Fv p m ml pl ul fr N l1 l1.length)=0:=by
 have h1:Dx p m ml N (Fv p m ml pl ul fr N l1 l1.length)=0:=by
  unfold Dx;rw[if_neg (fun h=>h hc)];have e:(p:Int).toNat^(m:Int).toNat=p^m:=ag;rw[e];exact Tv (by have:=h.n2;omega) (by rw[GV (ζ _)];exact hl) (imL_ok h)
 unfold K6;rw[if_neg (fun h=>h h1)];unfold Eo;rw[if_neg (by have:=h.n1;have:=h.n2;omega)]
theorem Ye{p m N:Nat}{ml:List Int}{R:Nat}{a a':Nat->Nat->Int}{piv:List Nat}(hF:FD p m ml)(hn1:1<=N)(hn2:N<=64)(hR:R<=256)(h:Ia p m ml N R a a' piv):Bw p m ml N (Au N piv.length a') 0:=by
 have hc:Cm p m ml=0:=(BU _ _ _).2 hF;have aA:BV (p^m) N (Au N piv.length a')=0:=Tv ac (by rw[AI];have:=(Gy h).1;omega) (Gy h).2;have aD:Dx p m ml N (Au N piv.length a')=0:=by
  unfold Dx;rw[if_neg (fun h=>h hc)];have e:(p:Int).toNat^(m:Int).toNat=p^m:=ag;rw[e];exact aA
 have hl:Eo N=0:=by unfold Eo;rw[if_neg ac]
 have hlen:=(Gy h).1;obtain⟨c,aE,hP,hend,hS⟩:=h;have aF:PV p m piv.length N (An (Au N piv.length a')) piv c:=by
  have e:∀i j,i<piv.length->j<N->An (Au N piv.length a') i j=a' i j:=fun i j hi hj=>JG hi hj;have aB:∀j q:Nat,piv[j]?=some q->j<piv.length:=fun j q hq=>(θ.1 hq).1;refine⟨ζ _,fun i hi j hj=>?_,hP.lt,fun j q hq=>?_,fun j q i hq hi aC=>?_,fun i j h1 h2 _=>ac,fun j q k hq hk=>?_,hP.asc⟩
  .rw[e i j hi hj];exact hP.rng i ac j hj
  .rw[e j q (aB j q hq) (by have:=hP.lt j q hq;omega)];exact hP.one j q hq
  .rw[e i q hi (by have:=hP.lt j q hq;omega)];exact hP.zer j q i hq ac aC
  .rw[e j k (aB j q hq) (by have:=hP.lt j q hq;omega)];exact hP.lead j q k hq hk
 refine .inr (.inr ⟨hc,hl,.inr ⟨aD,p,m,N,piv,An (Au N piv.length a'),rfl,rfl,rfl,hF,aA,?_,?_⟩⟩)
 .rw[AI];exact IC aF aE rfl
 .have h5:Au N piv.length (An (Au N piv.length a'))=Au N piv.length a':=by
   have:=JF (N:=N) (rows:=Au N piv.length a') fun r hr=>by
    unfold Au at hr;obtain⟨i,_,rfl⟩:=ψ.1 hr;exact AM _ _
   rw[AI]at this;exact this
  rw[if_pos h5]
section
variable {p m:Nat} {ml:List Int} {n:Nat} {l1 l2:List (List Int)} {pl sl:List Int}
theorem YL.takes{tl sc:List Int}{nd:Nd}(hp:2<=p)(h:YL p m ml l1 l2 n nd tl sc):AW p m ml n l1 l2 nd.tl nd.sc:=
 AW.of hp h.len (by rw[h.v.len];exact h.len) (fun i hi=>(h.v.rng i ba).1) (h.v.injN h.len) (fun i hi=>h.v.sc i ba) h.c
end
theorem Q5.dup{q n:Nat}{tl sc:List Int}(h:Q5 q n tl sc):G8 tl=false:=by
 cases hd:G8 tl with
 | false=>rfl
 | true=>
  obtain⟨i,j,h1,h2,h3⟩:=LB.1 hd;exact absurd h3.symm (h.inj i j h2 h1)
theorem app_ok{p m N fr:Nat}{ml pl ul:List Int}{rows:List (List Int)}{b0:Nat}{r:Ending}{w':World}(h:YA p m ml N rows pl ul fr b0 r w')(ho:Bw p m ml N rows 0)(aA:Ef p m ml N pl ul fr=0):
  ∃(piv:List Nat) (a':Nat->Nat->Int) (rv v':Value),r= .returned (.tuple #[.agg #[p,m,v',N,rv],Ω])/\Ia p m ml N (Fv p m ml pl ul fr N rows rows.length).length (An (Fv p m ml pl ul fr N rows rows.length)) a' piv/\Ak w' v' ml/\B6 w' rv (Au N piv.length a'):=by
 obtain⟨e1,aB,h⟩:=h;obtain rfl:=B3 aB ho;have aC:imA p m ml pl ul fr N rows=Fv p m ml pl ul fr N rows rows.length:=by unfold imA;simp
 obtain⟨p2,m2,N2,f2,j1,j2,j3,j4,hf,aD,hM⟩:=K8 aA;obtain rfl:p=p2:=ac;obtain rfl:m=m2:=ac;obtain rfl:N=N2:=ac;obtain rfl:fr=f2:=ac;rcases h with⟨h,_⟩|⟨_,h,_⟩|⟨_,_,h⟩
 .exact absurd rfl h
 .exact absurd aA h
 .rw[aC]at h;rcases h with⟨h,_⟩|⟨_,pn,mn,N',piv,a',rv,v',e1,e2,e3,_,_,hr,hel,hv,hrv,_⟩
  .exact absurd (P0 aD (C6 ho).1 hM) h
  .obtain rfl:p=pn:=by omega
   obtain rfl:m=mn:=ac;obtain rfl:N=N':=ac;exact⟨piv,a',rv,v',hr,hel,hv,hrv⟩
theorem KZ{p m:Nat}{ml:List Int}(h:Gg p m ml):CJ p m=((p^m:Nat):Int):=by
 unfold CJ;have h1:((p:Int)^(m:Int).toNat)=((p^m:Nat):Int):=ag;have h2:=h.p2;have h3:=h.m1;have h4:=h.m8;have h5:=h.q;rw[h1,if_pos ac]
theorem B6.vals{w:World}{v:Value}{rows:List (List Int)}(h:B6 w v rows):∃us:List Value,Sl w v rows.length 1 us/\us.length=rows.length/\∀(i:Nat) (r:List Int) (u:Value),rows[i]?=some r->us[i]?=some u->Ak w u r:=by
 obtain⟨vals,h1,h2⟩:=h;exact⟨vals,h1,by have:=h1.1;omega,h2⟩
theorem Vo(w:World)(B:Nat)(n:Int)(a:Option Addr)(l cap:Nat)(c0:w.cell? (B,0)=some (.int .i64 n)):
  Calls Tryz.prog 176 #[(a,l,cap),(B,0)] w fun r w'=>r= .returned (.bool ((l:Int) !=n))/\∃q,w'=w.drewN q:=by
 go_enter Tryz.func176,Tryz.ntmps176
 go_wp2_with fail
 go_ret;exact⟨rfl,0,rfl⟩
theorem zbO{P:Prop}(h:P:=by
 clear ho;go_wp2_with (go_at_call 71;refine aD.o.mono ?_;rintro e w'⟨rfl,q,rfl⟩)
 go_ret;exact⟨Ai HP.o.symm,EX.o.drewN q⟩):P:=h
theorem Gv(w:World)(n:Int)(rows:List (List Int))(v:Value)(hv:B6 w v rows):
  Calls Tryz.prog 124 #[n,v] w fun r w'=>r= .returned (.int .i64 (Es n rows))/\Ex w w':=by
 have HV:=Aa hv;obtain⟨a,cap,rfl,s1,s2,s3⟩:=hv.open;unfold maxLen at s2;have e0:Ex w (w.alloc (.cells #[n] 3)):=(Ex.refl _).alloc _;have c0:(w.alloc (.cells #[n] 3)).cell? (w.heap.size,0)=some (.int .i64 n):=ag;have S3:=Aa (hv.ex e0).open;clear s3 hv;go_enter Tryz.func124,Tryz.ntmps124
 go_wp2_with fail
 generalize w.alloc (.cells #[n] 3)=w1 at *;refine(H4 w1 n).mono ?_;rintro e w2⟨rfl,rfl⟩;by_cases hd:n<1∨64<n
 .have hz:Mt n=4:=if_pos hd;have HP:Hia (Es n rows=4):=Aa (if_pos hd);exact zcY
 .have hz:Mt n=0:=if_neg hd;have HG:Hia (Es n rows=SE n rows):=Aa (if_neg hd);rw[hz];have E0:=Aa e0;have C0:=Aa c0;clear hd hz e0 c0;go_wp2_with fail
  go_loopw [16] (fun k' wr=>∃(k:Nat),k<=rows.length/\k'= .int .i64 k/\Hia (∀(i:Nat) (r:List Int),i<k->rows[i]?=some r->Ch r=0)/\Hia (Ex w1 wr)) (fun k' _=>rows.length-(intOf k').toNat)
  case atStart=>exact⟨0,ac,rfl,Aa (fun i x h=>ac),Aa (Ex.refl _)⟩
  case round=>
   obtain⟨k,hk,rfl,aA,hx⟩:=hrel;by_cases hkn:k<rows.length
   .obtain⟨b,o,rfl,hc⟩:∃b o,a=some ⟨b,o,none⟩/\∀(i:Nat) (r:List Int),rows[i]?=some r->∃u,w1.cell? ⟨b,o+i,none⟩=some u/\Ak w1 u r:=by
     exact zcl
    obtain⟨r,aC⟩:∃r,rows[k]?=some r:=⟨_,γ hkn⟩;obtain⟨u,c1,hu⟩:=hc k r aC;have c1:=hx.o.cell c1;have i1:(0:Int)<=(k:Int):=ac;have i2:(k:Int)<(rows.length:Int):=ac;have aF:=Aa (NG wr r u (hu.ex hx.o));obtain⟨e,he⟩:=nA (Ch r);rw[he]at aF;by_cases h0:e=0
    .have HA:Hia (∀(i:Nat) (s:List Int),i<k+1->rows[i]?=some s->Ch s=0):=Aa (fun i s hi hs=>by
      by_cases e2:i=k
      .subst e2;rw[aC]at hs;injection hs with hs;subst hs;rw[he,h0]
      .exact aA.o i s ac hs)
     subst h0;clear hc aC hu he aA;go_wp2_with (go_at_call 57;refine aF.o.mono ?_;rintro e w'⟨rfl,aB⟩;have aE:=Aa (hx.o.trans aB);clear aB)
     go_roundw
     case rel=>exact⟨k+1,ac,by go_num,HA,aE⟩
     case measure=>exact Ωm
    .have hb:(e !=0)=true:=by simpa using h0
     have HP:Hia (Es n rows=e):=Aa (by rw[HG.o,Yo aC (by rw[he];exact h0) (fun j s hj hs=>aA.o j s hj hs)];exact he);clear hc aC hu he aA h0;go_wp2_with (go_at_call 57;refine aF.o.mono ?_;rintro e w'⟨rfl,aB⟩;have aE:=Aa (hx.o.trans aB);clear aB)
     go_ret;exact⟨Ai HP.o.symm,E0.o.trans aE.o⟩
   .obtain rfl:k=rows.length:=by omega
    have aK:=Aa (Nx (n:=n) fun j s hs=>aA.o j s (θ.1 hs).1 hs);have EX:=Aa (E0.o.trans hx.o);have c0:=hx.o.cell C0.o;obtain⟨us,aH,aL,aG⟩:=(HV.o.ex EX.o).vals;have aD:=Aa (Jw wr (.pointer (some (w.heap.size,0))) (.slice a rows.length cap) rows.length us aH (fun i=>((rows.getD i []).length:Int) !=n) fun q i u hu=>by
     have hi:i<rows.length:=by have:=(θ.1 hu).1;omega
     have aI:rows[i]?=some (rows[i]):=γ hi;have hd:rows.getD i []=rows[i]:=by rw[δ,aI];rfl
     rw[hd];obtain⟨ua,uc,rfl,_⟩:=(aG i _ u aI hu).open;exact Vo _ w.heap.size n ua _ uc (((Ex.refl wr).drewN q).cell c0))
    have aJ:=Aa (show((ξ rows.length).any fun i=>((rows.getD i []).length:Int) !=n)=decide (∃r∈rows,(r.length:Int)≠n) from by
     rw[Bool.eq_iff_iff];simp only[ϗ,κ,decide_eq_true_eq,bne_iff_ne];constructor
     .exact zaI
     .rintro⟨x,hx,h⟩;obtain⟨i,hi,rfl⟩:=χ hx;exact⟨i,hi,by rw[δ,γ hi];exact h⟩)
    rw[aJ.o]at aD;clear aA aJ aH aL aG c0 hx;by_cases ho:∃r∈rows,(r.length:Int)≠n
    .have HP:Hia (Es n rows=10):=Aa (by rw[HG.o,aK.o,if_pos ho]);rw[decide_eq_true ho]at aD;exact zbO
    .have HP:Hia (Es n rows=0):=Aa (by rw[HG.o,aK.o,if_neg ho]);rw[decide_eq_false ho]at aD;exact zbO
def thL(p q:List Int):List Int:=p.map fun x=>q.getD x.toNat 0
def unL(n:Nat):List Int:=li n Ep
theorem thL_li{n:Nat}{f g:Nat->Nat}(hf:∀i,i<n->f i<n):thL (li n f) (li n g)=li n (Ap f g):=by
 apply γs;intro i;unfold thL;by_cases hi:i<n
 .rw[ϖ,DU hi,DU hi];show some ((li n g).getD (f i:Int).toNat 0)=_
  rw[ώ,δ,DU (hf i hi)];rfl
 .rw[ϛ (by rw[List.length_map,Fb];omega),ϛ (by rw[Fb];omega)]
theorem ret_ve{v:Value}{e e':Int}(h:e=e'):Ending.returned (.tuple #[v,e])= .returned (.tuple #[v,e']):=by rw[h]
theorem WG(p m:Int):0<=CJ p m/\CJ p m<=256:=by
 unfold CJ;split
 .rename_i h;have:0<=p^m.toNat:=Int.pow_nonneg ac;exact⟨this,h.2.2.2⟩
 .omega
theorem smK_le{N q i k:Nat}(h:i<=k):(Ku N q i).2<=(Ku N q k).2:=by
 induction k with
 | zero=>
   obtain rfl:i=0:=ac;exact ζ _
 | succ k ih=>
  by_cases e:i=k+1
  .rw[e];exact ζ _
  .refine μ (ih ac) ?_;show _<=(Ku N q k).2+_
   omega
theorem Zi{N q:Nat}:∀i,(Ku N q i).1<=(Ku N q i).2
 | 0=>ζ _
 | i+1=>by
  show(Ku N q i).1*((N-i)*max 1 (q-1))<=(Ku N q i).2+(Ku N q i).1*((N-i)*max 1 (q-1))
  omega
theorem Rx(w:World)(c:AX)(m1 v1:Value)(hc:c.at w m1 v1):
  Calls Tryz.prog 62 #[c.arg m1 v1] w fun r w'=>BolR (VF c.n (CJ c.p c.m).toNat) r/\Ex w w':=by
 obtain⟨c0,c1,c2,c3,c4⟩:=C8 w c m1 v1;have HX:=Aa (AF w (c.obj m1 v1));have aO:=Aa (fun w'=>Dp c.p c.m m1 w');obtain⟨x1,y1,rfl,-,z1,-⟩:=hc.g.open;obtain⟨x3,y3,rfl,-,z3,-⟩:=hc.m.open;obtain⟨p,m,ml,n,rows⟩:=c;obtain⟨B,hB⟩:=nA w.heap.size;rw[hB]at c0 c1 c2 c3 c4;dsimp only[AX.arg,AX.obj]at *;obtain⟨aS,aR⟩:=WG p m;obtain⟨Q,hQ⟩:∃Q:Nat,CJ p m=Q:=⟨(CJ p m).toNat,ac⟩;rw[hQ]at aO ⊢;have hQ2:Q<=256:=bz;rw[ώ];obtain⟨P,hP⟩:=nA (VF n Q);have HP:Hia (P↔(n<1∨7<n->n<1∨64<n)/\(1<=n->n<=7->∀i,i<=n.toNat->(Ku n.toNat Q i).2<=3000)):=Aa (by rw[<-hP];exact Iff.rfl);rw[hP];clear hc hP z1 z3 hQ aS aR;go_enter Tryz.func62,Tryz.ntmps62
 go_upto_region 1 with fail
 try simp only[hB]
 clear hB;generalize w.alloc (.cells #[p,m,(x3,ml.length,y3),n,(x1,rows.length,y1)] 39)=w1 at *;have aE:=Aa (fun w' (h:Ex w1 w')=>(⟨h.cell c0,h.cell c1,h.cell c2,h.cell c3,h.cell c4⟩:_/\_/\_/\_/\_));by_cases h1:n<1
 .have k1:decide (n<1)=true:=decide_eq_true h1;have HN:Hia (P):=Aa (HP.o.2 ⟨fun _=> .inl h1,fun h=>absurd h ac⟩);clear h1;go_wp2_with fail
  go_ret;exact⟨LW HN.o,HX.o⟩
 have k1:decide (n<1)=false:=decide_eq_false h1;by_cases h2:7<n
 .have k2:decide (7<n)=true:=decide_eq_true h2;by_cases h3:64<n
  .have k3:decide (64<n)=true:=decide_eq_true h3;have HN:Hia (P):=Aa (HP.o.2 ⟨fun _=> .inr h3,fun _ h=>absurd h ac⟩);clear h1 h2 h3;go_wp2_with fail
   go_ret;exact⟨LW HN.o,HX.o⟩
  .have k3:decide (64<n)=false:=decide_eq_false h3;have HN:Hia (¬P):=Aa (fun h=>by rcases (HP.o.1 h).1 (.inr h2) with h|h <;> omega);clear h1 h2 h3;go_wp2_with fail
   go_ret;exact⟨Un HN.o,HX.o⟩
 have k2:decide (7<n)=false:=decide_eq_false h2;obtain⟨N,rfl⟩:∃N:Nat,n=N:=⟨n.toNat,ac⟩;have aA:=Aa (show 1<=N/\N<=7 from⟨ac,ac⟩);rw[ώ]at HP;clear h1 h2;go_wp2_with fail
 clear c0 c1 c2 c3 c4
 go_loopw [3,4,5] (fun a' b' i' wr=>∃(i:Nat),i<=N/\a'= .int .i64 (Ku N Q i).1/\b'= .int .i64 (Ku N Q i).2/\i'= .int .i64 i/\Hia ((Ku N Q i).2<=3000)/\Hia (Ex w1 wr)) (fun a' b' i' _=>N-(intOf i').toNat)
 case atStart=>exact⟨0,ac,rfl,rfl,rfl,Aa (by simp[Ku]),Aa (Ex.refl w1)⟩
 case round=>
  obtain⟨i,hi,rfl,rfl,rfl,aK,aB⟩:=hrel;obtain⟨c0,c1,c2,c3,c4⟩:=aE.o wr aB.o;by_cases hlt:i<N
  .have i1:(0:Int)<=(i:Int):=by omega
   have i2:(i:Int)<(N:Int):=ac;obtain⟨A,hA⟩:=nA ((Ku N Q i).1);obtain⟨S,hS⟩:=nA ((Ku N Q i).2);have HA:=Aa hA;have HS:=Aa hS;have aL:=Zi (N:=N) (q:=Q) i;have aG:=aK.o;rw[hA,hS]at aL;rw[hS]at aG;rw[hA,hS];obtain⟨T,hT⟩:∃T:Nat,max 1 (Q-1)=T:=⟨_,rfl⟩;have aT:1<=T/\T<=255:=ac;obtain⟨D,hD⟩:∃D:Nat,N-i=D:=⟨_,rfl⟩;have hDi:(N:Int)-(i:Int)=(D:Int):=ac;have aU:D<=7:=by have:=aA.o;omega
   have aN:D*T<=1785:=γo aU aT.2;have aF:A*(D*T)<=3000*1785:=γo ac aN;have hmx:(if (1:Int)<(Q:Int)-1 then(Q:Int)-1 else 1)=(T:Int):=by split <;> omega
   have hmy:max (1:Int) ((Q:Int)-1)=(T:Int):=ac;have aD:=Aa (show(Ku N Q (i+1)).1=A*(D*T)/\(Ku N Q (i+1)).2=S+A*(D*T) from by
    rw[<-hA,<-hS,<-hD,<-hT];exact⟨rfl,rfl⟩)
   obtain⟨M,hM⟩:∃M:Nat,A*(D*T)=M:=⟨_,rfl⟩;have aM:(A:Int)*((D:Int)*(T:Int))=(M:Int):=by rw[<-hM];push_cast;rfl
   rw[hM]at aD aF;have aI:=Aa (fun w' (h:Ex wr w')=>aO.o w');have aP:=Aa (fun w' (h:Ex wr w')=>aE.o w' (aB.o.trans h));clear hA hS hT hD aL;have W1:Hia (IntKind.i64.wrap (D:Int)=(D:Int)):=Aa (ρ _ ac);have W2:Hia (IntKind.i64.wrap ((Q:Int)-1)=(Q:Int)-1):=Aa (ρ _ ac);have aC:(D:Int)*(T:Int)=((D*T:Nat):Int):=by push_cast;rfl
   have W3:Hia (IntKind.i64.wrap ((D:Int)*(T:Int))=(D:Int)*(T:Int)):=Aa (ρ _ (by rw[aC];omega));have W4:Hia (IntKind.i64.wrap ((A:Int)*((D:Int)*(T:Int)))=(M:Int)):=Aa (by rw[aM];exact ρ _ ac);have HB:=Aa (show S<=3000/\M<=3000*1785 from⟨aG,aF⟩);clear aM aC hM aF aN;go_upto_region 7 with fail
   go_cut [3] from 28 to 39 (fun a wx=>a= .int .i64 (M:Int)/\Hia (Ex wr wx))
   case first=>
    have y1:=W1.o;have y2:=W2.o;have y3:=W3.o;have y4:=W4.o
    go_region_law ((go_simp;refine(aI.o _ (by repeat (first|exact Ex.refl _|apply Ex.drew))).mono ?_;rintro e w5⟨rfl,aQ⟩;have aH:=Aa (Ex.trans (show Ex wr _ by repeat (first|exact Ex.refl _|apply Ex.drew)) aQ);have z0:=(aP.o w5 aH.o).1;have z3:=(aP.o w5 aH.o).2.2.2.1;go_simp))
    all_goals go_wp2_with fail
    all_goals go_meet
    all_goals exact⟨bp,Aa (by repeat (first|exact aH.o|apply Ex.drew))⟩
   case rest=>
    obtain⟨rfl,aJ⟩:=hcut;obtain⟨aG,aF⟩:=HB.o;have hi7:i<=7:=by have:=aA.o;omega
    clear c0 c1 c2 c3 c4;by_cases h5:3000<S+M
    .have k5:decide ((3000:Int)<(S:Int)+(M:Int))=true:=decide_eq_true ac;have j5:(3000:Int)<(S:Int)+(M:Int):=by omega
     have HN:Hia (¬P):=Aa (fun h=>by
      have:=(HP.o.1 h).2 (by have:=aA.o;omega) (by have:=aA.o;omega) (i+1) ac;rw[aD.o.2]at this;omega)
     clear h5;go_wp2_with fail
     go_ret;exact⟨Un HN.o,HX.o.trans (aB.o.trans aJ.o)⟩
    .have k5:decide ((3000:Int)<(S:Int)+(M:Int))=false:=decide_eq_false ac;have j5:¬(3000:Int)<(S:Int)+(M:Int):=by omega
     have HL:=Aa (show(Ku N Q (i+1)).2<=3000 from by rw[aD.o.2];omega);clear h5;go_wp2_with fail
     go_roundw
     case rel=>exact⟨i+1,ac,by rw[aD.o.1],by rw[aD.o.2];go_num,by go_num,HL,Aa (aB.o.trans aJ.o)⟩
     case measure=>exact Ωm
  .obtain rfl:i=N:=by omega
   have HN:Hia (P):=Aa (HP.o.2 ⟨fun h=>by have:=aA.o;omega,fun _ _ k hk=>μ (smK_le hk) aK.o⟩);go_wp2_with fail
   go_ret;exact⟨LW HN.o,HX.o.trans aB.o⟩
section
variable {p m:Nat} {low:Vc}
end
theorem EM.mslF{w:World}{base g R N k:Nat}{blk cap:Nat->Nat}{a:Nat->Nat->Int}{avs:List Nat}(h:EM w base g R N blk cap a avs){b0:Nat}(hb:b0<=base)(hk:k<=R)(hR:R<=256):Hb b0 w (.slice (some (g,0)) k k) (Au N k a):=fun w' aA=>by
 refine⟨(ξ k).map fun i=>Ea blk cap N i,?_,fun i r u h1 h2=>?_⟩
 .rw[AI];refine⟨ag,some ⟨g,0,none⟩,k,rfl,ζ _,by unfold maxLen;omega,fun h0=>⟨g,0,rfl,fun i z hz=>?_⟩⟩;have hi:i<k:=by have:=(θ.1 hz).1;simpa using this
  simp[hi]at hz;subst hz;rw[Nat.zero_add];have hc:=h.cell (i:=i) ac;exact GY (aA g (by have:=h.arr.lt.1;omega) (World.block_lt_of_cell? _ _ hc)) hc
 .have hi:i<k:=by have:=(θ.1 h1).1;rw[AI]at this;exact this
  rw[CR hi]at h1;injection h1 with h1;subst h1;simp[hi]at h2;subst h2;have hr:=h.row i ac;obtain⟨g1,c,cc,g2,g3,g4,g5⟩:=hr.isl;refine⟨g1,c,cc,g2,g3,g4,fun hn=>?_⟩;obtain⟨b,o,rfl,g7⟩:=g5 hn;refine⟨b,o,rfl,fun j u hu=>?_⟩;have hc:=g7 j u hu;have hbl:blk i=b:=by
   injection g2 with g2 _ _;injection g2 with g2;injection g2
  exact GY (aA b (by have:=hr.lt.1;omega) (World.block_lt_of_cell? _ _ hc)) hc
section
variable {p m:Nat} {ml pl sl sl':List Int} {fr N:Nat}
end
section
variable {p m:Nat} {ml:List Int}
variable {l1 l2:List (List Int)} {n:Nat} {tl sc:List Int}
end
theorem TV:∀(cs:List (Value × Value)) (i:Nat) (c:Value × Value),cs[i]?=some c->(cs.flatMap fun c=> [c.1,c.2])[i*2]?=some c.1/\(cs.flatMap fun c=> [c.1,c.2])[i*2+1]?=some c.2
 | [],i,c,h=>by cases h
 | d :: cs,0,c,h=>by
  have:d=c:=Option.some.inj h;subst this;exact⟨rfl,rfl⟩
 | d :: cs,i+1,c,h=>by
  obtain⟨h1,h2⟩:=TV cs i c h;rw[List.flatMap_cons,show(i+1)*2=i*2+1+1 from ac];exact⟨h1,h2⟩
section
open Go.RowKit Go.ChangeShapes Go.WideShapes Go.ChangeAt
section
variable {H:Type} {enc:TypeId × Value->H} {W:World} {held:Bool}
theorem MU{x:Addr}{w:World}{u:Value}(h:w.cell? x=some u)(hu:(∃k n,u= .int k n)∨∃a l c,u= .slice a l c):x=⟨x.block,x.off,none⟩:=by
 have hs:x.spot=none:=by
  rcases hs:x.spot with _|s
  .rfl
  .exfalso;simp only[World.cell?,hs]at h;split at h
   .rcases hu with⟨k,n,rfl⟩|⟨a,l,c,rfl⟩ <;> simp at h
   .simp at h
 cases x;simp_all
theorem Uq(b o j:Nat):(⟨b,o,none⟩:Addr).add j=⟨b,o+j,none⟩:=dj
theorem Nh{w:World}{a:Option Addr}{len cap:Nat}{zs:List Int}(h1:len<=cap)(h2:cap<=maxLen)(h3:zs.length=cap)(h4:a=none->cap=0)(h5:∀x,a=some x->∀i,i<cap->w.cell? (x.add i)=some (.int .i64 (zs.getD i 0))):
  Ak w (.slice a len cap) (zs.take len):=by
 have hl:(zs.take len).length=len:=bh;unfold Ak;rw[hl];refine⟨by rw[Be];omega,a,cap,rfl,h1,h2,fun hn=>?_⟩;rcases a with _|x
 .have:=h4 rfl;omega
 .have h0:=h5 x rfl 0 ac;have hx:=MU h0 (.inl ⟨_,_,rfl⟩);have aA:(x.add 0)=x:=by simp[Addr.add]
  rw[aA]at hx;refine⟨x.block,x.off,congrArg some hx,fun j u hu=>?_⟩;simp only[Aj,ϖ,List.getElem?_take]at hu;split at hu
  .have h6:=h5 x rfl j ac;rw[hx,Uq]at h6;rw[h6];obtain⟨y,hy,rfl⟩:=ζh.1 hu;rw[δ,hy];rfl
  .cases hu
theorem Xh{aA:Nat}{v:Value}{y:DataW H × List MemPlace}(h:DataW.trod enc Tryz.prog W 0 (fun _=>true) held aA 22 [v]=some y):∃l,Ak W v l:=by
 rcases open_ints Tryz.underlying22 Tryz.underlying3 ah h with⟨hcs,_⟩|⟨x,l,c,zs,hcs,_,hl,hm,hz,_,hcell,hwz⟩
 .simp at hcs;subst hcs;exact⟨[],Sl.nil W 1⟩
 .simp at hcs;subst hcs;simp only[if_true]at hz;exact⟨_,Nh hl hm hz (fun h=>by cases h) (fun x' hx i hi=>by injection hx with hx;subst hx;exact hcell i ac)⟩
theorem WT{aA:Nat}{v:Value}{y:DataW H × List MemPlace}(h:DataW.trod enc Tryz.prog W 0 (fun _=>true) held aA 37 [v]=some y):∃rows,B6 W v rows:=by
 rcases Go.Deep.open_int_rows Tryz.underlying37 Tryz.underlying22 Tryz.underlying3 ah ah h with⟨hcs,_⟩|⟨x,len,cap,A,L,C,Z,hcs,_,hl,hm,_,hr⟩
 .simp at hcs;subst hcs;exact⟨[], [],Sl.nil W 1,fun i r u hr=>by simp at hr⟩
 .simp at hcs;subst hcs;refine⟨(ξ len).map fun r=>(Z r).take (L r),(ξ len).map fun r=> .slice (A r) (L r) (C r),?_,fun i r u h1 h2=>?_⟩
  .refine⟨ag,some x,cap,ag,by simpa using hl,hm,fun hn=>?_⟩;simp at hn;have h0:=(hr 0 ac).1;have hx:=MU h0 (.inr ⟨_,_,_,rfl⟩);have aB:(x.add 0)=x:=by simp[Addr.add]
   rw[aB]at hx;refine⟨x.block,x.off,congrArg some hx,fun j u hu=>?_⟩;simp only[ϖ]at hu;obtain⟨k,hk,rfl⟩:=ζh.1 hu;have hj:j<len:=by have:=(θ.1 hk).1;simpa using this
   have e:k=j:=by simp[hj]at hk;exact hk.symm
   subst e;have:=(hr k ac).1;rw[hx,Uq]at this;exact this
  .have hi:i<len:=by have:=(θ.1 h1).1;simpa using this
   simp[hi]at h1 h2;subst h1 h2;obtain⟨_,a1,a2,a3,_,a4,a5⟩:=hr i ac;exact Nh a1 a2 a3 a4 (fun x' hx j hj=>(a5 x' hx).2 j hj)
theorem c_int:Tryz.prog.cellsOf 3=1:=ah
theorem c_ints:Tryz.prog.cellsOf 22=1:=ah
theorem c_rows:Tryz.prog.cellsOf 37=1:=ah
theorem c_fld:Tryz.prog.cellsOf 24=3:=ah
theorem Vq{aA:Nat}{c0 c1 c2:Value}{y:DataW H × List MemPlace}(h:DataW.trod enc Tryz.prog W 0 (fun _=>true) held aA 24 [c0,c1,c2]=some y):
  ∃(P M:Int) (ml:List Int),c0= .int .i64 P/\c1= .int .i64 M/\Ak W c2 ml:=by
 obtain⟨xs,k,_,_,_,aB,hf⟩:=DataW.trod_struct Tryz.underlying24 h;have g0:=hf 0 _ rfl;have g1:=hf 1 _ rfl;have g2:=hf 2 _ rfl
 match xs,aB with
 | [y0,y1,y2],_=>
  simp[c_int,c_ints]at g0 g1 g2;obtain⟨P,e0,_,_⟩:=DataW.trod_int Tryz.underlying3 g0;obtain⟨M,e1,_,_⟩:=DataW.trod_int Tryz.underlying3 g1;obtain⟨l,hl⟩:=Xh g2;simp at e0 e1;exact⟨P,M,l,e0,e1,hl⟩
theorem RQ{r:Reach}{b0:Nat}{t:TypeId}{fs:Array Field}{v:Value}(ht:Tryz.prog.underlying t=some (.struct fs))(h:ιx Tryz.prog W r b0 t v):∃cs,v= .agg cs/\cs.size=Tryz.prog.cellsOf t:=by
 simp only[ιx,ht]at h;obtain⟨cs,h1,h2,_⟩:=h;exact⟨cs,h1,h2⟩
theorem array5{α:Type}{cs:Array α}(h:cs.size=5):∃c0 c1 c2 c3 c4,cs= #[c0,c1,c2,c3,c4]:=by
 obtain⟨l⟩:=cs
 match l,h with
 | [c0,c1,c2,c3,c4],_=>exact⟨c0,c1,c2,c3,c4,rfl⟩
end
end
end Go.Proofs.YtehieobniamagaaGreat
