/- FH with what an operation finds in its slots. -/
import Derived.Test.YtehieobniamagaaGreatZi05
namespace Go.Proofs.YtehieobniamagaaGreat
open Go.Region renaming binds→ϊ
open Bool renaming and_eq_true→Ξ,true_and→θe
open List renaming any_eq_true→ϗ,getD_eq_getElem?_getD→δ,mem_of_getElem?→ι,getElem?_eq_getElem→γ,range→ξ,find?_some→ζe,mem_range→κ,findIdx→ξh,all_eq_true→υ,getElem?_eq_none_iff→ζn,all_eq_false→ζt
open Int renaming mul_nonneg→δd,mul_le_mul→δv
open Nat renaming ne_of_lt→κg,le_refl→ζ,lt_or_ge→ζq,pow_pos→ϕ
open Go.IntWalk renaming i64_in→ρ
open Go.RowKit
set_option linter.all false
set_option maxRecDepth 100000
set_option maxHeartbeats 4000000
def lkA(l:List Oper)(pv:Nat->Value)(a0:Act)(m ib ia:Nat)(o:Oper)(t:Nat):Option Value:=match W0 l 0 t with
 | some j=>if (decide (j<m)&&j !=ib&&j !=ia&&(o.after.toList.any fun e=>e.on==j&&ϊ .any e))=true then some (pv j) else none
 | none=>a0.tmps[t]?
section
variable {P:Program} {Q:Exit->Act->World->Prop} {a0:Act} {l:List Oper} {pv:Nat->Value} {wr:World} {ib ia fa m i:Nat} {o:Oper}
theorem TA{L:Nat->Bool}{a:Act}(aB:∀k t o',L k=true->k<m->k≠ib->k≠ia->l[k]?=some o'->o'.dst=some t->a.tmps[t]?=some (pv k))(aA:∀t,(l.all fun o=>o.dst !=some t)=true->a.tmps[t]?=a0.tmps[t]?)(hd:∀e∈o.after,ϊ .any e=true->L e.on=true):
  ∀t v,lkA l pv a0 m ib ia o t=some v->a.tmps[t]?=some v:=fun t v hv=>by
 unfold lkA at hv
 cases hj:W0 l 0 t with
 | none=>rw[hj]at hv;rw[aA t (Iu l 0 t hj)];exact hv
 | some j=>
  rw[hj]at hv;obtain⟨o',_,h2,h3⟩:=It l 0 t j hj;simp only at hv;split at hv
  .rename_i h4;injection hv with hv;simp only[Ξ,decide_eq_true_eq,bne_iff_ne,ne_eq]at h4;obtain⟨e,he,h5⟩:=ϗ.1 h4.2;have he:=Array.mem_toList_iff.1 he;rw[Ξ,beq_iff_eq]at h5;have hL:=hd e he h5.2;rw[h5.1]at hL;rw[<-hv];exact aB j t o' hL h4.1.1.1 h4.1.1.2 h4.1.2 h2 h3
  .cases hv
theorem IN.go(hi:¬i=fa/\¬(i=m∨i=ia)/\¬i=ib)(h:∀(a:Act) (w:World),(∀t v,lkA l pv a0 m ib ia o t=some v->a.tmps[t]?=some v)->Ex wr w->∀K:Act->World->Prop,(∀w',Ex w w'->K (a.put o.dst (pv i)) w')->o.wp P a w K Q):IN P Q l a0 pv wr ib ia fa m i o:=by
 intro L a w aB aA hd K;rw[if_neg hi.1,if_neg hi.2.1,if_neg hi.2.2];intro hx hK;exact h a w (TA aB aA hd) hx K hK
theorem IN.gf(hi:i=fa)(h:∀(a:Act) (w:World),(∀t v,lkA l pv a0 m ib ia o t=some v->a.tmps[t]?=some v)->∀K:Act->World->Prop,K (a.put o.dst (pv i)) w->o.wp P a w K Q):IN P Q l a0 pv wr ib ia fa m i o:=by
 intro L a w aB aA hd K;rw[if_pos hi];intro hK;exact h a w (TA aB aA hd) K hK
theorem IN.sk(hi:¬i=fa/\(i=m∨i=ia∨i=ib)):IN P Q l a0 pv wr ib ia fa m i o:=by
 intro L a w hin hout hd K;rw[if_neg hi.1];by_cases h:i=m∨i=ia
 .rw[if_pos h];trivial
 .have hb:i=ib:=by
   rcases hi.2 with e|e|e
   .exact absurd (.inl e) h
   .exact absurd (.inr e) h
   .exact e
  rw[if_neg h,if_pos hb];intro _;trivial
end
def lkF(l:List Oper)(pv:Nat->Value)(a0:Act)(m ia:Nat)(o:Oper)(t:Nat):Option Value:=match W0 l 0 t with
 | some j=>if (decide (j<m)&&j !=ia&&(o.after.toList.any fun e=>e.on==j&&ϊ .any e))=true then some (pv j) else none
 | none=>a0.tmps[t]?
section
variable {P:Program} {Q:Exit->Act->World->Prop} {a0:Act} {l:List Oper} {pv:Nat->Value} {wr:World} {ia m i:Nat} {o:Oper} {A Fin:Value->World->Prop}
theorem Ok{L:Nat->Bool}{a:Act}(aB:∀k t o',L k=true->k<m->k≠ia->l[k]?=some o'->o'.dst=some t->a.tmps[t]?=some (pv k))(aA:∀t,(l.all fun o=>o.dst !=some t)=true->a.tmps[t]?=a0.tmps[t]?)(hd:∀e∈o.after,ϊ .any e=true->L e.on=true):
  ∀t v,lkF l pv a0 m ia o t=some v->a.tmps[t]?=some v:=fun t v hv=>by
 unfold lkF at hv
 cases hj:W0 l 0 t with
 | none=>rw[hj]at hv;rw[aA t (Iu l 0 t hj)];exact hv
 | some j=>
  rw[hj]at hv;obtain⟨o',_,h2,h3⟩:=It l 0 t j hj;simp only at hv;split at hv
  .rename_i h4;injection hv with hv;simp only[Ξ,decide_eq_true_eq,bne_iff_ne,ne_eq]at h4;obtain⟨e,he,h5⟩:=ϗ.1 h4.2;have he:=Array.mem_toList_iff.1 he;rw[Ξ,beq_iff_eq]at h5;have hL:=hd e he h5.2;rw[h5.1]at hL;rw[<-hv];exact aB j t o' hL h4.1.1 h4.1.2 h2 h3
  .cases hv
theorem IL.go(hi:¬i=ia/\¬i=m)(h:∀(a:Act) (w:World),(∀t v,lkF l pv a0 m ia o t=some v->a.tmps[t]?=some v)->Ex wr w->∀K:Act->World->Prop,(∀w',Ex w w'->K (a.put o.dst (pv i)) w')->o.wp P a w K Q):IL P Q l a0 pv wr A Fin ia m i o:=by
 intro L a w aB aA hd hx K;rw[if_neg hi.1,if_neg hi.2];exact h a w (Ok aB aA hd) hx K
theorem IL.ap(hi:i=ia)(h:∀(a:Act) (w:World),(∀t v,lkF l pv a0 m ia o t=some v->a.tmps[t]?=some v)->Ex wr w->∀K:Act->World->Prop,(∀v w',Ex w w'->A v w'->K (a.put o.dst v) w')->o.wp P a w K Q):IL P Q l a0 pv wr A Fin ia m i o:=by
 intro L a w aB aA hd hx K;rw[if_pos hi];exact h a w (Ok aB aA hd) hx K
theorem IL.st(hi:¬i=ia/\i=m)(h:∀(a:Act) (w:World),(∀t v,lkF l pv a0 m ia o t=some v->a.tmps[t]?=some v)->Ex wr w->∀(K:Act->World->Prop) (v:Value),A v w->(∀t oa,l[ia]?=some oa->oa.dst=some t->a.tmps[t]?=some v)->(∀w',Fin v w'->K (a.put o.dst undef) w')->o.wp P a w K Q):IL P Q l a0 pv wr A Fin ia m i o:=by
 intro L a w aB aA hd hx K;rw[if_neg hi.1,if_pos hi.2];intro v;exact h a w (Ok aB aA hd) hx K v
end
theorem AJ.pre{w:World}{base:Nat}{e:TypeId}{g n m:Nat}{f:Nat->Int}(h:AJ w base e g n (iv f))(hm:m<=n):Ak w (.slice (some (g,0)) m n) (il m f):=by
 have hn:=h.le;refine⟨by rw[Be];omega,some ⟨g,0,none⟩,n,by rw[Ao],by rw[Ao];exact hm,hn,fun _=>⟨g,0,rfl,fun j u hu=>?_⟩⟩;rw[Cy]at hu;have hj:j<m:=by have:=(List.getElem?_eq_some_iff.1 hu).1;rwa[Bl]at this
 rw[Dn hj]at hu;injection hu with hu;rw[Nat.zero_add,<-hu];exact h.cell ac
section
variable {p m:Nat} {ml:List Int} {mv:Value}
def Md(p m:Nat)(ml:List Int)(n i j:Nat)(a b c:Vc):Prop:=Cw p (ap m (lw ml) n c Aw) (fun t=>ap m (lw ml) i a b t+a i*Dv m (lw ml) i (ap m (lw ml) j b Aw) t)
def Ys(p m:Nat)(ml:List Int)(i j:Nat)(c0 c:Vc):Prop:=Cw p (fun t=>ap m (lw ml) i c Aw t) (fun t=>ap m (lw ml) i c0 Aw t-c0 i*Dv m (lw ml) (i-m) (ap m (lw ml) j (lw ml) Aw) t)
theorem bu{P:Prop}(h:P:=by rw[<-hD];exact⟨Int.emod_nonneg _ ac,Int.emod_lt_of_pos _ ac⟩):P:=h
theorem dv{P:Prop}(h:P:=by rw[Int.tmod_eq_emod_of_nonneg ac];exact hD):P:=h
theorem KP(w:World)(hf:Gg p m ml)(bB:Ak w mv ml)(x y:Int):
  Calls Tryz.prog 114 #[.agg #[p,m,mv],x,y] w fun r w'=>r= .returned (.int .i64 (Am p m (lw ml) (Av (p^m) x) (Av (p^m) y):Nat))/\Ex w w':=by
 obtain⟨d0,d1,d2,e0,bP⟩:=AA w p m mv;have cF:=Aa (fun w=>Ec (mv:=mv) w hf x);have cE:=Aa (fun w=>Ec (mv:=mv) w hf y);have bY:=Aa (fun w l v h1 h2 h3=>Hr (mv:=mv) w hf l v h1 h2 h3);have p2:=hf.p2;have m1:=hf.m1;have m8:=hf.m8;have p256:=hf.p256;have hq:=hf.q;have aL:=hf.len;obtain⟨am,cm,rfl,c1,c2,c3⟩:=(bB.ex e0).open;have C3:=Aa c3;have bV:=Aa aL;unfold maxLen at c2;have cD:Hia (∀j,0<=lw ml j/\lw ml j<p):=Aa (fun j=>by
  unfold lw;rw[δ];rcases h:ml[j]? with _|z
  .simp;omega
  .exact hf.rng z (ι h))
 generalize Av (p^m) x=z at *;generalize Av (p^m) y=t at *;obtain⟨bX,bW,aS,aZ,HQ⟩:=On (DF (show 1<=p by omega) m z) (DF (show 1<=p by omega) m t) (Bu p m t) (fun c h1 h2=>Zs (p:=p) (m:=m) (low:=lw ml) (show 1<=p by omega) (x:=z) (y:=t) (c:=c) h1 h2) hq;obtain⟨N,hN⟩:=nA (2*m-1);have hN1:(2:Int)*m-1=(N:Int):=by omega
 have bH:N=2*m-1:=hN.symm;clear hf bB hq c3 aL hN;go_enter Tryz.func114,Tryz.ntmps114
 go_wp2_with fail
 generalize w.alloc (.cells #[p,m,(am,ml.length,cm)] 24)=w1 at *;refine(cF.o _).mono ?_;rintro e w2⟨v,rfl,⟨g,rfl,hg⟩,aJ⟩;have r0:=aJ.cell d0;have r1:=aJ.cell d1;have r2:=aJ.cell d2;go_wp2_with fail
 refine(cE.o _).mono ?_;rintro e w3⟨v,rfl,⟨k,rfl,hk⟩,aI⟩;have s0:=aI.cell r0;have s1:=aI.cell r1;have s2:=aI.cell r2;have HG:=Aa (hg.ex aI);have aY:=Aa (hk.mono (show w1.heap.size<=w2.heap.size from aJ.size));have aE:=aJ.trans aI;have HE:=Aa e0;have aN:=Aa bH;clear r0 r1 r2 hg hk aJ aI e0 bP bH;go_wp2_with (at_make;refine Ar _ rfl _ _ 22 rfl 3 (.int .i64 0) 8 Tryz.underlying22 Az rfl _ N rfl rfl ac (by have:=aN.o;omega) (by have:=aN.o;unfold maxLen;omega) ?_)
 intro w4 aK aO;obtain⟨h,hh⟩:=nA w3.heap.size;have bT:g<h:=by rw[<-hh];exact HG.o.lt.2
 have bR:k<h:=by rw[<-hh];exact aY.o.lt.2
 obtain⟨bJ,bL,bK,HH⟩:=Of (show AJ w4 w1.heap.size 3 h N (iv fun _=>0) by rw[<-hh];exact aK.mono aE.size) (HG.o.ex aO) (aY.o.ex aO) hh;have aD:=aE.trans aO;have bM:Hia (Md p m ml N 0 0 (AO p m z) (AO p m t) (fun _=>0)):=Aa (Vy (m:=m) (low:=lw ml) p N _ _);have cG:Hia (∀i j c,i+j<N->Md p m ml N i j (AO p m z) (AO p m t) c->Md p m ml N i (j+1) (AO p m z) (AO p m t) (Ih c (i+j) ((c (i+j)+AO p m z i*AO p m t j)%(p:Int)))):=Aa (fun i j c h1 h2=>Vz (m:=m) (low:=lw ml) h1 h2);have cH:Hia (∀i c,Md p m ml N i m (AO p m z) (AO p m t) c->Md p m ml N (i+1) 0 (AO p m z) (AO p m t) c):=Aa (fun i c h1=>Yc (m:=m) (low:=lw ml) aS.o h1);have q0:=aD.cell d0;have q1:=aD.cell d1;have q2:=aD.cell d2;simp only[hh];clear aK aE aO HG aY hh s0 s1 s2;go_wp2_with fail
 clear q0 q1 q2
 go_loopw [10,11] (fun i' _ wr=>∃(i:Nat) (c:Nat->Int),i<=m/\i'= .int .i64 i/\Hia (AJ wr w1.heap.size 3 h N (iv c))/\Hia (∀j,0<=c j/\c j<p)/\Hia (Md p m ml N i 0 (AO p m z) (AO p m t) c)/\Hia (AJ wr w1.heap.size 3 g m (iv (AO p m z)))/\Hia (AJ wr w1.heap.size 3 k m (iv (AO p m t)))/\Ex w1 wr) (fun i' _ _=>m-(intOf i').toNat)
 case atStart=>exact⟨0,fun _=>0,ac,rfl,bJ,Aa (fun j=>⟨Int.le_refl 0,(by omega:(0:Int)<p)⟩),bM,bL,bK,aD⟩
 case round=>
  clear bJ bM bL bK aD;obtain⟨i,c,hi,rfl,aA,aB,aH,aG,aF,hx⟩:=hrel;have q0:=hx.cell d0;have q1:=hx.cell d1;have q2:=hx.cell d2;by_cases hlt:i<m
  .obtain⟨wo,rfl⟩:∃wo:World,wo=wr:=⟨_,rfl⟩;go_wp2_with fail
   clear q0 q1 q2
   go_loopw [11] (fun j' wr=>∃(j:Nat) (c:Nat->Int),j<=m/\j'= .int .i64 j/\Hia (AJ wr w1.heap.size 3 h N (iv c))/\Hia (∀j,0<=c j/\c j<p)/\Hia (Md p m ml N i j (AO p m z) (AO p m t) c)/\Hia (AJ wr w1.heap.size 3 g m (iv (AO p m z)))/\Hia (AJ wr w1.heap.size 3 k m (iv (AO p m t)))/\Ex w1 wr) (fun j' _=>m-(intOf j').toNat)
   case atStart=>exact⟨0,c,ac,rfl,aA,aB,aH,aG,aF,hx⟩
   case round=>
    clear aA aB aH aG aF hx;obtain⟨j,c,hj,rfl,aA,aB,aH,aG,aF,hx⟩:=hrel;have q0:=hx.cell d0;have q1:=hx.cell d1;have q2:=hx.cell d2;by_cases hlj:j<m
    .have bD:i+j<N:=by have:=aN.o;omega
     have bG:=aG.o.cell hlt;have aM:=aF.o.cell hlj;have bF:=aA.o.cell bD;have hcf:=aA.o.frz (i+j);have aC:=Aa (cG.o i j c bD aH.o);obtain⟨a1,a2⟩:=bX.o i;obtain⟨b1,b2⟩:=bW.o j;obtain⟨e1,e2⟩:=aB.o (i+j);have hva:wr.cell? (g,i)=some (.int .i64 (AO p m z i)):=bG;have bO:wr.cell? (k,j)=some (.int .i64 (AO p m t j)):=aM;have hvc:wr.cell? (h,i+j)=some (.int .i64 (c (i+j))):=bF;clear bG aM bF;generalize AO p m z i=u at *;generalize AO p m t j=v at *;have cI:Hia (∀z,c (i+j)=z->True):=Aa (fun _ _=>trivial);have e3:0<=u*v:=δd a1 b1;have e4:u*v<=65536:=by
      have:=δv (show u<=256 by omega) (show v<=256 by omega) ac ac;omega
     obtain⟨D,hD⟩:=nA ((c (i+j)+u*v)%(p:Int));have aQ:0<=D/\D<p:=bu;rw[hD]at aC;obtain⟨aT,cB,cA,aR⟩:=Of (aA.o.set (i+j) (.int .i64 D)) (aG.o.other (a:=⟨h,i+j,none⟩) (κg bT) (.int .i64 D)) (aF.o.other (a:=⟨h,i+j,none⟩) (κg bR) (.int .i64 D)) (aA.o.exSet (ζ _) hx (i+j) (.int .i64 D));have aX:Hia (∀l,0<=Ay c (i+j) D l/\Ay c (i+j) D l<p):=Aa (fun l=>by
      unfold Ay;split
      .exact aQ
      .exact aB.o l)
     have i1:IntKind.i64.wrap ((i:Int)+j)=(i:Int)+j:=ρ _ ac;have i2:IntKind.i64.wrap (u*v)=u*v:=ρ _ ac;have i3:IntKind.i64.wrap (c (i+j)+u*v)=c (i+j)+u*v:=ρ _ ac;have i4:(c (i+j)+u*v).tmod (p:Int)=D:=dv;have i5:((i:Int)+j).toNat=i+j:=ac;have i6:(i:Int)+j<(N:Int):=ac;have i7:0<=(i:Int)+j:=ac;have p0:¬p=0:=ac;clear hD cI;go_wp2_with fail
     go_still_tail 24,ah
     change wpList _ _ _ _ _ wr.drew
     go_wp2_with fail
     go_roundw
     case rel=>exact⟨j+1,Ay c (i+j) D,ac,by go_num,Aa (by have:=aT.o.drew;rwa[CF]at this),aX,aC,Aa cB.o.drew,Aa cA.o.drew,aR.o.drew⟩
     case measure=>exact Ωm
    .obtain rfl:j=m:=by omega
     have aC:=Aa (cH.o i c aH.o);go_wp2_with fail
     go_roundw
     case rel=>exact⟨i+1,c,ac,by go_num,aA,aB,aC,aG,aF,hx⟩
     case measure=>exact Ωm
  .obtain rfl:i=m:=by omega
   have HT:Hia (Cw p (ap i (lw ml) N c Aw) (ap i (lw ml) i (AO p i z) (AO p i t))):=Aa (fun s=>by
    rw[aH.o s];have e:Dv i (lw ml) i (ap i (lw ml) 0 (AO p i t) Aw) s=0:=by
     simp only[ap];rw[(EU i).zero]
    dsimp only;rw[e];simp)
   clear aH aG aF;have aU:Hia (∀(a:Nat) (c:Nat->Int),Ys p i ml a 0 c c):=Aa (fun a c=>M5 (m:=i) (low:=lw ml) p c);have aV:Hia (∀(a j:Nat) (c c0:Nat->Int),i<=a->j<i->Ys p i ml a j c0 c->c a=c0 a->Ys p i ml a (j+1) c0 (Ih c (a-i+j) ((c (a-i+j)+((p:Int)-c a)*lw ml j)%(p:Int)))):=Aa (fun a j c c0 h1 h2 h3 h4=>PR (m:=i) (low:=lw ml) (T:=c0) h1 h2 h3 h4);have aW:Hia (∀(a:Nat) (c c0:Nat->Int) (T:Vc),i<=a->Cw p (ap i (lw ml) (a+1) c0 Aw) T->Ys p i ml a i c0 c->Cw p (ap i (lw ml) a c Aw) T):=Aa (fun a c c0 T h1 h2 h3=>Th (m:=i) (low:=lw ml) m1 h1 h2 h3);go_wp2_with fail
   clear q0 q1 q2
   go_loopw [12,13] (fun i' _ wr=>∃(a:Nat) (c:Nat->Int),i<=a/\a<=N/\i'= .int .i64 ((a:Int)-1)/\Hia (AJ wr w1.heap.size 3 h N (iv c))/\Hia (∀j,0<=c j/\c j<p)/\Hia (Cw p (ap i (lw ml) a c Aw) (ap i (lw ml) i (AO p i z) (AO p i t)))/\Ex w1 wr) (fun i' _ _=>(intOf i'+1).toNat)
   case atStart=>exact⟨N,c,by have:=aN.o;omega,ζ _,by rw[show(2:Int)*i-2=(N:Int)-1 by omega],aA,aB,HT,hx⟩
   case round=>
    clear aA aB HT hx;obtain⟨a,c,ha1,ha2,rfl,aA,aB,hT,hx⟩:=hrel;have q0:=hx.cell d0;have q1:=hx.cell d1;have q2:=hx.cell d2;by_cases hai:i<a
    .obtain⟨b,rfl⟩:∃b,a=b+1:=⟨a-1,ac⟩;have eb:(((b+1:Nat)):Int)-1=b:=by omega
     rw[eb];have aP:i<=b:=ac;have hbi:(i:Int)<=(b:Int):=ac;clear eb hai;obtain⟨wo,rfl⟩:∃wo:World,wo=wr:=⟨_,rfl⟩;have bI:=Aa (aU.o b c);go_wp2_with fail
     clear q0 q1 q2
     go_loopw [13] (fun j' wr=>∃(j:Nat) (c':Nat->Int),j<=i/\j'= .int .i64 j/\Hia (AJ wr w1.heap.size 3 h N (iv c'))/\Hia (∀j,0<=c' j/\c' j<p)/\Hia (Ys p i ml b j c c')/\Hia (c' b=c b)/\Ex w1 wr) (fun j' _=>i-(intOf j').toNat)
     case atStart=>exact⟨0,c,ac,rfl,aA,aB,bI,Aa rfl,hx⟩
     case round=>
      clear aA aB hx bI;obtain⟨j,c',hj,rfl,aA,aB,bA,aM,hx⟩:=hrel;have q0:=hx.cell d0;have q1:=hx.cell d1;have q2:=hx.cell d2;by_cases hlj:j<i
      .have bQ:ml.length=i:=by
        have:=bV.o;rw[if_neg (by have:=aN.o;omega)]at this;exact this
       obtain⟨bb,oo,rfl,bE⟩:=C3.o ac;have hm0:=hx.cell (bE j (lw ml j) (by unfold lw;rw[δ,γ ac];rfl));have aC:=Aa (aV.o b j c' c aP hlj bA.o aM.o);have bU:b<N:=by omega
       have bS:b-i+j<N:=ac;have bC:b-i+j≠b:=ac;have bO:wr.cell? (h,b)=some (.int .i64 (c' b)):=aA.o.cell bU;have hvj:wr.cell? (h,b-i+j)=some (.int .i64 (c' (b-i+j))):=aA.o.cell bS;have hvf:=aA.o.frz (b-i+j);obtain⟨u1,u2⟩:=aB.o b;obtain⟨v1,v2⟩:=aB.o (b-i+j);obtain⟨l1,l2⟩:=cD.o j;have hjl:j<ml.length:=ac;obtain⟨D,hD⟩:=nA ((c' (b-i+j)+((p:Int)-c' b)*lw ml j)%(p:Int));have aQ:0<=D/\D<p:=bu;rw[hD]at aC;have aT:=Aa (aA.o.set (b-i+j) (.int .i64 D));have aR:=Aa (aA.o.exSet (ζ _) hx (b-i+j) (.int .i64 D));have aX:Hia (∀l,0<=Ay c' (b-i+j) D l/\Ay c' (b-i+j) D l<p):=Aa (fun l=>by
        unfold Ay;split
        .exact aQ
        .exact aB.o l)
       have cJ:=Aa (show Ay c' (b-i+j) D b=c b by rw[Ac _ _ (Ne.symm bC)];exact aM.o);generalize lw ml j=lj at *;have e3:0<=((p:Int)-c' b)*lj:=δd ac l1;have e4:((p:Int)-c' b)*lj<=65536:=by
        have:=δv (show(p:Int)-c' b<=256 by omega) (show lj<=256 by omega) l1 ac;omega
       have i1:IntKind.i64.wrap ((b:Int)-i)=(b:Int)-i:=ρ _ ac;have i2:IntKind.i64.wrap ((b:Int)-i+j)=(b:Int)-i+j:=ρ _ ac;have i3:IntKind.i64.wrap ((p:Int)-c' b)=(p:Int)-c' b:=ρ _ ac;have i4:IntKind.i64.wrap (((p:Int)-c' b)*lj)=((p:Int)-c' b)*lj:=ρ _ ac;have i5:IntKind.i64.wrap (c' (b-i+j)+((p:Int)-c' b)*lj)=c' (b-i+j)+((p:Int)-c' b)*lj:=ρ _ ac;have i6:(c' (b-i+j)+((p:Int)-c' b)*lj).tmod (p:Int)=D:=dv;have i7:((b:Int)-i+j).toNat=b-i+j:=ac;have i8:0<=(b:Int)-i+j:=ac;have i9:(b:Int)-i+j<(N:Int):=ac;have p0:¬p=0:=ac;clear hD bE bC bQ;go_wp2_with fail
       go_still_tail 34,ah
       change wpList _ _ _ _ _ wr.drew
       go_wp2_with fail
       go_roundw
       case rel=>exact⟨j+1,Ay c' (b-i+j) D,ac,by go_num,Aa (by have:=aT.o.drew;rwa[CF]at this),aX,aC,cJ,aR.o.drew⟩
       case measure=>exact Ωm
      .obtain rfl:j=i:=by omega
       have bZ:=Aa (aW.o b c' c _ aP hT.o bA.o);go_wp2_with fail
       go_roundw
       case rel=>exact⟨b,c',aP,ac,rfl,aA,aB,bZ,hx⟩
       case measure=>simp[intOf]
    .obtain rfl:a=i:=by omega
     have HL:=Aa (aA.o.pre (show a<=N by omega));have HB:Hia (∀e∈il a c,0<=e/\e<p):=Aa (fun e he=>by
      obtain⟨j,_,rfl⟩:=Oz he;exact aB.o j)
     have cC:=Aa (show p^(il a c).length<=65536 by rw[Ao];have:=HQ.o;omega);have HR:=Aa (show vl p (il a c)=((Am p a (lw ml) z t:Nat):Int) by rw[Pq];exact aZ.o c (fun j _=>aB.o j) hT.o);clear aA aB hT;have i1:(0:Int)<=(a:Int):=by omega
     have i2:(a:Int)<=(N:Int):=ac;go_wp2_with fail
     go_still_tail 5,ah
     change wpList _ _ _ _ _ wr.drew
     go_wp2_with fail
     refine(bY.o _ _ _ (HL.o.ex (Ex.refl _).drew) HB.o cC.o).mono ?_;rintro e w9⟨rfl,bN⟩;go_wp2_with fail
     go_ret;exact⟨Ai HR.o,(HE.o.trans hx.drew).trans bN⟩
end
section
variable {p m:Nat} {ml:List Int} {mv:Value}
theorem Vk{z:Nat}(h:∀y,1<=y->y<p^m->Am p m (lw ml) z y≠1):Eg p m ml z=0:=by
 unfold Eg;rcases hf:(ξ (p^m)).find? (fun y=>decide (1<=y)&&Am p m (lw ml) z y==1) with _|i
 .rfl
 .exfalso;have h1:=ζe hf;have h2:=κ.1 (List.mem_of_find?_eq_some hf);simp at h1;exact h i h1.1 h2 h1.2
theorem R7{z y:Nat}(h1:1<=y)(h2:y<p^m)(h3:Am p m (lw ml) z y=1)(h:∀c,1<=c->c<y->Am p m (lw ml) z c≠1):Eg p m ml z=y:=by
 unfold Eg;rcases hf:(ξ (p^m)).find? (fun y=>decide (1<=y)&&Am p m (lw ml) z y==1) with _|i
 .exfalso;have:=List.find?_eq_none.1 hf y (κ.2 h2);simp[h1,h3]at this
 .have k1:=ζe hf;simp at k1;rcases Nat.lt_trichotomy i y with e|e|e
  .exact absurd k1.2 (h i k1.1 e)
  .exact e
  .exfalso;have:=List.not_of_lt_findIdx (p:=fun y=>decide (1<=y)&&Am p m (lw ml) z y==1) (xs:=ξ (p^m)) (i:=y) (by
    rcases ζq y (ξh (fun y=>decide (1<=y)&&Am p m (lw ml) z y==1) (ξ (p^m))) with a|a
    .exact a
    .exfalso;have hk:ξh (fun y=>decide (1<=y)&&Am p m (lw ml) z y==1) (ξ (p^m))<(ξ (p^m)).length:=by simp;omega
     have hq:=List.find?_eq_some_iff_getElem.1 hf;obtain⟨_,j,hj,e1,e2⟩:=hq;simp at e1;subst e1;have:=e2 y ac;simp[h1,h3]at this)
   simp[h1,h3]at this
theorem Ww(w:World)(hf:Gg p m ml)(aE:Ak w mv ml)(x:Int):
  Calls Tryz.prog 244 #[.agg #[p,m,mv],x] w fun r w'=>r= .returned (.int .i64 (Eg p m ml (Av (p^m) x):Nat))/\Ex w w':=by
 obtain⟨d0,d1,d2,e0,aH⟩:=AA w p m mv;have Dy:=hf.ord;have hq:=hf.q;obtain⟨aF,HM,aI,HN,HF,aG⟩:=Ty (fun w=>by have:=Dp p m mv w;rw[Dy]at this;exact this) (fun w y (h:Ak w mv ml)=>KP w hf h x y) aE (Vk (p:=p) (m:=m) (ml:=ml) (z:=Av (p^m) x)) (fun y h1 h2 h3 h=>R7 (p:=p) (m:=m) (ml:=ml) (z:=Av (p^m) x) (y:=y) h1 h2 h3 h) (fun y (h:y<p^m)=>AE h);generalize Av (p^m) x=z at *;obtain⟨q,aD⟩:=nA (p^m);simp only[aD]at hq aF HM HN HF aG;clear hf aE aD Dy aH;go_enter Tryz.func244,Tryz.ntmps244
 go_wp2_with fail
 generalize w.alloc (.cells #[p,m,mv] 24)=w1 at *
 go_loopw [5] (fun y' wr=>∃y:Nat,1<=y/\y'= .int .i64 y/\Hia (∀c,1<=c->c<y->Am p m (lw ml) z c≠1)/\y<=300/\Ex w1 wr) (fun y' _=>300-(intOf y').toNat)
 case atStart=>exact⟨1,ac,rfl,Aa (fun c a b=>ac),ac,Ex.refl _⟩
 case round=>
  obtain⟨y,hy,rfl,aB,hy3,hx⟩:=hrel;have r0:=hx.cell d0;have r1:=hx.cell d1;have r2:=hx.cell d2;go_wp2_with fail
  refine(aF.o _).mono ?_;rintro e w2⟨rfl,aA⟩;have s0:=aA.cell r0;have s1:=aA.cell r1;have s2:=aA.cell r2;by_cases hlt:y<q
  .go_wp2_with fail
   refine(HM.o _ _ (aI.o.ex (e0.trans (hx.trans aA)))).mono ?_;rw[aG.o y hlt];rintro e w3⟨rfl,aC⟩;by_cases h1:Am p m (lw ml) z y=1
   .have hb:(((Am p m (lw ml) z y:Nat):Int)==1)=true:=by simp;omega
    have HR:=Aa (HF.o y hy hlt h1 aB.o);clear h1;generalize Am p m (lw ml) z y=kz at *;go_wp2_with fail
    go_ret;exact⟨Ai (by rw[HR.o]),e0.trans ((hx.trans aA).trans aC)⟩
   .have hb:(((Am p m (lw ml) z y:Nat):Int)==1)=false:=by simp;omega
    have HA:Hia (∀c,1<=c->c<y+1->Am p m (lw ml) z c≠1):=Aa (fun c a b=>by
     by_cases e:c=y
     .subst e;exact h1
     .exact aB.o c a ac)
    clear h1;generalize Am p m (lw ml) z y=kz at *;go_wp2_with fail
    go_roundw
    case rel=>exact⟨y+1,ac,by go_num,HA,ac,(hx.trans aA).trans aC⟩
    case measure=>exact Ωm
  .have HR:=Aa (HN.o fun c a b=>aB.o c a ac);go_wp2_with fail
   go_ret;exact⟨Ai (by rw[HR.o];rfl),e0.trans (hx.trans aA)⟩
end
def Mo(ml:List Int):Vc:=fun j=>if j<ml.length then ml.getD j 0 else if j=ml.length then 1 else 0
def QJ(p d:Nat)(low:Vc)(ml:List Int):Bool:=(ξ d).all fun j=>ap d low (ml.length+1) (Mo ml) Aw j%(p:Int)==0
def RdE(p d:Nat)(low:Vc)(i j:Nat)(c0 c:Vc):Prop:=Cw p (fun t=>ap d low i c Aw t) (fun t=>ap d low i c0 Aw t-c0 i*Dv d low (i-d) (ap d low j low Aw) t)
theorem dv_end{p d:Nat}{low:Vc}{ml:List Int}{c:Vc}(hc:∀j,0<=c j/\c j<p)(h:Cw p (ap d low d c Aw) (ap d low (ml.length+1) (Mo ml) Aw)):
  QJ p d low ml=(ξ d).all fun j=>c j==0:=by
 unfold QJ;rw[Bool.eq_iff_iff,υ,υ];have aA:∀j,j<d->ap d low (ml.length+1) (Mo ml) Aw j%(p:Int)=c j:=fun j hj=>by
  rw[<-h j,L5 d c (ζ _)];dsimp only;rw[if_pos hj];exact Int.emod_eq_of_lt (hc j).1 (hc j).2
 constructor
 .intro h1 j hj;have:=h1 j hj
  rwa[aA j (κ.1 hj)]at this
 .intro h1 j hj;have:=h1 j hj
  rwa[aA j (κ.1 hj)]
theorem WU(ml:List Int):Aj ml ++ [.int .i64 1]=vs (ml.length+1) (iv (Mo ml)):=by
 apply List.ext_getElem?;intro j;by_cases h1:j<ml.length
 .rw[List.getElem?_append_left (by rw[Be];exact h1),Dn ac];unfold iv Mo;rw[if_pos h1];simp[Aj,h1,δ]
 .rw[List.getElem?_append_right (by rw[Be];omega),Be];by_cases h2:j=ml.length
  .subst h2;rw[Dn ac];unfold iv Mo;simp
  .rw[show(vs (ml.length+1) (iv (Mo ml)))[j]?=none by rw[ζn,Bl];omega];rw[ζn];simp;omega
theorem zdb{P:Prop}(h:P:=by
 intro u hu;obtain⟨z,_,rfl⟩:=List.mem_map.1 hu;rfl):P:=h
theorem zdc{P:Prop}(h:P:=by
 go_wp2_with fail
 go_ret;exact⟨Aq HF.o.symm,hx⟩):P:=h
theorem QN(p d:Nat)(low:Vc)(ml:List Int)(lv mv:Value)(w:World)(hp:2<=p)(hp':p<=256)(hd:1<=d)(hdm:d<=ml.length)(hm8:ml.length<=8)
  (bF:Ak w lv (il d low)) (bG:∀j,0<=low j/\low j<p) (bC:Ak w mv ml) (bD:∀x∈ml,0<=x/\x<p):
  Calls Tryz.prog 170 #[lv,mv,p] w fun r w'=>r= .returned (.bool (QJ p d low ml))/\Ex w w':=by
 obtain⟨la,lc,rfl,l1,l2,l3⟩:=bF.open;rw[Ao]at *;obtain⟨lb,lo,rfl,l4⟩:=l3 ac;have L4:=Aa (fun j (hj:j<d)=>l4 j _ (AT hj low));have cA:=Aa bC;have aY:Hia (∀j,0<=Mo ml j/\Mo ml j<p):=Aa (fun j=>by
  unfold Mo;split
  .rename_i h;rw[δ,γ h];exact bD _ (List.getElem_mem h)
  .split <;> omega)
 have bP:=Aa (fun c h1 h2=>dv_end (p:=p) (d:=d) (low:=low) (ml:=ml) (c:=c) h1 h2);have cB:=Aa (WU ml);have cC:=Aa bG;have bE:∀u∈Aj ml,u.oneCell'=true:=by
  exact zdb
 have bZ:=Aa bE;unfold maxLen at l2;clear bF bC bD l3 l4 bG bE;go_enter Tryz.func170,Tryz.ntmps170
 go_wp2_with (at_builtin;refine A6 _ rfl _ _ 22 rfl w.heap.size 3 (.int .i64 0) 1 8 Tryz.underlying22 Az rfl ae _ 0 [] rfl (Bm w 3) mv ml.length (Aj ml) rfl (cA.o.ex ((Ex.refl w).alloc _)) bZ.o ai ac ag ?_)
 intro v1 w1 aC bH bJ;have aM:Ex w w1:=Ex.grown ((Ex.refl w).alloc _) (Bm w 3) (ζ _) bH;obtain⟨va,vc,rfl⟩:=Ad aC;have bK:=Aa aM;have bN:=Aa aC;have bQ:=Aa aM.size;clear bH bJ aC aM;go_wp2_with (at_builtin;refine Al _ rfl _ _ 22 rfl w.heap.size 3 (.int .i64 0) 1 8 Tryz.underlying22 Az rfl ae _ ml.length _ rfl bN.o [.int .i64 1] 3 _ rfl ag rfl aj ai ac bQ.o ?_)
 intro v2 w2 aF;have aB:=aF.own;rw[cB.o]at aB;obtain⟨g,cap,rfl,aD⟩:=J7 aB ac;have aZ:=aF.ex bK.o (ζ _);have aQ:=aD.caps;obtain⟨k1,k2⟩:=aQ;unfold maxLen at k2;obtain⟨bM,aJ,aU,aV,aW,bW⟩:=Ty aD (show ∀j,ml.length+1<=j->j<ml.length+1->Mo ml j=0 from fun j a b=>ac) (show ∀(a:Nat) (c:Nat->Int),RdE p d low a 0 c c from fun a c=>M5 (m:=d) (low:=low) p c) (show ∀(a j:Nat) (c c0:Nat->Int),d<=a->j<d->RdE p d low a j c0 c->c a=c0 a->RdE p d low a (j+1) c0 (Ih c (a-d+j) ((c (a-d+j)+((p:Int)-c a)*low j)%(p:Int))) from fun a j c c0 h1 h2 h3 h4=>PR (m:=d) (low:=low) (T:=c0) h1 h2 h3 h4) (show ∀(a:Nat) (c c0:Nat->Int) (T:Vc),d<=a->Cw p (ap d low (a+1) c0 Aw) T->RdE p d low a d c0 c->Cw p (ap d low a c Aw) T from fun a c c0 T h1 h2 h3=>Th (m:=d) (low:=low) hd h1 h2 h3) (show ∀(a:Nat) (c:Nat->Int) v,ap d low a (Ih c a v) Aw=ap d low a c Aw from fun a c v=>Nv (ζ _));obtain⟨T,aR⟩:=nA (ap d low (ml.length+1) (Mo ml) Aw);rw[aR]at bP;have bO:=Aa (show Cw p (ap d low (ml.length+1) (Mo ml) Aw) T by rw[aR];exact Cw.refl _ _);clear aR;clear aF aB aD bK bN bQ;go_wp2_with fail
 go_loopw [9,10,11] (fun i' _ _ wr=>∃(a:Nat) (c:Nat->Int),d<=a/\a<=ml.length+1/\i'= .int .i64 ((a:Int)-1)/\Hia (Bb wr w.heap.size 3 g (ml.length+1) cap (iv c))/\Hia (∀j,0<=c j/\c j<p)/\Hia (Cw p (ap d low a c Aw) T)/\Hia (∀j,a<=j->j<ml.length+1->c j=0)/\Ex w wr) (fun i' _ _ _=>(intOf i'+1).toNat)
 case atStart=>exact⟨ml.length+1,Mo ml,ac,ac,by go_num,bM,aY,bO,aJ,aZ⟩
 case round=>
  clear bM bO aJ aZ;obtain⟨a,c,bJ,ha2,rfl,aA,aP,hT,hz,hx⟩:=hrel;by_cases hai:d<a
  .obtain⟨b,rfl⟩:∃b,a=b+1:=⟨a-1,ac⟩;have eb:(((b+1:Nat)):Int)-1=b:=by omega
   rw[eb];have aO:d<=b:=ac;have hdb':(d:Int)<=(b:Int):=ac;have bI:b<ml.length+1:=ac;have aN:wr.cell? (g,b)=some (.int .i64 (c b)):=aA.o.cell bI;clear eb hai;obtain⟨wo,rfl⟩:∃wo:World,wo=wr:=⟨_,rfl⟩;have bL:=Aa (aU.o b c);go_wp2_with fail
   clear aN
   go_loopw [11] (fun j' wr=>∃(j:Nat) (c':Nat->Int),j<=d/\j'= .int .i64 j/\Hia (Bb wr w.heap.size 3 g (ml.length+1) cap (iv c'))/\Hia (∀j,0<=c' j/\c' j<p)/\Hia (RdE p d low b j c c')/\Hia (∀l,b<=l->c' l=c l)/\Ex w wr) (fun j' _=>d-(intOf j').toNat)
   case atStart=>exact⟨0,c,ac,rfl,aA,aP,bL,Aa (fun l _=>rfl),hx⟩
   case round=>
    clear aA hx bL;obtain⟨j,c',hj,rfl,aA,aE,bB,aL,hx⟩:=hrel;by_cases hlj:j<d
    .have hlw:=hx.cell (L4.o j hlj);have aG:=Aa (aV.o b j c' c aO hlj bB.o (aL.o b (ζ _)));have bT:b-d+j<ml.length+1:=by omega
     have bS:b-d+j<b:=ac;have hvj:wr.cell? (g,b-d+j)=some (.int .i64 (c' (b-d+j))):=aA.o.cell bT;have bR:=aA.o.frz (b-d+j);have aH:=aL.o b (ζ _);rw[aH]at aG;obtain⟨u1,u2⟩:=aP.o b;obtain⟨v1,v2⟩:=aE.o (b-d+j);obtain⟨q1,q2⟩:=cC.o j;obtain⟨D,hD⟩:=nA ((c' (b-d+j)+((p:Int)-c b)*low j)%(p:Int));have bV:0<=D/\D<p:=bu;rw[hD]at aG;have aT:=Aa (aA.o.set (b-d+j) (.int .i64 D));have aS:=Aa (aA.o.exSet (ζ _) hx (b-d+j) (.int .i64 D));have aX:Hia (∀l,0<=Ay c' (b-d+j) D l/\Ay c' (b-d+j) D l<p):=Aa (fun l=>by
      unfold Ay;split
      .exact bV
      .exact aE.o l)
     have cD:Hia (∀l,b<=l->Ay c' (b-d+j) D l=c l):=Aa (fun l hl=>by rw[Ac _ _ ac];exact aL.o l hl);generalize low j=lj at *;generalize c b=cb at *;have e3:0<=((p:Int)-cb)*lj:=δd ac q1;have e4:((p:Int)-cb)*lj<=65536:=by
      have:=δv (show(p:Int)-cb<=256 by omega) (show lj<=256 by omega) q1 ac;omega
     have i1:IntKind.i64.wrap ((b:Int)-d)=(b:Int)-d:=ρ _ ac;have i2:IntKind.i64.wrap ((b:Int)-d+j)=(b:Int)-d+j:=ρ _ ac;have i3:IntKind.i64.wrap ((p:Int)-cb)=(p:Int)-cb:=ρ _ ac;have i4:IntKind.i64.wrap (((p:Int)-cb)*lj)=((p:Int)-cb)*lj:=ρ _ ac;have i5:IntKind.i64.wrap (c' (b-d+j)+((p:Int)-cb)*lj)=c' (b-d+j)+((p:Int)-cb)*lj:=ρ _ ac;have i6:(c' (b-d+j)+((p:Int)-cb)*lj).tmod (p:Int)=D:=dv;have i7:((b:Int)-d+j).toNat=b-d+j:=ac;have i8:0<=(b:Int)-d+j:=ac;have i9:(b:Int)-d+j<(ml.length:Int)+1:=ac;have p0:¬p=0:=ac;clear hD bS aH;go_wp2_with fail
     go_still_tail 26,ah
     change wpList _ _ _ _ _ wr.drew
     go_wp2_with fail
     go_roundw
     case rel=>exact⟨j+1,Ay c' (b-d+j) D,ac,by go_num,Aa (by have:=aT.o.drew;rwa[CF]at this),aX,aG,cD,aS.o.drew⟩
     case measure=>exact Ωm
    .obtain rfl:j=d:=by omega
     have bY:=Aa (aW.o b c' c _ aO hT.o bB.o);have bR:=aA.o.frz b;have hvb:=aA.o.cell bI;have aT:=Aa (aA.o.set b (.int .i64 0));have aS:=Aa (aA.o.exSet (ζ _) hx b (.int .i64 0));have aX:Hia (∀l,0<=Ay c' b 0 l/\Ay c' b 0 l<p):=Aa (fun l=>by
      unfold Ay;split
      .omega
      .exact aE.o l)
     have bX:Hia (Cw p (ap j low b (Ay c' b 0) Aw) T):=Aa (by
      have e:=bW.o b c' 0;show Cw p (ap j low b (Ih c' b 0) Aw) T
      rw[e];exact bY.o)
     have HZ:Hia (∀l,b<=l->l<ml.length+1->Ay c' b 0 l=0):=Aa (fun l h1 h2=>by
      by_cases e:l=b
      .subst e;exact Ab _ _ _
      .rw[Ac _ _ e,aL.o l h1];exact hz.o l ac h2)
     go_wp2_with fail
     go_roundw
     case rel=>exact⟨b,Ay c' b 0,aO,ac,rfl,Aa (by have:=aT.o;rwa[CF]at this),aX,bX,HZ,aS.o⟩
     case measure=>simp[intOf]
  .obtain rfl:a=d:=by omega
   have aK:=Aa (bP.o c aP.o hT.o);go_wp2_with fail
   go_loopw [12] (fun i' wr=>∃i:Nat,i<=ml.length+1/\i'= .int .i64 i/\Hia (∀j,j<i->c j=0)/\Hia (Bb wr w.heap.size 3 g (ml.length+1) cap (iv c))/\Ex w wr) (fun i' _=>ml.length+1-(intOf i').toNat)
   case atStart=>exact⟨0,ac,rfl,Aa (fun j h=>ac),aA,hx⟩
   case round=>
    clear aA hx;obtain⟨i,hi,rfl,aI,aA,hx⟩:=hrel;by_cases hlt:i<ml.length+1
    .have bA:wr.cell? (g,i)=some (.int .i64 (c i)):=aA.o.cell hlt;by_cases h0:c i=0
     .have hvi':wr.cell? (g,i)=some (.int .i64 0):=by rw[bA,h0]
      have HA:Hia (∀j,j<i+1->c j=0):=Aa (fun j hj=>by
       by_cases e:j=i
       .subst e;exact h0
       .exact aI.o j ac)
      clear bA h0;go_wp2_with fail
      go_roundw
      case rel=>exact⟨i+1,ac,by go_num,HA,aA,hx⟩
      case measure=>exact Ωm
     .have hb:((c i)==0)=false:=by simpa using h0
      have bU:i<a:=by
       rcases ζq i a with e|e
       .exact e
       .exact absurd (hz.o i e hlt) h0
      have HF:=Aa (show QJ p a low ml=false by
       rw[aK.o,ζt];exact⟨i,κ.2 bU,by simpa using h0⟩)
      clear h0;generalize c i=ci at *;exact zdc
    .have HF:=Aa (show QJ p a low ml=true by
      rw[aK.o,υ];intro j hj;have:=aI.o j (by have:=κ.1 hj;omega);simp[this])
     exact zdc
def YG(p:Nat)(ml:List Int):Bool:=(ξ (ml.length/2)).all fun d=>(ξ (p^(d+1))).all fun v=> !QJ p (d+1) (AO p (d+1) v) ml
theorem Xk{p:Nat}{ml:List Int}{d v:Nat}(h1:2*(d+1)<=ml.length)(h2:v<p^(d+1))(h3:QJ p (d+1) (AO p (d+1) v) ml=true):YG p ml=false:=by
 unfold YG;rw[ζt];refine⟨d,κ.2 ac,?_⟩;rw[Bool.not_eq_true,ζt];exact⟨v,κ.2 h2,by simp[h3]⟩
theorem TH{p:Nat}{ml:List Int}(h:∀d v,2*(d+1)<=ml.length->v<p^(d+1)->QJ p (d+1) (AO p (d+1) v) ml=false):YG p ml=true:=by
 unfold YG;rw[υ];intro d hd;rw[υ];intro v hv;rw[h d v (by have:=κ.1 hd;omega) (κ.1 hv)];rfl
theorem JU(p:Nat)(ml:List Int)(mv:Value)(w:World)(hp:2<=p)(aO:p<=256)(aP:ml.length<=8)(hq:p^ml.length<=256)(aG:Ak w mv ml)(aM:∀x∈ml,0<=x/\x<p):
  Calls Tryz.prog 119 #[mv,p] w fun r w'=>r= .returned (.bool (YG p ml))/\Ex w w':=by
 obtain⟨aV,aW,aU,aI,aN,aT⟩:=Ty aG (fun d v lv w' h1 h2 h3 h4=>QN p d (AO p d v) ml lv mv w' hp aO h1 h2 aP h3 (DF ac d v) h4 aM) (fun d v h1 h2 h3=>Xk (p:=p) (ml:=ml) (d:=d) (v:=v) h1 h2 h3) (fun h=>TH (p:=p) (ml:=ml) h) (show ∀d,d<=ml.length->p^d<=256 from fun d hd=>Nat.le_trans (Nat.pow_le_pow_right ac hd) hq) (fun d=>Nat.pow_succ p d);obtain⟨ma,mc,rfl,m1,m2,m3⟩:=aG.open;unfold maxLen at m2;clear aG aM m3 hq;go_enter Tryz.func119,Tryz.ntmps119
 go_wp2_with fail
 go_loopw [5,6,7] (fun c' d' _ wr=>∃d:Nat,2*d<=ml.length/\d'= .int .i64 ((d:Int)+1)/\c'= .int .i64 ((p^d:Nat):Int)/\Hia (∀e v,e<d->v<p^(e+1)->QJ p (e+1) (AO p (e+1) v) ml=false)/\Ex w wr) (fun _ d' _ _=>10-(intOf d').toNat)
 case atStart=>exact⟨0,ac,rfl,ag,Aa (fun e v h=>ac),Ex.refl _⟩
 case round=>
  obtain⟨d,hd,rfl,rfl,aD,hx⟩:=hrel;have hpd:=aN.o d ac;have hpp:1<=p^d:=ϕ ac;have aK:=Aa (aT.o d);by_cases hlt:2*(d+1)<=ml.length
  .have aC:=aN.o (d+1) ac;rw[aK.o]at aC;have aA:((p^d:Nat):Int)*(p:Int)=((p^d*p:Nat):Int):=by simp
   have hm1:0<=((p^d:Nat):Int)*(p:Int):=by rw[aA];omega
   have hm2:((p^d:Nat):Int)*(p:Int)<=256:=by rw[aA];omega
   obtain⟨n,hn⟩:=nA (p^d*p);rw[hn]at aA aC;have HC:=Aa aA;have aQ:2*((d:Int)+1)<=(ml.length:Int):=ac;have aJ:=Aa (show p^(d+1)=n by rw[aK.o,hn]);clear aA hn aK;generalize p^d=pd at *;obtain⟨wo,rfl⟩:∃wo:World,wo=wr:=⟨_,rfl⟩;go_wp2_with fail
   rw[HC.o]
   go_loopw [7] (fun v' wr=>∃v:Nat,v<=n/\v'= .int .i64 v/\Hia (∀u,u<v->QJ p (d+1) (AO p (d+1) u) ml=false)/\Ex w wr) (fun v' _=>n-(intOf v').toNat)
   case atStart=>exact⟨0,ac,rfl,Aa (fun u h=>ac),hx⟩
   case round=>
    clear hx;obtain⟨v,hv,rfl,aE,hx⟩:=hrel;by_cases hlv:v<n
    .have aS:=Aa (fun w'=>by
      have h:=JI v p (d+1) w' ac ac ac ac;rw[show((d+1:Nat):Int)=(d:Int)+1 by omega]at h;exact h)
     have aH:(v:Int)<(n:Int):=ac;go_wp2_with fail
     (with_reducible refine(aS.o _).mono ?_)
     rintro e w2⟨lv,rfl,⟨g,rfl,hg1,aR⟩,aF⟩;go_wp2_with fail
     refine(aW.o (d+1) v _ _ ac ac aR.isl (aV.o.ex (hx.trans aF))).mono ?_;rintro e w3⟨rfl,aL⟩;by_cases hdv:QJ p (d+1) (AO p (d+1) v) ml=true
     .have HF:=Aa (aU.o d v hlt (by rw[aJ.o];exact hlv) hdv);rw[hdv];clear hdv;go_wp2_with fail
      go_ret;exact⟨Aq HF.o.symm,(hx.trans aF).trans aL⟩
     .have aB:QJ p (d+1) (AO p (d+1) v) ml=false:=by simpa using hdv
      rw[aB];have HA:Hia (∀u,u<v+1->QJ p (d+1) (AO p (d+1) u) ml=false):=Aa (fun u hu=>by
       by_cases e:u=v
       .subst e;exact aB
       .exact aE.o u ac)
      clear hdv aB;go_wp2_with fail
      go_roundw
      case rel=>exact⟨v+1,ac,by go_num,HA,(hx.trans aF).trans aL⟩
      case measure=>exact Ωm
    .have aH:(n:Int)<=(v:Int):=by omega
     have HA:Hia (∀e u,e<d+1->u<p^(e+1)->QJ p (e+1) (AO p (e+1) u) ml=false):=Aa (fun e u he hu=>by
      by_cases h:e=d
      .subst h;exact aE.o u (by rw[aJ.o]at hu;omega)
      .exact aD.o e u ac hu)
     go_wp2_with fail
     go_roundw
     case rel=>exact⟨d+1,hlt,by go_num,by rw[aJ.o],HA,hx⟩
     case measure=>exact Ωm
  .have HF:=Aa (aI.o fun e v h1 h2=>aD.o e v ac h2);have aQ:¬2*((d:Int)+1)<=(ml.length:Int):=by omega
   generalize p^d=pd at *;exact zdc
def Cm(p m:Int)(ml:List Int):Int:=if (Ky p m ml&&(decide (m=1)||YG p.toNat ml))=true then 0 else 1
theorem Uj{p m:Int}{ml:List Int}(h:Ky p m ml=false):Cm p m ml=1:=by unfold Cm;rw[h];rfl
theorem zbh{P:Prop}(h:P:=by
 go_enter Tryz.func59,Tryz.ntmps59
 have d0:=D0.o;have d1:=D1.o;have d2:=D2.o;go_wp2_with fail
 generalize w.alloc (.cells #[pn,mn,(ma,ml.length,mc)] 24)=w1 at *;clear D0 D1 D2;refine(aH.o _).mono ?_;rintro e w2⟨rfl,aA⟩;have r0:=aA.cell d0;have r1:=aA.cell d1;have r2:=aA.cell d2;go_wp2_with fail
 refine(aJ.o _).mono ?_;rintro e w3⟨rfl,rfl⟩;go_wp2_with fail
 go_ret;exact⟨Ai HC.o.symm,e0.trans aA⟩):P:=h
theorem zb5{P:Prop}(h:P:=by
 go_wp2_with fail
 go_quiet (fail)
 go_wp2_with fail
 go_ret;exact⟨Ai HF.o.symm,e0.trans (hx.drewN _)⟩):P:=h
theorem zcT{P:Prop}(h:P:=by
 go_wp2_with fail
 go_ret;exact⟨Ai HC.o.symm,(e0.trans hx).trans aS⟩):P:=h
theorem KQ(p m:Int)(ml:List Int)(mv:Value)(w:World)(aN:Ak w mv ml):
  Calls Tryz.prog 59 #[.agg #[p,m,mv]] w fun r w'=>r= .returned (.int .i64 (Cm p m ml))/\Ex w w':=by
 obtain⟨d0,d1,d2,e0,_⟩:=AA w p m mv;have aR:Hia (Ky p m ml=(decide (CJ p m≠0)&&(I6 p.toNat&&if m=1 then ml.length==0 else ml.length==m.toNat&&ml.all fun x=>decide (0<=x)&&decide (x<p)))):=Aa (rfl);have aZ:=Aa aN;obtain⟨ma,mc,rfl,m1,m2,m3⟩:=(aN.ex e0).open;have M3:=Aa m3;have Dy:=fun w=>Dp p m (.slice ma ml.length mc) w;have aC:=Aa (fun h=>Uj (p:=p) (m:=m) (ml:=ml) h);unfold maxLen at m2;clear aN m3;have D0:=Aa d0;have D1:=Aa d1;have D2:=Aa d2;clear d0 d1 d2;by_cases ho:CJ p m=0
 .have HC:=Aa (aC.o (by rw[aR.o,ho];rfl));rw[ho]at Dy;have aH:=Aa Dy;clear ho Dy;go_enter Tryz.func59,Tryz.ntmps59
  have d0:=D0.o;have d1:=D1.o;have d2:=D2.o;go_wp2_with fail
  generalize w.alloc (.cells #[p,m,.slice ma ml.length mc] 24)=w1 at *;clear D0 D1 D2;refine(aH.o _).mono ?_;rintro e w2⟨rfl,aA⟩;have r0:=aA.cell d0;have r1:=aA.cell d1;have r2:=aA.cell d2;go_wp2_with fail
  go_ret;exact⟨Ai HC.o.symm,e0.trans aA⟩
 .obtain⟨pn,mn,rfl,rfl,p2,q1,q8,qq,aT⟩:=Ob ho;have hpw:1<=pn^mn:=ϕ ac;have aE:pn<=256:=by
   exact zcn
  have hb0:(((pn^mn:Nat):Int)==0)=false:=by rw[beq_eq_false_iff_ne];omega
  have aB:=Aa (show Ky pn mn ml=(I6 pn&&if (mn:Int)=1 then ml.length==0 else ml.length==mn&&ml.all fun x=>decide (0<=x)&&decide (x<pn)) by
   rw[aR.o,decide_eq_true ho];simp)
  have aI:=fun w=>Ru pn w p2 aE;have HQQ:=Aa qq;have aY:Hia (∀n,n=mn->pn^n<=256):=Aa (fun n h=>by rw[h];exact qq);rw[aT]at Dy;have aH:=Aa Dy;clear Dy;generalize pn^mn=qn at *;clear ho aT aR;by_cases hpr:I6 pn=true
  .rw[hpr]at aB aI;have aJ:=Aa aI;clear aI hpr;by_cases hm1:mn=1
   .have aO:((mn:Int)==1)=true:=by simp;omega
    by_cases hl:ml.length=0
    .have HC:=Aa (show Cm pn mn ml=0 by
      unfold Cm;rw[aB.o,if_pos (show(mn:Int)=1 by omega),hl,decide_eq_true (show(mn:Int)=1 by omega)];rfl)
     have aX:((ml.length:Int) !=0)=false:=by rw[bne_eq_false_iff_eq];omega
     have aQ:((ml.length:Int)==0)=true:=by rw[beq_iff_eq];omega
     clear hm1 aB hl;exact zbh
    .have HC:=Aa (aC.o (by rw[aB.o,if_pos (show(mn:Int)=1 by omega),θe,beq_eq_false_iff_ne];exact hl));have aX:((ml.length:Int) !=0)=true:=by rw[bne_iff_ne];omega
     have aQ:((ml.length:Int)==0)=false:=by rw[beq_eq_false_iff_ne];omega
     clear hm1 aB hl;exact zbh
   .have aO:((mn:Int)==1)=false:=by simp;omega
    have HR:=Aa (show Ky pn mn ml=(ml.length==mn&&ml.all fun x=>decide (0<=x)&&decide (x<pn)) by rw[aB.o,if_neg ac,θe]);have bA:=Aa hm1;clear hm1 aB;by_cases hlen:ml.length=mn
    .have aW:((ml.length:Int)==(mn:Int))=true:=by rw[beq_iff_eq];omega
     have aV:((ml.length:Int) !=(mn:Int))=false:=by rw[bne_eq_false_iff_eq];omega
     have aU:=Aa (show Ky pn mn ml=ml.all fun x=>decide (0<=x)&&decide (x<pn) by rw[HR.o,show(ml.length==mn)=true by simp[hlen],θe]);have aD:=Aa hlen;clear hlen HR;go_enter Tryz.func59,Tryz.ntmps59
     have d0:=D0.o;have d1:=D1.o;have d2:=D2.o;go_wp2_with fail
     generalize w.alloc (.cells #[pn,mn,.slice ma ml.length mc] 24)=w1 at *;clear D0 D1 D2;refine(aH.o _).mono ?_;rintro e w2⟨rfl,aA⟩;have r0:=aA.cell d0;have r1:=aA.cell d1;have r2:=aA.cell d2;go_wp2_with fail
     refine(aJ.o _).mono ?_;rintro e w3⟨rfl,rfl⟩;go_wp2_with fail
     clear r0 r1 r2
     go_loopw [3] (fun j' wr=>∃j:Nat,j<=ml.length/\j'= .int .i64 j/\Hia (∀i y,i<j->ml[i]?=some y->0<=y/\y<pn)/\Ex w1 wr) (fun j' _=>ml.length-(intOf j').toNat)
     case atStart=>exact⟨0,ac,rfl,Aa (fun i y h=>ac),aA⟩
     case round=>
      clear aA;obtain⟨j,hj,rfl,aM,hx⟩:=hrel;have r0:=hx.cell d0;have r1:=hx.cell d1;have r2:=hx.cell d2;by_cases hlt:j<ml.length
      .obtain⟨y,hy⟩:∃y,ml[j]?=some y:=⟨_,γ hlt⟩;obtain⟨b,o,rfl,hc⟩:=M3.o ac;have c1:=hx.cell (hc j y hy);have aP:(j:Int)<(mn:Int):=by have:=aD.o;omega
       by_cases hy0:0<=y/\y<pn
       .have HA:Hia (∀i z,i<j+1->ml[i]?=some z->0<=z/\z<pn):=Aa (fun i z hi hz=>by
         by_cases e:i=j
         .subst e;rw[hy]at hz;injection hz with hz;subst hz;exact hy0
         .exact aM.o i z ac hz)
        obtain⟨y0,y1⟩:=hy0;have b1:decide (y<0)=false:=by simpa using y0
        have b2:decide ((pn:Int)<=y)=false:=by simpa using y1
        clear hc hy;go_wp2_with fail
        go_quiet (fail)
        go_wp2_with fail
        go_roundw
        case rel=>exact⟨j+1,ac,by go_num,HA,hx.drewN _⟩
        case measure=>exact Ωm
       .have HF:=Aa (aC.o (by
         rw[aU.o,ζt];refine⟨y,ι hy,?_⟩;simpa using hy0))
        have aK:y<0∨(0<=y/\(pn:Int)<=y):=ac;clear hc hy hy0;rcases aK with aK|⟨aK,hy2⟩
        .have b1:decide (y<0)=true:=by simpa using aK
         exact zb5
        .have b1:decide (y<0)=false:=by simpa using aK
         have b2:decide ((pn:Int)<=y)=true:=by simpa using hy2
         exact zb5
      .obtain rfl:j=ml.length:=by omega
       have aG:∀y∈ml,0<=y/\y<pn:=fun y hy=>by
        obtain⟨i,hi,e⟩:=List.getElem_of_mem hy;exact aM.o i y hi au
       have HT:=Aa (show Cm pn mn ml=if YG pn ml=true then 0 else 1 by
        unfold Cm;rw[aU.o,show(ml.all fun x=>decide (0<=x)&&decide (x<(pn:Int)))=true by
         rw[υ];intro y hy;simp[aG y hy],decide_eq_false (show ¬(mn:Int)=1 by have:=bA.o;omega)]
        simp)
       have bB:=Aa (fun (w':World) (h:Ak w' (.slice ma ml.length mc) ml)=>JU pn ml (.slice ma ml.length mc) w' p2 aE (by have:=aD.o;omega) (aY.o _ aD.o) h aG);have aP:¬((ml.length:Int)<(mn:Int)):=by have:=aD.o;omega
       clear aG;go_wp2_with fail
       refine(bB.o _ (aZ.o.ex (e0.trans hx))).mono ?_;rintro e w4⟨rfl,aS⟩;by_cases hir:YG pn ml=true
       .have HC:=Aa (show Cm pn mn ml=0 by rw[HT.o,if_pos hir]);rw[hir];clear hir;exact zcT
       .have HC:=Aa (show Cm pn mn ml=1 by rw[HT.o,if_neg hir]);have aL:YG pn ml=false:=by simpa using hir
        rw[aL];clear hir aL;exact zcT
    .have aW:((ml.length:Int)==(mn:Int))=false:=by rw[beq_eq_false_iff_ne];omega
     have aV:((ml.length:Int) !=(mn:Int))=true:=by rw[bne_iff_ne];omega
     have HC:=Aa (aC.o (by rw[HR.o,show(ml.length==mn)=false by simp[hlen],Bool.false_and]));clear hlen HR;exact zbh
  .have aF:I6 pn=false:=by simpa using hpr
   have HC:=Aa (aC.o (by rw[aB.o,aF];rfl));rw[aF]at aI;have aJ:=Aa aI;clear aI hpr aF aB;exact zbh
end Go.Proofs.YtehieobniamagaaGreat
