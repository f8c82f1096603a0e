/- Fw with what an operation finds in its slots. -/
import Derived.Shelf.Sort.Plain
import Derived.Test.YtehieobniamagaaGreatProg
import Derived.Test.YtehieobniamagaaGreatZd09
namespace Go.Proofs.YtehieobniamagaaGreat
open Go.RowKit
set_option linter.all false
set_option maxRecDepth 100000
set_option maxHeartbeats 8000000
def lkA(l:List Oper)(pv:Nat->Value)(a0:Act)(m ib ia:Nat)(o:Oper)(t:Nat):Option Value:=match VG l 0 t with
 | some j=>if (decide (j<m)&&j !=ib&&j !=ia&&(o.after.toList.any fun e=>e.on==j&&Region.binds .any e))=true then some (pv j) else none
 | none=>a0.tmps[t]?
section
variable {P:Program} {Q:Exit->Act->World->Prop} {a0:Act} {l:List Oper} {pv:Nat->Value} {wr:World} {ib ia fa m i:Nat} {o:Oper}
theorem Sz{L:Nat->Bool}{a:Act}(aB:∀k t o',L k=true->k<m->k≠ib->k≠ia->l[k]?=some o'->o'.dst=some t->a.tmps[t]?=some (pv k))(aA:∀t,(l.all fun o=>o.dst !=some t)=true->a.tmps[t]?=a0.tmps[t]?)(hd:∀e∈o.after,Region.binds .any e=true->L e.on=true):
  ∀t v,lkA l pv a0 m ib ia o t=some v->a.tmps[t]?=some v:=fun t v hv=>by
 unfold lkA at hv
 cases hj:VG l 0 t with
 | none=>rw[hj]at hv;rw[aA t (Hv l 0 t hj)];exact hv
 | some j=>
  rw[hj]at hv;obtain⟨o',_,h2,h3⟩:=Hu l 0 t j hj;simp only at hv;split at hv
  .rename_i h4;injection hv with hv;simp only[Bool.and_eq_true,decide_eq_true_eq,bne_iff_ne,ne_eq]at h4;obtain⟨e,he,h5⟩:=List.any_eq_true.1 h4.2;have he:=Array.mem_toList_iff.1 he;rw[Bool.and_eq_true,beq_iff_eq]at h5;have hL:=hd e he h5.2;rw[h5.1]at hL;rw[<-hv];exact aB j t o' hL h4.1.1.1 h4.1.1.2 h4.1.2 h2 h3
  .cases hv
theorem Ik.go(hi:¬i=fa/\¬(i=m∨i=ia)/\¬i=ib)(h:∀(a:Act) (w:World),(∀t v,lkA l pv a0 m ib ia o t=some v->a.tmps[t]?=some v)->Ex wr w->∀K:Act->World->Prop,(∀w',Ex w w'->K (a.put o.dst (pv i)) w')->o.wp P a w K Q):Ik P Q l a0 pv wr ib ia fa m i o:=by
 intro L a w aB aA hd K;rw[if_neg hi.1,if_neg hi.2.1,if_neg hi.2.2];intro hx hK;exact h a w (Sz aB aA hd) hx K hK
theorem Ik.gf(hi:i=fa)(h:∀(a:Act) (w:World),(∀t v,lkA l pv a0 m ib ia o t=some v->a.tmps[t]?=some v)->∀K:Act->World->Prop,K (a.put o.dst (pv i)) w->o.wp P a w K Q):Ik P Q l a0 pv wr ib ia fa m i o:=by
 intro L a w aB aA hd K;rw[if_pos hi];intro hK;exact h a w (Sz aB aA hd) K hK
theorem Ik.sk(hi:¬i=fa/\(i=m∨i=ia∨i=ib)):Ik P Q l a0 pv wr ib ia fa m i o:=by
 intro L a w hin hout hd K;rw[if_neg hi.1];by_cases h:i=m∨i=ia
 .rw[if_pos h];trivial
 .have hb:i=ib:=by
   rcases hi.2 with e|e|e
   .exact absurd (.inl e) h
   .exact absurd (.inr e) h
   .exact e
  rw[if_neg h,if_pos hb];intro _;trivial
end
def lkF(l:List Oper)(pv:Nat->Value)(a0:Act)(m ia:Nat)(o:Oper)(t:Nat):Option Value:=match VG l 0 t with
 | some j=>if (decide (j<m)&&j !=ia&&(o.after.toList.any fun e=>e.on==j&&Region.binds .any e))=true then some (pv j) else none
 | none=>a0.tmps[t]?
section
variable {P:Program} {Q:Exit->Act->World->Prop} {a0:Act} {l:List Oper} {pv:Nat->Value} {wr:World} {ia m i:Nat} {o:Oper} {A Fin:Value->World->Prop}
theorem NC{L:Nat->Bool}{a:Act}(aB:∀k t o',L k=true->k<m->k≠ia->l[k]?=some o'->o'.dst=some t->a.tmps[t]?=some (pv k))(aA:∀t,(l.all fun o=>o.dst !=some t)=true->a.tmps[t]?=a0.tmps[t]?)(hd:∀e∈o.after,Region.binds .any e=true->L e.on=true):
  ∀t v,lkF l pv a0 m ia o t=some v->a.tmps[t]?=some v:=fun t v hv=>by
 unfold lkF at hv
 cases hj:VG l 0 t with
 | none=>rw[hj]at hv;rw[aA t (Hv l 0 t hj)];exact hv
 | some j=>
  rw[hj]at hv;obtain⟨o',_,h2,h3⟩:=Hu l 0 t j hj;simp only at hv;split at hv
  .rename_i h4;injection hv with hv;simp only[Bool.and_eq_true,decide_eq_true_eq,bne_iff_ne,ne_eq]at h4;obtain⟨e,he,h5⟩:=List.any_eq_true.1 h4.2;have he:=Array.mem_toList_iff.1 he;rw[Bool.and_eq_true,beq_iff_eq]at h5;have hL:=hd e he h5.2;rw[h5.1]at hL;rw[<-hv];exact aB j t o' hL h4.1.1 h4.1.2 h2 h3
  .cases hv
theorem Ij.go(hi:¬i=ia/\¬i=m)(h:∀(a:Act) (w:World),(∀t v,lkF l pv a0 m ia o t=some v->a.tmps[t]?=some v)->Ex wr w->∀K:Act->World->Prop,(∀w',Ex w w'->K (a.put o.dst (pv i)) w')->o.wp P a w K Q):Ij P Q l a0 pv wr A Fin ia m i o:=by
 intro L a w aB aA hd hx K;rw[if_neg hi.1,if_neg hi.2];exact h a w (NC aB aA hd) hx K
theorem Ij.ap(hi:i=ia)(h:∀(a:Act) (w:World),(∀t v,lkF l pv a0 m ia o t=some v->a.tmps[t]?=some v)->Ex wr w->∀K:Act->World->Prop,(∀v w',Ex w w'->A v w'->K (a.put o.dst v) w')->o.wp P a w K Q):Ij P Q l a0 pv wr A Fin ia m i o:=by
 intro L a w aB aA hd hx K;rw[if_pos hi];exact h a w (NC aB aA hd) hx K
theorem Ij.st(hi:¬i=ia/\i=m)(h:∀(a:Act) (w:World),(∀t v,lkF l pv a0 m ia o t=some v->a.tmps[t]?=some v)->Ex wr w->∀(K:Act->World->Prop) (v:Value),A v w->(∀t oa,l[ia]?=some oa->oa.dst=some t->a.tmps[t]?=some v)->(∀w',Fin v w'->K (a.put o.dst undef) w')->o.wp P a w K Q):Ij P Q l a0 pv wr A Fin ia m i o:=by
 intro L a w aB aA hd hx K;rw[if_neg hi.1,if_pos hi.2];intro v;exact h a w (NC aB aA hd) hx K v
end
theorem zbi{P:Prop}(h:P:=by
 go_wp2_with (go_at_call 150;refine aB.o.mono ?_;rintro e w3⟨rfl,aA⟩;have aC:=Aa (HX.o.trans aA);have a1:=aA.cell a1;have b1:=aA.cell b1;have b2:=aA.cell b2;clear aA)
 go_ret2;exact⟨EZ (by decide) (some ⟨b,0,none⟩) _,aC.o⟩):P:=h
theorem zcP{P:Prop}(h:P:=by
 go_wp2_with fail
 go_ret2;exact⟨EZ (by decide) none _,HX.o⟩):P:=h
theorem zcv{P:Prop}(h:P:=by
 clear hn1 h1;exact zcP):P:=h
theorem MH(w:World)(p m:Int)(ml:List Int)(mv:Value)(aH:Am w mv ml)(n:Int)(pl sl:List Int)(pv sv:Value)(hp:Am w pv pl)(hs:Am w sv sl)(fr:Int):
  Calls Tryz.prog 91 #[.agg #[.int .i64 p,.int .i64 m,mv],.int .i64 n,.agg #[pv,sv,.int .i64 fr]] w fun r w'=>OpnR p m ml (Ey p m ml n pl sl fr) r w'/\Ex w w':=by
 obtain⟨a0,a1,a2,ea⟩:=He w p m mv;obtain⟨b0,b1,b2,eb⟩:=Bo (w.alloc (.cells #[.int .i64 p,.int .i64 m,mv] 24)) pv sv fr;have a0:=eb.cell a0;have a1:=eb.cell a1;have a2:=eb.cell a2;have aI:(w.alloc (.cells #[.int .i64 p,.int .i64 m,mv] 24)).heap.size=w.heap.size+1:=ag;rw[aI]at b0 b1 b2;have HE:=Aa (ea.trans eb);have aM:=Aa (FM p m ml mv _ (aH.ex HE.o));have aO:=Aa (fun w1 (hx:Ex w w1)=>GP w1 pl pv n (hp.ex hx));have aR:=Aa (fun w1 (hx:Ex w w1) (b pn mn x0:Nat) (hg:A9 w1 b pn mn ml x0)=>Jo w1 hg sl sv (hs.ex hx));obtain⟨ma,mc,rfl,_,_,_⟩:=aH.open;obtain⟨pa,pc,rfl,_,p2,_⟩:=hp.open;obtain⟨sa,sc,rfl,_,s2,_⟩:=hs.open;unfold maxLen at p2 s2;obtain⟨E,hE⟩:=nA (Ey p m ml n pl sl fr);have hM:=hE;unfold Ey at hM;rw[hE];clear aH hp hs hE aI ea eb;go_enter Tryz.func91,Tryz.ntmps91
 go_wp2_with fail
 obtain⟨q,hq⟩:=nA w.heap.size;rw[hq]at a0 a1 a2 b0 b1 b2
 try simp only[hq]
 clear hq;generalize (w.alloc (.cells #[.int .i64 p,.int .i64 m,.slice ma ml.length mc] 24)).alloc (.cells #[.slice pa pl.length pc,.slice sa sl.length sc,.int .i64 fr] 26)=w1 at *;obtain⟨A0,A1,B0,B1,B2⟩:=Of a0 a1 b0 b1 b2;clear a0 a1 a2 b0 b1 b2;refine aM.o.mono ?_;rintro e w2⟨hn,aD⟩;rcases hn with⟨pn,mn,x0,b,rfl,rfl,rfl,hg,x1,x2⟩|⟨hno,rfl⟩
 .have aF:Cp pn mn ml=0:=(Cg _ _ _).2 (hg.fldB x1 x2);rw[if_neg (by rw[aF];decide),Int.toNat_natCast,Int.toNat_natCast]at hM;have HG:=Aa hg;have HX:=Aa (HE.o.trans aD);have a1:=aD.cell A1.o;have b0:=aD.cell B0.o;have b1:=aD.cell B1.o;have b2:=aD.cell B2.o;have HX2:=Aa aD;have aJ:=Aa (show 1<=x0/\x0<pn^mn from⟨x1,x2⟩);clear aF hg aD x1 x2;by_cases hn1:n<1∨64<n
  .rw[if_pos hn1]at hM;subst hM;by_cases h1:n<1
   .have e1:decide (n<1)=true:=decide_eq_true h1;exact zcv
   .have e1:decide (n<1)=false:=decide_eq_false h1;have e2:decide (64<n)=true:=decide_eq_true ac;exact zcv
  .rw[if_neg hn1]at hM;have e1:decide (n<1)=false:=decide_eq_false ac;have e2:decide (64<n)=false:=decide_eq_false ac;by_cases hln:(pl.length:Int)≠n∨(sl.length:Int)≠n
   .rw[if_pos hln]at hM;subst hM;by_cases h1:(pl.length:Int)=n
    .have e3:((pl.length:Int) !=n)=false:=by simpa using h1
     have e4:((sl.length:Int) !=n)=true:=aq;clear hln h1 hn1;exact zcP
    .have e3:((pl.length:Int) !=n)=true:=by simpa using h1
     clear hln h1 hn1;exact zcP
   .rw[if_neg hln]at hM;have e3:((pl.length:Int) !=n)=false:=by simp;omega
    have e4:((sl.length:Int) !=n)=false:=aq;have aB:=Aa (aO.o w2 HX.o);clear hln hn1;by_cases hr:BU pl n=true
    .obtain⟨D,hD⟩:=nA (Ib pl);have aE:FE pl n=if D=true then 18 else 0:=by unfold FE;rw[if_neg (by rw[hr];decide),hD]
     rw[hD]at hM;rw[aE]at aB;by_cases hf:fr<0∨(mn:Int)<=fr
     .rw[if_pos (.inr hf)]at hM;subst hM;cases D <;> (
       first|rw[if_pos rfl]at aB|rw[if_neg ae]at aB
       by_cases h1:fr<0
       .have e5:decide (fr<0)=true:=decide_eq_true h1;clear hf h1 aE hD;exact zbi
       .have e5:decide (fr<0)=false:=decide_eq_false h1;have e6:decide ((mn:Int)<=fr)=true:=decide_eq_true ac;clear hf h1 aE hD;go_wp2_with (go_at_call 150;refine aB.o.mono ?_;rintro e w3⟨rfl,aA⟩;have aC:=Aa (HX.o.trans aA);have a1:=aA.cell a1;have b1:=aA.cell b1;have b2:=aA.cell b2;clear aA)
        go_ret2;exact⟨EZ ae (some ⟨b,0,none⟩) _,aC.o⟩)
     .rw[if_neg (by
        rintro (h|h);·rw[hr]at h;cases h
        .exact hf h)]at hM
      have e5:decide (fr<0)=false:=decide_eq_false ac;have e6:decide ((mn:Int)<=fr)=false:=decide_eq_false ac
      cases D with
      | true=>
       rw[if_pos rfl]at aB hM;subst hM;clear hf aE hD;exact zbi
      | false=>
       rw[if_neg ae]at aB hM;have aN:=Aa hM;clear hf aE hD hM;go_wp2_with (go_at_call 150;refine aB.o.mono ?_;rintro e w3⟨rfl,aA⟩;have aC:=Aa (HX.o.trans aA);have a1:=aA.cell a1;have b1:=aA.cell b1;have b2:=aA.cell b2;have aK:=Aa (HG.o.ex aA);have aQ:=Aa (aR.o w3 aC.o b pn mn x0 aK.o);clear aA)
       refine aQ.o.mono ?_;rintro e w4⟨rfl,aG⟩;have aL:=Aa (aC.o.trans aG);have aP:=Aa (aK.o.ex aG);rw[aN.o];clear aG;go_wp2_with fail
       go_ret2;refine⟨?_,aL.o⟩;by_cases h0:E=0
       .subst h0;exact .inl ⟨rfl,b,pn,mn,x0,rfl,rfl,rfl,aP.o,aJ.o.1,aJ.o.2⟩
       .exact EZ h0 (some ⟨b,0,none⟩) _
    .have hr:BU pl n=false:=by simpa using hr
     have aE:FE pl n=6:=by unfold FE;rw[if_pos hr]
     rw[aE]at aB;rw[if_pos (.inl hr)]at hM;subst hM;clear aE hr;exact zbi
 .have aF:Cp p m ml≠0:=fun h=>hno ((Cg _ _ _).1 h);rw[if_pos aF]at hM;subst hM;clear aF hno;go_wp2_with fail
  go_ret2;exact⟨EZ ae none _,HE.o.trans aD⟩
theorem zc0{P:Prop}(h:P:=by
 go_wp2_with fail
 go_ret;exact⟨rfl,HX.o⟩):P:=h
theorem Rt(w:World)(p m:Int)(ml:List Int)(mv:Value)(aB:Am w mv ml)(n:Int)(pl sl:List Int)(pv sv:Value)(hp:Am w pv pl)(hs:Am w sv sl)(fr:Int):
  Calls Tryz.prog 51 #[.agg #[.int .i64 p,.int .i64 m,mv],.int .i64 n,.agg #[pv,sv,.int .i64 fr]] w fun r w'=>r= .returned (.int .i64 (Ey p m ml n pl sl fr))/\Ex w w':=by
 obtain⟨ma,mc,rfl,_,_,_⟩:=aB.open;obtain⟨pa,pc,rfl,_,_,_⟩:=hp.open;obtain⟨sa,sc,rfl,_,_,_⟩:=hs.open;have HO:=Aa (fun w1 (hx:Ex w w1)=>MH w1 p m ml _ (aB.ex hx) n pl sl _ _ (hp.ex hx) (hs.ex hx) fr);obtain⟨E,hE⟩:=nA (Ey p m ml n pl sl fr);rw[hE]at HO ⊢;clear hE aB hp hs;go_enter Tryz.func51,Tryz.ntmps51
 go_wp2_with fail
 refine(HO.o _ (((Ex.refl w).alloc _).alloc _)).mono ?_;rintro e w2⟨hr,aA⟩;have HX:=Aa ((((Ex.refl w).alloc _).alloc _).trans aA);rcases hr with⟨rfl,b,pn,mn,x0,rfl,rfl,rfl,hg,_,_⟩|⟨h0,ptr,rfl⟩
 .clear hg aA;exact zc0
 .clear aA h0;exact zc0
def BV(pl:List Int)(i:Nat):Nat:=(pl.getD i 0).toNat
def vF(p m:Nat)(ml sl:List Int)(fr:Nat)(x:List Int)(i:Nat):Int:=
 ((Ai p m (lw ml) (Au (p^m) (sl.getD i 0)) (SV p m (lw ml) (Au (p^m) (x.getD i 0)) fr):Nat):Int)
def Lz(p m:Nat)(ml pl sl:List Int)(fr:Nat)(x:List Int)(N:Nat):Nat->Int:=plc (BV pl) (vF p m ml sl fr x) N
theorem dl{P:Prop}(h:P:=by rw[List.getD_eq_getElem?_getD,List.getElem?_eq_getElem hi];exact List.getElem_mem _):P:=h
theorem EJ{l:List Int}{n:Int}(h:BU l n=true){i:Nat}(hi:i<l.length):0<=l.getD i 0/\l.getD i 0<n:=by
 unfold BU at h;have:=List.all_eq_true.1 h (l.getD i 0) dl;simpa using this
theorem Bc{l:List Int}{i:Nat}(hi:i<l.length):l[i]?=some (l.getD i 0):=by
 exact zcR
section
variable {b p m x0:Nat} {ml:List Int}
theorem Ud(w:World)(hg:A9 w b p m ml x0)(N:Nat)(hN:N<=64)(pl sl x:List Int)(pv sv xv:Value)(hp:Am w pv pl)(hs:Am w sv sl)(hx:Am w xv x)(fr:Nat)(bF:fr<m)(aH:pl.length=N)(aG:sl.length=N)(aK:x.length=N)(hr:BU pl N=true):
  Calls Tryz.prog 92 #[.pointer (some ⟨b,0,none⟩),.agg #[pv,sv,.int .i64 fr],xv] w fun r w'=>∃g,r= .returned (.slice (some ⟨g,0,none⟩) N N)/\AG w' w.heap.size 3 g N (iv (Lz p m ml pl sl fr x N))/\Ex w w':=by
 obtain⟨b0,b1,b2,eb⟩:=Bo w pv sv fr;have p2:=hg.sh.p2;have m1:=hg.sh.m1;have bO:=Aa (fun (w1:World) (h1:Ex w w1) (y:Int)=>L8 w1 (hg.ex h1) y fr bF);have bK:=Aa (fun (w1:World) (h1:Ex w w1) (y z:Int)=>ET w1 (hg.ex h1) y z);obtain⟨pa,pc,rfl,_,q2,p3⟩:=hp.open;obtain⟨sa,sc,rfl,_,s2,s3⟩:=hs.open;obtain⟨xa,xc,rfl,_,x2,x3⟩:=hx.open;unfold maxLen at q2 s2 x2;rw[aH]at p3;rw[aG]at s3;rw[aK]at x3;rw[aH,aG,aK];rw[aH,aG]at b0 b1 eb b2;obtain⟨P3,S3,X3,bJ,bN,bM,bL,aE⟩:=On p3 s3 x3 (fun i (hi:i<N)=>EJ hr (i:=i) ac) (fun i (hi:i<N)=>Bc (l:=pl) (i:=i) ac) (fun i (hi:i<N)=>Bc (l:=sl) (i:=i) ac) (fun i (hi:i<N)=>Bc (l:=x) (i:=i) ac) eb;clear hg hp hs hx p3 s3 x3 eb aH aG aK hr;go_enter Tryz.func92,Tryz.ntmps92
 go_wp2_with (at_make;refine Aq _ rfl _ _ 22 rfl 3 (.int .i64 0) 8 Tryz.underlying22 AA rfl _ N rfl rfl rfl ac ai ?_)
 obtain⟨B,hB⟩:=nA w.heap.size;rw[hB]at b0 b1 b2
 try simp only[hB]
 have bQ:=Aa hB;have aT:(w.alloc (.cells #[.slice pa N pc,.slice sa N sc,.int .i64 fr] 26)).heap.size=B+1:=by simp[hB]
 clear hB;generalize w.alloc (.cells #[.slice pa N pc,.slice sa N sc,.int .i64 fr] 26)=w1 at *;intro w3 aA aR;have B0:=Aa b0;have B1:=Aa b1;have B2:=Aa b2;obtain⟨g,aI⟩:=nA (B+1);have aX:=Aa (show AG w3 g 3 g N (iv (plc (BV pl) (vF p m ml sl fr x) 0)) from by rw[<-aI];exact aA)
 try simp only[aI]
 have bH:=Aa aR;have aZ:=Aa (show w1.heap.size=g from by rw[<-aI,<-aT]);clear aA aR b0 b1 b2 aI aT;go_wp2_with fail
 go_loopw [15] (fun i' wr=>∃(i:Nat),i<=N/\i'= .int .i64 i/\Hia (AG wr g 3 g N (iv (plc (BV pl) (vF p m ml sl fr x) i)))/\Hia (Ex w1 wr)) (fun i' _=>N-(intOf i').toNat)
 case atStart=>exact⟨0,ac,rfl,aX,bH⟩
 case round=>
  clear aX;obtain⟨i,hi,rfl,aA,aB⟩:=hrel;by_cases hin:i<N
  .obtain⟨pb,po,rfl,aV⟩:=P3.o ac;obtain⟨sb,so,rfl,aU⟩:=S3.o ac;obtain⟨xb,xo,rfl,aQ⟩:=X3.o ac;have bE:=bJ.o i hin;have aF:=Aa (aE.o.trans aB.o);obtain⟨y,hy⟩:=nA (BV pl i);have aP:pl.getD i 0=(y:Int):=by rw[<-hy];unfold BV;omega
   have bD:y<N:=ac;have aN:=bN.o i hin;rw[aP]at aN;have bC:=Aa (aV i _ aN);have cp:=aF.o.cell bC.o;obtain⟨s,hs⟩:=nA (sl.getD i 0);have aM:=bM.o i hin;rw[hs]at aM;have bB:=Aa (aU i _ aM);have cs:=aF.o.cell bB.o;obtain⟨z,hz⟩:=nA (x.getD i 0);have aL:=bL.o i hin;rw[hz]at aL;have cx:=aF.o.cell (aQ i _ aL);have i1:(0:Int)<=(i:Int):=ac;have i2:(i:Int)<(N:Int):=ac;have i3:(0:Int)<=(y:Int):=ac;have i4:(y:Int)<(N:Int):=ac;have bA:=Aa (fun (w5:World) (h5:Ex wr w5)=>bO.o w5 (aF.o.trans h5) z);obtain⟨t,ht⟩:=nA (SV p m (lw ml) (Au (p^m) z) fr);have aS:t<p^m:=by rw[<-ht];exact NX p2 m1 (BB (Nat.pow_pos ac) _) _
   rw[ht]at bA;have aY:=Aa (fun (w5:World) (h5:Ex wr w5)=>by
    have:=bK.o w5 (aF.o.trans h5) s (t:Int);rw[Ax aS]at this;exact this)
   obtain⟨u,hu⟩:=nA (Ai p m (lw ml) (Au (p^m) s) t);rw[hu]at aY;have bI:=Aa (show Az (plc (BV pl) (vF p m ml sl fr x) i) y (u:Int)=plc (BV pl) (vF p m ml sl fr x) (i+1) from by
    show _=Az (plc (BV pl) (vF p m ml sl fr x) i) (BV pl i) (vF p m ml sl fr x i)
    rw[hy]
    congr 1
    unfold vF;rw[hs,hz,ht,hu])
   have d0:=aB.o.cell B0.o;have d1:=aB.o.cell B1.o;have d2:=aB.o.cell B2.o;have aJ:=Aa aA.o;have bP:=Aa aB.o;have aC:=Aa (fun (w5:World) (h5:Ex wr w5)=>(aJ.o.ex h5).exSet (a:=w1) (Nat.le_of_eq aZ.o) (bP.o.trans h5) y (.int .i64 (u:Int)));have aW:=Aa (fun (w5:World) (h5:Ex wr w5)=>show AG (w5.setCell ⟨g,y,none⟩ (.int .i64 (u:Int))) g 3 g N (iv (plc (BV pl) (vF p m ml sl fr x) (i+1))) from by
    rw[<-bI.o,<-Cn];exact(aJ.o.ex h5).set y _)
   obtain⟨CP,CS,CX,bG⟩:=Eq cp cs cx bD;clear bE hy aP aN hs aM hz aL ht aS hu aV aU aQ aA aB;go_wp2_with fail
   have bT:=Aa d0;have bS:=Aa d1;have bR:=Aa d2;have aD:=Aa (fun (w5:World) (h5:Ex wr w5)=>(⟨h5.cell CP.o,h5.cell CS.o,h5.cell bT.o,h5.cell bS.o,h5.cell bR.o⟩:w5.cell? ⟨pb,po+i,none⟩=some (.int .i64 (y:Int))/\w5.cell? ⟨sb,so+i,none⟩=some (.int .i64 s)/\w5.cell? ⟨B,0,none⟩=some (.slice (some ⟨pb,po,none⟩) N pc)/\w5.cell? ⟨B,1,none⟩=some (.slice (some ⟨sb,so,none⟩) N sc)/\w5.cell? ⟨B,2,none⟩=some (.int .i64 (fr:Int))));have aO:=Aa (fun (w5:World) (h5:Ex wr w5)=>(⟨(aE.o.trans (aC.o w5 h5)).cell bC.o,(aE.o.trans (aC.o w5 h5)).cell bB.o,(aC.o w5 h5).cell B0.o,(aC.o w5 h5).cell B1.o,(aC.o w5 h5).cell B2.o⟩:(w5.setCell ⟨g,y,none⟩ (.int .i64 (u:Int))).cell? ⟨pb,po+i,none⟩=some (.int .i64 (y:Int))/\(w5.setCell ⟨g,y,none⟩ (.int .i64 (u:Int))).cell? ⟨sb,so+i,none⟩=some (.int .i64 s)/\(w5.setCell ⟨g,y,none⟩ (.int .i64 (u:Int))).cell? ⟨B,0,none⟩=some (.slice (some ⟨pb,po,none⟩) N pc)/\(w5.setCell ⟨g,y,none⟩ (.int .i64 (u:Int))).cell? ⟨B,1,none⟩=some (.slice (some ⟨sb,so,none⟩) N sc)/\(w5.setCell ⟨g,y,none⟩ (.int .i64 (u:Int))).cell? ⟨B,2,none⟩=some (.int .i64 (fr:Int))));clear d0 d1 d2 cp cs;have G0:Ex wr wr.drew:=(Ex.refl wr).drew
   go_region_held3 (fun w'=>w'.cell? ⟨pb,po+i,none⟩=some (.int .i64 (y:Int))/\w'.cell? ⟨sb,so+i,none⟩=some (.int .i64 s)/\w'.cell? ⟨B,0,none⟩=some (.slice (some ⟨pb,po,none⟩) N pc)/\w'.cell? ⟨B,1,none⟩=some (.slice (some ⟨sb,so,none⟩) N sc)/\w'.cell? ⟨B,2,none⟩=some (.int .i64 (fr:Int)))
    (first|with_reducible exact aD.o _ G0|with_reducible exact aD.o _ X5|with_reducible exact aD.o _ X6|with_reducible exact aO.o _ X6)
    (first|(go_at_call 107;(with_reducible refine(bA.o _ G0).mono ?_);rintro e w5⟨rfl,h5⟩;have X5:=G0.trans h5;clear h5)|(go_at_call 106;(with_reducible refine(aY.o _ X5).mono ?_);rintro e w6⟨rfl,n6,rfl⟩;have X6:=X5.drewN n6;have co6:=(aJ.o.ex X6).cell bG.o;have cf6:=(aJ.o.ex X6).frz y))
   go_wp2_with fail
   go_roundw
   case rel=>first|exact⟨i+1,ac,by go_num,Aa (aW.o _ X6),Aa (aC.o _ X6)⟩|((repeat apply Exists.intro);exact⟨⟨i+1,ac,by go_num,Aa (aW.o _ X6),Aa (aC.o _ X6)⟩,rfl⟩)
   case measure=>simp[intOf];omega
  .obtain rfl:i=N:=by omega
   go_wp2_with fail
   go_ret;exact⟨g,rfl,aA.o.mono (by have:=aZ.o;have:=bQ.o;have:=aE.o.size;omega),aE.o.trans aB.o⟩
end
theorem Rb{p m:Int}{ml:List Int}{n:Int}{pl sl:List Int}{fr:Int}(h:Ey p m ml n pl sl fr=0):
  Cp p m ml=0/\1<=n/\n<=64/\(pl.length:Int)=n/\(sl.length:Int)=n/\BU pl n=true/\0<=fr/\fr<m/\Ib pl=false/\H4 (p.toNat^m.toNat) sl=0:=by
 unfold Ey at h;split at h
 .cases h
 rename_i h1;split at h
 .cases h
 rename_i h2;split at h
 .cases h
 rename_i h3;split at h
 .cases h
 rename_i h4;split at h
 .cases h
 rename_i h5;refine⟨by simpa using h1,ac,ac,ac,ac,?_,ac,ac,by simpa using h5,h⟩
 cases hr:BU pl n with
 | true=>rfl
 | false=>exact absurd (.inl hr) h4
section
variable {b p m x0:Nat} {ml:List Int}
end
theorem fac_at{q:Nat}{l:List Int}(h:H4 q l=0){i:Nat}(hi:i<l.length):∃z:Nat,l.getD i 0=(z:Int)/\1<=z/\z<q:=by
 unfold H4 at h;split at h
 .cases h
 rename_i h1;split at h
 .cases h
 rename_i h2;have hm:l.getD i 0∈l:=dl;have ha:Gx q (l.getD i 0)=true:=by
  cases hb:Gx q (l.getD i 0) with
  | true=>rfl
  | false=>exact absurd (List.any_eq_true.2 ⟨_,hm,by rw[hb];rfl⟩) h1
 have hz:l.getD i 0≠0:=fun e=>h2 (List.contains_iff_mem.2 (e ▸ hm));clear hm;generalize l.getD i 0=z at *;unfold Gx at ha;simp at ha;exact⟨z.toNat,ac,ac,ac⟩
def ivS(p m:Nat)(ml sl:List Int)(bk i:Nat):Int:=((SV p m (lw ml) (DY p m ml (Au (p^m) (sl.getD i 0))) bk:Nat):Int)
structure CL where
 perm:List Int
 scale:List Int
 frob:Int
def MoR(M:CL)(e:Int)(r:Ending)(w':World):Prop:=∃u v,r= .returned (.tuple #[.agg #[u,v,.int .i64 M.frob],.int .i64 e])/\Am w' u M.perm/\Am w' v M.scale
structure ZL(w:World)(b:Nat):Prop where
 c0:w.cell? ⟨b,0,none⟩=some (.slice none 0 0)
 c1:w.cell? ⟨b,1,none⟩=some (.slice none 0 0)
 c2:w.cell? ⟨b,2,none⟩=some (.int .i64 0)
 f0:w.frozen? ⟨b,0,none⟩=false
 f1:w.frozen? ⟨b,1,none⟩=false
 f2:w.frozen? ⟨b,2,none⟩=false
theorem ZL.new(w:World):ZL (w.alloc (.cells #[.slice none 0 0,.slice none 0 0,.int .i64 0] 26)) w.heap.size:=⟨ag,ag,ag,ag,ag,ag⟩
theorem ZL.ex{w w':World}{b:Nat}(h:ZL w b)(hx:Ex w w'):ZL w' b:=⟨hx.cell h.c0,hx.cell h.c1,hx.cell h.c2,hx.frz h.c0 h.f0,hx.frz h.c1 h.f1,hx.frz h.c2 h.f2⟩
theorem Ce{w0 w:World}{q:Nat}(hx:Ex w0 w)(hq:w0.heap.size<=q)(u v z:Value):Ex w0 (((w.setCell ⟨q,0,none⟩ u).setCell ⟨q,1,none⟩ v).setCell ⟨q,2,none⟩ z):=
 ((hx.setCell (p:=⟨q,0,none⟩) hq _).setCell (p:=⟨q,1,none⟩) hq _).setCell (p:=⟨q,2,none⟩) hq _
theorem Fd{w:World}{q:Nat}{v:Value}{l:List Int}(h:Am w v l)(hq:∀B,v.ownBlock=some B->B≠q)(a b c:Value):Am (((w.setCell ⟨q,0,none⟩ a).setCell ⟨q,1,none⟩ b).setCell ⟨q,2,none⟩ c) v l:=
 Sl.other (Sl.other (Sl.other h (fun B e=>hq B e) _) (fun B e=>hq B e) _) (fun B e=>hq B e) _
theorem zaL{P:Prop}(h:P:=by
 rw[List.getElem?_eq_none (by rw[AF];omega),List.getElem?_eq_none (by omega)]):P:=h
theorem J8{N i:Nat}{rows:List (List Int)}{r:List Int}(hr:rows[i]?=some r)(hl:r.length=N):il N (Ak rows i)=r:=by
 apply List.ext_getElem?;intro j;by_cases h:j<N
 .rw[AH h];unfold Ak;rw[List.getD_eq_getElem?_getD (l:=rows),hr,List.getD_eq_getElem?_getD];show some (r[j]?.getD 0)=r[j]?
  rw[List.getElem?_eq_getElem ac];rfl
 .exact zaL
theorem UP{p m:Nat}{ml:List Int}{N:Nat}{rows:List (List Int)}{x:Nat->Int}(hr:∀(i:Nat) (r:List Int),rows[i]?=some r->r.length=N)(h:Bz p m ml N rows.length (Ak rows) x):∀r∈rows,BM p m ml r (il N x) 0=0:=fun r hm=>by
 obtain⟨i,hi,e⟩:=List.getElem_of_mem hm;have aA:rows[i]?=some r:=au;have:=h i hi;unfold dt at this;rw[J8 aA (hr i r aA)]at this;exact this
theorem U0{p m:Nat}{ml:List Int}{N:Nat}{rows:List (List Int)}{x:Nat->Int}(hr:∀(i:Nat) (r:List Int),rows[i]?=some r->r.length=N)(h:∀r∈rows,BM p m ml r (il N x) 0=0):Bz p m ml N rows.length (Ak rows) x:=fun i hi=>by
 have aA:rows[i]?=some (rows[i]):=List.getElem?_eq_getElem hi;unfold dt;rw[J8 aA (hr i _ aA)];exact h _ (List.getElem_mem hi)
theorem Eu{p m:Nat}{ml:List Int}{N R:Nat}{a a':Nat->Nat->Int}{piv:List Nat}(h:Iq p m ml N R a a' piv):piv.length<=R/\∀t∈Av N piv.length a',t.length=N/\B3 (p^m) t=0:=by
 obtain⟨c,hc,hP,_,hS⟩:=h;refine⟨hP.le,fun t ht=>?_⟩;unfold Av at ht;obtain⟨i,hi,rfl⟩:=List.mem_map.1 ht;have hi:=List.mem_range.1 hi;refine⟨AF _ _,N0 fun x hx=>?_⟩;obtain⟨j,hj,rfl⟩:=KH hx;exact hP.rng i (by have:=hP.le;omega) j hj
def Dp(p m:Int)(ml:List Int)(aA:Int)(rows:List (List Int)):Int:=if Cp p m ml≠0 then 1 else BL (p.toNat^m.toNat) aA rows
def CanR(p m:Int)(ml:List Int)(aA:Int)(rows:List (List Int))(b0:Nat)(r:Ending)(w':World):Prop:=
 (Dp p m ml aA rows=0/\∃(pn mn N:Nat) (piv:List Nat) (a':Nat->Nat->Int) (rv pv:Value),p=pn/\m=mn/\aA=N/\EG p m ml/\BL (pn^mn) N rows=0/\r= .returned (.tuple #[.agg #[.int .i64 N,rv],pv,.int .i64 0])/\Iq pn mn ml N rows.length (Ak rows) a' piv/\BO w' rv (Av N piv.length a')/\Am w' pv (pI piv)/\∃g blk cap base,b0<=base/\rv= .slice (some ⟨g,0,none⟩) piv.length piv.length/\EM w' base g rows.length N blk cap a' [])∨
 (Dp p m ml aA rows≠0/\r= .returned (.tuple #[.agg #[.int .i64 0,.slice none 0 0],.slice none 0 0,.int .i64 (Dp p m ml aA rows)]))
theorem ba{P:Prop}(h:P:=by show w.heap.size<=xb+1+1;omega):P:=h
theorem di{P:Prop}(h:P:=by simp[results,Tryz.results152,go_sem,q0,q1]):P:=h
theorem GU(w:World)(p m:Int)(ml:List Int)(mv:Value)(aX:Am w mv ml)(aA:Int)(rows:List (List Int))(v:Value)(hv:BO w v rows)(h0:Dp p m ml aA rows=0->1<=aA):
  Calls Tryz.prog 152 #[.agg #[.int .i64 p,.int .i64 m,mv],.agg #[.int .i64 aA,v]] w fun r w'=>CanR p m ml aA rows w.heap.size r w'/\Ex w w':=by
 have HO:=Aa (fun w' B h1 h2 h3 h4=>Mn p m ml mv w' h1 aA rows v h2 B h3 h4);obtain⟨g0,g1,g2,e0,aQ⟩:=AC w p m mv;have aU:=Aa aX;have HV:=Aa hv;have H0:=Aa h0;obtain⟨za,zc,rfl,z1,z2,z3⟩:=hv.open;clear z1 z3;unfold maxLen at z2;obtain⟨xb,bB⟩:=nA w.heap.size;rw[bB]at g0 g1 g2 aQ;clear aX hv h0;go_enter Tryz.func152,Tryz.ntmps152
 go_wp2_with fail
 generalize w.alloc (.cells #[.int .i64 p,.int .i64 m,mv] 24)=wA at *;obtain⟨a0,a1,ea⟩:=CI wA aA (.slice za rows.length zc);have aL:(wA.alloc (.cells #[.int .i64 aA,.slice za rows.length zc] 137)).heap.size=xb+1+1:=by simp[aQ]
 rw[aQ]at a0 a1;generalize wA.alloc (.cells #[.int .i64 aA,.slice za rows.length zc] 137)=wB at *;obtain⟨q0,q1,eb⟩:=CI wB 0 (.slice none 0 0);have qf:(wB.alloc (.cells #[.int .i64 0,.slice none 0 0] 137)).frozen? ⟨xb+1+1,1,none⟩=false:=dn;have aH:(wB.alloc (.cells #[.int .i64 0,.slice none 0 0] 137)).frozen? ⟨xb+1+1,0,none⟩=false:=dn;have aY:(wB.alloc (.cells #[.int .i64 0,.slice none 0 0] 137)).heap.size=xb+1+1+1:=by simp[aL]
 rw[aL]at q0 q1;generalize wB.alloc (.cells #[.int .i64 0,.slice none 0 0] 137)=wC at *;obtain⟨l0,l1,ec⟩:=CI wC aA (.slice za rows.length zc);rw[aY]at l0 l1;generalize wC.alloc (.cells #[.int .i64 aA,.slice za rows.length zc] 137)=wD at *;have eD:Ex w wD:=((e0.trans ea).trans eb).trans ec;obtain⟨A0,A1,Q0,Q1,QF,aM,bE⟩:=OK ((eb.trans ec).cell a0) ((eb.trans ec).cell a1) (ec.cell q0) (ec.cell q1) (ec.frz q1 qf) (ec.frz q0 aH) eD;refine(HO.o wD (xb+1+1+1) (aU.o.ex eD) (HV.o.ex eD) l0 l1).mono ?_;clear g0 g1 g2 e0 aQ ea aL a0 a1 eb aY q0 q1 qf aH l0 l1 ec eD HO;rintro e w2⟨ho,aC⟩;have aR:=Aa (bE.o.trans aC);have QF:=Aa (aC.frz Q1.o QF.o);have aM:=Aa (aC.frz Q0.o aM.o);have c0:=aC.cell A0.o;have c1:=aC.cell A1.o;have Q0:=Aa (aC.cell Q0.o);have Q1:=Aa (aC.cell Q1.o);have A0:=Aa c0;clear aC A1;have bA:=Aa (fun (i:Value) (j:Value)=>((aR.o).setCell (p:=⟨xb+1+1,0,none⟩) ba i).setCell (p:=⟨xb+1+1,1,none⟩) ba j);rcases ho with⟨pn,mn,x0,b,rfl,rfl,hg,hx01,hx02,⟨hmk,rfl⟩|⟨hno,rfl⟩⟩|⟨hno,rfl⟩
 .have aG:Cp pn mn ml=0:=(Cg _ _ _).2 ⟨pn,mn,rfl,rfl,hg.sh,hg.pr,hg.isF hx01 hx02⟩;have aB:Dp pn mn ml aA rows=0:=by
   unfold Dp;rw[if_neg (by simp[aG]),Int.toNat_natCast,Int.toNat_natCast];exact hmk
  have bD:=H0.o aB;obtain⟨s1,s2,s3,s4⟩:=DJ hmk;obtain⟨N,rfl⟩:∃N:Nat,aA=N:=⟨aA.toNat,ac⟩;have aD:=Aa aB;have bL:=Aa ((Cg _ _ _).1 aG);have bK:=Aa hmk;have bN:=Aa (K9 w2 hg hx01 hx02 N rows.length rows _ (HV.o.ex aR.o) rfl s3 ac ac fun i r h=>by
   have:=s4 r (List.mem_of_getElem? h);exact⟨ac,this.2⟩)
  have bG:=Aa s3;clear hg aG aB bD s1 s2 s3 s4 hmk hx01 hx02;go_wp2_with (go_at_call 157;refine bN.o.mono ?_;rintro e w8⟨piv2,pv2,rv2,a2,rfl,aK,aS,aF,aE,g8,blk8,cap8,rfl,aJ,aI⟩;have a0n:=aE.cell A0.o;have q0:=aE.cell Q0.o;have aH:=aE.frz Q0.o aM.o;have q1:=aE.cell Q1.o;have aW:=aE.frz Q1.o QF.o;have aO:=Aa aK;have aN:=Aa aJ;have bF:=Aa aE;have aT:=Aa aF;have bH:=Aa aI;obtain⟨pa,pc,rfl,-,-,-⟩:=aF.open;clear aK aJ aE aI aS aF)
  have aP:xb+1+1<w2.heap.size:=World.block_lt_of_cell? _ _ Q0.o;have bC:=(Eu aO.o).1;obtain⟨bJ,aV,aZ,bM⟩:=Eq (((aN.o.low (A:=⟨xb+1+1,0,none⟩) aP (.int .i64 N)).low (A:=⟨xb+1+1,1,none⟩) aP (.slice (some ⟨g8,0,none⟩) piv2.length piv2.length)).msl bC bG.o) ((aN.o.low (A:=⟨xb+1+1,0,none⟩) aP (.int .i64 N)).low (A:=⟨xb+1+1,1,none⟩) aP (.slice (some ⟨g8,0,none⟩) piv2.length piv2.length)) (fun B h=>show B≠xb+1+1 from by have:=bH.o B h;omega) ((((aR.o).trans bF.o).setCell (p:=⟨xb+1+1,0,none⟩) ba (.int .i64 N)).setCell (p:=⟨xb+1+1,1,none⟩) ba (.slice (some ⟨g8,0,none⟩) piv2.length piv2.length));exact bodyPost_ret (v:= .tuple #[.agg #[.int .i64 N,.slice (some ⟨g8,0,none⟩) piv2.length piv2.length],.slice pa (pI piv2).length pc,.int .i64 0]) di rfl ⟨.inl ⟨aD.o,pn,mn,N,piv2,a2,_,_,rfl,rfl,rfl,bL.o,bK.o,rfl,aO.o,bJ.o,Sl.other (Sl.other aT.o (fun B h=>aZ.o B h) _) (fun B h=>aZ.o B h) _,g8,blk8,cap8,_,aR.o.size,rfl,aV.o⟩,bM.o⟩
 .have aG:Cp pn mn ml=0:=(Cg _ _ _).2 ⟨pn,mn,rfl,rfl,hg.sh,hg.pr,hg.isF hx01 hx02⟩;have aB:Dp pn mn ml aA rows=BL (pn^mn) aA rows:=by
   unfold Dp;rw[if_neg (by simp[aG]),Int.toNat_natCast,Int.toNat_natCast]
  have aD:=Aa aB;clear hg aG aB hx01 hx02 aU HV H0;obtain⟨E,hE⟩:=nA (BL (pn^mn) aA rows);rw[hE]at aD hno ⊢;have hb:(E !=0)=true:=by simpa using hno
  have bI:=Aa hno;have q0:=Q0.o;have q1:=Q1.o;have aH:=aM.o;have aW:=QF.o;clear hE hno;go_wp2_with fail
  exact bodyPost_ret (v:= .tuple #[.agg #[.int .i64 0,.slice none 0 0],.slice none 0 0,.int .i64 E]) di rfl ⟨.inr ⟨by rw[aD.o];exact bI.o,by rw[aD.o]⟩,bA.o _ _⟩
 .have aB:Dp p m ml aA rows=1:=by
   unfold Dp;rw[if_pos (fun h=>hno ((Cg _ _ _).1 h))]
  have aD:=Aa aB;clear hno aB aU HV H0;have q0:=Q0.o;have q1:=Q1.o;have aH:=aM.o;have aW:=QF.o;go_wp2_with fail
  exact bodyPost_ret (v:= .tuple #[.agg #[.int .i64 0,.slice none 0 0],.slice none 0 0,.int .i64 1]) di rfl ⟨.inr ⟨by rw[aD.o];decide,by rw[aD.o]⟩,bA.o _ _⟩
theorem zcn{P:Prop}(h:P:=by
 cases l with
 | nil=>rfl
 | cons x t=>obtain⟨_,_,h,_⟩:=s3 (by simp);cases h):P:=h
theorem FQ(w:World)(l:List Int)(v:Value)(hl:Am w v l)(hn2:l.length<=1000):
  Calls Tryz.prog 154 #[v] w fun r w'=>∃v',r= .returned v'/\Am w' v' l/\(∀B,v'.ownBlock=some B->w.heap.size<=B)/\Ex w w':=by
 have HL:=Aa hl;obtain⟨a,cap,rfl,s1,s2,s3⟩:=hl.open;have aD:∀u∈Ao l,u.oneCell'=true:=by
  exact zcW
 have aG:=Aa aD;clear hl aD
 cases a with
 | none=>
  have h0:l= []:=by
   exact zcn
  subst h0;have aB:=fun w'=>AP (P:=Tryz.prog) w' 22 3 none 0 cap Tryz.underlying22;simp only[Option.isNone]at aB;clear s1 s2 s3;go_enter Tryz.func154,Tryz.ntmps154
  go_wp2_with fail
  go_ret;exact⟨_,rfl,Bj _,by simp[Value.ownBlock],Ex.refl _⟩
 | some ad=>
  have aB:=fun w'=>AP (P:=Tryz.prog) w' 22 3 (some ad) l.length cap Tryz.underlying22;simp only[Option.isNone]at aB;clear s3;go_enter Tryz.func154,Tryz.ntmps154
  go_wp2_with (at_builtin;refine Be _ rfl _ _ 22 rfl w.heap.size 3 (.int .i64 0) 1 8 Tryz.underlying22 AA rfl ae _ 0 [] rfl (Bp w 3) (.slice (some ad) l.length cap) l.length (Ao l) rfl (HL.o.ex ((Ex.refl w).alloc _)) aG.o ai ac ag ?_)
  intro v1 w1 aA aE aF;have aC:Ex w w1:=Ex.grown ((Ex.refl w).alloc _) (Bp w 3) (Nat.le_refl _) aE;have HI:=Aa (show Am w1 v1 l from Sl.own aA);have HB:=Aa (fun B (e:v1.ownBlock=some B)=>(aA.lt B e).1);have HX:=Aa aC;clear aA aE aF aC aB;go_wp2_with fail
  go_ret;exact⟨_,rfl,HI.o,HB.o,HX.o⟩
def Ec(n:Int):Int:=if n<1∨64<n then 4 else 0
theorem Kw(w:World)(n:Int):Calls Tryz.prog 148 #[.int .i64 n] w fun r w'=>r= .returned (.int .i64 (Ec n))/\w'=w:=by
 unfold Ec;go_enter Tryz.func148,Tryz.ntmps148
 by_cases h1:n<1
 .have b1:decide (n<1)=true:=by simpa using h1
  rw[if_pos (.inl h1)];exact zc4
 .have b1:decide (n<1)=false:=by simpa using h1
  by_cases h2:64<n
  .have b2:decide (64<n)=true:=by simpa using h2
   rw[if_pos (.inr h2)];exact zc4
  .have b2:decide (64<n)=false:=by simpa using h2
   rw[if_neg ac];exact zc4
theorem DP(w:World)(p m:Int)(mv:Value)(n:Int)(gv:Value):(w.alloc (.cells #[.int .i64 p,.int .i64 m,mv,.int .i64 n,gv] 39)).cell? ⟨w.heap.size,0,none⟩=some (.int .i64 p)/\(w.alloc (.cells #[.int .i64 p,.int .i64 m,mv,.int .i64 n,gv] 39)).cell? ⟨w.heap.size,1,none⟩=some (.int .i64 m)/\(w.alloc (.cells #[.int .i64 p,.int .i64 m,mv,.int .i64 n,gv] 39)).cell? ⟨w.heap.size,2,none⟩=some mv/\(w.alloc (.cells #[.int .i64 p,.int .i64 m,mv,.int .i64 n,gv] 39)).cell? ⟨w.heap.size,3,none⟩=some (.int .i64 n)/\(w.alloc (.cells #[.int .i64 p,.int .i64 m,mv,.int .i64 n,gv] 39)).cell? ⟨w.heap.size,4,none⟩=some gv/\Ex w (w.alloc (.cells #[.int .i64 p,.int .i64 m,mv,.int .i64 n,gv] 39)):=
 ⟨ag,ag,ag,ag,ag,(Ex.refl _).alloc _⟩
theorem SL(w:World)(p m:Int)(mv:Value)(n:Int)(rows:List (List Int))(gv:Value)(hg:BO w gv rows):
  Calls Tryz.prog 104 #[.agg #[.int .i64 p,.int .i64 m,mv,.int .i64 n,gv]] w fun r w'=>r= .returned (.agg #[.int .i64 n,gv])/\Ex w w':=by
 obtain⟨a0,a1,a2,a3,a4,ea⟩:=DP w p m mv n gv;obtain⟨za,zc,rfl,z1,z2,z3⟩:=hg.open;clear z3;unfold maxLen at z2;go_enter Tryz.func104,Tryz.ntmps104
 go_wp2_with fail
 exact bodyPost_ret (v:= .agg #[.int .i64 n,.slice za rows.length zc]) (by simp[results,Tryz.results104,go_sem]) rfl ⟨rfl,ea.trans ((Ex.refl _).alloc _)⟩
theorem d8{P:Prop}(h:P:=by show w.heap.size<=xb+1;omega):P:=h
theorem X8(w:World)(p m:Int)(ml:List Int)(mv:Value)(aD:Am w mv ml)(hn:ml.length<=1000):
  Calls Tryz.prog 159 #[.agg #[.int .i64 p,.int .i64 m,mv]] w fun r w'=>∃v',r= .returned (.agg #[.int .i64 p,.int .i64 m,v'])/\Am w' v' ml/\(∀B,v'.ownBlock=some B->w.heap.size<=B)/\Ex w w':=by
 obtain⟨a0,a1,a2,e0,aJ⟩:=AC w p m mv;obtain⟨q0,q1,q2,eb,aI⟩:=AC (w.alloc (.cells #[.int .i64 p,.int .i64 m,mv] 24)) 0 0 (.slice none 0 0);have af:(w.alloc (.cells #[.int .i64 p,.int .i64 m,mv] 24)).frozen? ⟨w.heap.size,2,none⟩=false:=ag;have qf:((w.alloc (.cells #[.int .i64 p,.int .i64 m,mv] 24)).alloc (.cells #[.int .i64 0,.int .i64 0,.slice none 0 0] 24)).frozen? ⟨(w.alloc (.cells #[.int .i64 p,.int .i64 m,mv] 24)).heap.size,0,none⟩=false/\((w.alloc (.cells #[.int .i64 p,.int .i64 m,mv] 24)).alloc (.cells #[.int .i64 0,.int .i64 0,.slice none 0 0] 24)).frozen? ⟨(w.alloc (.cells #[.int .i64 p,.int .i64 m,mv] 24)).heap.size,1,none⟩=false/\((w.alloc (.cells #[.int .i64 p,.int .i64 m,mv] 24)).alloc (.cells #[.int .i64 0,.int .i64 0,.slice none 0 0] 24)).frozen? ⟨(w.alloc (.cells #[.int .i64 p,.int .i64 m,mv] 24)).heap.size,2,none⟩=false:=⟨ag,ag,ag⟩;replace af:=eb.frz a2 af;replace a0:=eb.cell a0;replace a1:=eb.cell a1;replace a2:=eb.cell a2;rw[aJ]at q0 q1 q2 qf aI;have HE:=Aa (e0.trans eb);have aO:=Aa (aD.ex HE.o);obtain⟨ma,mc,rfl,m1',m2,m3⟩:=aD.open;unfold maxLen at m2;clear aD m3 e0 eb aJ;go_enter Tryz.func159,Tryz.ntmps159
 go_wp2_with fail
 obtain⟨xb,aA⟩:=nA w.heap.size;rw[aA]at a0 a1 a2 q0 q1 q2 qf aI af
 try simp only[aA]
 generalize (w.alloc (.cells #[.int .i64 p,.int .i64 m,.slice ma ml.length mc] 24)).alloc (.cells #[.int .i64 0,.int .i64 0,.slice none 0 0] 24)=w1 at *;have aN:=Aa aA;obtain⟨aG,aF,aE⟩:=qf;clear aA;refine(FQ w1 ml _ aO.o hn).mono ?_;rintro e w2⟨v',rfl,aC,aH,hx⟩;have HV:=Aa aC;have HB:=Aa (fun B e=>show xb+1+1<=B from by have:=aH B e;omega);have HX:=Aa hx;obtain⟨va,vc,rfl,-,-,-⟩:=aC.open;have a0':=hx.cell a0;have a1':=hx.cell a1;have af':=hx.frz a2 af;have a2':=hx.cell a2;have aM:=hx.cell q0;have aL:=hx.cell q1;have aK:=hx.cell q2;have qf0':=hx.frz q0 aG;have qf1':=hx.frz q1 aF;have qf2':=hx.frz q2 aE;clear a0 a1 a2 af q0 q1 q2 aG aF aE aC aH hx;go_wp2_with fail
 have aB:∀B,(Value.slice va ml.length vc).ownBlock=some B->B≠xb/\B≠xb+1:=fun B e=>by have:=HB.o B e;omega
 have hw:w.heap.size=xb:=aN.o;exact bodyPost_ret (v:= .agg #[.int .i64 p,.int .i64 m,.slice va ml.length vc]) (by simp[results,Tryz.results159,go_sem,aM,aL,aK]) rfl ⟨_,rfl,Sl.other (Sl.other (Sl.other (Sl.other HV.o (fun B h=>(aB B h).1) _) (fun B h=>(aB B h).2) _) (fun B h=>(aB B h).2) _) (fun B h=>(aB B h).2) _,fun B e=>by have:=HB.o B e;omega,
  ((((HE.o.trans HX.o).setCell (p:=⟨xb,2,none⟩) (by show w.heap.size<=xb;omega) _).setCell (p:=⟨xb+1,0,none⟩) d8 _).setCell (p:=⟨xb+1,1,none⟩) d8 _).setCell (p:=⟨xb+1,2,none⟩) d8 _⟩
theorem IZ(w:World)(l k:List Int)(v u:Value)(hl:Am w v l)(hk:Am w u k):
  Calls Tryz.prog 101 #[v,u] w fun r w'=>r= .returned (.bool (decide (l=k)))/\∃n,w'=w.drewN n:=by
 obtain⟨a,cap,rfl,s1,s2,s3⟩:=hl.open;obtain⟨c,cc,rfl,t1,t2,t3⟩:=hk.open;have S3:=Aa s3;have T3:=Aa t3;unfold maxLen at s2 t2;clear hl hk s3 t3;by_cases hlk:l.length=k.length
 .have hb:((l.length:Int) !=(k.length:Int))=false:=by simp;omega
  have aD:=Aa hlk;clear hlk;go_enter Tryz.func101,Tryz.ntmps101
  go_wp2_with fail
  go_loopw [13] (fun i' wr=>∃i n:Nat,i<=l.length/\i'= .int .i64 i/\wr=w.drewN n/\Hia (∀j,j<i->l[j]?=k[j]?)) (fun i' _=>l.length-(intOf i').toNat)
  case atStart=>exact⟨0,0,ac,rfl,rfl,Aa (fun j hj=>ac)⟩
  case round=>
   exact zcb
 .have hb:((l.length:Int) !=(k.length:Int))=true:=by simp;omega
  have HN:=Aa (show ¬l=k from fun e=>hlk cj);clear hlk;go_enter Tryz.func101,Tryz.ntmps101
  exact zcz
theorem DU(w:World)(l k:List (List Int))(v u:Value)(hl:BO w v l)(hk:BO w u k):
  Calls Tryz.prog 128 #[v,u,.func (.func 101) #[] #[]] w fun r w'=>r= .returned (.bool (decide (l=k)))/\∃n,w'=w.drewN n:=by
 obtain⟨a,cap,rfl,s1,s2,s3⟩:=hl.open;obtain⟨c,cc,rfl,t1,t2,t3⟩:=hk.open;have S3:=Aa s3;have T3:=Aa t3;unfold maxLen at s2 t2;clear hl hk s3 t3;by_cases hlk:l.length=k.length
 .have hb:((l.length:Int) !=(k.length:Int))=false:=by simp;omega
  have aI:=Aa hlk;clear hlk;go_enter Tryz.func128,Tryz.ntmps128
  go_wp2_with fail
  go_loopw [17] (fun i' wr=>∃i n:Nat,i<=l.length/\i'= .int .i64 i/\wr=w.drewN n/\Hia (∀j,j<i->l[j]?=k[j]?)) (fun i' _=>l.length-(intOf i').toNat)
  case atStart=>exact⟨0,0,ac,rfl,rfl,Aa (fun j hj=>ac)⟩
  case round=>
   obtain⟨i,n,hi,rfl,rfl,aC⟩:=hrel;by_cases hlt:i<l.length
   .obtain⟨x,hx⟩:∃x,l[i]?=some x:=⟨_,List.getElem?_eq_getElem hlt⟩;have aJ:i<k.length:=by have:=aI.o;omega
    obtain⟨y,hy⟩:∃y,k[i]?=some y:=⟨_,List.getElem?_eq_getElem aJ⟩;obtain⟨b,o,rfl,hc⟩:=S3.o ac;obtain⟨b2,o2,rfl,aG⟩:=T3.o ac;obtain⟨u1,e1,aF⟩:=hc i x hx;obtain⟨u2,e2,aE⟩:=aG i y hy;have c1:=((Ex.refl w).drewN n).cell e1;have c2:=((Ex.refl w).drewN n).cell e2;have aB:=aF.ex ((Ex.refl w).drewN n);have aA:=aE.ex ((Ex.refl w).drewN n);have i1:(0:Int)<=(i:Int):=br;have i2:(i:Int)<(l.length:Int):=ac;have i3:(i:Int)<(k.length:Int):=ac;obtain⟨W,hW⟩:=nA (w.drewN n);rw[hW]at c1 c2 aB aA ⊢;have aH:=Aa hW;have aD:=Aa (IZ W x y u1 u2 aB aA);obtain⟨ua,uc,rfl,_,_,_⟩:=aB.open;obtain⟨va,vc,rfl,_,_,_⟩:=aA.open;by_cases hxy:x=y
    .have HA:=Aa (show ∀j,j<i+1->l[j]?=k[j]? from fun j hj=>by
      by_cases e:j=i
      .subst e;rw[hx,hy,hxy]
      .exact aC.o j ac)
     rw[decide_eq_true hxy]at aD;clear hc aG hx hy hxy hW aF aE e1 e2 aB aA;go_wp2_with (go_at_call 101;refine aD.o.mono ?_;rintro e w5⟨rfl,n5,rfl⟩)
     exact zbE
    .have HN:=Aa (show ¬l=k from fun e=>hxy (by rw[e,hy]at hx;injection hx with hx;exact hx.symm));rw[decide_eq_false hxy]at aD;clear hc aG hx hy hxy hW aF aE e1 e2 aB aA;go_wp2_with (go_at_call 101;refine aD.o.mono ?_;rintro e w5⟨rfl,n5,rfl⟩)
     exact zb9
   .exact zax
 .have hb:((l.length:Int) !=(k.length:Int))=true:=by simp;omega
  have HN:=Aa (show ¬l=k from fun e=>hlk cj);clear hlk;go_enter Tryz.func128,Tryz.ntmps128
  exact zcz
theorem Dl(w:World)(c:Int)(v:Value):(w.alloc (.cells #[.int .i64 c,v] 137)).cell? ⟨w.heap.size,0,none⟩=some (.int .i64 c)/\(w.alloc (.cells #[.int .i64 c,v] 137)).cell? ⟨w.heap.size,1,none⟩=some v/\Ex w (w.alloc (.cells #[.int .i64 c,v] 137)):=⟨ag,ag,(Ex.refl _).alloc _⟩
def LF(p m:Int)(ml:List Int)(aA:Int)(rows:List (List Int))(e:Int):Prop:=
 (Dp p m ml aA rows≠0/\e=Dp p m ml aA rows)∨
 (Dp p m ml aA rows=0/\∃(pn mn N:Nat) (piv:List Nat) (a':Nat->Nat->Int),p=pn/\m=mn/\aA=N/\EG p m ml/\BL (pn^mn) N rows=0/\Iq pn mn ml N rows.length (Ak rows) a' piv/\e=if Av N piv.length a'=rows then 0 else 5)
structure BxV(w:World)(b:Nat):Prop where
 c0:w.cell? ⟨b,0,none⟩=some (.pointer none)
 c1:w.cell? ⟨b,1,none⟩=some (.int .i64 0)
 c2:w.cell? ⟨b,2,none⟩=some (.slice none 0 0)
 c3:w.cell? ⟨b,3,none⟩=some (.slice none 0 0)
 f0:w.frozen? ⟨b,0,none⟩=false
 f1:w.frozen? ⟨b,1,none⟩=false
 f2:w.frozen? ⟨b,2,none⟩=false
 f3:w.frozen? ⟨b,3,none⟩=false
theorem BxV.new(w:World):BxV (w.alloc (.cells #[.pointer none,.int .i64 0,.slice none 0 0,.slice none 0 0] 230)) w.heap.size:=⟨ag,ag,ag,ag,ag,ag,ag,ag⟩
theorem BxV.ex{w w':World}{b:Nat}(h:BxV w b)(hx:Ex w w'):BxV w' b:=⟨hx.cell h.c0,hx.cell h.c1,hx.cell h.c2,hx.cell h.c3,hx.frz h.c0 h.f0,hx.frz h.c1 h.f1,hx.frz h.c2 h.f2,hx.frz h.c3 h.f3⟩
theorem Na{w0 w:World}{q:Nat}(hx:Ex w0 w)(hq:w0.heap.size<=q)(u v z y:Value):Ex w0 ((((w.setCell ⟨q,0,none⟩ u).setCell ⟨q,1,none⟩ v).setCell ⟨q,2,none⟩ z).setCell ⟨q,3,none⟩ y):=
 (((hx.setCell (p:=⟨q,0,none⟩) hq _).setCell (p:=⟨q,1,none⟩) hq _).setCell (p:=⟨q,2,none⟩) hq _).setCell (p:=⟨q,3,none⟩) hq _
theorem cz{P:Prop}(h:P:=by simp[results,Tryz.results196,go_sem,q0,q1,q2,q3]):P:=h
theorem Lr(w:World)(p m:Int)(ml:List Int)(mv:Value)(aJ:Am w mv ml)(aA:Int)(rows:List (List Int))(v:Value)(hv:BO w v rows)(h0:Dp p m ml aA rows=0->1<=aA):
  Calls Tryz.prog 196 #[.agg #[.int .i64 p,.int .i64 m,mv],.agg #[.int .i64 aA,v]] w fun r w'=>(∃(g:Option Addr) (c:Int) (a1 a2:Option Addr) (n1 k1 n2 k2:Nat) (e:Int),r= .returned (.tuple #[.agg #[.pointer g,.int .i64 c,.slice a1 n1 k1,.slice a2 n2 k2],.int .i64 e])/\LF p m ml aA rows e)/\Ex w w':=by
 obtain⟨g0,g1,g2,e0,aK⟩:=AC w p m mv;have aY:=Aa (fun (w':World) (h:Ex w w')=>GU w' p m ml mv (aJ.ex h) aA rows v (hv.ex h) h0);have bB:=Aa (fun (w':World) (h:Ex w w')=>FM p m ml mv w' (aJ.ex h));have HV:=Aa hv;obtain⟨za,zc,rfl,z1,z2,z3⟩:=hv.open;clear z1 z3;unfold maxLen at z2;obtain⟨ma,mc,rfl,-,m2,-⟩:=aJ.open;unfold maxLen at m2;obtain⟨xb,aZ⟩:=nA w.heap.size;rw[aZ]at g0 g1 g2 aK;clear aJ hv h0;go_enter Tryz.func196,Tryz.ntmps196
 go_wp2_with fail
 generalize w.alloc (.cells #[.int .i64 p,.int .i64 m,.slice ma ml.length mc] 24)=wA at *;obtain⟨a0,a1,ea⟩:=Dl wA aA (.slice za rows.length zc);have aV:(wA.alloc (.cells #[.int .i64 aA,.slice za rows.length zc] 137)).heap.size=xb+1+1:=by simp[aK]
 rw[aK]at a0 a1;generalize wA.alloc (.cells #[.int .i64 aA,.slice za rows.length zc] 137)=wB at *;have bq:=BxV.new wB;rw[aV]at bq;have eb:Ex wB _:=(Ex.refl wB).alloc (.cells #[.pointer none,.int .i64 0,.slice none 0 0,.slice none 0 0] 230);obtain⟨A0,A1,G0,G1,G2,BQ,HE⟩:=OK (eb.cell a0) (eb.cell a1) ((ea.trans eb).cell g0) ((ea.trans eb).cell g1) ((ea.trans eb).cell g2) bq ((e0.trans ea).trans eb);generalize wB.alloc (.cells #[.pointer none,.int .i64 0,.slice none 0 0,.slice none 0 0] 230)=wC at *;refine(aY.o wC HE.o).mono ?_;clear g0 g1 g2 a0 a1 bq e0 ea eb aV aK;rintro e w2⟨hc,aC⟩;obtain⟨aI,aO,A0,A1,G0,G1,G2,aN⟩:=On (HE.o.trans aC) (BQ.o.ex aC) (aC.cell A0.o) (aC.cell A1.o) (aC.cell G0.o) (aC.cell G1.o) (aC.cell G2.o) (show w.heap.size<=xb+1+1 from ac);clear aC BQ HE aY;rcases hc with⟨hce,pn,mn,N,piv,a',rv,pv,rfl,rfl,rfl,hfb,hmk,rfl,hel,hrv,hpv,-⟩|⟨hce,rfl⟩
 .have aX:=Aa hrv;have aE:=Aa (fun e (h:e=if Av N piv.length a'=rows then 0 else 5)=>show LF pn mn ml N rows e from .inr ⟨hce,pn,mn,N,piv,a',rfl,rfl,rfl,hfb,hmk,hel,h⟩);have bC:=Aa hfb;obtain⟨ra,rc,rfl,-,r2,-⟩:=hrv.open;obtain⟨pa,pc,rfl,-,p2,-⟩:=hpv.open;unfold maxLen at r2 p2;obtain⟨L,hL⟩:=nA (Av N piv.length a');obtain⟨PL,aU⟩:=nA (pI piv);rw[hL]at aX aE ⊢;rw[aU];clear hce hfb hmk hel hrv hpv hL aU;have aH:=Aa ((Ex.refl w2).alloc (.cells #[.int .i64 N,.slice ra L.length rc] 137));have l0:(w2.alloc (.cells #[.int .i64 N,.slice ra L.length rc] 137)).cell? ⟨w2.heap.size,1,none⟩=some (.slice ra L.length rc):=by simp
  have aW:=aH.o.cell A1.o;have aL:=Aa (DU (w2.alloc (.cells #[.int .i64 N,.slice ra L.length rc] 137)) L rows _ _ (aX.o.ex aH.o) (HV.o.ex (aI.o.trans aH.o)));by_cases hLR:L=rows
  .rw[decide_eq_true hLR]at aL;have aD:=Aa (aE.o 0 (by rw[if_pos hLR]));clear hLR;go_wp2_with fail
   refine aL.o.mono ?_;rintro e w3⟨rfl,n3,aG⟩;have aF:Ex (w2.alloc (.cells #[.int .i64 N,.slice ra L.length rc] 137)) w3:=by rw[aG];exact(Ex.refl _).drewN n3
   have aB:=Aa (aH.o.trans aF);have g0:=aB.o.cell G0.o;have g1:=aB.o.cell G1.o;have g2:=aB.o.cell G2.o;clear aF aG l0 aW;go_wp2_with fail
   refine(bB.o w3 (aI.o.trans aB.o)).mono ?_;rintro e w4⟨aM,aT⟩;rcases aM with⟨pn',mn',x,b,e1,e2,rfl,hg,-,-⟩|⟨aM,_⟩
   .have X4:=Aa (aB.o.trans aT);have a0:=X4.o.cell A0.o;have a1:=X4.o.cell A1.o;obtain⟨q0,q1,q2,q3,aS,aR,aQ,aP⟩:=aO.o.ex X4.o;clear e1 e2 hg aT g0 g1 g2;go_wp2_with fail
    exact bodyPost_ret (v:= .tuple #[.agg #[.pointer (some ⟨b,0,none⟩),.int .i64 N,.slice za rows.length zc,.slice pa PL.length pc],.int .i64 0]) cz rfl ⟨⟨_,_,_,_,_,_,_,_,_,rfl,aD.o⟩,Na (aI.o.trans X4.o) aN.o _ _ _ _⟩
   .exact absurd bC.o aM
  .rw[decide_eq_false hLR]at aL;have aD:=Aa (aE.o 5 (by rw[if_neg hLR]));clear hLR;go_wp2_with fail
   refine aL.o.mono ?_;rintro e w3⟨rfl,n3,aG⟩;have aF:Ex (w2.alloc (.cells #[.int .i64 N,.slice ra L.length rc] 137)) w3:=by rw[aG];exact(Ex.refl _).drewN n3
   have aB:=Aa (aH.o.trans aF);obtain⟨q0,q1,q2,q3,aS,aR,aQ,aP⟩:=aO.o.ex aB.o;clear aF aG l0 aW;go_wp2_with fail
   exact bodyPost_ret (v:= .tuple #[.agg #[.pointer none,.int .i64 0,.slice none 0 0,.slice none 0 0],.int .i64 5]) cz rfl ⟨⟨_,_,_,_,_,_,_,_,_,rfl,aD.o⟩,Na (aI.o.trans aB.o) aN.o _ _ _ _⟩
 .have aE:=Aa (show LF p m ml aA rows (Dp p m ml aA rows) from .inl ⟨hce,rfl⟩);obtain⟨E,hE⟩:=nA (Dp p m ml aA rows);rw[hE]at aE hce ⊢;have hb:(E !=0)=true:=by simpa using hce
  obtain⟨q0,q1,q2,q3,aS,aR,aQ,aP⟩:=aO.o.ex ((Ex.refl w2).alloc (.cells #[.int .i64 0,.slice none 0 0] 137));have bA:=Aa (aI.o.alloc (.cells #[.int .i64 0,.slice none 0 0] 137));clear hE hce;go_wp2_with fail
  exact bodyPost_ret (v:= .tuple #[.agg #[.pointer none,.int .i64 0,.slice none 0 0,.slice none 0 0],.int .i64 E]) cz rfl ⟨⟨_,_,_,_,_,_,_,_,_,rfl,aE.o⟩,Na bA.o aN.o _ _ _ _⟩
theorem PZ{l:List Int}:Ib l=true↔∃i j,j<i/\i<l.length/\l.getD i 0=l.getD j 0:=by
 unfold Ib LB;rw[List.any_eq_true];constructor
 .rintro⟨i,hi,h⟩;have hi:=List.mem_range.1 hi;rw[List.contains_iff_mem]at h;obtain⟨j,hj,e⟩:=List.getElem_of_mem h;rw[List.length_take]at hj;refine⟨i,j,ac,hi,?_⟩;rw[<-e,List.getElem_take,List.getD_eq_getElem?_getD,List.getElem?_eq_getElem (show j<l.length by omega)];rfl
 .rintro⟨i,j,h1,h2,h3⟩;refine⟨i,List.mem_range.2 h2,?_⟩;rw[List.contains_iff_mem,h3];have hj:j<(l.take i).length:=by rw[List.length_take];omega
  have:=List.getElem_mem hj;rw[List.getElem_take]at this;rw[List.getD_eq_getElem?_getD,List.getElem?_eq_getElem (show j<l.length by omega)];exact this
section
variable {p m:Nat} {ml:List Int} {mv:Value}
end
section
open Go.Shelf
def Tryz.lays189_ren:Go.Shelf.Ren:=⟨fun | 189=>125 | 125=>178 | 257=>177 | 128=>221 | 129=>222 | 294=>212 | 295=>213 | 296=>214 | 297=>215 | 298=>216 | 299=>217 | 216=>218 | 300=>219 | 301=>220 | 328=>255 | 329=>256 | 330=>257 | 331=>258 | 332=>259 | 215=>260 | 343=>267|n=>n,fun | 28=>22 | 3=>3 | 46=>146 | 0=>0 | 51=>91 | 53=>77 | 4=>4 | 183=>248 | 182=>247 | 131=>253 | 5=>5 | 9=>9 | 218=>278 | 222=>282 | 228=>289 | 229=>203|n=>n,fun|n=>n⟩
theorem Tryz.lays189:Go.Proofs.Lays.n189 Tryz.prog Tryz.lays189_ren:= {
 mixed:=ah
 f125:=Tryz.func178.trans (congrArg some ah)
 f128:=Tryz.func221.trans (congrArg some ah)
 f129:=Tryz.func222.trans (congrArg some ah)
 f189:=Tryz.func125.trans (congrArg some ah)
 f215:=Tryz.func260.trans (congrArg some ah)
 f216:=Tryz.func218.trans (congrArg some ah)
 f257:=Tryz.func177.trans (congrArg some ah)
 f294:=Tryz.func212.trans (congrArg some ah)
 f295:=Tryz.func213.trans (congrArg some ah)
 f296:=Tryz.func214.trans (congrArg some ah)
 f297:=Tryz.func215.trans (congrArg some ah)
 f298:=Tryz.func216.trans (congrArg some ah)
 f299:=Tryz.func217.trans (congrArg some ah)
 f300:=Tryz.func219.trans (congrArg some ah)
 f301:=Tryz.func220.trans (congrArg some ah)
 f328:=Tryz.func255.trans (congrArg some ah)
 f329:=Tryz.func256.trans (congrArg some ah)
 f330:=Tryz.func257.trans (congrArg some ah)
 f331:=Tryz.func258.trans (congrArg some ah)
 f332:=Tryz.func259.trans (congrArg some ah)
 f343:=Tryz.func267.trans (congrArg some ah)
 t0:=Tryz.underlying0
 a0:=Tryz.isAgg0
 z0:=Tryz.sizeOf0
 v0:=Tryz.zeroValue0
 t3:=Tryz.underlying3
 a3:=Tryz.isAgg3
 z3:=Tryz.sizeOf3
 v3:=Tryz.zeroValue3
 t4:=Tryz.underlying4
 a4:=Tryz.isAgg4
 z4:=Tryz.sizeOf4
 v4:=Tryz.zeroValue4
 t5:=Tryz.underlying5
 a5:=Tryz.isAgg5
 z5:=Tryz.sizeOf5
 v5:=Tryz.zeroValue5
 t9:=Tryz.underlying9
 a9:=Tryz.isAgg9
 z9:=Tryz.sizeOf9
 v9:=Tryz.zeroValue9
 t28:=Tryz.underlying22
 a28:=Tryz.isAgg22
 z28:=Tryz.sizeOf22
 v28:=Tryz.zeroValue22
 t46:=Tryz.underlying146
 a46:=Tryz.isAgg146
 z46:=Tryz.sizeOf146
 v46:=Tryz.zeroValue146
 t51:=Tryz.underlying91
 a51:=Tryz.isAgg91
 z51:=Tryz.sizeOf91
 v51:=Tryz.zeroValue91
 t53:=Tryz.underlying77
 a53:=Tryz.isAgg77
 z53:=Tryz.sizeOf77
 v53:=Tryz.zeroValue77
 t131:=Tryz.underlying253
 a131:=Tryz.isAgg253
 z131:=Tryz.sizeOf253
 v131:=Tryz.zeroValue253
 t182:=Tryz.underlying247
 a182:=Tryz.isAgg247
 z182:=Tryz.sizeOf247
 v182:=Tryz.zeroValue247
 t183:=Tryz.underlying248
 a183:=Tryz.isAgg248
 z183:=Tryz.sizeOf248
 v183:=Tryz.zeroValue248
 t218:=Tryz.underlying278
 a218:=Tryz.isAgg278
 z218:=Tryz.sizeOf278
 v218:=Tryz.zeroValue278
 t222:=Tryz.underlying282
 a222:=Tryz.isAgg282
 z222:=Tryz.sizeOf282
 v222:=Tryz.zeroValue282
 t228:=Tryz.underlying289
 a228:=Tryz.isAgg289
 z228:=Tryz.sizeOf289
 v228:=Tryz.zeroValue289
 t229:=Tryz.underlying203
 a229:=Tryz.isAgg203
 z229:=Tryz.sizeOf203
 v229:=Tryz.zeroValue203 }
open Go.Sort Go.RowKit in
theorem Tryz.slices_Sort_int (blk aA cap:Nat) (zs:List Int) (w:World) (hH:Holds (Value.int .i64) w blk aA zs.toArray) (aB:blk<w.heap.size) (aC:zs.length<4611686018427387904):
  Calls Tryz.prog 125 #[.slice (some ⟨blk,aA,none⟩) zs.length cap] w fun e w'=>
   e= .returned (.tuple #[])/\∃n os,w'=grow (putRow (Value.int .i64) (Sort.ahead w n) blk aA (zs.mergeSort fun x y=>decide (x<=y)).toArray) os:=Any.slices_Sort_int Tryz.lays189 blk aA cap zs w hH aB aC
end
end Go.Proofs.YtehieobniamagaaGreat
