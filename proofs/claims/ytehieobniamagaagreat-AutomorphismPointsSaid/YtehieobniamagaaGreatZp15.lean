/- Walks of codewrightref31.distinct, twice, factors. -/
import Derived.BigQuiet
import Derived.Test.YtehieobniamagaaGreatZp12
import Derived.Test.YtehieobniamagaaGreatZp14
namespace Go.Proofs.YtehieobniamagaaGreat
set_option linter.unusedVariables false
set_option linter.unusedSimpArgs false
set_option maxRecDepth 100000
set_option maxHeartbeats 4000000
section
open Go.RowKit
def MC(l:List Int)(n:Int):Int:=if Bq l n=true then 0 else 6
theorem P9{l:List Int}{n:Int}(h:∀j,j<l.length->0<=l.getD j 0/\l.getD j 0<n):Bq l n=true:=by
 unfold Bq;refine List.all_eq_true.2 fun x hx=>?_;obtain⟨j,hj,rfl⟩:=List.getElem_of_mem hx;have:=h j hj;rw[List.getD_eq_getElem?_getD,List.getElem?_eq_getElem hj]at this;exact decide_eq_true this
theorem Rp(w:World)(l:List Int)(v:Value)(hl:Ak w v l)(n:Int):
  Calls Tryz.prog 97 #[v,.int .i64 n] w fun r w'=>r= .returned (.int .i64 (MC l n))/\w=w':=by
 obtain⟨a,cap,rfl,s1,s2,s3⟩:=hl.open;unfold maxLen at s2;have S3:=Aa s3;have HD:=Aa (show(∀j,j<l.length->0<=l.getD j 0/\l.getD j 0<n)->MC l n=0 from fun h=>by unfold MC;rw[if_pos (P9 h)]);have HN:=Aa (show ∀j,j<l.length->¬(0<=l.getD j 0/\l.getD j 0<n)->MC l n=6 from fun j hj h=>by
  unfold MC;rw[if_neg fun hr=>h (Dk hr hj)])
 clear hl s3;go_enter Tryz.func97,Tryz.ntmps97
 go_wp2_with fail
 go_loop [5] (fun i'=>∃(i:Nat),i<=l.length/\i'= .int .i64 i/\Hia (∀j,j<i->0<=l.getD j 0/\l.getD j 0<n)) (fun i'=>l.length-(intOf i').toNat)
 case atStart=>exact⟨0,ac,rfl,Aa (fun j h=>ac)⟩
 case round=>
  obtain⟨i,hi,rfl,aA⟩:=hrel;by_cases hlt:i<l.length
  .obtain⟨bb,o,rfl,hc⟩:=S3.o ac;have c1:=hc i _ (Ay hlt);obtain⟨x,hx⟩:=nA (l.getD i 0);rw[hx]at c1;have HX:=Aa hx;have aB:=Aa (show(0<=x/\x<n)->∀j,j<i+1->0<=l.getD j 0/\l.getD j 0<n from fun h j hj=>by
    by_cases e:j=i
    .subst e;rw[hx];exact h
    .exact aA.o j ac)
   have i1:(0:Int)<=(i:Int):=ac;have i2:(i:Int)<(l.length:Int):=ac;clear hc hx;by_cases h0:x<0
   .have HR:=Aa (HN.o i hlt (by rw[HX.o];omega));have k0:decide (x<0)=true:=by simpa using h0
    go_wp2_with fail
    go_ret;exact⟨Af HR.o.symm,rfl⟩
   .have k0:decide (x<0)=false:=by simpa using h0
    by_cases h1:n<=x
    .have HR:=Aa (HN.o i hlt (by rw[HX.o];omega));have k1:decide (n<=x)=true:=by simpa using h1
     go_wp2_with fail
     go_ret;exact⟨Af HR.o.symm,rfl⟩
    .have HA:=Aa (aB.o ⟨ac,ac⟩);have k1:decide (n<=x)=false:=by simpa using h1
     exact zbz
  .obtain rfl:i=l.length:=by omega
   have HR:=Aa (HD.o aA.o);go_wp2_with fail
   go_ret;exact⟨Af HR.o.symm,rfl⟩
theorem FC{l:List Int}:DC l=true↔∃i j,j<i/\i<l.length/\l.getD i 0=l.getD j 0:=by
 unfold DC Kj;rw[List.any_eq_true];constructor
 .rintro⟨i,hi,h⟩;have hi:=List.mem_range.1 hi;rw[List.contains_iff_mem]at h;obtain⟨j,hj,e⟩:=List.getElem_of_mem h;rw[List.length_take]at hj;refine⟨i,j,ac,hi,?_⟩;rw[<-e,List.getElem_take,List.getD_eq_getElem?_getD,List.getElem?_eq_getElem (show j<l.length by omega)];rfl
 .rintro⟨i,j,h1,h2,h3⟩;refine⟨i,List.mem_range.2 h2,?_⟩;rw[List.contains_iff_mem,h3];have hj:j<(l.take i).length:=by rw[List.length_take];omega
  have:=List.getElem_mem hj;rw[List.getElem_take]at this;rw[List.getD_eq_getElem?_getD,List.getElem?_eq_getElem (show j<l.length by omega)];exact this
theorem OY(w:World)(l:List Int)(v:Value)(hl:Ak w v l):
  Calls Tryz.prog 98 #[v] w fun r w'=>r= .returned (.bool (DC l))/\Ex w w':=by
 obtain⟨a,cap,rfl,s1,s2,s3⟩:=hl.open;unfold maxLen at s2;have S3:=Aa s3;have HY:=Aa (show ∀i j,j<i->i<l.length->l.getD i 0=l.getD j 0->DC l=true from fun i j h1 h2 h3=>FC.2 ⟨i,j,h1,h2,h3⟩);have HN:=Aa (show(∀i j,j<i->i<l.length->l.getD i 0≠l.getD j 0)->DC l=false from fun h=>by
  cases hb:DC l with
  | false=>rfl
  | true=>obtain⟨i,j,h1,h2,h3⟩:=FC.1 hb;exact absurd h3 (h i j h1 h2))
 obtain⟨D,hD⟩:=nA (DC l);rw[hD]at HY HN;rw[hD];clear hl s3 hD;go_enter Tryz.func98,Tryz.ntmps98
 go_wp2_with fail
 go_loopw [3,4] (fun i' _ wr=>∃(i:Nat),i<=l.length/\i'= .int .i64 i/\Hia (∀k j,j<k->k<i->l.getD k 0≠l.getD j 0)/\Hia (Ex w wr)) (fun i' _ _=>l.length-(intOf i').toNat)
 case atStart=>exact⟨0,ac,rfl,Aa (fun k j _ h=>ac),Aa (Ex.refl _)⟩
 case round=>
  obtain⟨i,hi,rfl,aB,aD⟩:=hrel;by_cases hlt:i<l.length
  .obtain⟨bb,o,rfl,hc⟩:=S3.o ac;have c1:=hc i _ (Ay hlt);obtain⟨x,hx⟩:=nA (l.getD i 0);rw[hx]at c1;have HX:=Aa hx;have HC:=Aa hc;have C1:=Aa c1;have i1:(0:Int)<=(i:Int):=by omega
   have i2:(i:Int)<(l.length:Int):=ac;clear hc hx c1;obtain⟨w8,h8⟩:∃w8,w8=wr:=⟨_,rfl⟩;rw[<-h8]at aD ⊢;clear h8;go_wp2_with fail
   go_loopw [4] (fun j' wr=>∃(j:Nat),j<=i/\j'= .int .i64 j/\Hia (∀k,k<j->x≠l.getD k 0)/\Hia (Ex w wr)) (fun j' _=>i-(intOf j').toNat)
   case atStart=>exact⟨0,ac,rfl,Aa (fun k h=>ac),aD⟩
   case round=>
    obtain⟨j,hj,rfl,aC,aA⟩:=hrel;have c1:=aA.o.cell C1.o;by_cases hji:j<i
    .have c2:=aA.o.cell (HC.o j _ (Ay ac));obtain⟨y,hy⟩:=nA (l.getD j 0);rw[hy]at c2;have aE:=Aa hy;have j1:(0:Int)<=(j:Int):=by omega
     have j2:(j:Int)<(l.length:Int):=ac;clear hy;by_cases hxy:x=y
     .have hr:D=true:=HY.o i j hji hlt (by rw[HX.o,aE.o,hxy]);subst hr;have kb:(x==y)=true:=by simpa using hxy
      clear hxy;go_upto_region 7 with fail
      go_quiet (fail)
      go_wp2_with fail
      go_ret;exact⟨rfl,aA.o.drewN _⟩
     .have kb:(x==y)=false:=by simpa using hxy
      have HA:=Aa (show ∀k,k<j+1->x≠l.getD k 0 from fun k hk=>by
       by_cases e:k=j
       .subst e;rw[aE.o];exact hxy
       .exact aC.o k ac)
      clear hxy;go_upto_region 7 with fail
      go_quiet (fail)
      go_wp2_with fail
      go_roundw
      case rel=>exact⟨j+1,ac,by go_num,HA,Aa (aA.o.drewN _)⟩
      case measure=>simp[intOf];omega
    .obtain rfl:j=i:=by omega
     have HA:=Aa (show ∀k m,m<k->k<j+1->l.getD k 0≠l.getD m 0 from fun k m hm hk=>by
      by_cases e:k=j
      .subst e;rw[HX.o];exact aC.o m hm
      .exact aB.o k m hm ac)
     go_wp2_with fail
     go_roundw
     case rel=>first|exact⟨j+1,ac,by go_num,HA,aA⟩|((repeat apply Exists.intro);exact⟨⟨j+1,ac,by go_num,HA,aA⟩,rfl⟩)
     case measure=>simp[intOf];omega
  .obtain rfl:i=l.length:=by omega
   have hr:D=false:=HN.o fun k j h1 h2=>aB.o k j h1 h2;subst hr;go_wp2_with fail
   go_ret;exact⟨rfl,aD.o⟩
section
variable {p m:Nat} {ml:List Int} {mv:Value}
theorem T9{q:Nat}{l:List Int}:D4 q l=if Cz q l≠0 then Cz q l else if l.contains 0=true then 7 else 0:=by
 unfold D4 Cz;have e:(l.any fun x=> !Fi q x)=!(l.all fun x=>Fi q x):=by rw[List.not_all_eq_any_not]
 rw[e];cases (l.all fun x=>Fi q x) <;> simp
theorem SW(w:World)(hf:Iz p m ml)(l:List Int)(v:Value)(hl:Ak w v l):
  Calls Tryz.prog 99 #[.agg #[.int .i64 p,.int .i64 m,mv],v] w fun r w'=>r= .returned (.int .i64 (D4 (p^m) l))/\Ex w w':=by
 obtain⟨d0,d1,d2,e0,aE⟩:=AO w p m mv;have HE:=Aa (LT (mv:=mv) _ hf l v (hl.ex e0));obtain⟨a,cap,rfl,s1,s2,s3⟩:=hl.open;unfold maxLen at s2;have S3:=Aa s3;have HF:=Aa (T9 (q:=p^m) (l:=l));have aF:=Aa e0;obtain⟨F,hF⟩:=nA (D4 (p^m) l);obtain⟨E,hE⟩:=nA (Cz (p^m) l);rw[hF,hE]at HF;rw[hE]at HE;rw[hF];clear hl s3 hf hF hE e0 aE;go_enter Tryz.func99,Tryz.ntmps99
 go_wp2_with fail
 generalize w.alloc (.cells #[.int .i64 p,.int .i64 m,mv] 24)=w1 at *;refine HE.o.mono ?_;rintro e w2⟨rfl,aC⟩;have aB:=Aa (aF.o.trans aC);clear d0 d1 d2;by_cases he:E=0
 .subst he;have aD:=Aa (show F=if l.contains 0=true then 7 else 0 from HF.o);clear aC;go_wp2_with fail
  go_loop [6] (fun i'=>∃(i:Nat),i<=l.length/\i'= .int .i64 i/\Hia (∀j,j<i->l.getD j 0≠0)) (fun i'=>l.length-(intOf i').toNat)
  case atStart=>exact⟨0,ac,rfl,Aa (fun j h=>ac)⟩
  case round=>
   obtain⟨i,hi,rfl,aA⟩:=hrel;by_cases hlt:i<l.length
   .obtain⟨bb,o,rfl,hc⟩:=S3.o ac;have c1:=aB.o.cell (hc i _ (Ay hlt));have i1:(0:Int)<=(i:Int):=by omega
    have i2:(i:Int)<(l.length:Int):=ac;obtain⟨x,hx⟩:=nA (l.getD i 0);rw[hx]at c1;have HX:=Aa hx;clear hc hx;by_cases h0:x=0
    .subst h0;have HR:=Aa (show F=7 from by
      rw[aD.o,if_pos];rw[List.contains_iff_mem,<-HX.o,List.getD_eq_getElem?_getD,List.getElem?_eq_getElem hlt];exact List.getElem_mem hlt)
     go_wp2_with fail
     go_ret;exact⟨Af HR.o.symm,aB.o⟩
    .have kb:(x==0)=false:=by simpa using h0
     have HA:=Aa (show ∀j,j<i+1->l.getD j 0≠0 from fun j hj=>by
      by_cases e:j=i
      .subst e;rw[HX.o];exact h0
      .exact aA.o j ac)
     clear h0;exact zbz
   .obtain rfl:i=l.length:=by omega
    have HR:=Aa (show F=0 from by
     rw[aD.o,if_neg];intro h;rw[List.contains_iff_mem]at h;obtain⟨j,hj,e⟩:=List.getElem_of_mem h;exact aA.o j hj (by rw[List.getD_eq_getElem?_getD,List.getElem?_eq_getElem hj];exact e))
    go_wp2_with fail
    go_ret;exact⟨Af HR.o.symm,aB.o⟩
 .have HR:=Aa (show F=E from by rw[HF.o,if_pos he]);have kb:(E !=0)=true:=by simpa using he
  clear aC he;go_wp2_with fail
  go_ret;exact⟨Af HR.o.symm,aB.o⟩
end
end
section
open Go.RowKit
structure WE(w:World)(b:Nat):Prop where
 c0:w.cell? ⟨b,0,none⟩=some (.int .i64 0)
 c1:w.cell? ⟨b,1,none⟩=some (.int .i64 0)
 c2:w.cell? ⟨b,2,none⟩=some (.slice none 0 0)
 c3:w.cell? ⟨b,3,none⟩=some (.int .i64 0)
 c4:w.cell? ⟨b,4,none⟩=some (.slice none 0 0)
 f0:w.frozen? ⟨b,0,none⟩=false
 f1:w.frozen? ⟨b,1,none⟩=false
 f2:w.frozen? ⟨b,2,none⟩=false
 f3:w.frozen? ⟨b,3,none⟩=false
 f4:w.frozen? ⟨b,4,none⟩=false
theorem WE.new(w:World):WE (w.alloc (.cells #[.int .i64 0,.int .i64 0,.slice none 0 0,.int .i64 0,.slice none 0 0] 39)) w.heap.size:=⟨ag,ag,ag,ag,ag,ag,ag,ag,ag,ag⟩
theorem WE.ex{w w':World}{b:Nat}(h:WE w b)(hx:Ex w w'):WE w' b:=⟨hx.cell h.c0,hx.cell h.c1,hx.cell h.c2,hx.cell h.c3,hx.cell h.c4,hx.frz h.c0 h.f0,hx.frz h.c1 h.f1,hx.frz h.c2 h.f2,hx.frz h.c3 h.f3,hx.frz h.c4 h.f4⟩
@[reducible] def YF(w:World)(q:Nat)(a b c d e:Value):World:=((((w.setCell ⟨q,0,none⟩ a).setCell ⟨q,1,none⟩ b).setCell ⟨q,2,none⟩ c).setCell ⟨q,3,none⟩ d).setCell ⟨q,4,none⟩ e
theorem Dj{w0 w:World}{q:Nat}(hx:Ex w0 w)(hq:w0.heap.size<=q)(a b c d e:Value):Ex w0 (YF w q a b c d e):=
 ((((hx.setCell (p:=⟨q,0,none⟩) hq _).setCell (p:=⟨q,1,none⟩) hq _).setCell (p:=⟨q,2,none⟩) hq _).setCell (p:=⟨q,3,none⟩) hq _).setCell (p:=⟨q,4,none⟩) hq _
theorem Jb{w:World}{q:Nat}{v:Value}{l:List Int}(h:Ak w v l)(hq:∀B,v.ownBlock=some B->B≠q)(a b c d e:Value):Ak (YF w q a b c d e) v l:=
 Sl.other (Sl.other (Sl.other (Sl.other (Sl.other h (fun B e=>hq B e) _) (fun B e=>hq B e) _) (fun B e=>hq B e) _) (fun B e=>hq B e) _) (fun B e=>hq B e) _
def OfR(p m:Int)(ml:List Int)(aA:Int)(v:Value)(e:Int)(r:Ending)(w':World)(base:Nat):Prop:=
 (e≠0/\r= .returned (.tuple #[.agg #[.int .i64 0,.int .i64 0,.slice none 0 0,.int .i64 0,.slice none 0 0],.int .i64 e]))∨
 (e=0/\∃v',r= .returned (.tuple #[.agg #[.int .i64 p,.int .i64 m,v',.int .i64 aA,v],.int .i64 0])/\Ak w' v' ml/\∀B,v'.ownBlock=some B->base<=B)
theorem JW(w:World)(p m:Int)(ml:List Int)(mv:Value)(aG:Ak w mv ml)(hn:ml.length<=1000)(aA:Int)(rows:List (List Int))(v:Value)(hv:B6 w v rows)(e:Int):
  Calls Tryz.prog 105 #[.agg #[.int .i64 p,.int .i64 m,mv],.agg #[.int .i64 aA,v],.int .i64 e] w fun r w'=>OfR p m ml aA v e r w' w.heap.size/\Ex w w':=by
 obtain⟨g0,g1,g2,e0,aC⟩:=AO w p m mv;have aV:=Aa (fun (w':World) (h:Ex w w')=>Vx w' p m ml mv (aG.ex h) hn);obtain⟨za,zc,rfl,-,z2,-⟩:=hv.open;unfold maxLen at z2;obtain⟨ma,mc,rfl,-,m2,-⟩:=aG.open;unfold maxLen at m2;obtain⟨xb,aD⟩:=nA w.heap.size;rw[aD]at g0 g1 g2 aC;clear aG hv hn;go_enter Tryz.func105,Tryz.ntmps105
 by_cases h1:e=0
 .subst h1;go_wp2_with fail
  generalize w.alloc (.cells #[.int .i64 p,.int .i64 m,.slice ma ml.length mc] 24)=wA at *;obtain⟨a0,a1,ea⟩:=Ee wA aA (.slice za rows.length zc);have aE:(wA.alloc (.cells #[.int .i64 aA,.slice za rows.length zc] 137)).heap.size=xb+1+1:=by simp[aC]
  rw[aC]at a0 a1;generalize wA.alloc (.cells #[.int .i64 aA,.slice za rows.length zc] 137)=wB at *;have bq:=WE.new wB;rw[aE]at bq;have eb:Ex wB _:=(Ex.refl wB).alloc (.cells #[.int .i64 0,.int .i64 0,.slice none 0 0,.int .i64 0,.slice none 0 0] 39);have A0:=Aa a0;have A1:=Aa a1;have G0:=Aa (ea.cell g0);have G1:=Aa (ea.cell g1);have G2:=Aa (ea.cell g2);have EB:=Aa eb;have aU:=Aa (show wB.heap.size<=xb+1+1 from Nat.le_of_eq aE);have BQ:=Aa bq;have HE:=Aa ((e0.trans ea).trans eb);have aK:(wB.alloc (.cells #[.int .i64 0,.int .i64 0,.slice none 0 0,.int .i64 0,.slice none 0 0] 39)).heap.size=xb+1+1+1:=by simp[aE]
  generalize wB.alloc (.cells #[.int .i64 0,.int .i64 0,.slice none 0 0,.int .i64 0,.slice none 0 0] 39)=wC at *;clear g0 g1 g2 a0 a1 bq e0 ea eb aE aC;have aS:=Aa aD;have aW:=Aa aK;clear aD aK;have X0:Ex wC wC.drew:=(Ex.refl wC).drew;have aB:=Aa (fun (w':World) (h':Ex wB w')=>(⟨h'.cell G0.o,h'.cell G1.o,h'.cell G2.o,h'.cell A0.o,h'.cell A1.o⟩:w'.cell? ⟨xb,0,none⟩=some (.int .i64 p)/\w'.cell? ⟨xb,1,none⟩=some (.int .i64 m)/\w'.cell? ⟨xb,2,none⟩=some (.slice ma ml.length mc)/\w'.cell? ⟨xb+1,0,none⟩=some (.int .i64 aA)/\w'.cell? ⟨xb+1,1,none⟩=some (.slice za rows.length zc)));have aH:=Aa (fun (w':World) (h':Ex wB w') (a b c d e:Value)=>aB.o _ (Dj h' aU.o a b c d e));have Y0:=Aa (EB.o.trans X0)
  go_region_held3 (fun w'=>w'.cell? ⟨xb,0,none⟩=some (.int .i64 p)/\w'.cell? ⟨xb,1,none⟩=some (.int .i64 m)/\w'.cell? ⟨xb,2,none⟩=some (.slice ma ml.length mc)/\w'.cell? ⟨xb+1,0,none⟩=some (.int .i64 aA)/\w'.cell? ⟨xb+1,1,none⟩=some (.slice za rows.length zc))
   (first|with_reducible exact aB.o _ Y5.o|with_reducible exact aH.o _ Y5.o _ _ _ _ _|with_reducible exact aB.o _ Y0.o)
   (first|(go_at_call 159;(with_reducible refine(aV.o _ (HE.o.trans X0)).mono ?_);rintro e w5⟨v',rfl,aF,aI,h5⟩;have X5:=X0.trans h5;have Y5:=Aa (EB.o.trans X5);obtain⟨q0,q1,q2,q3,q4,aQ,aP,aO,aN,aM⟩:=BQ.o.ex X5;have aT:=Aa aF;have aL:=Aa aI;obtain⟨va,vc,rfl,-,-,-⟩:=aF.open;clear h5 aF aI))
  all_goals
   go_wp2_with fail
   have hsz:wC.drew.heap.size=xb+1+1+1:=aW.o;have hwx:=aS.o;exact bodyPost_ret (v:= .tuple #[.agg #[.int .i64 p,.int .i64 m,.slice va ml.length vc,.int .i64 aA,.slice za rows.length zc],.int .i64 0]) (by simp[results,Tryz.results105,go_sem,q0,q1,q2,q3,q4]) rfl ⟨.inr ⟨rfl,_,rfl,Jb aT.o (fun B h=>by have:=aL.o B h;omega) _ _ _ _ _,fun B h=>by have:=aL.o B h;omega⟩,Dj (HE.o.trans X5) ac _ _ _ _ _⟩
 .have hb:(e !=0)=true:=by simpa using h1
  have HH:=Aa h1;have aJ:=Ee (w.alloc (.cells #[.int .i64 p,.int .i64 m,.slice ma ml.length mc] 24)) aA (.slice za rows.length zc);have aR:((w.alloc (.cells #[.int .i64 p,.int .i64 m,.slice ma ml.length mc] 24)).alloc (.cells #[.int .i64 aA,.slice za rows.length zc] 137)).heap.size=xb+1+1:=by simp[aC]
  have bq:=WE.new ((w.alloc (.cells #[.int .i64 p,.int .i64 m,.slice ma ml.length mc] 24)).alloc (.cells #[.int .i64 aA,.slice za rows.length zc] 137));have HE:=Aa ((e0.trans aJ.2.2).alloc (.cells #[.int .i64 0,.int .i64 0,.slice none 0 0,.int .i64 0,.slice none 0 0] 39));rw[aR]at bq;obtain⟨q0,q1,q2,q3,q4,aQ,aP,aO,aN,aM⟩:=bq;clear h1 aJ g0 g1 g2 e0;go_wp2_with fail
  exact bodyPost_ret (v:= .tuple #[.agg #[.int .i64 0,.int .i64 0,.slice none 0 0,.int .i64 0,.slice none 0 0],.int .i64 e]) (by simp[results,Tryz.results105,go_sem,q0,q1,q2,q3,q4,aD]) rfl ⟨.inl ⟨HH.o,rfl⟩,by first|exact HE.o|exact Dj HE.o ac _ _ _ _ _⟩
end
section
open Go.RowKit
def Ju(p m:Int)(ml:List Int)(aA:Int)(rows:List (List Int)):Int:=if Du p m ml aA rows≠0 then Du p m ml aA rows else GK aA
def W6(p m:Int)(ml:List Int)(aA:Int)(rows:List (List Int))(b0:Nat)(r:Ending)(w':World):Prop:=
 (Ju p m ml aA rows≠0/\r= .returned (.tuple #[.agg #[.int .i64 0,.int .i64 0,.slice none 0 0,.int .i64 0,.slice none 0 0],.int .i64 (Ju p m ml aA rows)]))∨
 (Ju p m ml aA rows=0/\∃(pn mn N:Nat) (piv:List Nat) (a':Nat->Nat->Int) (rv v':Value),p=pn/\m=mn/\aA=N/\F9 p m ml/\BV (pn^mn) N rows=0/\r= .returned (.tuple #[.agg #[.int .i64 p,.int .i64 m,v',.int .i64 N,rv],.int .i64 0])/\OF pn mn ml N rows.length (AX rows) a' piv/\Ak w' v' ml/\B6 w' rv (AM N piv.length a')/\(∀B,v'.ownBlock=some B->b0<=B)/\∃g blk cap base,b0<=base/\rv= .slice (some ⟨g,0,none⟩) piv.length piv.length/\EM w' base g rows.length N blk cap a' []/\piv.length<=rows.length/\rows.length<=256)
theorem cw{P:Prop}(h:P:=by simp[results,Tryz.results93,go_sem,q0,q1,q2,q3,q4]):P:=h
theorem N8(w:World)(p m:Int)(ml:List Int)(mv:Value)(aG:Ak w mv ml)(hn:ml.length<=1000)(aA:Int)(rows:List (List Int))(v:Value)(hv:B6 w v rows)(h0:Du p m ml aA rows=0->1<=aA):
  Calls Tryz.prog 93 #[.agg #[.int .i64 p,.int .i64 m,mv],.agg #[.int .i64 aA,v]] w fun r w'=>W6 p m ml aA rows w.heap.size r w'/\Ex w w':=by
 obtain⟨g0,g1,g2,e0,aH⟩:=AO w p m mv;have aY:=Aa (fun (w':World) (h:Ex w w')=>Ge w' p m ml mv (aG.ex h) aA rows v (hv.ex h) h0);have aV:=Aa aG;obtain⟨za,zc,rfl,-,z2,-⟩:=hv.open;unfold maxLen at z2;obtain⟨ma,mc,rfl,-,m2,-⟩:=aG.open;unfold maxLen at m2;obtain⟨xb,aL⟩:=nA w.heap.size;rw[aL]at g0 g1 g2 aH;clear aG hv h0;go_enter Tryz.func93,Tryz.ntmps93
 go_wp2_with fail
 generalize w.alloc (.cells #[.int .i64 p,.int .i64 m,.slice ma ml.length mc] 24)=wA at *;obtain⟨a0,a1,ea⟩:=Ee wA aA (.slice za rows.length zc);have aM:(wA.alloc (.cells #[.int .i64 aA,.slice za rows.length zc] 137)).heap.size=xb+1+1:=by simp[aH]
 rw[aH]at a0 a1;generalize wA.alloc (.cells #[.int .i64 aA,.slice za rows.length zc] 137)=wB at *;have bq:=WE.new wB;rw[aM]at bq;have eb:Ex wB _:=(Ex.refl wB).alloc (.cells #[.int .i64 0,.int .i64 0,.slice none 0 0,.int .i64 0,.slice none 0 0] 39);have A0:=Aa (eb.cell a0);have G0:=Aa ((ea.trans eb).cell g0);have G1:=Aa ((ea.trans eb).cell g1);have G2:=Aa ((ea.trans eb).cell g2);have BQ:=Aa bq;have HE:=Aa ((e0.trans ea).trans eb);have aT:(wB.alloc (.cells #[.int .i64 0,.int .i64 0,.slice none 0 0,.int .i64 0,.slice none 0 0] 39)).heap.size=xb+1+1+1:=by simp[aM]
 generalize wB.alloc (.cells #[.int .i64 0,.int .i64 0,.slice none 0 0,.int .i64 0,.slice none 0 0] 39)=wC at *;have aP:=Aa aT;have aU:=Aa aL;refine(aY.o wC HE.o).mono ?_;clear g0 g1 g2 a0 a1 bq e0 ea eb aM aH aT aL;rintro e w2⟨hc,aD⟩;have aI:=Aa (HE.o.trans aD);have aZ:=Aa aD;have bA:=Aa (BQ.o.ex aD);have A0:=Aa (aD.cell A0.o);have G0:=Aa (aD.cell G0.o);have G1:=Aa (aD.cell G1.o);have G2:=Aa (aD.cell G2.o);clear aD BQ HE aY;rcases hc with⟨hce,pn,mn,N,piv,a',rv,pv,rfl,rfl,rfl,hfb,hmk,rfl,hel,hrv,hpv,g,blk,cap,base,hbase,rfl,hem⟩|⟨hce,rfl⟩
 .have aF:Ju pn mn ml N rows=GK N:=by unfold Ju;rw[if_neg (by simp[hce])]
  have HN:=Aa aF;have aW:=Aa (fun (w':World)=>JB w' (N:Int));obtain⟨L,hL⟩:=nA (GK N);rw[hL]at HN aW;have aS:=(N0 hel).1;have aR:=(Gm hmk).2.2.1;have bI:=Aa hem;have aJ:=Aa (show piv.length<=rows.length/\rows.length<=256 from⟨aS,aR⟩);have aE:=Aa (show xb+1+1<base from by have:=aP.o;omega);have aN:=Aa (show F9 pn mn ml/\BV (pn^mn) N rows=0/\OF pn mn ml N rows.length (AX rows) a' piv from⟨hfb,hmk,hel⟩);obtain⟨pa,pc,rfl,-,-,-⟩:=hpv.open;have aB:=Aa ((Ex.refl w2).alloc (.cells #[.int .i64 N,.slice (some ⟨g,0,none⟩) piv.length piv.length] 137));have aO:=Aa (JW _ pn mn ml _ (aV.o.ex (aI.o.trans aB.o)) hn N (AM N piv.length a') _ (hrv.ex aB.o) L);have g0:=aB.o.cell G0.o;have g1:=aB.o.cell G1.o;have g2:=aB.o.cell G2.o;have a0:=aB.o.cell A0.o;have aQ:=Aa (bA.o.ex aB.o);clear aF hL hce hfb hmk hel hrv hpv hbase hem aS aR;go_wp2_with fail
  refine(aW.o _).mono ?_;rintro e w3⟨rfl,bG⟩;subst bG;go_wp2_with fail
  refine aO.o.mono ?_;rintro e w4⟨ho,aC⟩;have X4:=Aa ((aI.o.trans aB.o).trans aC);have bK:=Aa (bI.o.ex (aB.o.trans aC));have hw:=aU.o;obtain⟨q0,q1,q2,q3,q4,bF,bE,bD,bC,bB⟩:=aQ.o.ex aC;clear aC g0 g1 g2 a0;rcases ho with⟨hz,rfl⟩|⟨hz,v',rfl,hv',hb'⟩
  .have aK:=Aa hz;clear hz;go_wp2_with fail
   exact bodyPost_ret (v:= .tuple #[.agg #[.int .i64 0,.int .i64 0,.slice none 0 0,.int .i64 0,.slice none 0 0],.int .i64 L]) cw rfl ⟨.inl ⟨by rw[HN.o];exact aK.o,by rw[HN.o]⟩,Dj X4.o ac _ _ _ _ _⟩
  .subst hz;have HV:=Aa hv';have HB:=Aa (show ∀B,v'.ownBlock=some B->B≠xb+1+1 from fun B h=>by
    have h1:=hb' B h;have h2:=aZ.o.size;have h3:=aP.o;simp at h1;omega)
   have bJ:=Aa (show ∀B,v'.ownBlock=some B->w.heap.size<=B from fun B h=>by
    have h1:=hb' B h;have h2:=aZ.o.size;have h3:=aP.o;simp at h1;omega)
   obtain⟨va,vc,rfl,-,-,-⟩:=hv'.open;clear hv' hb';have aX:=Aa ((((((bK.o.low (A:=⟨xb+1+1,0,none⟩) aE.o (.int .i64 pn)).low (A:=⟨xb+1+1,1,none⟩) aE.o (.int .i64 mn)).low (A:=⟨xb+1+1,2,none⟩) aE.o (.slice va ml.length vc)).low (A:=⟨xb+1+1,3,none⟩) aE.o (.int .i64 N)).low (A:=⟨xb+1+1,4,none⟩) aE.o (.slice (some ⟨g,0,none⟩) piv.length piv.length)));have bH:=Aa (aX.o.msl aJ.o.1 aJ.o.2);go_wp2_with fail
   exact bodyPost_ret (v:= .tuple #[.agg #[.int .i64 pn,.int .i64 mn,.slice va ml.length vc,.int .i64 N,.slice (some ⟨g,0,none⟩) piv.length piv.length],.int .i64 0]) cw rfl ⟨.inr ⟨HN.o,pn,mn,N,piv,a',_,_,rfl,rfl,rfl,aN.o.1,aN.o.2.1,rfl,aN.o.2.2,Jb HV.o HB.o _ _ _ _ _,bH.o,bJ.o,g,blk,cap,base,by have:=aE.o;omega,rfl,aX.o,aJ.o.1,aJ.o.2⟩,Dj X4.o ac _ _ _ _ _⟩
 .have aF:Ju p m ml aA rows=Du p m ml aA rows:=by unfold Ju;rw[if_pos hce]
  have HN:=Aa aF;obtain⟨E,hE⟩:=nA (Du p m ml aA rows);rw[hE]at HN hce ⊢;have hb:(E==0)=false:=by simpa using hce
  have aK:=Aa hce;have aB:=Aa ((Ex.refl w2).alloc (.cells #[.int .i64 0,.slice none 0 0] 137));have aO:=Aa (JW _ p m ml _ (aV.o.ex (aI.o.trans aB.o)) hn 0 [] (.slice none 0 0) ⟨[],Sl.nil _ 1,fun i r u h=>by simp at h⟩ E);have g0:=aB.o.cell G0.o;have g1:=aB.o.cell G1.o;have g2:=aB.o.cell G2.o;have aQ:=Aa (bA.o.ex aB.o);clear aF hE hce;go_wp2_with fail
  refine aO.o.mono ?_;rintro e w4⟨ho,aC⟩;rcases ho with⟨_,rfl⟩|⟨h,_⟩
  .obtain⟨q0,q1,q2,q3,q4,bF,bE,bD,bC,bB⟩:=aQ.o.ex aC;have X4:=Aa ((aI.o.trans aB.o).trans aC);have hw:=aU.o;clear aC g0 g1 g2;go_wp2_with fail
   exact bodyPost_ret (v:= .tuple #[.agg #[.int .i64 0,.int .i64 0,.slice none 0 0,.int .i64 0,.slice none 0 0],.int .i64 E]) cw rfl ⟨.inl ⟨by rw[HN.o];exact aK.o,by rw[HN.o]⟩,Dj X4.o ac _ _ _ _ _⟩
  .exact absurd h aK.o
end
section
open Go.RowKit
section
variable (p m:Nat) (ml:List Int)
def OW(x:Int)(u r:Nat->Int)(j:Nat):Int:=if r j=0 then u j else((A9 p m (AA (p^m) (u j)) (DI p m (Ar p m (lw ml) (AA (p^m) x) (AA (p^m) (r j)))):Nat):Int)
def Fq(x:Int)(u r:Nat->Int)(c j:Nat):Int:=if j<c then OW p m ml x u r j else u j
def Xq(u:Nat->Int)(pl:Nat)(r:Nat->Int):Nat->Int:=if u pl=0 then u else OW p m ml (u pl) u r
def Vr(a:Nat->Nat->Int)(pl:Nat->Nat)(v:Nat->Int):Nat->Nat->Int
 | 0=>v
 | k+1=>Xq p m ml (Vr a pl v k) (pl k) (a k)
def RG(t:Nat)(v:Nat->Int):Int:=CM (fun j=>v j !=0) t
def Zk(z:Nat):Nat:=if z=0 then 0 else F5 p m ml z
structure M4 where
 n:Nat
 a:Nat->Nat->Int
 pl:Nat->Nat
def M4.red(e:M4)(v:Nat->Int):Nat->Int:=Vr p m ml e.a e.pl v e.n
def Gf(t:Nat)(e:M4)(r:Nat->Int):M4:=
 if 0<=RG t (e.red p m ml r) then⟨e.n+1,Ax e.a e.n (CR p m ml (Zk p m ml (AA (p^m) (e.red p m ml r (RG t (e.red p m ml r)).toNat))) (e.red p m ml r)),Ax e.pl e.n (RG t (e.red p m ml r)).toNat⟩ else e
def G5(t:Nat)(rows:Nat->Nat->Int):Nat->M4
 | 0=>⟨0,fun _ _=>0,fun _=>0⟩
 | k+1=>Gf p m ml t (G5 t rows k) (rows k)
def Md(t:Nat)(e:M4)(rows:Nat->Nat->Int)(n:Nat):Int:=CM (fun i=>decide (0<=RG t (e.red p m ml (rows i)))) n
def Pf(sc:List Int)(x:Nat->Int)(i:Nat):Int:=((Ar p m (lw ml) (AA (p^m) (sc.getD i 0)) (AA (p^m) (x i)):Nat):Int)
def OQ(tl:List Int)(y:Nat->Int)(i:Nat):Int:=y (tl.getD i 0).toNat
def FX(l1 l2:List (List Int))(tl sc:List Int):Int × Int:=
 let i:=Md p m ml tl.length (G5 p m ml tl.length (fun i=>OQ tl (AX l2 i)) l2.length) (fun i=>Pf p m ml sc (AX l1 i)) l1.length
 if 0<=i then(0,i) else
 let k:=Md p m ml tl.length (G5 p m ml tl.length (fun i=>Pf p m ml sc (AX l1 i)) l1.length) (fun i=>OQ tl (AX l2 i)) l2.length
 if 0<=k then(1,k) else(-1,-1)
end
def P4(i n:Nat):List Int:=il n (Ax (fun _=>0) i 1)
def I3(R1 R2:Nat)(s:Int × Int):List Int:=if s.1=0 then P4 s.2.toNat R1 else if s.1=1 then P4 s.2.toNat R2 else []
theorem JR{N j:Nat}(h:j<N)(f:Nat->Int):(il N f).getD j 0=f j:=by
 rw[List.getD_eq_getElem?_getD,AH h];rfl
theorem Mr(pr:Nat->Bool)(n:Nat):CM pr n<n/\-1<=CM pr n:=by
 unfold CM;split
 .rename_i i h;have:=List.mem_range.1 (List.mem_of_find?_eq_some h);omega
 .omega
theorem Tq(t:Nat)(v:Nat->Int):RG t v<t/\-1<=RG t v:=Mr _ _
section
variable {p m:Nat} {ml:List Int}
theorem Vf{t:Nat}{e:M4}{r:Nat->Int}(h:∀i,i<e.n->e.pl i<t):∀i,i<(Gf p m ml t e r).n->(Gf p m ml t e r).pl i<t:=by
 have hz:=Tq t (e.red p m ml r);unfold Gf;split
 .intro i hi;simp only at hi ⊢;by_cases e1:i=e.n
  .subst e1;rw[Ab];omega
  .rw[Ae _ _ e1];exact h i ac
 .exact h
theorem I6(t:Nat)(rows:Nat->Nat->Int):∀k i,i<(G5 p m ml t rows k).n->(G5 p m ml t rows k).pl i<t
 | 0=>fun i hi=>by simp only[G5]at hi;omega
 | k+1=>Vf (I6 t rows k)
theorem Xg{t:Nat}{e:M4}{r:Nat->Int}:(Gf p m ml t e r).n<=e.n+1:=by
 unfold Gf;split
 .simp
 .omega
theorem WI(t:Nat)(rows:Nat->Nat->Int):∀k,(G5 p m ml t rows k).n<=k
 | 0=>by simp[G5]
 | k+1=>by
  have:=WI t rows k;have:=Xg (p:=p) (m:=m) (ml:=ml) (t:=t) (e:=G5 p m ml t rows k) (r:=rows k);show(Gf p m ml t _ _).n<=_
  omega
end
structure Nd where
 tl:List Int
 sc:List Int
 side:Int
 msg:List Int
def ID{σ:Type}(step:σ->List Int->List Int->σ × Int)(tl sc:List Int)(j:Nat):Nat->σ->σ × Int
 | 0,s=>(s,0)
 | c+1,s=>if (ID step tl sc j c s).2≠0 then ID step tl sc j c s else step (ID step tl sc j c s).1 (tl ++ [(j:Int)]) (sc ++ [((c+1:Nat):Int)])
def Fk{σ:Type}(step:σ->List Int->List Int->σ × Int)(q:Nat)(tl sc:List Int):Nat->σ->σ × Int
 | 0,s=>(s,0)
 | j+1,s=>if (Fk step q tl sc j s).2≠0 then Fk step q tl sc j s else if tl.contains (j:Int) then Fk step q tl sc j s else ID step tl sc j (q-1) (Fk step q tl sc j s).1
def Nj(p m:Nat)(ml:List Int)(l1 l2:List (List Int))(n:Nat):Nat->Nat × List Nd->List Int->List Int->(Nat × List Nd) × Int
 | d,s,tl,sc=>
  if s.1=65536 then(s,8) else
  let w:=FX p m ml l1 l2 tl sc
  let s1:=(s.1+1,s.2 ++ [⟨tl,sc,w.1,I3 l1.length l2.length w⟩])
  if 0<=w.1 then(s1,0) else if tl.length=n then(s1,18) else
  match d with
  | 0=>(s1,0)
  | d+1=>Fk (Nj p m ml l1 l2 n d) (p^m) tl sc n s1
end
section
open Go.RowKit
def EG(f:Nat->Int)(i j:Nat):Int:=if j<i then f j else 0
theorem K9(f:Nat->Int):EG f 0=fun _=>0:=by funext j;unfold EG;rw[if_neg ac]
theorem La(f:Nat->Int)(i:Nat):Ax (EG f i) i (f i)=EG f (i+1):=by
 funext j;by_cases e:j=i
 .subst e;rw[Ab];unfold EG;rw[if_pos ac]
 .rw[Ae _ _ e];unfold EG;by_cases h:j<i
  .exact zaM
  .rw[if_neg h,if_neg ac]
theorem NV{f:Nat->Int}{n j:Nat}(h:j<n):EG f n j=f j:=by unfold EG;rw[if_pos h]
theorem AK(w:World)(u v:Value):(w.alloc (.cells #[u,v] 71)).cell? ⟨w.heap.size,0,none⟩=some u/\(w.alloc (.cells #[u,v] 71)).cell? ⟨w.heap.size,1,none⟩=some v/\Ex w (w.alloc (.cells #[u,v] 71))/\(w.alloc (.cells #[u,v] 71)).heap.size=w.heap.size+1:=
 ⟨ag,ag,(Ex.refl w).alloc _,ag⟩
section
variable {b p m x0:Nat} {ml:List Int}
theorem Jx(w:World)(hg:AR w b p m ml x0)(A:Nat)(hA:w.cell? ⟨A,0,none⟩=some (.pointer (some ⟨b,0,none⟩)))(N:Nat)(hN:N<=1000)(tl sl x:List Int)(tv sv xv:Value)(ht:Ak w tv tl)(hs:Ak w sv sl)(hx:Ak w xv x)(aP:tl.length=N)(aK:sl.length=N)(hxl:N<=x.length):
  Calls Tryz.prog 228 #[.pointer (some ⟨A,0,none⟩),.agg #[tv,sv],xv] w fun r w'=>∃g,r= .returned (.slice (some ⟨g,0,none⟩) N N)/\AG w' w.heap.size 3 g N (iv (Pf p m ml sl fun j=>x.getD j 0))/\Ex w w':=by
 obtain⟨b0,b1,eb,aD⟩:=AK w tv sv;have aZ:=Aa (fun (w1:World) (h1:Ex w w1) (y z:Int)=>Eg w1 (hg.ex h1) y z);obtain⟨ta,tc,rfl,_,t2,_⟩:=ht.open;obtain⟨sa,sc,rfl,_,s2,s3⟩:=hs.open;obtain⟨xa,xc,rfl,_,x2,x3⟩:=hx.open;unfold maxLen at t2 s2 x2;rw[aK]at s3;rw[aP,aK]at b0 b1 eb aD ⊢;have S3:=Aa s3;have X3:=Aa x3;have bC:=Aa (fun i (hi:i<N)=>Ay (l:=sl) (i:=i) ac);have bB:=Aa (fun i (hi:i<N)=>Ay (l:=x) (i:=i) ac);have aB:=Aa eb;have HA:=Aa hA;obtain⟨F,hF⟩:∃F,(Pf p m ml sl fun j=>x.getD j 0)=F:=⟨_,rfl⟩;have bD:=Aa (fun i=>congrFun hF i);rw[hF];clear hg ht hs hx s3 x3 eb aP aK hA hF;go_enter Tryz.func228,Tryz.ntmps228
 go_wp2_with (at_make;refine Ap _ rfl _ _ 22 rfl 3 (.int .i64 0) 8 Tryz.underlying22 Aw rfl _ N rfl rfl rfl ac ai ?_)
 obtain⟨B,hB⟩:=nA w.heap.size;rw[hB]at b0 b1 aD
 try simp only[hB]
 have bF:=Aa hB;clear hB;generalize w.alloc (.cells #[.slice ta N tc,.slice sa N sc] 71)=w1 at *;intro w3 aA aJ;have B0:=Aa b0;have B1:=Aa b1;obtain⟨g,aE⟩:=nA (B+1);have aS:=Aa (show AG w3 g 3 g N (iv (EG F 0)) from by rw[<-aE,K9];exact aA)
 try simp only[aE]
 have aX:=Aa aJ;have aU:=Aa (show w1.heap.size=g from by rw[<-aE,<-aD]);have aW:=aJ.cell b1;clear aA aJ b0 b1 aE aD;go_wp2_with fail
 go_loopw [17] (fun i' wr=>∃(i:Nat),i<=N/\i'= .int .i64 i/\Hia (AG wr g 3 g N (iv (EG F i)))/\Hia (Ex w1 wr)) (fun i' _=>N-(intOf i').toNat)
 case atStart=>exact⟨0,ac,rfl,aS,aX⟩
 case round=>
  clear aS aW;obtain⟨i,hi,rfl,aA,aF⟩:=hrel;by_cases hin:i<N
  .obtain⟨sb,so,rfl,aQ⟩:=S3.o ac;obtain⟨xb,xo,rfl,aO⟩:=X3.o ac;have aI:=Aa (aB.o.trans aF.o);obtain⟨s,hs⟩:=nA (sl.getD i 0);have aM:=bC.o i hin;rw[hs]at aM;have cs:=aI.o.cell (aQ i _ aM);obtain⟨z,hz⟩:=nA (x.getD i 0);have aL:=bB.o i hin;rw[hz]at aL;have aV:=Aa (aO i _ aL);have i1:(0:Int)<=(i:Int):=by omega
   have i2:(i:Int)<(N:Int):=ac;have i3:(i:Int)<(x.length:Int):=ac;have aT:=Aa (fun (w5:World) (h5:Ex wr w5)=>aZ.o w5 (aI.o.trans h5) s z);obtain⟨u,hu⟩:=nA (Ar p m (lw ml) (AA (p^m) s) (AA (p^m) z));rw[hu]at aT;have aY:=Aa (show Ax (EG F i) i (u:Int)=EG F (i+1) from by
    rw[<-La,<-bD.o i];show _=Ax (EG F i) i ((Ar p m (lw ml) (AA (p^m) (sl.getD i 0)) (AA (p^m) (x.getD i 0)):Nat):Int)
    rw[hs,hz,hu])
   have aH:=Aa aA.o;have bE:=Aa aF.o;have aG:=Aa (fun (w5:World) (h5:Ex wr w5)=>(aH.o.ex h5).exSet (a:=w1) (Nat.le_of_eq aU.o) (bE.o.trans h5) i (.int .i64 (u:Int)));have aR:=Aa (fun (w5:World) (h5:Ex wr w5)=>show AG (w5.setCell ⟨g,i,none⟩ (.int .i64 (u:Int))) g 3 g N (iv (EG F (i+1))) from by
    rw[<-aY.o,<-Cy];exact(aH.o.ex h5).set i _)
   have bA:=Aa hin;have aC:=Aa (fun (w5:World) (h5:Ex wr w5)=>(⟨(aI.o.trans h5).cell HA.o,(aI.o.trans h5).cell aV.o⟩:w5.cell? ⟨A,0,none⟩=some (.pointer (some ⟨b,0,none⟩))/\w5.cell? ⟨xb,xo+i,none⟩=some (.int .i64 z)));have aN:=Aa (fun (w5:World) (h5:Ex wr w5)=>(⟨(aB.o.trans (aG.o w5 h5)).cell HA.o,(aB.o.trans (aG.o w5 h5)).cell aV.o⟩:(w5.setCell ⟨g,i,none⟩ (.int .i64 (u:Int))).cell? ⟨A,0,none⟩=some (.pointer (some ⟨b,0,none⟩))/\(w5.setCell ⟨g,i,none⟩ (.int .i64 (u:Int))).cell? ⟨xb,xo+i,none⟩=some (.int .i64 z)));clear hs aM hz aL hu aQ aO aA aF;go_wp2_with fail
   have G0:Ex wr wr.drew:=(Ex.refl wr).drew
   go_region_held3 (fun w'=>w'.cell? ⟨A,0,none⟩=some (.pointer (some ⟨b,0,none⟩))/\w'.cell? ⟨xb,xo+i,none⟩=some (.int .i64 z))
    (first|with_reducible exact aC.o _ G0|with_reducible exact aC.o _ X6|with_reducible exact aN.o _ X6)
    (first|(go_at_call 106;(with_reducible refine(aT.o _ G0).mono ?_);rintro e w6⟨rfl,n6,rfl⟩;have X6:Ex wr (wr.drewN (1+n6)):=(Ex.refl wr).drewN (1+n6);have co6:=(aH.o.ex X6).cell bA.o;have cf6:=(aH.o.ex X6).frz i))
   go_wp2_with fail
   go_roundw
   case rel=>first|exact⟨i+1,ac,by go_num,Aa (aR.o _ X6),Aa (aG.o _ X6)⟩|((repeat apply Exists.intro);exact⟨⟨i+1,ac,by go_num,Aa (aR.o _ X6),Aa (aG.o _ X6)⟩,rfl⟩)
   case measure=>simp[intOf];omega
  .obtain rfl:i=N:=by omega
   go_wp2_with fail
   go_ret;exact⟨g,rfl,(aA.o.mono (by have:=aU.o;have:=bF.o;have:=aB.o.size;omega)).icongr fun j hj=>NV hj,aB.o.trans aF.o⟩
end
theorem Je(w:World)(A:Nat)(N:Nat)(hN:N<=1000)(tl y:List Int)(tv sv yv:Value)(ht:Ak w tv tl)(hy:Ak w yv y)(aF:tl.length=N)(hr:Bq tl y.length=true):
  Calls Tryz.prog 227 #[.pointer (some ⟨A,0,none⟩),.agg #[tv,sv],yv] w fun r w'=>∃g,r= .returned (.slice (some ⟨g,0,none⟩) N N)/\AG w' w.heap.size 3 g N (iv (OQ tl fun j=>y.getD j 0))/\Ex w w':=by
 obtain⟨b0,b1,eb,aB⟩:=AK w tv sv;obtain⟨ta,tc,rfl,_,t2,t3⟩:=ht.open;obtain⟨ya,yc,rfl,_,y2,y3⟩:=hy.open;unfold maxLen at t2 y2;rw[aF]at t3;rw[aF]at b0 b1 eb aB ⊢;have T3:=Aa t3;have Y3:=Aa y3;have aW:=Aa (fun i (hi:i<N)=>Dk hr (i:=i) ac);have aY:=Aa (fun i (hi:i<N)=>Ay (l:=tl) (i:=i) ac);have aX:=Aa (fun i (hi:i<y.length)=>Ay (l:=y) (i:=i) hi);have aI:=Aa eb;obtain⟨F,hF⟩:∃F,(OQ tl fun j=>y.getD j 0)=F:=⟨_,rfl⟩;have aZ:=Aa (fun i=>congrFun hF i);rw[hF];clear ht hy t3 y3 eb aF hF hr;go_enter Tryz.func227,Tryz.ntmps227
 go_wp2_with (at_make;refine Ap _ rfl _ _ 22 rfl 3 (.int .i64 0) 8 Tryz.underlying22 Aw rfl _ N rfl rfl rfl ac ai ?_)
 obtain⟨B,hB⟩:=nA w.heap.size;rw[hB]at b0 b1 aB
 try simp only[hB]
 have bA:=Aa hB;clear hB;generalize w.alloc (.cells #[.slice ta N tc,sv] 71)=w1 at *;intro w3 aA aE;have B0:=Aa b0;obtain⟨g,aC⟩:=nA (B+1);have aO:=Aa (show AG w3 g 3 g N (iv (EG F 0)) from by rw[<-aC,K9];exact aA)
 try simp only[aC]
 have aU:=Aa aE;have aP:=Aa (show w1.heap.size=g from by rw[<-aC,<-aB]);have aT:=aE.cell b0;clear aA aE b0 b1 aC aB;go_wp2_with fail
 go_loopw [17] (fun i' wr=>∃(i:Nat),i<=N/\i'= .int .i64 i/\Hia (AG wr g 3 g N (iv (EG F i)))/\Hia (Ex w1 wr)) (fun i' _=>N-(intOf i').toNat)
 case atStart=>exact⟨0,ac,rfl,aO,aU⟩
 case round=>
  clear aO aT;obtain⟨i,hi,rfl,aA,aD⟩:=hrel;by_cases hin:i<N
  .obtain⟨tb,to_,rfl,aK⟩:=T3.o ac;have aQ:=Aa (aI.o.trans aD.o);have aR:=aW.o i hin;obtain⟨k,hk⟩:=nA ((tl.getD i 0).toNat);have aL:tl.getD i 0=(k:Int):=by omega
   have aS:k<y.length:=ac;obtain⟨yb,yo,rfl,aJ⟩:=Y3.o ac;have aH:=aY.o i hin;rw[aL]at aH;have ct:=aQ.o.cell (aK i _ aH);obtain⟨z,hz⟩:=nA (y.getD k 0);have aG:=aX.o k aS;rw[hz]at aG;have cy:=aQ.o.cell (aJ k _ aG);have i1:(0:Int)<=(i:Int):=c9;have i2:(i:Int)<(N:Int):=ac;have i3:(0:Int)<=(k:Int):=ac;have i4:(k:Int)<(y.length:Int):=ac;have aV:=Aa (show Ax (EG F i) i z=EG F (i+1) from by
    rw[<-La,<-aZ.o i];show _=Ax (EG F i) i (y.getD (tl.getD i 0).toNat 0)
    rw[hk,hz])
   have co:=aA.o.cell hin;have cf:=aA.o.frz i;have aM:=Aa (aA.o.exSet (a:=w1) (Nat.le_of_eq aP.o) aD.o i (.int .i64 z));have aN:=Aa (show AG (wr.setCell ⟨g,i,none⟩ (.int .i64 z)) g 3 g N (iv (EG F (i+1))) from by
    rw[<-aV.o,<-Cy];exact aA.o.set i _)
   clear aR hk aL aH hz aG aK aJ aA aD;go_wp2_with fail
   go_roundw
   case rel=>first|exact⟨i+1,ac,by go_num,aN,aM⟩|((repeat apply Exists.intro);exact⟨⟨i+1,ac,by go_num,aN,aM⟩,rfl⟩)
   case measure=>simp[intOf];omega
  .obtain rfl:i=N:=by omega
   go_wp2_with fail
   go_ret;exact⟨g,rfl,(aA.o.mono (by have:=aP.o;have:=bA.o;have:=aI.o.size;omega)).icongr fun j hj=>NV hj,aI.o.trans aD.o⟩
end
section
def Eb(n:Nat)(f g:Nat->Nat):Prop:=(∀i,i<n->f i=g i)∨∃i,i<n/\(∀j,j<i->f j=g j)/\f i<g i
theorem Eb.antisymm{n:Nat}{f g:Nat->Nat}(hf:Bj n f)(hg:Bj n g)(h:Eb n f g)(k:Eb n g f):f=g:=by
 rcases h with h|⟨i,hi,h1,h2⟩
 .exact Ml hf hg h
 .rcases k with k|⟨j,hj,k1,k2⟩
  .have:=k i hi;omega
  .rcases Nat.lt_trichotomy i j with e|e|e
   .have:=k1 i e;omega
   .subst e;omega
   .have:=h1 j e;omega
def Ct(R:Nat->Option (Nat->Nat))(p:Nat->Nat)(c:Nat):Nat->Nat
 | 0=>c
 | x+1=>if (R x).isSome=true/\p x<p (Ct R p c x) then x else Ct R p c x
theorem FE{R:Nat->Option (Nat->Nat)}{p:Nat->Nat}{c:Nat}(hc:(R c).isSome=true):∀x,(R (Ct R p c x)).isSome=true/\(∀y,y<x->(R y).isSome=true->p (Ct R p c x)<=p y)/\p (Ct R p c x)<=p c
 | 0=>⟨hc,fun y h=>by omega,Nat.le_refl _⟩
 | x+1=>by
  obtain⟨h1,h2,h3⟩:=FE (p:=p) hc x;unfold Ct;split
  .rename_i h;refine⟨h.1,fun y hy hr=>?_,ac⟩;by_cases e:y=x
   .subst e;exact Nat.le_refl _
   .have:=h2 y ac hr;omega
  .rename_i h;refine⟨h1,fun y hy hr=>?_,h3⟩;by_cases e:y=x
   .subst e;apply Classical.byContradiction;intro hn;exact h ⟨hr,ac⟩
   .exact h2 y ac hr
def QS(n:Nat)(R:Nat->Nat->Option (Nat->Nat)):Nat->Nat->(Nat->Nat)->(Nat->Nat)
 | 0,_,p=>p
 | k+1,c,p=>QS n R k (c+1) (An ((R c (Ct (R c) p c n)).getD ED) p)
theorem Ob{n:Nat}{t:Tw}(hG:Cv n t):∀k c p,c+k=n->Bj n p->
  (∃h,Bj n h/\A7 c h/\Sf n t.R k c h/\QS n t.R k c p=An h p)/\∀h,Bj n h->A7 c h->Sf n t.R k c h->Eb n (QS n t.R k c p) (An h p)
 | 0,c,p,hc,hp=>by
  refine⟨⟨ED,Fz n,JN _,trivial,rfl⟩,fun h hP hF _=> .inl fun i hi=>?_⟩;have:h=ED:=A7.all hP (by
    have:c=n:=ac;subst this;exact hF)
  subst this;rfl
 | k+1,c,p,hc,hp=>by
  have aF:=hG.one c ac;obtain⟨aL,aK,_⟩:=FE (R:=t.R c) (p:=p) (c:=c) (by rw[aF];rfl) n;obtain⟨r,hr⟩:=Option.isSome_iff_exists.1 aL;obtain⟨_,hbn,aB,aE,aD⟩:=hG.rep _ _ _ hr;obtain⟨⟨h0,aN,aH,aM,aG⟩,hL⟩:=Ob hG k (c+1) (An r p) ac (aB.comp hp);have he:QS n t.R (k+1) c p=QS n t.R k (c+1) (An r p):=by
   show QS n t.R k (c+1) (An ((t.R c (Ct (t.R c) p c n)).getD ED) p)=_
   rw[hr];rfl
  rw[he];have aC:∀i,i<c->h0 i=i:=fun i hi=>aH i ac;refine⟨⟨An h0 r,aN.comp aB,fun i hi=>?_,⟨r,?_,?_⟩,?_⟩,fun h hP hF hS=>?_⟩
  .show r (h0 i)=i
   rw[aC i hi,aE i hi]
  .show t.R c (r (h0 c))=some r
   rw[aH c ac,aD];exact hr
  .rw[D9,aB.then_inv];exact aM
  .rw[aG];rfl
  .obtain⟨s,aA,aJ⟩:=hS;obtain⟨_,aI,hsP,hsF,hsb⟩:=hG.rep _ _ _ aA;have hle:=aK (h c) aI (by rw[aA];rfl);by_cases e:p (Ct (t.R c) p c n)=p (h c)
   .have e2:=hp.inj _ _ e;rw[<-e2,hr]at aA;injection aA with aA;subst aA;have:=hL (An h (A5 n r)) (hP.comp aB.inv) (hF.div aB aE (by rw[aD,e2])) aJ
    rwa[<-D9,aB.cancel]at this
   .right;refine⟨c,ac,fun j hj=>?_,?_⟩
    .rw[aG];show p (r (h0 j))=p (h j)
     rw[aC j hj,aE j hj,hF j hj]
    .rw[aG];show p (r (h0 c))<p (h c)
     rw[aH c ac,aD];omega
structure D3(n:Nat)(S:List (Nat->Nat))(b x:Nat)(f:Nat->Nat):Prop where
 gn:Gn S f
 fix:A7 b f
 at_:f b=x
 le:∀g,Gn S g->A7 b g->g b=x->Eb n f g
theorem D3.uniq{n:Nat}{S:List (Nat->Nat)}(hS:∀s∈S,Bj n s){b x:Nat}{f g:Nat->Nat}(hf:D3 n S b x f)(hg:D3 n S b x g):f=g:=
 Eb.antisymm (hf.gn.isP hS) (hg.gn.isP hS) (hf.le g hg.gn hg.fix hg.at_) (hg.le f hf.gn hf.fix hf.at_)
theorem GW.canon{n k:Nat}{S:List (Nat->Nat)}{t:Tw}(hn:1<=n)(hS:∀s∈S,Bj n s)(h:GW n S t k)(hk:S.length<=k){b x:Nat}(hb:b<n){r:Nat->Nat}(hr:t.R b x=some r):D3 n S b x (QS n t.R (n-(b+1)) (b+1) r):=by
 obtain⟨_,_,aA,aF,aD⟩:=h.good.rep _ _ _ hr;obtain⟨⟨h0,aJ,aC,aI,aB⟩,hL⟩:=Ob h.good (n-(b+1)) (b+1) r ac aA;have aK:=(h.grp hn hS hk ac aJ aC).1 aI;have aE:Gn S r:=h.snd.1 b x r (Nat.zero_le _) hr;refine⟨by rw[aB];exact aK.mul aE,fun i hi=>?_,?_,fun g hg hF aH=>?_⟩
 .rw[aB];show r (h0 i)=i
  rw[aC i ac,aF i hi]
 .rw[aB];show r (h0 b)=x
  rw[aC b ac,aD]
 .have aG:=hg.isP hS;have h1:A7 (b+1) (An g (A5 n r)):=hF.div aA aF (by rw[aD,aH]);have h2:=(h.grp hn hS hk ac (aG.comp aA.inv) h1).2 (hg.mul (aE.inv hS));have:=hL _ (aG.comp aA.inv) h1 h2
  rwa[aA.cancel]at this
open Classical in
noncomputable def F4 (n:Nat) (S:List (Nat->Nat)) (b x:Nat):Nat->Nat:=if h:∃f,D3 n S b x f then Classical.choose h else ED
open Classical in
theorem IK {n:Nat} {S:List (Nat->Nat)} (hS:∀s∈S,Bj n s) {b x:Nat} {f:Nat->Nat} (h:D3 n S b x f):F4 n S b x=f:=by
 have he:∃f,D3 n S b x f:=⟨f,h⟩;unfold F4;rw[dif_pos he];exact D3.uniq hS (Classical.choose_spec he) h
structure Lv where
 pt:Int
 orb:List Int
 reps:List (List Int)
end
end Go.Proofs.YtehieobniamagaaGreat
