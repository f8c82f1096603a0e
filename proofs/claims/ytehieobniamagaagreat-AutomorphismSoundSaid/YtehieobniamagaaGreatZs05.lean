/- Slices of slices of Ao; walks of the package matrix: entries, check. -/
import Derived.Deep.CutRange
import Derived.Deep.LoopGhost
import Derived.Test.YtehieobniamagaaGreatZs04
namespace Go.Proofs.YtehieobniamagaaGreat
open Go.RowKit
set_option linter.all false
set_option maxRecDepth 100000
set_option maxHeartbeats 4000000
def BZ(w:World)(v:Value)(rows:List (List Int)):Prop:=∃vals:List Value,Sl w v rows.length 1 vals/\∀(i:Nat) (r:List Int) (u:Value),rows[i]?=some r->vals[i]?=some u->Al w u r
theorem BZ.ex{w w':World}{v:Value}{rows:List (List Int)}(h:BZ w v rows)(hx:Ex w w'):BZ w' v rows:=by
 obtain⟨vals,h1,h2⟩:=h;exact⟨vals,h1.ex hx,fun i r u a b=>(h2 i r u a b).ex hx⟩
theorem BZ.open{w:World}{v:Value}{rows:List (List Int)}(h:BZ w v rows):∃a cap,v= .slice a rows.length cap/\rows.length<=cap/\cap<=maxLen/\
  (0<rows.length->∃b o,a=some ⟨b,o,none⟩/\∀(i:Nat) (r:List Int),rows[i]?=some r->∃u,w.cell? ⟨b,o+i,none⟩=some u/\Al w u r):=by
 obtain⟨vals,⟨h1,a,cap,h2,h3,h4,h5⟩,h6⟩:=h;refine⟨a,cap,h2,h3,h4,fun hn=>?_⟩;obtain⟨b,o,h7,h8⟩:=h5 hn;refine⟨b,o,h7,fun i r hr=>?_⟩;have hi:=(List.getElem?_eq_some_iff.1 hr).1;have hu:vals[i]?=some vals[i]:=List.getElem?_eq_getElem ac;exact⟨_,h8 i _ hu,h6 i r _ hr hu⟩
def Cc(q:Nat)(l:List Int):Int:=if (l.all fun x=>Gj q x)=true then 0 else 2
section
variable {b p m x0:Nat} {ml:List Int}
theorem ar{P:Prop}(h:P:=by rw[List.getElem?_eq_getElem hj,e]):P:=h
theorem Qw(w:World)(hg:Bh w b p m ml x0)(l:List Int)(v:Value)(hl:Al w v l):
  Calls Tryz.prog 247 #[.pointer (some (b,0)),v] w fun r w'=>r= .returned (.int .i64 (Cc (p^m) l))/\Ex w w':=by
 obtain⟨a,cap,rfl,s1,s2,s3⟩:=hl.open;have S3:=Aa s3;have HG:=Aa hg;have HE:=Aa (show Cc (p^m) l=if (l.all fun x=>Gj (p^m) x)=true then 0 else 2 from rfl);unfold maxLen at s2;clear hl s3 hg;go_enter Tryz.func247,Tryz.ntmps247
 go_wp2_with fail
 go_loopw [6,9] (fun _ i' wr=>∃i:Nat,i<=l.length/\i'= .int .i64 i/\Hia (∀(j:Nat) (x:Int),j<i->l[j]?=some x->Gj (p^m) x=true)/\Ex w wr) (fun _ i' _=>l.length-(intOf i').toNat)
 case atStart=>exact⟨0,ac,rfl,Aa (fun j x h=>ac),Ex.refl _⟩
 case round=>
  obtain⟨i,hi,rfl,aB,hx⟩:=hrel;by_cases hlt:i<l.length
  .obtain⟨x,aA⟩:∃x,l[i]?=some x:=⟨_,List.getElem?_eq_getElem hlt⟩;obtain⟨bb,o,rfl,hc⟩:=S3.o ac;have c1:=hx.cell (hc i x aA);have aC:=Aa (O3 wr (HG.o.ex hx) x);by_cases hb:Gj (p^m) x=true
   .have HA:=Aa (show ∀(j:Nat) (y:Int),j<i+1->l[j]?=some y->Gj (p^m) y=true from fun j y hj hy=>by
     by_cases e:j=i
     .subst e;rw[aA]at hy;injection hy with hy;subst hy;exact hb
     .exact aB.o j y ac hy)
    rw[hb]at aC;clear hc aA hb;go_wp2_with fail
    refine aC.o.mono ?_;rintro e w2⟨rfl,n,rfl⟩;go_wp2_with fail
    go_roundw
    case rel=>exact⟨i+1,ac,by go_num,HA,hx.drewN n⟩
    case measure=>simp[intOf];omega
   .have HF:=Aa (show Cc (p^m) l=2 by
     rw[HE.o,if_neg];intro h;exact hb (List.all_eq_true.1 h x (List.mem_of_getElem? aA)))
    have aD:Gj (p^m) x=false:=by simpa using hb
    rw[aD]at aC;clear hc aA hb aD;go_wp2_with fail
    refine aC.o.mono ?_;rintro e w2⟨rfl,n,rfl⟩;go_wp2_with fail
    go_ret;exact⟨Af HF.o.symm,hx.drewN n⟩
  .obtain rfl:i=l.length:=by omega
   have HF:=Aa (show Cc (p^m) l=0 by
    rw[HE.o,if_pos];rw[List.all_eq_true];intro y hy;obtain⟨j,hj,e⟩:=List.getElem_of_mem hy;exact aB.o j y hj ar)
   go_wp2_with fail
   go_ret;exact⟨Af HF.o.symm,hx⟩
def B6(q:Nat)(aA:Int)(rows:List (List Int)):Int:=
 if aA<0∨256<aA∨256<(rows.length:Int) then 3
 else if (rows.all fun r=>decide ((r.length:Int)=aA))=true then(if (rows.all fun r=>Cc q r==0)=true then 0 else 2) else 3
theorem EL(w:World)(c:Int)(v:Value):(w.alloc (.cells #[c,v] 137)).cell? (w.heap.size,0)=some (.int .i64 c)/\
  (w.alloc (.cells #[c,v] 137)).cell? (w.heap.size,1)=some v/\Ex w (w.alloc (.cells #[c,v] 137)):=
 ⟨ag,ag,(Ex.refl _).alloc _⟩
theorem TF{q:Nat}{l:List Int}:Cc q l=0∨Cc q l=2:=by unfold Cc;split <;> simp
theorem zaU{P:Prop}(h:P:=by
 subst e;rw[hr]at hs;injection hs with hs;subst hs;exact hl):P:=h
theorem dr{P:Prop}(h:P:=by simpa using this):P:=h
theorem RP(w:World)(hg:Bh w b p m ml x0)(cols:Int)(rows:List (List Int))(v:Value)(hv:BZ w v rows):
  Calls Tryz.prog 201 #[.pointer (some (b,0)),.agg #[cols,v]] w fun r w'=>r= .returned (.int .i64 (B6 (p^m) cols rows))/\Ex w w':=by
 obtain⟨d0,d1,e0⟩:=EL w cols v;have HE:=Aa (show B6 (p^m) cols rows=if cols<0∨256<cols∨256<(rows.length:Int) then 3
 else if (rows.all fun r=>decide ((r.length:Int)=cols))=true then(if (rows.all fun r=>Cc (p^m) r==0)=true then 0 else 2) else 3 from rfl)
 have aD:=hv.ex e0;have HG:=Aa (hg.ex e0);obtain⟨a,cap,rfl,s1,s2,s3⟩:=aD.open;have S3:=Aa s3;unfold maxLen at s2;clear hv aD s3 hg;by_cases h:cols<0∨256<cols∨256<(rows.length:Int)
 .have HR:=Aa (show B6 (p^m) cols rows=3 by rw[HE.o,if_pos h]);have hc:cols<0∨(0<=cols/\256<cols)∨(0<=cols/\cols<=256/\256<(rows.length:Int)):=by omega
  clear h HE;rcases hc with hc|⟨h1,h2⟩|⟨h1,h2,h3⟩
  all_goals
   go_enter Tryz.func201,Tryz.ntmps201
   go_wp2_with fail
   go_ret;exact⟨Af HR.o.symm,e0⟩
 .have h1:0<=cols:=by omega
  have h2:cols<=256:=ac;have h3:(rows.length:Int)<=256:=ac;have aG:=Aa (show B6 (p^m) cols rows=if (rows.all fun r=>decide ((r.length:Int)=cols))=true then(if (rows.all fun r=>Cc (p^m) r==0)=true then 0 else 2) else 3 by rw[HE.o,if_neg h]);clear h HE;go_enter Tryz.func201,Tryz.ntmps201
  go_wp2_with fail
  generalize w.alloc (.cells #[cols,.slice a rows.length cap] 137)=w1 at *
  go_loopw [6,27] (fun _ i' wr=>∃i:Nat,i<=rows.length/\i'= .int .i64 i/\Hia (∀(j:Nat) (r:List Int),j<i->rows[j]?=some r->(r.length:Int)=cols)/\Ex w1 wr) (fun _ i' _=>rows.length-(intOf i').toNat)
  case atStart=>exact⟨0,ac,rfl,Aa (fun j x h=>ac),Ex.refl _⟩
  case round=>
   obtain⟨i,hi,rfl,aA,hx⟩:=hrel;have r0:=hx.cell d0;have r1:=hx.cell d1;by_cases hlt:i<rows.length
   .obtain⟨r,hr⟩:∃r,rows[i]?=some r:=⟨_,List.getElem?_eq_getElem hlt⟩;obtain⟨bb,o,rfl,hc⟩:=S3.o ac;obtain⟨u,c1,hu⟩:=hc i r hr;obtain⟨ua,uc,rfl,u1,u2,u3⟩:=hu.open;have c2:=hx.cell c1;unfold maxLen at u2;by_cases hl:(r.length:Int)=cols
    .have hb:((r.length:Int) !=cols)=false:=by simpa using hl
     have HA:=Aa (show ∀(j:Nat) (s:List Int),j<i+1->rows[j]?=some s->(s.length:Int)=cols from fun j s hj hs=>by
      by_cases e:j=i
      .exact zaU
      .exact aA.o j s ac hs)
     clear hl hc c1 hu u3 hr;go_wp2_with fail
     go_roundw
     case rel=>exact⟨i+1,ac,by go_num,HA,hx⟩
     case measure=>simp[intOf];omega
    .have hb:((r.length:Int) !=cols)=true:=by simpa using hl
     have HF:=Aa (show B6 (p^m) cols rows=3 by
      rw[aG.o,if_neg];intro h;have:=List.all_eq_true.1 h r (List.mem_of_getElem? hr);exact hl dr)
     clear hl hc c1 hu u3 hr;exact zc7
   .obtain rfl:i=rows.length:=by omega
    have aF:=Aa (show B6 (p^m) cols rows=if (rows.all fun r=>Cc (p^m) r==0)=true then 0 else 2 by
     rw[aG.o,if_pos];rw[List.all_eq_true];intro r hr;obtain⟨j,hj,e⟩:=List.getElem_of_mem hr;exact decide_eq_true (aA.o j r hj ar))
    clear aA;go_wp2_with fail
    obtain⟨wo,rfl⟩:∃wo:World,wo=wr:=⟨_,rfl⟩;clear r0 r1
    go_loopw [8,9,40] (fun _ _ i' wr=>∃i:Nat,i<=rows.length/\i'= .int .i64 i/\Hia (∀(j:Nat) (r:List Int),j<i->rows[j]?=some r->Cc (p^m) r=0)/\Ex w1 wr) (fun _ _ i' _=>rows.length-(intOf i').toNat)
    case atStart=>exact⟨0,ac,rfl,Aa (fun j x h=>ac),hx⟩
    case round=>
     clear hx;obtain⟨i,hi,rfl,aA,hx⟩:=hrel;have r0:=hx.cell d0;have r1:=hx.cell d1;by_cases hlt:i<rows.length
     .obtain⟨r,hr⟩:∃r,rows[i]?=some r:=⟨_,List.getElem?_eq_getElem hlt⟩;obtain⟨bb,o,rfl,hc⟩:=S3.o ac;obtain⟨u,c1,hu⟩:=hc i r hr;obtain⟨ua,uc,rfl,u1,u2,u3⟩:=hu.open;have c2:=hx.cell c1;unfold maxLen at u2;have aB:=Aa (Qw wr (HG.o.ex hx) r _ (hu.ex hx));by_cases hl:Cc (p^m) r=0
      .have HA:=Aa (show ∀(j:Nat) (s:List Int),j<i+1->rows[j]?=some s->Cc (p^m) s=0 from fun j s hj hs=>by
        by_cases e:j=i
        .exact zaU
        .exact aA.o j s ac hs)
       rw[hl]at aB;clear hl hc c1 hu u3 hr;go_wp2_with fail
       refine aB.o.mono ?_;rintro e w3⟨rfl,aC⟩;go_wp2_with fail
       go_roundw
       case rel=>exact⟨i+1,ac,by go_num,HA,hx.trans aC⟩
       case measure=>simp[intOf];omega
      .have aE:Cc (p^m) r=2:=by rcases TF (q:=p^m) (l:=r) with e|e;exact absurd e hl;exact e
       have HF:=Aa (show B6 (p^m) cols rows=2 by
        rw[aF.o,if_neg];intro h;have:=List.all_eq_true.1 h r (List.mem_of_getElem? hr);exact hl dr)
       rw[aE]at aB;clear hl aE hc c1 hu u3 hr;go_wp2_with fail
       refine aB.o.mono ?_;rintro e w3⟨rfl,aC⟩;go_wp2_with fail
       go_ret;exact⟨Af HF.o.symm,e0.trans (hx.trans aC)⟩
     .obtain rfl:i=rows.length:=by omega
      have HF:=Aa (show B6 (p^m) cols rows=0 by
       rw[aF.o,if_pos];rw[List.all_eq_true];intro r hr;obtain⟨j,hj,e⟩:=List.getElem_of_mem hr;rw[aA.o j r hj ar];rfl)
      exact zc7
end
def OpenOut(p m:Int)(ml:List Int)(aA:Int)(rows:List (List Int))(w':World)(r:Ending):Prop:=
 (∃(pn mn x b:Nat),p=pn/\m=mn/\Bh w' b pn mn ml x/\1<=x/\x<pn^mn/\
  ((B6 (pn^mn) aA rows=0/\r= .returned (.tuple #[.pointer (some (b,0)),(0:Int)]))∨
  (B6 (pn^mn) aA rows≠0/\r= .returned (.tuple #[.pointer none,.int .i64 (B6 (pn^mn) aA rows)]))))∨
 (¬Ga p m ml/\r= .returned (.tuple #[.pointer none,(1:Int)]))
theorem Uy(p m:Int)(ml:List Int)(mv:Value)(w:World)(aG:Al w mv ml)(aA:Int)(rows:List (List Int))(v:Value)(hv:BZ w v rows)(B:Nat)
  (c0:w.cell? (B,0)=some (.int .i64 aA)) (c1:w.cell? (B,1)=some v):
  Calls Tryz.prog 156 #[.agg #[p,m,mv],.slice (some (B,0)) 1 1] w fun r w'=>OpenOut p m ml aA rows w' r/\Ex w w':=by
 obtain⟨d0,d1,d2,e0,_⟩:=AA w p m mv;obtain⟨va,aC,rfl,v1,v2,v3⟩:=hv.open;clear v1 v2 v3;obtain⟨HN,aI,HV,C0,C1⟩:=Of (fun w' h=>F8 p m ml mv w' h) aG hv c0 c1;clear aG hv c0 c1;go_enter Tryz.func156,Tryz.ntmps156
 go_wp2_with fail
 generalize w.alloc (.cells #[p,m,mv] 24)=w1 at *;refine(HN.o _ (aI.o.ex e0)).mono ?_;rintro e w2⟨ho,aE⟩;rcases ho with⟨pn,mn,x,b,rfl,rfl,rfl,hg,x1,x2⟩|⟨hno,rfl⟩
 .have c0:=(e0.trans aE).cell C0.o;have c1:=(e0.trans aE).cell C1.o;have HG:=Aa hg;have e2:=e0.trans aE;clear hg d0 d1 d2 aE;go_wp2_with fail
  refine wp_loop_rounds 2 ?_;rw[rounds_succ];go_wp2_with fail
  have aJ:=Aa (fun w' (h:Ex w w') (h':Bh w' b pn mn ml x)=>RP w' h' aA rows _ (HV.o.ex h));have HB:=Aa (EL w2 aA (.slice va rows.length aC));have aB:Ex w2 (w2.alloc (.cells #[aA,.slice va rows.length aC] 137)):=(Ex.refl _).alloc _;generalize w2.alloc (.cells #[aA,.slice va rows.length aC] 137)=w4 at *;refine(aJ.o w4 (e2.trans aB) (HG.o.ex aB)).mono ?_;rintro e w5⟨rfl,aD⟩;have c0':=aD.cell (aB.cell c0);have c1':=aD.cell (aB.cell c1);by_cases h0:B6 (pn^mn) aA rows=0
  .have HH:=Aa h0;rw[h0];clear h0;go_wp2_with fail
   rw[rounds_succ];go_wp2_with fail
   go_ret2;exact⟨.inl ⟨pn,mn,x,b,rfl,rfl,HG.o.ex (aB.trans aD),x1,x2,.inl ⟨HH.o,rfl⟩⟩,(e2.trans aB).trans aD⟩
  .obtain⟨mk,aF⟩:=nA (B6 (pn^mn) aA rows);rw[aF]at h0 ⊢;have HK:=Aa aF;have hb:(mk !=0)=true:=by simpa using h0
   have HH:=Aa h0;clear h0 aF;go_wp2_with fail
   go_ret2;exact⟨.inl ⟨pn,mn,x,b,rfl,rfl,HG.o.ex (aB.trans aD),x1,x2,.inr ⟨by rw[HK.o];exact HH.o,by rw[HK.o];rfl⟩⟩,(e2.trans aB).trans aD⟩
 .have aH:=Aa hno;clear hno;go_wp2_with fail
  go_ret2;exact⟨.inr ⟨aH.o,rfl⟩,e0.trans aE⟩
def Me(p m:Int)(ml:List Int)(aA:Int)(rows:List (List Int))(e:Int):Prop:=
 (∃pn mn:Nat,p=pn/\m=mn/\Ga p m ml/\e=B6 (pn^mn) aA rows)∨(¬Ga p m ml/\e=1)
theorem Bh.fldB{w:World}{b p m x:Nat}{ml:List Int}(h:Bh w b p m ml x)(h1:1<=x)(h2:x<p^m):Ga p m ml:=⟨p,m,rfl,rfl,h.sh,h.pr,x,h1,h2,h.gen⟩
section
variable {p m:Nat} {ml:List Int} {mv:Value}
theorem Zt(hf:Ha p m ml)(x:Int):isI p m x=Gj (p^m) x:=by unfold isI Gj;rw[hf.ord]
theorem Ip(w:World)(hf:Ha p m ml)(l:List Int)(v:Value)(hl:Al w v l):
  Calls Tryz.prog 153 #[.agg #[p,m,mv],v] w fun r w'=>r= .returned (.int .i64 (Cc (p^m) l))/\Ex w w':=by
 obtain⟨d0,d1,d2,e0,_⟩:=AA w p m mv;obtain⟨a,cap,rfl,s1,s2,s3⟩:=(hl.ex e0).open;have S3:=Aa s3;have aH:=Aa (fun w' x=>by have:=SY p m x mv w';rw[Zt hf]at this;exact this);have HE:=Aa (show Cc (p^m) l=if (l.all fun x=>Gj (p^m) x)=true then 0 else 2 from rfl);unfold maxLen at s2;clear hl s3 hf;go_enter Tryz.func153,Tryz.ntmps153
 go_wp2_with fail
 obtain⟨xb,aC⟩:=nA w.heap.size;rw[aC]at d0 d1 d2
 try simp only[aC]
 generalize w.alloc (.cells #[p,m,mv] 24)=w1 at *;clear aC
 go_loopw [5] (fun i' wr=>∃i:Nat,i<=l.length/\i'= .int .i64 i/\Hia (∀(j:Nat) (x:Int),j<i->l[j]?=some x->Gj (p^m) x=true)/\Ex w1 wr) (fun i' _=>l.length-(intOf i').toNat)
 case atStart=>exact⟨0,ac,rfl,Aa (fun j x h=>ac),Ex.refl _⟩
 case round=>
  obtain⟨i,hi,rfl,aA,hx⟩:=hrel;by_cases hlt:i<l.length
  .obtain⟨x,aB⟩:∃x,l[i]?=some x:=⟨_,List.getElem?_eq_getElem hlt⟩;obtain⟨bb,o,rfl,hc⟩:=S3.o ac;have c1:=hx.cell (hc i x aB);have r0:=hx.cell d0;have r1:=hx.cell d1;have r2:=hx.cell d2;have aF:=Aa (fun w'=>aH.o w' x);have aE:=Aa aB;obtain⟨bo,aD⟩:=nA (Gj (p^m) x);rw[aD]at aF;have aG:=Aa aD;clear hc aB aD;go_wp2_with fail
   go_region_held3 (fun w'=>w'.cell? (xb,0)=some (.int .i64 p)/\w'.cell? (xb,1)=some (.int .i64 m)/\w'.cell? (xb,2)=some mv/\w'.cell? (bb,o+i)=some (.int .i64 x)/\Ex w1 w')
    (first|exact⟨r0,r1,r2,c1,hx.drew⟩|exact⟨hx1.cell r0,hx1.cell r1,hx1.cell r2,hx1.cell c1,hx.drew.trans hx1⟩)
    ((go_at_call 200;refine(aF.o _).mono ?_;rintro e w2⟨rfl,hx1⟩))
   have hE:=(‹_/\_/\_/\_/\Ex w1 _›).2.2.2.2
   cases bo with
   | true=>
    have HA:=Aa (show ∀(j:Nat) (y:Int),j<i+1->l[j]?=some y->Gj (p^m) y=true from fun j y hj hy=>by
     by_cases e:j=i
     .subst e;rw[aE.o]at hy;injection hy with hy;subst hy;exact aG.o
     .exact aA.o j y ac hy)
    go_wp2_with fail
    go_roundw
    case rel=>exact⟨i+1,ac,by go_num,HA,hE⟩
    case measure=>simp[intOf];omega
   | false=>
    have HF:=Aa (show Cc (p^m) l=2 by
     rw[HE.o,if_neg];intro h;have:=List.all_eq_true.1 h x (List.mem_of_getElem? aE.o);rw[aG.o]at this;cases this)
    go_wp2_with fail
    go_ret;exact⟨Af HF.o.symm,e0.trans hE⟩
  .obtain rfl:i=l.length:=by omega
   have HF:=Aa (show Cc (p^m) l=0 by
    rw[HE.o,if_pos];rw[List.all_eq_true];intro y hy;obtain⟨j,hj,e⟩:=List.getElem_of_mem hy;exact aA.o j y hj ar)
   exact zc7
end
theorem WE{p m:Nat}(hp:1<=p){a b:Nat}(hb:b<p^m)(h:AG p m a b=0):b=CH p m a:=by
 have h1:AG p m (CH p m a) (AG p m a b)=b:=by
  rw[<-BG hp,DT (CH p m a),CQ hp,DK hp hb]
 rw[h,Bt hp (Dh hp a)]at h1;exact h1.symm
theorem UM{p m:Nat}{low:Vc}(hp:1<=p)(x y:Nat):Ai p m low (CH p m x) y=CH p m (Ai p m low x y):=by
 refine WE hp (AY hp _ _) ?_;rw[<-Jm hp,CQ hp,BT hp]
theorem AE{p m:Nat}{low:Vc}(hp:1<=p)(x:Nat):Ai p m low x 0=0:=by rw[AU,BT hp]
theorem Fy{q:Nat}{x:Int}(h0:0<=x)(h:x<q):((Ar q x:Nat):Int)=x:=by unfold Ar;rw[if_pos ⟨h0,h⟩];omega
theorem Cf(q:Nat):Ar q 0=0:=by unfold Ar;split <;> rfl
theorem Lx{q:Nat}{r:List Int}(h:Cc q r=0):∀x∈r,0<=x/\x<q:=fun x hx=>by
 unfold Cc at h;split at h
 .rename_i h1;have:=List.all_eq_true.1 h1 x hx;unfold Gj at this;exact of_decide_eq_true this
 .cases h
theorem TE{q:Nat}{r:List Int}(h:∀x∈r,0<=x/\x<q):Cc q r=0:=by
 unfold Cc;rw[if_pos];rw[List.all_eq_true];intro x hx;unfold Gj;exact decide_eq_true (h x hx)
theorem Lg{p m:Nat}{ml:List Int}(hp:2<=p)(hm:1<=m)(hF:Hf p m (lw ml)){z:Nat}(h1:1<=z)(h2:z<p^m):Ai p m (lw ml) z (Ed p m ml z)=1:=by
 obtain⟨y,y1,y2,y3⟩:=hF.inv hp hm h1 h2;rw[Oj hp hm hF h2 h1 y2 y3,y3]
section
variable {p m:Nat} {ml:List Int} {N:Nat}
theorem AL(N:Nat)(x:Nat->Int):(il N x).length=N:=by unfold il;simp
theorem zcZ{P:Prop}(h:P:=by
 rw[List.getD_eq_getElem?_getD,List.getElem?_eq_getElem (by omega)];rfl):P:=h
theorem TH(hp:2<=p){r:List Int}(hr:r.length=N){x y:Nat->Int}{i:Nat}(hx:x i=0)(h:∀j,j<N->j≠i->r.getD j 0≠0->y j=x j):∀n,n<=N->
  Cb p m ml (r.take n) ((il N y).take n) 0=if i<n then AG p m (Cb p m ml (r.take n) ((il N x).take n) 0) (Ai p m (lw ml) (Ar (p^m) (r.getD i 0)) (Ar (p^m) (y i))) else Cb p m ml (r.take n) ((il N x).take n) 0
 | 0,_=>by simp[Cb]
 | n+1,hn=>by
  have ih:=TH hp hr hx h n ac;have hq:1<=p^m:=Nat.pow_pos ac;have aA:r[n]?=some (r.getD n 0):=by
   exact zcZ
  rw[GZ r (il N y) n 0 _ _ aA (AQ (show n<N by omega) _),GZ r (il N x) n 0 _ _ aA (AQ (show n<N by omega) _),ih];by_cases e:n=i
  .subst e;rw[if_neg ac,if_pos ac,hx,Cf,AE ac,Bt ac (Kh ac _ _ _ ac)]
  .have he:Ai p m (lw ml) (Ar (p^m) (r.getD n 0)) (Ar (p^m) (y n))=Ai p m (lw ml) (Ar (p^m) (r.getD n 0)) (Ar (p^m) (x n)):=by
    by_cases h0:r.getD n 0=0
    .rw[h0,Cf,BT ac,BT ac]
    .rw[h n ac e h0]
   rw[he];by_cases hi:i<n
   .rw[if_pos hi,if_pos ac,BG ac,BG ac]
    congr 1
    exact DT _ _
   .rw[if_neg hi,if_neg ac]
theorem QD{r:List Int}(hr:r.length=N)(x:Nat->Int):Cb p m ml (r.take N) ((il N x).take N) 0=Cb p m ml r (il N x) 0:=Jn _ _ _ _ (by rw[hr];omega)
theorem LC(hp:2<=p){r:List Int}(hr:r.length=N){x y:Nat->Int}{i:Nat}(hi:i<N)(hx:x i=0)(h:∀j,j<N->j≠i->r.getD j 0≠0->y j=x j):
  Cb p m ml r (il N y) 0=AG p m (Cb p m ml r (il N x) 0) (Ai p m (lw ml) (Ar (p^m) (r.getD i 0)) (Ar (p^m) (y i))):=by
 have:=TH (ml:=ml) (m:=m) hp hr hx h N (Nat.le_refl _);rw[if_pos hi,QD hr,QD hr]at this;exact this
end
section
variable {p m:Nat} {ml:List Int} {N R:Nat}
def dt(p m:Nat)(ml:List Int)(N:Nat)(f x:Nat->Int):Nat:=Cb p m ml (il N f) (il N x) 0
def Sb(p m:Nat)(ml:List Int)(N:Nat)(f x:Nat->Int)(n:Nat):Nat:=Cb p m ml ((il N f).take n) ((il N x).take n) 0
theorem Dw(f x:Nat->Int):Sb p m ml N f x 0=0:=by unfold Sb;simp[Cb]
theorem Dx(f x:Nat->Int){n:Nat}(hn:n<N):Sb p m ml N f x (n+1)=AG p m (Sb p m ml N f x n) (Ai p m (lw ml) (Ar (p^m) (f n)) (Ar (p^m) (x n))):=
 GZ _ _ n 0 _ _ (AQ hn f) (AQ hn x)
theorem Ev(f x:Nat->Int):Sb p m ml N f x N=dt p m ml N f x:=Jn _ _ _ _ (by rw[AL,AL];omega)
theorem dtK_lt(hp:2<=p)(f x:Nat->Int)(n:Nat):Sb p m ml N f x n<p^m:=Kh ac _ _ _ (Nat.pow_pos ac)
theorem QA(hp:2<=p)(f x:Nat->Int):dt p m ml N f x<p^m:=Kh ac _ _ _ (Nat.pow_pos ac)
theorem Nb:∀(l k:List Int) (s:Nat),Cb p m ml l k s=Cb p m ml k l s
 | x :: l,y :: k,s=>by unfold Cb;rw[AU,Nb l k]
 | [], [],s=>rfl
 | [],y :: k,s=>by unfold Cb;rfl
 | x :: l, [],s=>by unfold Cb;rfl
theorem Kn(f x:Nat->Int):dt p m ml N f x=dt p m ml N x f:=Nb _ _ _
theorem FH{f f' x x':Nat->Int}(hf:∀j,j<N->f j=f' j)(hx:∀j,j<N->x j=x' j):dt p m ml N f x=dt p m ml N f' x':=by
 have aA:∀n,n<=N->Sb p m ml N f x n=Sb p m ml N f' x' n:=fun n=>by
  induction n with
  | zero=>intro _;rw[Dw,Dw]
  | succ n ih=>intro hn;rw[Dx _ _ ac,Dx _ _ ac,ih ac,hf n ac,hx n ac]
 rw[<-Ev,<-Ev,aA N (Nat.le_refl _)]
theorem E7(hp:2<=p){f x:Nat->Int}(hf:∀j,j<N->f j=0):dt p m ml N f x=0:=by
 have aA:∀n,n<=N->Sb p m ml N f x n=0:=fun n=>by
  induction n with
  | zero=>intro _;rw[Dw]
  | succ n ih=>intro hn;rw[Dx _ _ ac,ih ac,hf n ac,Cf,BT ac,Bt ac (Nat.pow_pos ac)]
 rw[<-Ev,aA N (Nat.le_refl _)]
def BM(p m:Nat)(ml:List Int)(c:Nat)(f:Nat->Int)(j:Nat):Int:=((Ai p m (lw ml) c (Ar (p^m) (f j)):Nat):Int)
def BN(p m:Nat)(ml:List Int)(v:Nat->Int)(c:Nat)(u:Nat->Int)(j:Nat):Int:=
 if u j=0 then v j else((AG p m (Ar (p^m) (v j)) (Ai p m (lw ml) c (Ar (p^m) (u j))):Nat):Int)
theorem GF{low:Vc}(hp:1<=p)(a x y:Nat):Ai p m low a (AG p m x y)=AG p m (Ai p m low a x) (Ai p m low a y):=by
 rw[AU,Jm hp,AU x,AU y]
theorem Xw(hp:2<=p)(c:Nat)(f x:Nat->Int):dt p m ml N (BM p m ml c f) x=Ai p m (lw ml) c (dt p m ml N f x):=by
 have aA:∀n,n<=N->Sb p m ml N (BM p m ml c f) x n=Ai p m (lw ml) c (Sb p m ml N f x n):=fun n=>by
  induction n with
  | zero=>intro _;rw[Dw,Dw,AE ac]
  | succ n ih=>
   intro hn;rw[Dx _ _ ac,Dx _ _ ac,ih ac,GF ac]
   congr 1
   unfold BM;rw[Ay (AY ac _ _),Bb ac]
 rw[<-Ev,<-Ev,aA N (Nat.le_refl _)]
theorem kadd4(hp:1<=p)(a b c d:Nat):AG p m (AG p m a b) (AG p m c d)=AG p m (AG p m a c) (AG p m b d):=by
 rw[BG hp,BG hp]
 congr 1
 rw[<-BG hp,<-BG hp,DT b c]
theorem LB(hp:2<=p)(v:Nat->Int)(c:Nat)(u x:Nat->Int):dt p m ml N (BN p m ml v c u) x=AG p m (dt p m ml N v x) (Ai p m (lw ml) c (dt p m ml N u x)):=by
 have hq:1<=p^m:=Nat.pow_pos ac;have aA:∀n,n<=N->Sb p m ml N (BN p m ml v c u) x n=AG p m (Sb p m ml N v x n) (Ai p m (lw ml) c (Sb p m ml N u x n)):=fun n=>by
  induction n with
  | zero=>intro _;rw[Dw,Dw,Dw,AE ac,Bt ac ac]
  | succ n ih=>
   intro hn;rw[Dx _ _ ac,Dx _ _ ac,Dx _ _ ac,ih ac,GF ac,kadd4 ac]
   congr 1
   unfold BN;by_cases h0:u n=0
   .rw[if_pos h0,h0,Cf,BT ac,AE ac,Bt ac (AY ac _ _)]
   .rw[if_neg h0,Ay (E4 ac _ _),Jm ac,Bb ac]
 rw[<-Ev,<-Ev,<-Ev,aA N (Nat.le_refl _)]
def BY(p m:Nat)(ml:List Int)(N R:Nat)(a:Nat->Nat->Int)(x:Nat->Int):Prop:=∀i,i<R->dt p m ml N (a i) x=0
def DE(a:Nat->Nat->Int)(s k:Nat):Nat->Nat->Int:=fun i=>if i=s then a k else if i=k then a s else a i
variable {a:Nat->Nat->Int} {x:Nat->Int}
theorem BY.swp{s k:Nat}(hs:s<R)(hk:k<R):BY p m ml N R (DE a s k) x↔BY p m ml N R a x:=by
 unfold BY DE;constructor
 .intro h i hi;by_cases e:i=s
  .subst e;by_cases e2:k=i
   .subst e2;have:=h k hk;rwa[if_pos rfl]at this
   .have:=h k hk;rwa[if_neg e2,if_pos rfl]at this
  .by_cases e2:i=k
   .subst e2;have:=h s hs;rwa[if_pos rfl]at this
   .have:=h i hi;rwa[if_neg e,if_neg e2]at this
 .intro h i hi;by_cases e:i=s
  .rw[if_pos e];exact h k hk
  .rw[if_neg e];by_cases e2:i=k
   .rw[if_pos e2];exact h s hs
   .rw[if_neg e2];exact h i hi
theorem BY.scl(hp:2<=p)(hm:1<=m)(hF:Hf p m (lw ml)){s c:Nat}(hs:s<R)(h1:1<=c)(h2:c<p^m):BY p m ml N R (Az a s (BM p m ml c (a s))) x↔BY p m ml N R a x:=by
 unfold BY;have aA:dt p m ml N (BM p m ml c (a s)) x=0↔dt p m ml N (a s) x=0:=by
  rw[Xw hp];constructor
  .intro h;by_cases e:dt p m ml N (a s) x=0
   .exact e
   .have:=hF.ne_zero hp hm h1 h2 (show 1<=dt p m ml N (a s) x by omega) (QA hp _ _);omega
  .intro h;rw[h,AE ac]
 constructor
 .intro h i hi;have:=h i hi;by_cases e:i=s
  .subst e;rw[Ab]at this;exact aA.1 this
  .rwa[Ad _ _ e]at this
 .intro h i hi;by_cases e:i=s
  .subst e;rw[Ab];exact aA.2 (h i hi)
  .rw[Ad _ _ e];exact h i hi
theorem BY.add(hp:2<=p){s i c:Nat}(hs:s<R)(hi:i<R)(aB:i≠s):BY p m ml N R (Az a i (BN p m ml (a i) c (a s))) x↔BY p m ml N R a x:=by
 unfold BY;constructor
 .intro h k hk;have aA:=h s hs;rw[Ad _ _ (fun e=>aB e.symm)]at aA;have:=h k hk;by_cases e:k=i
  .subst e;rw[Ab,LB hp,aA,AE ac,Bt ac (QA hp _ _)]at this;exact this
  .rwa[Ad _ _ e]at this
 .intro h k hk;by_cases e:k=i
  .subst e;rw[Ab,LB hp,h k hk,h s hs,AE ac,Bt ac (Nat.pow_pos ac)]
  .rw[Ad _ _ e];exact h k hk
def QZ(p m R N:Nat)(a:Nat->Nat->Int):Prop:=∀i,i<R->∀j,j<N->0<=a i j/\a i j<((p^m:Nat):Int)
theorem QZ.swp{s k:Nat}(hs:s<R)(hk:k<R)(h:QZ p m R N a):QZ p m R N (DE a s k):=fun i hi j hj=>by
 unfold DE;by_cases e:i=s
 .rw[if_pos e];exact h k hk j hj
 .rw[if_neg e];by_cases e2:i=k
  .rw[if_pos e2];exact h s hs j hj
  .rw[if_neg e2];exact h i hi j hj
theorem QZ.scl(hp:1<=p){s c:Nat}(h:QZ p m R N a):QZ p m R N (Az a s (BM p m ml c (a s))):=fun i hi j hj=>by
 by_cases e:i=s
 .subst e;rw[Ab];unfold BM;have:=AY (p:=p) (m:=m) (low:=lw ml) hp c (Ar (p^m) (a i j));omega
 .rw[Ad _ _ e];exact h i hi j hj
theorem QZ.add(hp:1<=p){s i c:Nat}(h:QZ p m R N a):QZ p m R N (Az a i (BN p m ml (a i) c (a s))):=fun k hk j hj=>by
 by_cases e:k=i
 .subst e;rw[Ab];unfold BN;split
  .exact h k hk j hj
  .have:=E4 (p:=p) (m:=m) hp (Ar (p^m) (a k j)) (Ai p m (lw ml) c (Ar (p^m) (a s j)));omega
 .rw[Ad _ _ e];exact h k hk j hj
structure PV(p m R N:Nat)(a:Nat->Nat->Int)(piv:List Nat)(c:Nat):Prop where
 le:piv.length<=R
 rng:QZ p m R N a
 lt:∀(j q:Nat),piv[j]?=some q->q<c
 one:∀(j q:Nat),piv[j]?=some q->a j q=1
 zer:∀(j q i:Nat),piv[j]?=some q->i<R->i≠j->a i q=0
 tail:∀(i j:Nat),piv.length<=i->i<R->j<c->a i j=0
 lead:∀(j q k:Nat),piv[j]?=some q->k<q->a j k=0
 asc:∀(i j q r:Nat),i<j->piv[i]?=some q->piv[j]?=some r->q<r
variable {piv:List Nat} {c:Nat}
theorem PV.init(h:QZ p m R N a):PV p m R N a [] 0:=⟨ag,h,fun j q h=>by simp at h,fun j q h=>by simp at h,fun j q i h=>by simp at h,fun i j _ _ h=>ac,fun j q k h=>by simp at h,fun i j q r _ h=>by simp at h⟩
theorem PV.none(h:PV p m R N a piv c)(hz:∀k,piv.length<=k->k<R->a k c=0):PV p m R N a piv (c+1):=
 ⟨h.le,h.rng,fun j q hj=>by have:=h.lt j q hj;omega,h.one,h.zer,fun i j h1 h2 h3=>by
  by_cases e:j=c
  .rw[e];exact hz i h1 h2
  .exact h.tail i j h1 h2 ac,h.lead,h.asc⟩
theorem PV.swp(h:PV p m R N a piv c){k:Nat}(aC:piv.length<=k)(hk:k<R):PV p m R N (DE a piv.length k) piv c:=by
 refine⟨h.le,h.rng.swp ac hk,h.lt,fun j q hj=>?_,fun j q i hj hi aB=>?_,fun i j h1 h2 h3=>?_,fun j q t hj ht=>?_,h.asc⟩
 .have aA:=(List.getElem?_eq_some_iff.1 hj).1;unfold DE;rw[if_neg ac,if_neg ac];exact h.one j q hj
 .have aA:=(List.getElem?_eq_some_iff.1 hj).1;unfold DE;by_cases e:i=piv.length
  .rw[if_pos e];exact h.zer j q k hj hk ac
  .rw[if_neg e];by_cases e2:i=k
   .rw[if_pos e2];exact h.zer j q _ hj ac ac
   .rw[if_neg e2];exact h.zer j q i hj hi aB
 .unfold DE;by_cases e:i=piv.length
  .rw[if_pos e];exact h.tail k j aC hk h3
  .rw[if_neg e];by_cases e2:i=k
   .rw[if_pos e2];exact h.tail _ j (Nat.le_refl _) ac h3
   .rw[if_neg e2];exact h.tail i j h1 h2 h3
 .have aA:=(List.getElem?_eq_some_iff.1 hj).1;unfold DE;rw[if_neg ac,if_neg ac];exact h.lead j q t hj ht
theorem PV.scl(hp:1<=p)(h:PV p m R N a piv c)(hs:piv.length<R){k:Nat}:PV p m R N (Az a piv.length (BM p m ml k (a piv.length))) piv c:=by
 have hz:∀j,a piv.length j=0->BM p m ml k (a piv.length) j=0:=fun j hj=>by
  unfold BM;rw[hj,Cf,AE hp];rfl
 refine⟨h.le,h.rng.scl hp,h.lt,fun j q hj=>?_,fun j q i hj hi aA=>?_,fun i j h1 h2 h3=>?_,fun j q t hj ht=>?_,h.asc⟩
 .have aB:=(List.getElem?_eq_some_iff.1 hj).1;rw[Ad _ _ ac];exact h.one j q hj
 .have aB:=(List.getElem?_eq_some_iff.1 hj).1;by_cases e:i=piv.length
  .subst e;rw[Ab];exact hz q (h.zer j q _ hj hi aA)
  .rw[Ad _ _ e];exact h.zer j q i hj hi aA
 .by_cases e:i=piv.length
  .subst e;rw[Ab];exact hz j (h.tail _ j (Nat.le_refl _) h2 h3)
  .rw[Ad _ _ e];exact h.tail i j h1 h2 h3
 .have aB:=(List.getElem?_eq_some_iff.1 hj).1;rw[Ad _ _ ac];exact h.lead j q t hj ht
theorem PV.add(hp:1<=p)(h:PV p m R N a piv c)(hs:piv.length<R){i k:Nat}(hi:i<R)(hne:i≠piv.length):PV p m R N (Az a i (BN p m ml (a i) k (a piv.length))) piv c:=by
 have hz:∀j,a piv.length j=0->BN p m ml (a i) k (a piv.length) j=a i j:=fun j hj=>by
  unfold BN;rw[if_pos hj]
 refine⟨h.le,h.rng.add hp,h.lt,fun j q hj=>?_,fun j q r hj hr aA=>?_,fun r j h1 h2 h3=>?_,fun j q t hj ht=>?_,h.asc⟩
 .have aB:=(List.getElem?_eq_some_iff.1 hj).1;by_cases e:j=i
  .subst e;rw[Ab,hz q (h.zer j q _ hj hs ac)];exact h.one j q hj
  .rw[Ad _ _ e];exact h.one j q hj
 .have aB:=(List.getElem?_eq_some_iff.1 hj).1;by_cases e:r=i
  .subst e;rw[Ab,hz q (h.zer j q _ hj hs ac)];exact h.zer j q r hj hr aA
  .rw[Ad _ _ e];exact h.zer j q r hj hr aA
 .by_cases e:r=i
  .subst e;rw[Ab,hz j (h.tail _ j (Nat.le_refl _) hs h3)];exact h.tail r j h1 h2 h3
  .rw[Ad _ _ e];exact h.tail r j h1 h2 h3
 .by_cases e:j=i
  .subst e;rw[Ab,hz t (h.tail _ t (Nat.le_refl _) hs (by have:=h.lt j q hj;omega))];exact h.lead j q t hj ht
  .rw[Ad _ _ e];exact h.lead j q t hj ht
theorem PV.done(h:PV p m R N a piv c)(hs:piv.length<R)(h1:a piv.length c=1)(hz:∀i,i<R->i≠piv.length->a i c=0):PV p m R N a (piv ++ [c]) (c+1):=by
 have aA:∀(j q:Nat),(piv ++ [c])[j]?=some q->piv[j]?=some q∨(j=piv.length/\q=c):=fun j q hj=>by
  by_cases e:j<piv.length
  .rw[List.getElem?_append_left e]at hj;exact .inl hj
  .rw[List.getElem?_append_right ac]at hj;obtain⟨hl,hv⟩:=List.getElem?_eq_some_iff.1 hj;simp at hl hv;exact .inr ⟨ac,hv.symm⟩
 refine⟨by simp;omega,h.rng,fun j q hj=>?_,fun j q hj=>?_,fun j q i hj hi aB=>?_,fun i j k1 k2 k3=>?_,fun j q t hj ht=>?_,fun i j q r aC hi hj=>?_⟩
 .rcases aA j q hj with k|⟨_,rfl⟩
  .have:=h.lt j q k;omega
  .omega
 .rcases aA j q hj with k|⟨rfl,rfl⟩
  .exact h.one j q k
  .exact h1
 .rcases aA j q hj with k|⟨rfl,rfl⟩
  .exact h.zer j q i k hi aB
  .exact hz i hi aB
 .simp at k1;by_cases e:j=c
  .rw[e];exact hz i k2 ac
  .exact h.tail i j ac k2 ac
 .rcases aA j q hj with k|⟨rfl,rfl⟩
  .exact h.lead j q t k ht
  .exact h.tail _ t (Nat.le_refl _) hs ht
 .rcases aA j r hj with k|⟨rfl,rfl⟩
  .rcases aA i q hi with k2|⟨rfl,rfl⟩
   .exact h.asc i j q r aC k2 k
   .have:=(List.getElem?_eq_some_iff.1 k).1;omega
  .rcases aA i q hi with k2|⟨rfl,rfl⟩
   .exact h.lt i q k2
   .omega
theorem PV.dist(h:PV p m R N a piv c){i j q:Nat}(hi:piv[i]?=some q)(hj:piv[j]?=some q):i=j:=by
 have hjl:=(List.getElem?_eq_some_iff.1 hi).1;have hle:=h.le;by_cases e:i=j
 .exact e
 .exfalso;have h1:=h.one i q hi;have h2:=h.zer j q i hj ac e;omega
structure Kv(p m:Nat)(a:Nat->Nat->Int)(piv:List Nat)(c k:Nat)(x:Nat->Int):Prop where
 c1:x c=1
 pv:∀(i q:Nat),i<k->piv[i]?=some q->x q=((CH p m (Ar (p^m) (a i c)):Nat):Int)
 z:∀j,j≠c->(∀i,i<k->piv[i]?≠some j)->x j=0
theorem Kv.zero:Kv p m a piv c 0 (Az (fun _=>0) c 1):=⟨Ab _ _ _,fun i q h=>absurd h ac,fun j hj _=>Ad _ _ hj⟩
theorem Kv.succ{c0 k q:Nat}(hP:PV p m R N a piv c0)(h:Kv p m a piv c k x)(hq:piv[k]?=some q)(hc:q≠c):Kv p m a piv c (k+1) (Az x q ((CH p m (Ar (p^m) (a k c)):Nat):Int)):=by
 refine⟨by rw[Ad _ _ (fun e=>hc e.symm)];exact h.c1,fun i r hi hr=>?_,fun j hj aA=>?_⟩
 .by_cases e:i=k
  .subst e;rw[hq]at hr;injection hr with hr;subst hr;rw[Ab]
  .have:r≠q:=fun e2=>e (hP.dist (by rw[<-e2];exact hr) hq);rw[Ad _ _ this];exact h.pv i r ac hr
 .have:j≠q:=fun e=>aA k ac (by rw[e];exact hq);rw[Ad _ _ this];exact h.z j hj fun i hi=>aA i ac
theorem zdn{P:Prop}(h:P:=by
 rw[List.getD_eq_getElem?_getD,AQ hj];rfl):P:=h
theorem Kv.sol(hp:2<=p)(hm:1<=m){c0:Nat}(hP:PV p m R N a piv c0)(aD:piv.length=R∨c0=N)(hc0:c0<=N)(hc:c<N)(aG:∀i:Nat,piv[i]?≠some c)(h:Kv p m a piv c piv.length x):BY p m ml N R a x:=by
 have hq:1<p^m:=Bz hp hm;intro i hi;by_cases hl:i<piv.length
 .obtain⟨q,aA⟩:∃q,piv[i]?=some q:=⟨_,List.getElem?_eq_getElem hl⟩;have aE:q<N:=by have:=hP.lt i q aA;omega
  have aF:q≠c:=fun e=>aG i (by rw[<-e];exact aA);have aB:(il N (a i)).length=N:=AL _ _;have hg:∀j,j<N->(il N (a i)).getD j 0=a i j:=fun j hj=>by
   exact zdn
  have e1:Cb p m ml (il N (a i)) (il N (Az (fun _=>(0:Int)) c 1)) 0=AG p m (Cb p m ml (il N (a i)) (il N fun _=>(0:Int)) 0) (Ai p m (lw ml) (Ar (p^m) ((il N (a i)).getD c 0)) (Ar (p^m) (Az (fun _=>(0:Int)) c 1 c))):=
   LC hp aB hc rfl fun j _ hj _=>Ad _ _ hj
  have e2:Cb p m ml (il N (a i)) (il N x) 0=AG p m (Cb p m ml (il N (a i)) (il N (Az (fun _=>(0:Int)) c 1)) 0) (Ai p m (lw ml) (Ar (p^m) ((il N (a i)).getD q 0)) (Ar (p^m) (x q))):=
   LC hp aB aE (Ad _ _ aF) fun j hj aH hr=>by
    rw[hg j hj]at hr;by_cases e:j=c
    .rw[e,h.c1,Ab]
    .rw[Ad _ _ e];refine h.z j e fun k hk aC=>?_;by_cases ek:k=i
     .subst ek;rw[aA]at aC;injection aC with aC;exact aH aC.symm
     .exact hr (hP.zer k j i aC hi (fun e=>ek e.symm))
  have e0:Cb p m ml (il N (a i)) (il N fun _=>(0:Int)) 0=0:=by
   have:=E7 (p:=p) (m:=m) (ml:=ml) (N:=N) hp (f:=fun _=>0) (x:=a i) (fun j _=>rfl);rw[Kn]at this;exact this
  show Cb p m ml (il N (a i)) (il N x) 0=0
  rw[e2,e1,e0,hg c hc,hg q aE,hP.one i q aA,Ab,h.pv i q hl aA];have k1:Ar (p^m) 1=1:=by have:=Ay (q:=p^m) (x:=1) hq;exact this
  rw[k1,DK ac (AY ac _ _),BA hp hm (B9 ac _),Ay (Dh ac _),Cp hp hm (Dh ac _),CQ ac]
 .refine E7 hp fun j hj=>?_;rcases aD with he|he
  .omega
  .exact hP.tail i j ac hi ac
end
theorem BU:(Tryz.prog.info? 22).map (fun i=>(i.zero,i.size,i.bytes))=some (some (.slice none 0 0),1,24):=ah
theorem Ex.frz{w w':World}(h:Ex w w'){p:Addr}{u:Value}(hc:w.cell? p=some u)(hf:w.frozen? p=false):w'.frozen? p=false:=
 (Below.frozen h (World.block_lt_of_cell? w _ hc)).trans hf
theorem Bv.frz{w w':World}{base:Nat}{e:TypeId}{size:Nat}{v v':Value}{n:Nat}{xs news:List Value}(h:Bv w w' base e size v v' n xs news){a:Addr}{u:Value}(hc:w.cell? a=some u)(hf:w.frozen? a=false)(aA:some a.block≠v.ownBlock):w'.frozen? a=false:=by
 obtain⟨o,hg⟩:=h.gr;have aB:=World.block_lt_of_cell? _ _ hc;have e1:(w.alloc o).frozen? a=w.frozen? a:=((Ex.refl w).alloc o).frozen aB;rw[<-hf,<-e1];have h2:=hg.block a.block aq aA;unfold World.frozen?;rw[h2]
theorem EF{q:Nat}{aA:Int}{rows:List (List Int)}(h:B6 q aA rows=0):0<=aA/\aA<=256/\rows.length<=256/\∀r∈rows,(r.length:Int)=aA/\Cc q r=0:=by
 unfold B6 at h;split at h
 .cases h
 .split at h
  .rename_i h2;split at h
   .rename_i h1 h3;refine⟨ac,ac,ac,fun r hr=>⟨?_,?_⟩⟩
    .have:=List.all_eq_true.1 h2 r hr;simpa using this
    .have:=List.all_eq_true.1 h3 r hr;simpa using this
   .cases h
  .cases h
theorem A7(w:World):Al w (.slice none 0 0) []:=Sl.nil w 1
theorem Bj{w:World}{base b':Nat}{e:TypeId}{size:Nat}{v:Value}{n:Nat}{xs:List Value}(h:w.ownsRow base e size v n xs)(hb:b'<=base):w.ownsRow b' e size v n xs:=by
 exact zcb
theorem Ah{w:World}{a b:Nat}{i j:Nat}{u:Value}(h:a≠b):(w.setCell (a,i) u).cell? (b,j)=w.cell? (b,j):=
 World.cell?_setCell_other _ _ _ _ (by intro e;injection e with e1;exact h e1)
theorem A6(w:World)(u:Value)(t:TypeId){n:Nat}(h:w.heap.size=n):(w.alloc (.cells #[u] t)).cell? (n,0)=some u:=by subst h;simp
theorem F6(w:World)(u:Value)(t:TypeId){n:Nat}(h:w.heap.size=n):(w.alloc (.cells #[u] t)).frozen? (n,0)=false:=by subst h;simp
structure BD(w:World)(base:Nat)(cv:Value)(M:List (List Int))(vals:List Value):Prop where
 cvo:w.ownsRow base 22 1 cv M.length vals
 row:∀(i:Nat) (r:List Int) (u:Value),M[i]?=some r->vals[i]?=some u->w.ownsRow base 3 1 u r.length (Ao r)
 apart:∀u∈vals,AR u cv
theorem BD.nil(w:World)(base:Nat):BD w base (.slice none 0 0) [] []:=⟨World.ownsRow_nil _ _ _ _,fun i r u h=>by simp at h,fun u h=>by cases h⟩
theorem BD.len{w:World}{base:Nat}{cv:Value}{M:List (List Int)}{vals:List Value}(h:BD w base cv M vals):vals.length=M.length:=by
 have:=h.cvo.1;omega
theorem BD.ex{w w':World}{base:Nat}{cv:Value}{M:List (List Int)}{vals:List Value}(h:BD w base cv M vals)(hx:Ex w w'):BD w' base cv M vals:=
 ⟨Aj h.cvo hx,fun i r u h1 h2=>Aj (h.row i r u h1 h2) hx,h.apart⟩
theorem BD.setNe{w:World}{base:Nat}{cv:Value}{M:List (List Int)}{vals:List Value}(h:BD w base cv M vals){a:Addr}(ha:a.block<base)(u:Value):BD (w.setCell a u) base cv M vals:=by
 have aA:∀ {e:TypeId} {size:Nat} {v:Value} {n:Nat} {xs:List Value},w.ownsRow base e size v n xs->v.ownBlock≠some a.block:=fun k e=>by
  have:=(k.lt _ e).1;omega
 exact⟨Ac h.cvo (aA h.cvo) u,fun i r t h1 h2=>Ac (h.row i r t h1 h2) (aA (h.row i r t h1 h2)) u,h.apart⟩
theorem BD.app{w w':World}{base:Nat}{cv aB l:Value}{M:List (List Int)}{vals:List Value}{L:List Int}(h:BD w base cv M vals)(hl:w.ownsRow base 3 1 l L.length (Ao L))(aA:AR l cv)
  (ha:Bv w w' base 22 1 cv aB M.length vals [l]):BD w' base aB (M ++ [L]) (vals ++ [l]):=by
 have hn:=h.len;have key:∀u∈vals,∃r,w.ownsRow base 3 1 u r (Ao [])∨∃L:List Int,w.ownsRow base 3 1 u L.length (Ao L):=fun u hu=>by
  obtain⟨i,hi,e⟩:=List.getElem_of_mem hu;exact⟨0,.inr ⟨_,h.row i (M[i]'ac) u (List.getElem?_eq_getElem _) au⟩⟩
 refine⟨by simpa using ha.own,fun i r u h1 h2=>?_,fun u hu=>?_⟩
 .by_cases e:i<M.length
  .rw[List.getElem?_append_left e]at h1;rw[List.getElem?_append_left ac]at h2;exact(ha.row (h.row i r u h1 h2) (h.apart u (List.mem_of_getElem? h2))).1
  .rw[List.getElem?_append_right ac]at h1 h2;have hi:i-M.length=0:=by
    have:=(List.getElem?_eq_some_iff.1 h1).1;simp at this;omega
   rw[hi]at h1;rw[hn,hi]at h2;simp at h1 h2;subst h1 h2;exact(ha.row hl aA).1
 .rcases List.mem_append.1 hu with hu|hu
  .obtain⟨i,hi,e⟩:=List.getElem_of_mem hu;exact(ha.row (h.row i (M[i]'ac) u (List.getElem?_eq_getElem _) au) (h.apart u hu)).2
  .simp at hu;subst hu;exact(ha.row hl aA).2
theorem BD.msl{w:World}{base:Nat}{cv:Value}{M:List (List Int)}{vals:List Value}(h:BD w base cv M vals):BZ w cv M:=
 ⟨vals,Sl.own h.cvo,fun i r u h1 h2=>Sl.own (h.row i r u h1 h2)⟩
def Cv(pr:Nat->Bool)(n:Nat):Int:=match (List.range n).find? pr with|some i=>i|none=> -1
theorem Cy{pr:Nat->Bool}{n i:Nat}(h:i<n)(hb:pr i=true)(ha:∀j,j<i->pr j=false):Cv pr n=i:=by
 unfold Cv;have:(List.range n).find? pr=some i:=by
  rw[List.find?_range_eq_some];exact⟨hb,List.mem_range.2 h,fun j hj=>by rw[ha j hj];rfl⟩
 rw[this]
theorem BV{pr:Nat->Bool}{n:Nat}(ha:∀j,j<n->pr j=false):Cv pr n=-1:=by
 unfold Cv;have:(List.range n).find? pr=none:=by
  rw[List.find?_eq_none];intro j hj;rw[ha j (List.mem_range.1 hj)];simp
 rw[this]
theorem Ee(pr:Nat->Bool)(n:Nat):(List.range n).any pr=decide (0<=Cv pr n):=by
 unfold Cv
 cases h:(List.range n).find? pr with
 | some i=>
  have:=List.find?_some h;have hm:=List.mem_of_find?_eq_some h;simp only;rw[List.any_eq_true.2 ⟨i,hm,this⟩];simp
 | none=>
  rw[List.find?_eq_none]at h;simp only;rw[Bool.eq_iff_iff];constructor
  .intro h';obtain⟨i,hi,hb⟩:=List.any_eq_true.1 h';exact absurd hb (h i hi)
  .intro h';simp at h'
theorem zbW{P:Prop}(h:P:=by
 go_wp2_with fail
 go_round
 case rel=>exact⟨i+1,by omega,by go_num,HA⟩
 case measure=>simp[intOf];omega):P:=h
theorem Nz(w:World)(l:List Int)(v:Value)(x:Int)(hl:Al w v l):
  Calls Tryz.prog 155 #[v,x] w fun r w'=>r= .returned (.int .i64 (Cv (fun j=>x==l.getD j 0) l.length))/\w=w':=by
 obtain⟨a,cap,rfl,s1,s2,s3⟩:=hl.open;have S3:=Aa s3;unfold maxLen at s2;obtain⟨pr,aB⟩:∃pr:Nat->Bool,(fun j=>x==l.getD j 0)=pr:=⟨_,rfl⟩;have aC:=Aa (show ∀(j:Nat) (y:Int),l[j]?=some y->pr j=(x==y) from fun j y h=>by rw[<-aB];show(x==l.getD j 0)=_;rw[List.getD_eq_getElem?_getD,h];rfl);rw[aB];clear hl s3 aB;go_enter Tryz.func155,Tryz.ntmps155
 go_wp2_with fail
 go_loop [5,8] (fun _ i'=>∃i:Nat,i<=l.length/\i'= .int .i64 i/\Hia (∀j,j<i->pr j=false)) (fun _ i'=>l.length-(intOf i').toNat)
 case atStart=>exact⟨0,ac,rfl,Aa (fun j hj=>ac)⟩
 case round=>
  obtain⟨i,hi,rfl,aA⟩:=hrel;by_cases hlt:i<l.length
  .obtain⟨y,hy⟩:∃y,l[i]?=some y:=⟨_,List.getElem?_eq_getElem hlt⟩;obtain⟨bb,o,rfl,hc⟩:=S3.o ac;have c1:=hc i y hy;have HP:=Aa (aC.o i y hy);clear hc hy
   cases hb:(x==y) with
   | true=>
    have HF:=Aa (Cy hlt (HP.o.trans hb) aA.o);exact zdb
   | false=>
    have HA:=Aa (show ∀j,j<i+1->pr j=false from fun j hj=>by
     by_cases e:j=i
     .subst e;exact HP.o.trans hb
     .exact aA.o j ac)
    exact zbW
  .obtain rfl:i=l.length:=by omega
   have HF:=Aa (BV aA.o);exact zdb
theorem J6(x:Int)(l:List Int):((List.range l.length).any fun j=>x==l.getD j 0)=l.contains x:=by
 rw[Bool.eq_iff_iff];simp only[List.any_eq_true,List.mem_range,List.contains_iff_mem,beq_iff_eq,List.getD_eq_getElem?_getD];constructor
 .rintro⟨j,hj,e⟩;rw[List.getElem?_eq_getElem hj]at e;rw[e];exact List.getElem_mem hj
 .intro h;obtain⟨j,hj,e⟩:=List.getElem_of_mem h;exact⟨j,hj,by rw[List.getElem?_eq_getElem hj,e];rfl⟩
theorem DC(w:World)(l:List Int)(v:Value)(x:Int)(hl:Al w v l):
  Calls Tryz.prog 132 #[v,x] w fun r w'=>r= .returned (.bool (l.contains x))/\w=w':=by
 have HC:=Aa (Nz w l v x hl);have HB:=Aa ((J6 x l).symm.trans (Ee _ _));obtain⟨z,hz⟩:∃z,Cv (fun j=>x==l.getD j 0) l.length=z:=⟨_,rfl⟩;rw[hz]at HC HB;clear hz hl;go_enter Tryz.func132,Tryz.ntmps132
 go_wp2_with (go_at_call 155;refine HC.o.mono ?_;rintro e w'⟨rfl,rfl⟩)
 go_ret;exact⟨Ap HB.o.symm,rfl⟩
theorem Zu(l:List Int):Ao l=vs l.length (iv fun j=>l.getD j 0):=by
 apply List.ext_getElem?;intro j;by_cases h:j<l.length
 .rw[Dk h];simp[Ao,iv,h,List.getD_eq_getElem?_getD]
 .rw[List.getElem?_eq_none_iff.2 (by rw[Bc];omega),List.getElem?_eq_none_iff.2 (by rw[Bm];omega)]
theorem JH(w:World)(l:List Int)(v:Value)(hl:Al w v l)(hn:1<=l.length)(hn2:l.length<=1000):
  Calls Tryz.prog 154 #[v] w fun r w'=>∃g cap,r= .returned (.slice (some ⟨g,0,none⟩) l.length cap)/\A9 w' w.heap.size 3 g l.length cap (iv fun j=>l.getD j 0)/\Ex w w':=by
 have HL:=Aa hl;obtain⟨a,cap,rfl,s1,s2,s3⟩:=hl.open;obtain⟨b,o,rfl,_⟩:=s3 ac;have aC:=fun w'=>AP (P:=Tryz.prog) w' 22 3 (some ⟨b,o,none⟩) l.length cap Tryz.underlying22;simp only[Option.isNone]at aC;have aE:∀u∈Ao l,u.oneCell'=true:=by
  exact zdc
 have aH:=Aa aE;have aI:=Aa (Zu l);clear s3 hl aE;go_enter Tryz.func154,Tryz.ntmps154
 go_wp2_with (at_builtin;refine Bl _ rfl _ _ 22 rfl w.heap.size 3 (.int .i64 0) 1 8 Tryz.underlying22 AC rfl ae _ 0 [] rfl (Bw w 3) (.slice (some (b,o)) l.length cap) l.length (Ao l) rfl (HL.o.ex ((Ex.refl w).alloc _)) aH.o ai ac ag ?_)
 intro v1 w1 aA aF aG;have aD:Ex w w1:=Ex.grown ((Ex.refl w).alloc _) (Bw w 3) (Nat.le_refl _) aF;rw[aI.o]at aA;obtain⟨g,c2,rfl,aB⟩:=Kd aA hn;have HO:=Aa aB;have HX:=Aa aD;clear aB aA aF aG aD aC;go_wp2_with fail
 go_ret;exact⟨g,c2,rfl,HO.o,HX.o⟩
theorem zaN{P:Prop}(h:P:=by
 rw[List.getElem?_eq_none_iff.2 (by omega),List.getElem?_eq_none_iff.2 (by omega)]):P:=h
theorem zcs{P:Prop}(h:P:=by
 apply List.ext_getElem?;intro j;by_cases hj:j<l.length
 .exact h j hj
 .exact zaN):P:=h
theorem Nk{l k:List Int}(hl:l.length=k.length)(h:∀j,j<l.length->l[j]?=k[j]?):l=k:=by
 exact zcs
theorem zae{P:Prop}(h:P:=by
 obtain⟨x,hx⟩:∃x,l[i]?=some x:=⟨_,List.getElem?_eq_getElem hlt⟩;have aE:i<k.length:=by have:=aD.o;omega
 obtain⟨y,hy⟩:∃y,k[i]?=some y:=⟨_,List.getElem?_eq_getElem aE⟩;obtain⟨b,o,rfl,hc⟩:=S3.o (by omega);obtain⟨b2,o2,rfl,aB⟩:=T3.o (by omega);have c1:=((Ex.refl w).drewN n).cell (hc i x hx);have c2:=((Ex.refl w).drewN n).cell (aB i y hy);have i1:(0:Int)<=(i:Int):=by omega
 have i2:(i:Int)<(l.length:Int):=by omega
 have i3:(i:Int)<(k.length:Int):=by omega
 obtain⟨W,hW⟩:=nA (w.drewN n);rw[hW]at c1 c2 ⊢;have aC:=Aa hW;clear hW;by_cases hxy:x=y
 .have HA:=Aa (show ∀j,j<i+1->l[j]?=k[j]? from fun j hj=>by
   by_cases e:j=i
   .subst e;rw[hx,hy,hxy]
   .exact aA.o j (by omega))
  have aF:(x !=y)=false:=by simpa using hxy
  clear hc aB hx hy hxy;go_wp2_with fail
  go_quiet (fail)
  go_wp2_with fail
  go_roundw
  case rel=>exact⟨i+1,_,by omega,by go_num,by rw[<-aC.o,World.drewN_drewN],HA⟩
  case measure=>simp[intOf];omega
 .have HN:=Aa (show ¬l=k from fun e=>hxy (by rw[e,hy]at hx;injection hx with hx;exact hx.symm));have aF:(x !=y)=true:=by simpa using hxy
  clear hc aB hx hy hxy;go_wp2_with fail
  go_quiet (fail)
  go_wp2_with fail
  go_ret;exact⟨Ap (decide_eq_false HN.o).symm,_,by rw[<-aC.o,World.drewN_drewN]⟩):P:=h
theorem zcR{P:Prop}(h:P:=by
 go_wp2_with fail
 go_ret;exact⟨Ap (decide_eq_true HE.o).symm,n,rfl⟩):P:=h
theorem zay{P:Prop}(h:P:=by
 obtain rfl:i=l.length:=by omega
 have HE:=Aa (Nk aD.o aA.o);exact zcR):P:=h
theorem zcn{P:Prop}(h:P:=by
 obtain⟨i,n,hi,rfl,rfl,aA⟩:=hrel;by_cases hlt:i<l.length
 .exact zae
 .exact zay):P:=h
theorem zcM{P:Prop}(h:P:=by
 go_wp2_with fail
 go_ret;exact⟨Ap (decide_eq_false HN.o).symm,0,rfl⟩):P:=h
theorem DA(w:World)(l k:List Int)(v u:Value)(hl:Al w v l)(hk:Al w u k):
  Calls Tryz.prog 19 #[v,u] w fun r w'=>r= .returned (.bool (decide (l=k)))/\∃n,w'=w.drewN n:=by
 obtain⟨a,cap,rfl,s1,s2,s3⟩:=hl.open;obtain⟨c,cc,rfl,t1,t2,t3⟩:=hk.open;have S3:=Aa s3;have T3:=Aa t3;unfold maxLen at s2 t2;clear hl hk s3 t3;by_cases hlk:l.length=k.length
 .have hb:((l.length:Int) !=(k.length:Int))=false:=by simp;omega
  have aD:=Aa hlk;clear hlk;go_enter Tryz.func19,Tryz.ntmps19
  go_wp2_with fail
  go_loopw [5] (fun i' wr=>∃i n:Nat,i<=l.length/\i'= .int .i64 i/\wr=w.drewN n/\Hia (∀j,j<i->l[j]?=k[j]?)) (fun i' _=>l.length-(intOf i').toNat)
  case atStart=>exact⟨0,0,ac,rfl,rfl,Aa (fun j hj=>ac)⟩
  case round=>
   exact zcn
 .have hb:((l.length:Int) !=(k.length:Int))=true:=by simp;omega
  have HN:=Aa (show ¬l=k from fun e=>hlk cj);clear hlk;go_enter Tryz.func19,Tryz.ntmps19
  exact zcM
theorem Gs{l k:List (List Int)}(hl:l.length=k.length)(h:∀j,j<l.length->l[j]?=k[j]?):l=k:=by
 exact zcs
theorem zaz{P:Prop}(h:P:=by
 obtain rfl:i=l.length:=by omega
 have HE:=Aa (Gs aI.o aC.o);exact zcR):P:=h
theorem zbN{P:Prop}(h:P:=by
 go_roundw
 case rel=>exact⟨i+1,_,by omega,by go_num,by rw[<-aH.o,World.drewN_drewN],HA⟩
 case measure=>simp[intOf];omega):P:=h
theorem zcl{P:Prop}(h:P:=by
 go_ret;exact⟨Ap (decide_eq_false HN.o).symm,_,by rw[<-aH.o,World.drewN_drewN]⟩):P:=h
theorem Dz(w:World)(l k:List (List Int))(v u:Value)(hl:BZ w v l)(hk:BZ w u k):
  Calls Tryz.prog 27 #[v,u] w fun r w'=>r= .returned (.bool (decide (l=k)))/\∃n,w'=w.drewN n:=by
 obtain⟨a,cap,rfl,s1,s2,s3⟩:=hl.open;obtain⟨c,cc,rfl,t1,t2,t3⟩:=hk.open;have S3:=Aa s3;have T3:=Aa t3;unfold maxLen at s2 t2;clear hl hk s3 t3;by_cases hlk:l.length=k.length
 .have hb:((l.length:Int) !=(k.length:Int))=false:=by simp;omega
  have aI:=Aa hlk;clear hlk;go_enter Tryz.func27,Tryz.ntmps27
  go_wp2_with fail
  go_loopw [5] (fun i' wr=>∃i n:Nat,i<=l.length/\i'= .int .i64 i/\wr=w.drewN n/\Hia (∀j,j<i->l[j]?=k[j]?)) (fun i' _=>l.length-(intOf i').toNat)
  case atStart=>exact⟨0,0,ac,rfl,rfl,Aa (fun j hj=>ac)⟩
  case round=>
   obtain⟨i,n,hi,rfl,rfl,aC⟩:=hrel;by_cases hlt:i<l.length
   .obtain⟨x,hx⟩:∃x,l[i]?=some x:=⟨_,List.getElem?_eq_getElem hlt⟩;have aJ:i<k.length:=by have:=aI.o;omega
    obtain⟨y,hy⟩:∃y,k[i]?=some y:=⟨_,List.getElem?_eq_getElem aJ⟩;obtain⟨b,o,rfl,hc⟩:=S3.o ac;obtain⟨b2,o2,rfl,aG⟩:=T3.o ac;obtain⟨u1,e1,aF⟩:=hc i x hx;obtain⟨u2,e2,aE⟩:=aG i y hy;have c1:=((Ex.refl w).drewN n).cell e1;have c2:=((Ex.refl w).drewN n).cell e2;have aB:=aF.ex ((Ex.refl w).drewN n);have aA:=aE.ex ((Ex.refl w).drewN n);have i1:(0:Int)<=(i:Int):=bf;have i2:(i:Int)<(l.length:Int):=ac;have i3:(i:Int)<(k.length:Int):=ac;obtain⟨W,hW⟩:=nA (w.drewN n);rw[hW]at c1 c2 aB aA ⊢;have aH:=Aa hW;have aD:=Aa (fun n'=>DA (W.drewN n') x y u1 u2 (aB.ex ((Ex.refl W).drewN n')) (aA.ex ((Ex.refl W).drewN n')));obtain⟨ua,uc,rfl,_,_,_⟩:=aB.open;obtain⟨va,vc,rfl,_,_,_⟩:=aA.open;by_cases hxy:x=y
    .have HA:=Aa (show ∀j,j<i+1->l[j]?=k[j]? from fun j hj=>by
      by_cases e:j=i
      .subst e;rw[hx,hy,hxy]
      .exact aC.o j ac)
     rw[decide_eq_true hxy]at aD;clear hc aG hx hy hxy hW aF aE e1 e2 aB aA;go_wp2_with fail
     go_quiet ((go_at_call 19;exact KV (aD.o _)))
     go_wp2_with fail
     exact zbN
    .have HN:=Aa (show ¬l=k from fun e=>hxy (by rw[e,hy]at hx;injection hx with hx;exact hx.symm));rw[decide_eq_false hxy]at aD;clear hc aG hx hy hxy hW aF aE e1 e2 aB aA;go_wp2_with fail
     go_quiet ((go_at_call 19;exact KV (aD.o _)))
     go_wp2_with fail
     exact zcl
   .exact zaz
 .have hb:((l.length:Int) !=(k.length:Int))=true:=by simp;omega
  have HN:=Aa (show ¬l=k from fun e=>hlk cj);clear hlk;go_enter Tryz.func27,Tryz.ntmps27
  exact zcM
theorem Lq{a b c:World}{row:Option Nat}(h:a.grownBy b row)(k:b.grownBy c row):a.grownBy c row:=
 ⟨k.os.trans h.os,k.tape.trans h.tape,k.output.trans h.output,Nat.le_trans h.size k.size,fun i hi aA=>(k.block i (Nat.lt_of_lt_of_le hi h.size) aA).trans (h.block i hi aA)⟩
theorem ZF{a b:World}(row:Option Nat)(h:Ex a b):a.grownBy b row:=⟨h.os,h.tape,h.output,h.size,fun i hi _=>h.block i hi⟩
theorem WZ(w:World)(g j:Nat)(u:Value):w.grownBy (w.setCell (g,j) u) (some g):=by
 have h:Below g w (w.setCell (g,j) u):=Below.setCell (Below.refl g w) (Nat.le_refl _) u;refine⟨h.os,h.tape,h.output,h.size,fun k hk aA=>?_⟩;have aB:k≠g:=fun e=>aA cj;by_cases hlt:k<g
 .exact h.block k hlt
 .exact Below.heap_setCell w ⟨g,j,none⟩ u k aB
theorem za7{P:Prop}(h:P:=by
 rw[if_pos h,if_pos (by omega)]):P:=h
theorem Wr{p m:Nat}{ml:List Int}{b x0:Nat}(w0 w:World)(hg:Bh w0 b p m ml x0)(hx:Ex w0 w)(N vb cap base:Nat)(f u:Nat->Int)(a:Int)(uv:Value)(hb:w0.heap.size<=base)(hv:A9 w base 3 vb N cap (iv f))(hu:Al w uv (il N u))(aL:uv.ownBlock≠some vb)(hN:N<=1000):
  Calls Tryz.prog 254 #[.pointer (some (b,0)),.slice (some (vb,0)) N cap,a,uv] w fun r w'=>(∃t,r= .returned t)/\A9 w' base 3 vb N cap (iv (BN p m ml f (Ar (p^m) a) u))/\w.grownBy w' (some vb):=by
 obtain⟨ua,uc,rfl,u1,u2,u3⟩:=hu.open;rw[AL]at u1 u3 ⊢;unfold maxLen at u2;obtain⟨c1,c2⟩:=hv.caps;unfold maxLen at c2;obtain⟨U3,aQ,HX,aI,HV,HO⟩:=To u3 aL hx hg hv (show A9 w base 3 vb N cap (iv fun j=>if j<0 then BN p m ml f (Ar (p^m) a) u j else f j) from hv.icongr fun j _=>ag);clear u3 hu aL hv hx hg;go_enter Tryz.func254,Tryz.ntmps254
 go_wp2_with fail
 go_loopw [12] (fun k' wr=>∃k:Nat,k<=N/\k'= .int .i64 k/\Hia (A9 wr base 3 vb N cap (iv fun j=>if j<k then BN p m ml f (Ar (p^m) a) u j else f j))/\Hia (w.grownBy wr (some vb))) (fun k' _=>N-(intOf k').toNat)
 case atStart=>exact⟨0,ac,rfl,HO,Aa (World.grownBy.refl _ _)⟩
 case round=>
  clear HO;obtain⟨k,hk,rfl,aA,aD⟩:=hrel;by_cases hkl:k<N
  .obtain⟨ub,uo,rfl,aK⟩:=U3.o ac;have aM:ub≠vb:=fun e=>aQ.o (by rw[e];rfl);have d1:=aD.o.cell (aK k (u k) (AQ hkl u)) (by intro e;injection e with e;exact aM e);have i1:(0:Int)<=(k:Int):=by omega
   have i2:(k:Int)<(N:Int):=ac;have aJ:=Aa (Ex.grown HX.o HV.o hb aD.o);clear aK aM;by_cases h0:u k=0
   .have aP:(u k !=0)=false:=by simp[h0]
    have aF:=Aa (show A9 wr base 3 vb N cap (iv fun j=>if j<k+1 then BN p m ml f (Ar (p^m) a) u j else f j) from aA.o.icongr fun j hj=>by
     by_cases e:j=k
     .subst e;rw[if_neg (show ¬j<j by omega),if_pos (show j<j+1 by omega)];unfold BN;rw[if_pos h0]
     .by_cases h:j<k
      .rw[if_pos h,if_pos (show j<k+1 by omega)]
      .rw[if_neg h,if_neg (show ¬j<k+1 by omega)])
    clear aA h0;go_wp2_with fail
    go_roundw
    case rel=>exact⟨k+1,ac,by go_num,aF,aD⟩
    case measure=>simp[intOf];omega
   .have aP:(u k !=0)=true:=by simpa using h0
    have aO:wr.cell? (vb,k)=some (.int .i64 (f k)):=by
     rw[aA.o.cell hkl];show some (Value.int .i64 (if k<k then _ else f k))=_;rw[if_neg ac]
    have aN:=aA.o.frz k;obtain⟨K1,aG⟩:∃K,Ai p m (lw ml) (Ar (p^m) a) (Ar (p^m) (u k))=K:=⟨_,rfl⟩;have aE:K1<p^m:=by rw[<-aG];exact AY (by have:=aI.o.sh.p2;omega) _ _
    have aB:=Aa (fun w' (h:Ex w0 w')=>Fa w' (aI.o.ex h) a (u k));rw[aG]at aB;obtain⟨K2,aH⟩:∃K,AG p m (Ar (p^m) (f k)) (Ar (p^m) (K1:Nat))=K:=⟨_,rfl⟩;have aC:=Aa (fun w' (h:Ex w0 w')=>Kr w' (aI.o.ex h) (f k) (K1:Nat));rw[aH]at aC;have aS:=Aa (show BN p m ml f (Ar (p^m) a) u k=(K2:Nat) from by
     unfold BN;rw[if_neg h0,aG,<-aH,Ay aE])
    clear aG aH aE h0;go_upto_region 4 with fail
    have E1:Ex wr wr.drew:=(Ex.refl wr).drew;have G0:Ex w0 wr.drew:=aJ.o.trans E1
    go_region_law
     ((first
            | (go_simp;go_at_call 106;(with_reducible refine(aB.o _ (aJ.o.drewN _)).mono ?_);rintro e wx1⟨rfl,n1,rfl⟩)
            | (go_simp;go_at_call 106;(with_reducible refine(aB.o _ G0).mono ?_);rintro e wx1⟨rfl,n1,rfl⟩)
            | (go_simp;go_at_call 163;(with_reducible refine(aC.o _ (aJ.o.drewN _)).mono ?_);rintro e wx2⟨rfl,n2,rfl⟩)))
    all_goals
     have aF:=Aa (fun n=>((aA.o.drewN n).set k (.int .i64 (K2:Nat))));have aR:=Aa (fun n=>Lq aD.o (Lq (ZF (some vb) ((Ex.refl wr).drewN n)) (WZ (wr.drewN n) vb k (.int .i64 (K2:Nat)))));clear aA aD aB aC E1 G0 aO aN;go_wp2_with fail
     go_roundw
     case rel=>exact⟨k+1,ac,by go_num,Aa ((aF.o _).congr fun j hj=>by
      by_cases e:j=k
      .subst e;rw[Ab];show _=Value.int .i64 (if j<j+1 then BN p m ml f (Ar (p^m) a) u j else f j);rw[if_pos ac,aS.o]
      .rw[Ad _ _ e];show Value.int .i64 (if j<k then BN p m ml f (Ar (p^m) a) u j else f j)=Value.int .i64 (if j<k+1 then BN p m ml f (Ar (p^m) a) u j else f j)
       by_cases h:j<k
       .exact za7
       .rw[if_neg h,if_neg ac]),Aa (aR.o _)⟩
     case measure=>simp[intOf];omega
  .obtain rfl:N=k:=by omega
   have aF:=Aa (show A9 wr base 3 vb N cap (iv (BN p m ml f (Ar (p^m) a) u)) from aA.o.icongr fun j hj=>by rw[if_pos hj]);clear aA;go_wp2_with fail
   go_end0
   exact⟨⟨_,rfl⟩,aF.o,aD.o⟩
theorem Nx{p m:Nat}{ml:List Int}{b x0:Nat}(w:World)(hg:Bh w b p m ml x0)(N:Nat)(u:Nat->Int)(a:Int)(uv:Value)(hu:Al w uv (il N u))(hN:N<=1000):
  Calls Tryz.prog 252 #[.pointer (some (b,0)),a,uv] w fun r w'=>∃g,r= .returned (.slice (some ⟨g,0,none⟩) N N)/\AH w' w.heap.size 3 g N (iv (BM p m ml (Ar (p^m) a) u))/\Ex w w':=by
 obtain⟨ua,uc,rfl,u1,u2,u3⟩:=hu.open;rw[AL]at u1 u3 ⊢;unfold maxLen at u2;have U3:=Aa u3;have aM:=Aa hg;clear u3 hu hg;go_enter Tryz.func252,Tryz.ntmps252
 go_wp2_with (at_make;refine Au _ rfl _ _ 22 rfl 3 (.int .i64 0) 8 Tryz.underlying22 AC rfl _ N rfl rfl rfl ac ai ?_)
 intro w3 aA aF;obtain⟨g,aC⟩:=nA w.heap.size;have aH:=Aa aC;rw[aC]at aA ⊢
 try simp only[aC]
 have HO:=Aa (show AH w3 g 3 g N (iv fun j=>if j<0 then BM p m ml (Ar (p^m) a) u j else 0) from aA.icongr fun j _=>ag);have HX:=Aa aF;clear aA aF aC;go_wp2_with fail
 go_loopw [15] (fun k' wr=>∃k:Nat,k<=N/\k'= .int .i64 k/\Hia (AH wr g 3 g N (iv fun j=>if j<k then BM p m ml (Ar (p^m) a) u j else 0))/\Hia (Ex w wr)) (fun k' _=>N-(intOf k').toNat)
 case atStart=>exact⟨0,ac,rfl,HO,HX⟩
 case round=>
  clear HO HX;obtain⟨k,hk,rfl,aA,hx⟩:=hrel;by_cases hkl:k<N
  .obtain⟨ub,uo,rfl,aG⟩:=U3.o ac;have d1:=hx.o.cell (aG k (u k) (AQ hkl u));have i1:(0:Int)<=(k:Int):=by omega
   have i2:(k:Int)<(N:Int):=ac;have aJ:=aA.o.cell hkl;have aI:=aA.o.frz k;obtain⟨K1,aD⟩:∃K,Ai p m (lw ml) (Ar (p^m) a) (Ar (p^m) (u k))=K:=⟨_,rfl⟩;have aB:=Aa (Fa wr (aM.o.ex hx.o) a (u k));rw[aD]at aB;have aL:=Aa (show BM p m ml (Ar (p^m) a) u k=(K1:Nat) from by unfold BM;rw[aD]);clear aD aG;go_wp2_with (go_at_call 106;refine aB.o.mono ?_;rintro e w4⟨rfl,n,rfl⟩)
   have aE:=Aa (fun n=>(aA.o.drewN n).set k (.int .i64 (K1:Nat)));have aK:=Aa (fun n=>(aA.o.drewN n).exSet (a:=w) (by have:=aH.o;omega) (hx.o.drewN n) k (.int .i64 (K1:Nat)));clear aA hx aB aJ aI d1;go_roundw
   case rel=>exact⟨k+1,ac,by go_num,Aa ((aE.o _).congr fun j hj=>by
    by_cases e:j=k
    .subst e;rw[Ab];show _=Value.int .i64 (if j<j+1 then BM p m ml (Ar (p^m) a) u j else 0);rw[if_pos ac,aL.o]
    .rw[Ad _ _ e];show Value.int .i64 (if j<k then BM p m ml (Ar (p^m) a) u j else 0)=Value.int .i64 (if j<k+1 then BM p m ml (Ar (p^m) a) u j else 0)
     by_cases h:j<k
     .exact za7
     .rw[if_neg h,if_neg ac]),Aa (aK.o _)⟩
   case measure=>simp[intOf];omega
  .obtain rfl:N=k:=by omega
   have aE:=Aa (show AH wr g 3 g N (iv (BM p m ml (Ar (p^m) a) u)) from aA.o.icongr fun j hj=>by rw[if_pos hj]);clear aA;go_wp2_with fail
   go_ret;exact⟨g,rfl,by rw[aH.o];exact aE.o,hx.o⟩
def Ej(blk cap:Nat->Nat)(N i:Nat):Value:= .slice (some (blk i,0)) N (cap i)
structure EM(w:World)(base g R N:Nat)(blk cap:Nat->Nat)(a:Nat->Nat->Int)(avs:List Nat):Prop where
 arr:AH w base 22 g R (Ej blk cap N)
 row:∀i,i<R->A9 w base 3 (blk i) N (cap i) (iv (a i))
 apart:∀i j,i<R->j<R->i≠j->blk i≠blk j
 off:∀i,i<R->blk i≠g
 av:∀B∈avs,B<w.heap.size/\g≠B/\∀i,i<R->blk i≠B
def Kp(w w':World)(avs:List Nat):Prop:=∀B∈avs,w'.heap[B]?=w.heap[B]?
theorem Kp.trans{a b c:World}{avs:List Nat}(h:Kp a b avs)(k:Kp b c avs):Kp a c avs:=fun B hB=>(k B hB).trans (h B hB)
theorem Kp.cell{w w':World}{avs:List Nat}(h:Kp w w' avs){B o:Nat}{v:Value}(hB:B∈avs)(hc:w.cell? (B,o)=some v):w'.cell? (B,o)=some v:=by
 rw[World.cell?_of_block (h B hB)];exact hc
section
variable {w:World} {base g R N:Nat} {blk cap:Nat->Nat} {a:Nat->Nat->Int} {avs:List Nat}
theorem EM.ex(h:EM w base g R N blk cap a avs){w':World}(hx:Ex w w'):EM w' base g R N blk cap a avs:=
 ⟨h.arr.ex hx,fun i hi=>(h.row i hi).ex hx,h.apart,h.off,fun B hB=>by obtain⟨h1,h2⟩:=h.av B hB;exact⟨Nat.lt_of_lt_of_le h1 hx.size,h2⟩⟩
theorem EM.kpx(h:EM w base g R N blk cap a avs){w':World}(hx:Ex w w'):Kp w w' avs:=fun B hB=>hx.block B (h.av B hB).1
theorem EM.less(h:EM w base g R N blk cap a avs){bvs:List Nat}(hs:∀B∈bvs,B∈avs):EM w base g R N blk cap a bvs:=⟨h.arr,h.row,h.apart,h.off,fun B hB=>h.av B (hs B hB)⟩
theorem EM.box(h:EM w base g R N blk cap a avs)(o:Obj):EM (w.alloc o) base g R N blk cap a (w.heap.size :: avs):=by
 have h1:=h.ex ((Ex.refl w).alloc o);refine⟨h1.arr,h1.row,h1.apart,h1.off,fun C hC=>?_⟩;rcases List.mem_cons.1 hC with rfl|hC
 .refine⟨ag,fun e=>?_,fun i hi e=>?_⟩
  .have:=h.arr.lt.2;omega
  .have:=(h.row i hi).lt.2;omega
 .exact h1.av C hC
theorem Dc(w:World)(x:Addr)(u:Value):(w.setCell x u).heap.size=w.heap.size:=ag
theorem EM.setBox(h:EM w base g R N blk cap a avs){B j:Nat}(hB:B∈avs)(u:Value):EM (w.setCell (B,j) u) base g R N blk cap a avs:=by
 obtain⟨_,h2,h3⟩:=h.av B hB;exact⟨h.arr.other h2 u,fun i hi=>(h.row i hi).other (h3 i hi) u,h.apart,h.off,fun C hC=>by rw[Dc];exact h.av C hC⟩
theorem EM.put(h:EM w base g R N blk cap a avs){s nb nc:Nat}{f:Nat->Int}(hs:s<R)(hn:A9 w base 3 nb N nc (iv f))(hb:∀i,i<R->i≠s->blk i≠nb)(hg:nb≠g)(ha:∀B∈avs,nb≠B):
  EM (w.setCell (g,s) (.slice (some (nb,0)) N nc)) base g R N (Az blk s nb) (Az cap s nc) (Az a s f) avs:=by
 have hu:∀i,i≠s->Az blk s nb i=blk i:=fun i hi=>Ad _ _ hi;refine⟨?_,fun i hi=>?_,fun i j hi hj aA=>?_,fun i hi=>?_,fun B hB=>?_⟩
 .refine(h.arr.set s _).congr fun i hi=>?_;unfold Ej;by_cases e:i=s
  .subst e;rw[Ab,Ab,Ab]
  .rw[Ad _ _ e,Ad _ _ e,Ad _ _ e]
 .by_cases e:i=s
  .subst e;rw[Ab,Ab,Ab];exact hn.other hg _
  .rw[Ad _ _ e,Ad _ _ e,Ad _ _ e];exact(h.row i hi).other (h.off i hi) _
 .by_cases e:i=s
  .subst e;rw[Ab,hu j (fun e=>aA e.symm)];exact fun e=>hb j hj (fun e=>aA e.symm) e.symm
  .by_cases e2:j=s
   .subst e2;rw[Ab,hu i e];exact hb i hi e
   .rw[hu i e,hu j e2];exact h.apart i j hi hj aA
 .by_cases e:i=s
  .subst e;rw[Ab];exact hg
  .rw[hu i e];exact h.off i hi
 .rw[Dc];obtain⟨h1,h2,h3⟩:=h.av B hB;refine⟨h1,h2,fun i hi=>?_⟩;by_cases e:i=s
  .subst e;rw[Ab];exact ha B hB
  .rw[hu i e];exact h3 i hi
theorem EM.rowAt(h:EM w base g R N blk cap a avs){w':World}{s:Nat}{f:Nat->Int}(hs:s<R)(hn:A9 w' base 3 (blk s) N (cap s) (iv f))(hg:w.grownBy w' (some (blk s))):EM w' base g R N blk cap (Az a s f) avs/\Kp w w' avs:=by
 refine⟨⟨?_,fun i hi=>?_,h.apart,h.off,fun B hB=>?_⟩,fun B hB=>?_⟩
 .exact World.ownsRow.kept h.arr hg (.inr (by show some g≠some (blk s);intro e;injection e with e;exact h.off s hs e.symm))
 .by_cases e:i=s
  .subst e;rw[Ab];exact hn
  .rw[Ad _ _ e];exact World.ownsRow.kept (h.row i hi) hg (.inr (by show some (blk i)≠some (blk s);intro e2;injection e2 with e2;exact h.apart i s hi hs e e2))
 .obtain⟨h1,h2⟩:=h.av B hB;exact⟨Nat.lt_of_lt_of_le h1 hg.size,h2⟩
 .obtain⟨h1,h2,h3⟩:=h.av B hB;exact hg.block B h1 (by intro e;injection e with e;exact h3 s hs e.symm)
theorem EM.cell(h:EM w base g R N blk cap a avs){i:Nat}(hi:i<R):w.cell? (g,i)=some (.slice (some (blk i,0)) N (cap i)):=h.arr.cell hi
theorem EM.ent(h:EM w base g R N blk cap a avs){i j:Nat}(hi:i<R)(hj:j<N):w.cell? (blk i,j)=some (.int .i64 (a i j)):=(h.row i hi).cell hj
def Ua(b:Nat->Nat)(s k:Nat):Nat->Nat:=fun i=>if i=s then b k else if i=k then b s else b i
theorem EM.swp(h:EM w base g R N blk cap a avs){s k:Nat}(hs:s<R)(hk:k<R)(aB:s≠k):
  EM ((w.setCell (g,s) (Ej blk cap N k)).setCell (g,k) (Ej blk cap N s)) base g R N (Ua blk s k) (Ua cap s k) (DE a s k) avs:=by
 have aC:((w.setCell (g,s) (Ej blk cap N k)).setCell (g,k) (Ej blk cap N s)).heap.size=w.heap.size:=by rw[Dc,Dc]
 have aA:∀i,i<R->∃j,j<R/\Ua blk s k i=blk j/\Ua cap s k i=cap j/\DE a s k i=a j/\((i=s/\j=k)∨(i=k/\i≠s/\j=s)∨(i≠s/\i≠k/\j=i)):=fun i hi=>by
  unfold Ua DE;by_cases e:i=s
  .exact⟨k,hk,by rw[if_pos e],by rw[if_pos e],by rw[if_pos e],.inl ⟨e,rfl⟩⟩
  .by_cases e2:i=k
   .exact⟨s,hs,by rw[if_neg e,if_pos e2],by rw[if_neg e,if_pos e2],by rw[if_neg e,if_pos e2],.inr (.inl ⟨e2,e,rfl⟩)⟩
   .exact⟨i,hi,by rw[if_neg e,if_neg e2],by rw[if_neg e,if_neg e2],by rw[if_neg e,if_neg e2],.inr (.inr ⟨e,e2,rfl⟩)⟩
 refine⟨?_,fun i hi=>?_,fun i j hi hj hij=>?_,fun i hi=>?_,fun B hB=>?_⟩
 .refine((h.arr.set s (Ej blk cap N k)).set k (Ej blk cap N s)).congr fun i hi=>?_;unfold Ej Ua;by_cases e:i=k
  .subst e;rw[Ab,if_neg (fun e=>aB e.symm),if_pos rfl,if_neg (fun e=>aB e.symm),if_pos rfl]
  .rw[Ad _ _ e];by_cases e2:i=s
   .subst e2;rw[Ab,if_pos rfl,if_pos rfl]
   .rw[Ad _ _ e2,if_neg e2,if_neg e,if_neg e2,if_neg e]
 .obtain⟨j,hj,e1,e2,e3,_⟩:=aA i hi;rw[e1,e2,e3];exact((h.row j hj).other (h.off j hj) _).other (h.off j hj) _
 .obtain⟨i',aE,e1,_,_,c1⟩:=aA i hi;obtain⟨j',aD,e2,_,_,c2⟩:=aA j hj;rw[e1,e2];exact h.apart i' j' aE aD ac
 .obtain⟨j,hj,e1,_⟩:=aA i hi;rw[e1];exact h.off j hj
 .rw[aC];obtain⟨h1,h2,h3⟩:=h.av B hB;exact⟨h1,h2,fun i hi=>by obtain⟨j,hj,e1,_⟩:=aA i hi;rw[e1];exact h3 j hj⟩
theorem EM.kpg(h:EM w base g R N blk cap a avs)(s:Nat)(u:Value):Kp w (w.setCell (g,s) u) avs:=fun B hB=>by
 obtain⟨_,h2,_⟩:=h.av B hB;exact Below.heap_setCell w ⟨g,s,none⟩ u B (fun e=>h2 e.symm)
end
end Go.Proofs.YtehieobniamagaaGreat
