/- Slices of slices; the reference's SameInts, SameRows, Few; slices.Index and Clone at Al. -/
import Derived.Shelf.Sort.Plain
import Derived.Test.YtehieobniamagaaGreatProg
import Derived.Test.YtehieobniamagaaGreatZa23
namespace Go.Proofs.YtehieobniamagaaGreat
open Go.RowKit
set_option linter.all false
set_option maxRecDepth 100000
set_option maxHeartbeats 4000000
theorem zaD{P:Prop}(h:P:=by
 obtain rfl:i=n:=by omega
 have HF:=Aa (BL aA.o);go_wp2_with fail
 go_ret;exact⟨Ag HF.o.symm,q,rfl⟩):P:=h
theorem zbE{P:Prop}(h:P:=by
 go_roundg (n-(i+1))
 case measure=>omega
 case rel=>exact⟨i+1,q+q',by omega,by omega,by go_num,rfl,HA⟩):P:=h
theorem Kl(w:World)(p0:Value)(v:Value)(n:Nat)(us:List Value)(hv:Sl w v n 1 us)(pr:Nat->Bool)
  (hp:∀(q i:Nat) (u:Value),us[i]?=some u->Calls Tryz.prog 117 #[u,p0] (w.drewN q) fun e w'=>e= .returned (.bool (pr i))/\∃q',w'=(w.drewN q).drewN q'):
  Calls Tryz.prog 169 #[v,.func (.func 117) #[] #[p0]] w fun r w'=>r= .returned (.int .i64 (CD pr n))/\∃q,w'=w.drewN q:=by
 obtain⟨hl,a,cap,rfl,s1,s2,s3⟩:=hv;rw[Nat.mul_one]at hl;have S3:=Aa s3;have HP:=Aa hp;have HL:=Aa hl;unfold maxLen at s2;clear s3 hp hl;go_enter Tryz.func169,Tryz.ntmps169
 go_wp2_with fail
 go_loopg [5,8] n (fun gg _ i' wr=>∃i q:Nat,i<=n/\n-i<=gg/\i'= .int .i64 i/\wr=w.drewN q/\Hia (∀j,j<i->pr j=false))
 case atStart=>exact⟨0,0,ac,ac,rfl,rfl,Aa (fun j hj=>ac)⟩
 case round=>
  obtain⟨i,q,hi,hg,rfl,rfl,aA⟩:=hrel;by_cases hlt:i<n
  .obtain⟨u,hu⟩:∃u,us[i]?=some u:=⟨_,List.getElem?_eq_getElem az⟩;obtain⟨bb,o,rfl,hc⟩:=S3.o ac;have c1:=hc i u hu;have HC:=Aa (HP.o q i u hu);have hlt':(i:Int)<(n:Int):=by omega
   clear hc hu
   cases hb:pr i with
   | true=>
    rw[hb]at HC;have HF:=Aa (Cg hlt hb aA.o);clear hb;go_wp2_with (go_at_call 117;refine HC.o.mono ?_;rintro e w'⟨rfl,q',rfl⟩)
    go_ret;exact⟨Ag HF.o.symm,q+q',rfl⟩
   | false=>
    rw[hb]at HC;have HA:=Aa (show ∀j,j<i+1->pr j=false from fun j hj=>by
     by_cases e:j=i
     .subst e;exact hb
     .exact aA.o j ac)
    clear hb;go_wp2_with (go_at_call 117;refine HC.o.mono ?_;rintro e w'⟨rfl,q',rfl⟩)
    exact zbE
  .exact zaD
theorem Hx(w:World)(p0:Value)(v:Value)(n:Nat)(us:List Value)(hv:Sl w v n 1 us)(pr:Nat->Bool)
  (hp:∀(q i:Nat) (u:Value),us[i]?=some u->Calls Tryz.prog 117 #[u,p0] (w.drewN q) fun e w'=>e= .returned (.bool (pr i))/\∃q',w'=(w.drewN q).drewN q'):
  Calls Tryz.prog 116 #[v,.func (.func 117) #[] #[p0]] w fun r w'=>r= .returned (.bool ((List.range n).any pr))/\∃q,w'=w.drewN q:=by
 have HC:=Aa (Kl w p0 v n us hv pr hp);have HB:=Aa (DL pr n);obtain⟨z,hz⟩:=nA (CD pr n);rw[hz]at HC HB;clear hz hp hv;go_enter Tryz.func116,Tryz.ntmps116
 go_wp2_with (go_at_call 169;refine HC.o.mono ?_;rintro e w'⟨rfl,q,rfl⟩)
 go_ret;exact⟨Ao HB.o.symm,q,rfl⟩
theorem Ko(w:World)(p0:Value)(v:Value)(n:Nat)(us:List Value)(hv:Sl w v n 1 us)(pr:Nat->Bool)
  (hp:∀(q i:Nat) (u:Value),us[i]?=some u->Calls Tryz.prog 176 #[u,p0] (w.drewN q) fun e w'=>e= .returned (.bool (pr i))/\∃q',w'=(w.drewN q).drewN q'):
  Calls Tryz.prog 129 #[v,.func (.func 176) #[] #[p0]] w fun r w'=>r= .returned (.int .i64 (CD pr n))/\∃q,w'=w.drewN q:=by
 obtain⟨hl,a,cap,rfl,s1,s2,s3⟩:=hv;rw[Nat.mul_one]at hl;have S3:=Aa s3;have HP:=Aa hp;have HL:=Aa hl;unfold maxLen at s2;clear s3 hp hl;go_enter Tryz.func129,Tryz.ntmps129
 go_wp2_with fail
 go_loopg [5,8] n (fun gg _ i' wr=>∃i q:Nat,i<=n/\n-i<=gg/\i'= .int .i64 i/\wr=w.drewN q/\Hia (∀j,j<i->pr j=false))
 case atStart=>exact⟨0,0,ac,ac,rfl,rfl,Aa (fun j hj=>ac)⟩
 case round=>
  obtain⟨i,q,hi,hg,rfl,rfl,aA⟩:=hrel;by_cases hlt:i<n
  .obtain⟨u,hu⟩:∃u,us[i]?=some u:=⟨_,List.getElem?_eq_getElem az⟩;obtain⟨bb,o,rfl,hc⟩:=S3.o ac;have c1:=hc i u hu;have HC:=Aa (HP.o q i u hu);have hlt':(i:Int)<(n:Int):=by omega
   clear hc hu
   cases hb:pr i with
   | true=>
    rw[hb]at HC;have HF:=Aa (Cg hlt hb aA.o);clear hb;go_wp2_with (go_at_call 176;refine HC.o.mono ?_;rintro e w'⟨rfl,q',rfl⟩)
    go_ret;exact⟨Ag HF.o.symm,q+q',rfl⟩
   | false=>
    rw[hb]at HC;have HA:=Aa (show ∀j,j<i+1->pr j=false from fun j hj=>by
     by_cases e:j=i
     .subst e;exact hb
     .exact aA.o j ac)
    clear hb;go_wp2_with (go_at_call 176;refine HC.o.mono ?_;rintro e w'⟨rfl,q',rfl⟩)
    exact zbE
  .exact zaD
theorem Hy(w:World)(p0:Value)(v:Value)(n:Nat)(us:List Value)(hv:Sl w v n 1 us)(pr:Nat->Bool)
  (hp:∀(q i:Nat) (u:Value),us[i]?=some u->Calls Tryz.prog 176 #[u,p0] (w.drewN q) fun e w'=>e= .returned (.bool (pr i))/\∃q',w'=(w.drewN q).drewN q'):
  Calls Tryz.prog 71 #[v,.func (.func 176) #[] #[p0]] w fun r w'=>r= .returned (.bool ((List.range n).any pr))/\∃q,w'=w.drewN q:=by
 have HC:=Aa (Ko w p0 v n us hv pr hp);have HB:=Aa (DL pr n);obtain⟨z,hz⟩:=nA (CD pr n);rw[hz]at HC HB;clear hz hp hv;go_enter Tryz.func71,Tryz.ntmps71
 go_wp2_with (go_at_call 129;refine HC.o.mono ?_;rintro e w'⟨rfl,q,rfl⟩)
 go_ret;exact⟨Ao HB.o.symm,q,rfl⟩
theorem Jn(n:Nat)(f:Nat->Int):(il n f).length=n:=Am n f
theorem TK{N:Nat}{f g:Nat->Int}(h:∀j,j<N->f j=g j):il N f=il N g:=by
 apply List.ext_getElem?;intro j;by_cases hj:j<N
 .rw[AM hj,AM hj,h j hj]
 .rw[List.getElem?_eq_none (by rw[Jn];omega),List.getElem?_eq_none (by rw[Jn];omega)]
theorem S0{n:Nat}{f:Nat->Int}{x:Int}(h:x∈il n f):∃j,j<n/\f j=x:=by
 unfold il at h;obtain⟨j,hj,e⟩:=List.mem_map.1 h;exact⟨j,List.mem_range.1 hj,e⟩
def li(n:Nat)(f:Nat->Nat):List Int:=il n fun i=>(f i:Int)
theorem CM(n:Nat)(f:Nat->Nat):(li n f).length=n:=Jn _ _
theorem C9{n i:Nat}(h:i<n)(f:Nat->Nat):(li n f)[i]?=some (f i:Int):=AM h _
theorem Tk{n:Nat}{f g:Nat->Nat}(h:∀i,i<n->f i=g i):li n f=li n g:=TK fun i hi=>by rw[h i hi]
theorem Ec{w:World}{v:Value}{n:Nat}{f:Nat->Nat}(h:Aj w v (li n f)):∃a cap,v= .slice a n cap/\n<=cap/\cap<=maxLen/\
  (0<n->∃b o,a=some ⟨b,o,none⟩/\∀j,j<n->w.cell? ⟨b,o+j,none⟩=some (.int .i64 (f j:Int))):=by
 obtain⟨a,cap,h1,h2,h3,h4⟩:=h.open;rw[CM]at h1 h2 h4;refine⟨a,cap,h1,h2,h3,fun hn=>?_⟩;obtain⟨b,o,h5,h6⟩:=h4 hn;exact⟨b,o,h5,fun j hj=>h6 j _ (C9 hj f)⟩
theorem AI.li{w:World}{base:Nat}{e:TypeId}{g n:Nat}{f:Nat->Nat}(h:AI w base e g n (iv fun i=>(f i:Int))):Aj w (.slice (some ⟨g,0,none⟩) n n) (Go.Proofs.YtehieobniamagaaGreat.li n f):=h.isl
theorem zbF{P:Prop}(h:P:=by
 go_wp2_with fail
 go_roundw
 case rel=>exact⟨k+1,by omega,by go_num,HO,HX⟩
 case measure=>simp[intOf];omega):P:=h
theorem zcE{P:Prop}(h:P:=by
 clear aA;go_wp2_with fail
 go_ret;exact⟨g,rfl,HO.o,hx.o⟩):P:=h
theorem Ee(w:World)(n:Nat)(f h:Nat->Nat)(u v:Value)(hu:Aj w u (li n f))(hv:Aj w v (li n h))(hn:n<=100)(hf:∀i,i<n->f i<n):
  Calls Tryz.prog 108 #[u,v] w fun r w'=>∃g,r= .returned (.slice (some ⟨g,0,none⟩) n n)/\AI w' w.heap.size 3 g n (iv fun i=>(An f h i:Int))/\Ex w w':=by
 obtain⟨ua,uc,rfl,_,u2,u3⟩:=Ec hu;obtain⟨va,vc,rfl,_,v2,v3⟩:=Ec hv;unfold maxLen at u2 v2;have U3:=Aa u3;have V3:=Aa v3;have HF:=Aa hf;clear hu hv u3 v3 hf;go_enter Tryz.func108,Tryz.ntmps108
 go_wp2_with (at_make;refine Aq _ rfl _ _ 22 rfl 3 (.int .i64 0) 8 Tryz.underlying22 Au rfl _ n rfl rfl rfl ac ai ?_)
 intro w3 aA aC;obtain⟨g,aB⟩:=nA w.heap.size;have aH:=Aa (show AI w3 g 3 g n (iv fun i=>if i<0 then(An f h i:Int) else 0) from by rw[<-aB];exact aA.icongr fun i _=>rfl);have aF:=Aa aC;have aG:=Aa aB;rw[aB]at ⊢;clear aA aC aB;go_wp2_with fail
 go_loopw [13] (fun k' wr=>∃(k:Nat),k<=n/\k'= .int .i64 k/\Hia (AI wr g 3 g n (iv fun i=>if i<k then(An f h i:Int) else 0))/\Hia (Ex w wr)) (fun k' _=>n-(intOf k').toNat)
 case atStart=>exact⟨0,ac,rfl,aH,aF⟩
 case round=>
  clear aH aF;obtain⟨k,hk,rfl,aA,hx⟩:=hrel;by_cases hkn:k<n
  .obtain⟨ub,uo,rfl,aE⟩:=U3.o ac;obtain⟨vb,vo,rfl,aD⟩:=V3.o ac;have aI:=HF.o k hkn;have c1:=hx.o.cell (aE k hkn);have c2:=hx.o.cell (aD (f k) aI);have c3:=aA.o.cell hkn;have c4:=aA.o.frz k;have i1:(0:Int)<=(k:Int):=by omega
   have i2:(k:Int)<(n:Int):=ac;have i3:(0:Int)<=(f k:Int):=ac;have i4:(f k:Int)<(n:Int):=ac;have HO:=Aa (show AI (wr.setCell ⟨g,k,none⟩ (.int .i64 (h (f k):Int))) g 3 g n (iv fun i=>if i<k+1 then(An f h i:Int) else 0) from by
    refine(aA.o.set k _).congr fun i hi=>?_;by_cases e:i=k
    .subst e;rw[Ad];show _=Value.int .i64 (if i<i+1 then(An f h i:Int) else 0);rw[if_pos ac];rfl
    .rw[Ae _ _ e];show Value.int .i64 (if i<k then(An f h i:Int) else 0)=Value.int .i64 (if i<k+1 then(An f h i:Int) else 0)
     by_cases h:i<k
     .exact zaZ
     .rw[if_neg h,if_neg ac])
   have HX:=Aa (aA.o.exSet (a:=w) (by have:=aG.o;omega) hx.o k (.int .i64 (h (f k):Int)));clear aE aD aA hx;exact zbF
  .obtain rfl:k=n:=by omega
   have HO:=Aa (show AI wr w.heap.size 3 g k (iv fun i=>(An f h i:Int)) from by
    rw[aG.o];exact aA.o.icongr fun i hi=>if_pos hi)
   exact zcE
theorem Ik(w:World)(n:Nat)(f:Nat->Nat)(u:Value)(hu:Aj w u (li n f))(hn:n<=100)(hf:A7 n f):
  Calls Tryz.prog 109 #[u] w fun r w'=>∃g,r= .returned (.slice (some ⟨g,0,none⟩) n n)/\AI w' w.heap.size 3 g n (iv fun i=>(AW n f i:Int))/\Ex w w':=by
 obtain⟨ua,uc,rfl,_,u2,u3⟩:=Ec hu;unfold maxLen at u2;have U3:=Aa u3;have HF:=Aa hf;clear hu u3 hf;go_enter Tryz.func109,Tryz.ntmps109
 go_wp2_with (at_make;refine Aq _ rfl _ _ 22 rfl 3 (.int .i64 0) 8 Tryz.underlying22 Au rfl _ n rfl rfl rfl ac ai ?_)
 intro w3 aA aC;obtain⟨g,aB⟩:=nA w.heap.size;have aG:=Aa (show AI w3 g 3 g n (iv fun i=>if AW n f i<0 then(AW n f i:Int) else 0) from by rw[<-aB];exact aA.icongr fun i _=>rfl);have aE:=Aa aC;have aF:=Aa aB;rw[aB]at ⊢;clear aA aC aB;go_wp2_with fail
 go_loopw [11] (fun k' wr=>∃(k:Nat),k<=n/\k'= .int .i64 k/\Hia (AI wr g 3 g n (iv fun i=>if AW n f i<k then(AW n f i:Int) else 0))/\Hia (Ex w wr)) (fun k' _=>n-(intOf k').toNat)
 case atStart=>exact⟨0,ac,rfl,aG,aE⟩
 case round=>
  clear aG aE;obtain⟨k,hk,rfl,aA,hx⟩:=hrel;by_cases hkn:k<n
  .obtain⟨ub,uo,rfl,aD⟩:=U3.o ac;have aH:=HF.o.lt k hkn;have c1:=hx.o.cell (aD k hkn);have c3:=aA.o.cell aH;have c4:=aA.o.frz (f k);have i1:(0:Int)<=(k:Int):=by omega
   have i2:(k:Int)<(n:Int):=ac;have i3:(0:Int)<=(f k:Int):=ac;have i4:(f k:Int)<(n:Int):=ac;have HO:=Aa (show AI (wr.setCell ⟨g,f k,none⟩ (.int .i64 (k:Int))) g 3 g n (iv fun i=>if AW n f i<k+1 then(AW n f i:Int) else 0) from by
    refine(aA.o.set (f k) _).congr fun i hi=>?_;by_cases e:i=f k
    .subst e;rw[Ad];show _=Value.int .i64 (if AW n f (f k)<k+1 then(AW n f (f k):Int) else 0);rw[HF.o.inv_l,if_pos ac]
    .rw[Ae _ _ e];show Value.int .i64 (if AW n f i<k then(AW n f i:Int) else 0)=Value.int .i64 (if AW n f i<k+1 then(AW n f i:Int) else 0)
     have h1:AW n f i≠k:=fun h=>e (by rw[<-h,HF.o.inv_r]);by_cases h:AW n f i<k
     .exact zaZ
     .rw[if_neg h,if_neg ac])
   have HX:=Aa (aA.o.exSet (a:=w) (by have:=aF.o;omega) hx.o (f k) (.int .i64 (k:Int)));clear aD aA hx;exact zbF
  .obtain rfl:k=n:=by omega
   have HO:=Aa (show AI wr w.heap.size 3 g k (iv fun i=>(AW k f i:Int)) from by
    rw[aF.o];exact aA.o.icongr fun i hi=>if_pos (HF.o.inv.lt i hi))
   exact zcE
theorem GM(w:World)(n:Nat)(hn:n<=100):
  Calls Tryz.prog 102 #[.int .i64 n] w fun r w'=>∃g,r= .returned (.slice (some ⟨g,0,none⟩) n n)/\AI w' w.heap.size 3 g n (iv fun i=>(DY i:Int))/\Ex w w':=by
 go_enter Tryz.func102,Tryz.ntmps102
 go_wp2_with (at_make;refine Aq _ rfl _ _ 22 rfl 3 (.int .i64 0) 8 Tryz.underlying22 Au rfl _ n rfl rfl rfl ac ai ?_)
 intro w3 aA aC;obtain⟨g,aB⟩:=nA w.heap.size;have aF:=Aa (show AI w3 g 3 g n (iv fun i=>if i<0 then(i:Int) else 0) from by rw[<-aB];exact aA.icongr fun i _=>rfl);have aD:=Aa aC;have aE:=Aa aB;rw[aB]at ⊢;clear aA aC aB;go_wp2_with fail
 go_loopw [9] (fun k' wr=>∃(k:Nat),k<=n/\k'= .int .i64 k/\Hia (AI wr g 3 g n (iv fun i=>if i<k then(i:Int) else 0))/\Hia (Ex w wr)) (fun k' _=>n-(intOf k').toNat)
 case atStart=>exact⟨0,ac,rfl,aF,aD⟩
 case round=>
  clear aF aD;obtain⟨k,hk,rfl,aA,hx⟩:=hrel;by_cases hkn:k<n
  .have c3:=aA.o.cell hkn;have c4:=aA.o.frz k;have i1:(0:Int)<=(k:Int):=by omega
   have i2:(k:Int)<(n:Int):=ac;have HO:=Aa (show AI (wr.setCell ⟨g,k,none⟩ (.int .i64 (k:Int))) g 3 g n (iv fun i=>if i<k+1 then(i:Int) else 0) from by
    refine(aA.o.set k _).congr fun i hi=>?_;by_cases e:i=k
    .subst e;rw[Ad];show _=Value.int .i64 (if i<i+1 then(i:Int) else 0);rw[if_pos ac]
    .rw[Ae _ _ e];show Value.int .i64 (if i<k then(i:Int) else 0)=Value.int .i64 (if i<k+1 then(i:Int) else 0)
     by_cases h:i<k
     .exact zaZ
     .rw[if_neg h,if_neg ac])
   have HX:=Aa (aA.o.exSet (a:=w) (by have:=aE.o;omega) hx.o k (.int .i64 (k:Int)));clear aA hx;exact zbF
  .obtain rfl:k=n:=by omega
   have HO:=Aa (show AI wr w.heap.size 3 g k (iv fun i=>(DY i:Int)) from by
    rw[aE.o];exact aA.o.icongr fun i hi=>if_pos hi)
   exact zcE
def Ke(n:Int):Int:=if n<1∨64<n then 4 else 0
def Bv(l:List Int):Int:=if (l.length:Int)<1∨64<(l.length:Int) then 4 else if (∃x∈l,x<0∨(l.length:Int)<=x) then 6 else if l.Nodup then 0 else 18
def Iw(n:Int)(rows:List (List Int)):Int:=match rows.find? (fun r=>Bv r !=0) with
 | some r=>Bv r
 | none=>if (∃r∈rows,(r.length:Int)≠n) then 10 else 0
def DA(n:Int)(rows:List (List Int)):Int:=if n<1∨64<n then 4 else Iw n rows
theorem Oj{n:Int}{rows:List (List Int)}{i:Nat}{r:List Int}(hr:rows[i]?=some r)(h:Bv r≠0)(ha:∀(j:Nat) (s:List Int),j<i->rows[j]?=some s->Bv s=0):Iw n rows=Bv r:=by
 have:rows.find? (fun r=>Bv r !=0)=some r:=by
  rw[List.find?_eq_some_iff_getElem];obtain⟨hi,e⟩:=List.getElem?_eq_some_iff.1 hr;refine⟨by simpa using h,i,hi,e,fun j hj=>?_⟩;have:=ha j _ hj (List.getElem?_eq_getElem ac);simp[this]
 unfold Iw;rw[this]
theorem FR{n:Int}{rows:List (List Int)}(ha:∀(j:Nat) (s:List Int),rows[j]?=some s->Bv s=0):Iw n rows=if (∃r∈rows,(r.length:Int)≠n) then 10 else 0:=by
 have:rows.find? (fun r=>Bv r !=0)=none:=by
  rw[List.find?_eq_none];intro r hr;obtain⟨j,hj,e⟩:=List.getElem_of_mem hr;have:=ha j r au;simp[this]
 unfold Iw;rw[this]
theorem Eb{l:List Int}:l.Nodup↔∀i j,j<i->i<l.length->l[i]?≠l[j]?:=by
 rw[List.nodup_iff_pairwise_ne,List.pairwise_iff_getElem];constructor
 .intro h i j hj hi e;rw[List.getElem?_eq_getElem hi,List.getElem?_eq_getElem ac]at e;injection e with e;exact h j i ac hi hj e.symm
 .intro h i j hi hj aA e;exact h j i aA hj (by rw[List.getElem?_eq_getElem hi,List.getElem?_eq_getElem hj,e])
theorem dv{P:Prop}(h:P:=by rw[List.getElem?_eq_getElem hi,List.getElem?_eq_getElem hj,e2]):P:=h
theorem GC{l:List Int}(h:Bv l=0):∃n f,1<=n/\n<=64/\l.length=n/\A7 n f/\l=li n f:=by
 unfold Bv at h;split at h
 .cases h
 .split at h
  .cases h
  .split at h
   .rename_i h1 h2 h3;have hr:∀i,i<l.length->0<=l.getD i 0/\l.getD i 0<l.length:=fun i hi=>by
     rw[List.getD_eq_getElem?_getD,List.getElem?_eq_getElem hi];show 0<=l[i]/\l[i]<(l.length:Int)
     have hm:=List.getElem_mem hi;apply Classical.byContradiction;intro hn;exact h2 ⟨_,hm,ac⟩
    refine⟨l.length,fun i=>if i<l.length then(l.getD i 0).toNat else i,ac,ac,rfl,?_,?_⟩
    .refine A7.of_inj (fun i hi=>?_) (fun i hi=>if_neg ac) (fun i j hi hj e=>?_)
     .rw[if_pos hi];have:=hr i hi;omega
     .rw[if_pos hi,if_pos hj]at e;have h4:=hr i hi;have h5:=hr j hj;have e2:l.getD i 0=l.getD j 0:=by omega
      rw[List.getD_eq_getElem?_getD,List.getD_eq_getElem?_getD,List.getElem?_eq_getElem hi,List.getElem?_eq_getElem hj]at e2;have e2:l[i]=l[j]:=e2;apply Classical.byContradiction;intro aA;rcases Nat.lt_or_gt_of_ne aA with hij|hij
      .exact Eb.1 h3 j i hij hj dv
      .exact Eb.1 h3 i j hij hi dv
    .apply List.ext_getElem?;intro i;by_cases hi:i<l.length
     .rw[C9 hi,if_pos hi];have:=hr i hi;rw[List.getD_eq_getElem?_getD,List.getElem?_eq_getElem hi]at *;have this:0<=l[i]/\l[i]<(l.length:Int):=this;show some l[i]=some ((l[i].toNat:Nat):Int)
      congr 1;omega
     .rw[List.getElem?_eq_none ac,List.getElem?_eq_none (by rw[CM];omega)]
   .cases h
theorem LQ{n:Nat}{f:Nat->Nat}(h1:1<=n)(h2:n<=64)(hf:A7 n f):Bv (li n f)=0:=by
 unfold Bv;rw[CM,if_neg ac,if_neg,if_pos]
 .rw[Eb];intro i j hj hi e;rw[CM]at hi;rw[C9 hi,C9 ac]at e;injection e with e;have:=hf.inj i j ac;omega
 .rintro⟨x,hx,h⟩;unfold li at hx;obtain⟨j,hj,rfl⟩:=S0 hx;have:=hf.lt j hj;omega
theorem IT{n:Int}{rows:List (List Int)}(h:DA n rows=0):∃N:Nat,n=N/\1<=N/\N<=64/\∃S:List (Nat->Nat),rows=S.map (li N)/\∀s∈S,A7 N s:=by
 unfold DA at h;split at h
 .cases h
 .rename_i hn;obtain⟨N,rfl⟩:∃N:Nat,n=N:=⟨n.toNat,ac⟩;refine⟨N,rfl,ac,ac,?_⟩;unfold Iw at h;split at h
  .rename_i r hr;have:=List.find?_some hr;simp[h]at this
  .rename_i hr;split at h
   .cases h
   .rename_i hl;have aA:∀r∈rows,∃f,A7 N f/\r=li N f:=fun r hm=>by
     have h1:=List.find?_eq_none.1 hr r hm;obtain⟨m,f,_,_,h3,h4,h5⟩:=GC bw;have hm:m=N:=by
      have:¬(r.length:Int)≠N:=fun h6=>hl ⟨r,hm,h6⟩;omega
     subst hm;exact⟨f,h4,h5⟩
    clear hr hl h hn
    induction rows with
    | nil=>exact⟨[],rfl,fun s hs=>by cases hs⟩
    | cons r rs ih=>
     obtain⟨f,hf,rfl⟩:=aA r (List.mem_cons_self ..);obtain⟨S,e,hS⟩:=ih fun r hr=>aA r (List.mem_cons_of_mem _ hr);exact⟨f :: S,by rw[e];rfl,fun s hs=>by
      rcases List.mem_cons.1 hs with h|h
      .rw[h];exact hf
      .exact hS s h⟩
theorem V6{N:Nat}{S:List (Nat->Nat)}(h1:1<=N)(h2:N<=64)(hS:∀s∈S,A7 N s):DA N (S.map (li N))=0:=by
 unfold DA;rw[if_neg ac,FR,if_neg]
 .rintro⟨r,hr,h⟩;obtain⟨s,hs,rfl⟩:=List.mem_map.1 hr;rw[CM]at h;exact h rfl
 .intro j s hs;obtain⟨s',h3,rfl⟩:=List.mem_map.1 (List.mem_of_getElem? hs);exact LQ h1 h2 (hS s' h3)
theorem zch{P:Prop}(h:P:=by
 go_enter Tryz.func115,Tryz.ntmps115
 exact zcT):P:=h
theorem Gs(w:World)(n:Int):
  Calls Tryz.prog 115 #[.int .i64 n] w fun r w'=>r= .returned (.int .i64 (Ke n))/\w=w':=by
 unfold Ke;by_cases h1:n<1
 .rw[if_pos (.inl h1)];exact zch
 .by_cases h2:64<n
  .rw[if_pos (.inr h2)];exact zch
  .rw[if_neg ac];exact zch
theorem zca{P:Prop}(h:P:=by
 go_enter Tryz.func117,Tryz.ntmps117
 go_wp2_with fail
 go_ret;exact⟨rfl,0,rfl⟩):P:=h
theorem PY(w:World)(B:Nat)(x:Int)(a:Option Addr)(n cap:Nat)(c0:w.cell? ⟨B,0,none⟩=some (.slice a n cap)):
  Calls Tryz.prog 117 #[.int .i64 x,.pointer (some ⟨B,0,none⟩)] w fun r w'=>r= .returned (.bool (decide (x<0∨(n:Int)<=x)))/\∃q,w'=w.drewN q:=by
 by_cases h1:x<0
 .rw[decide_eq_true (.inl h1)];exact zca
 .by_cases h2:(n:Int)<=x
  .rw[decide_eq_true (.inr h2)];exact zca
  .rw[decide_eq_false ac];exact zca
theorem zaA{P:Prop}(h:P:=by
 rintro⟨i,hi,h⟩;rw[List.getD_eq_getElem?_getD,List.getElem?_eq_getElem hi]at h;exact⟨_,List.getElem_mem hi,h⟩):P:=h
theorem zbW{P:Prop}(h:P:=by
 obtain⟨a',cap',e,_,_,h⟩:=S3.o;injection e with e1 e2 e3;subst e1;exact h (by omega)):P:=h
theorem zct{P:Prop}(h:P:=by
 rw[hz];clear hd hz;go_wp2_with fail
 go_ret;exact⟨Ag HP.o.symm,e0⟩):P:=h
theorem H5(w:World)(l:List Int)(v:Value)(hl:Aj w v l):
  Calls Tryz.prog 57 #[v] w fun r w'=>r= .returned (.int .i64 (Bv l))/\Ex w w':=by
 have HL:=Aa hl;obtain⟨a,cap,rfl,s1,s2,s3⟩:=hl.open;unfold maxLen at s2;have e0:Ex w (w.alloc (.cells #[.slice a l.length cap] 22)):=(Ex.refl _).alloc _;have c0:(w.alloc (.cells #[.slice a l.length cap] 22)).cell? ⟨w.heap.size,0,none⟩=some (.slice a l.length cap):=ag;have S3:=Aa (hl.ex e0).open;clear s3 hl;go_enter Tryz.func57,Tryz.ntmps57
 go_wp2_with fail
 generalize w.alloc (.cells #[.slice a l.length cap] 22)=w1 at *;refine(Gs w1 l.length).mono ?_;rintro e w2⟨rfl,rfl⟩;by_cases hd:(l.length:Int)<1∨64<(l.length:Int)
 .have hz:Ke l.length=4:=if_pos hd;have HP:=Aa (show Bv l=4 from if_pos hd);exact zct
 .have hz:Ke l.length=0:=if_neg hd;rw[hz];have aH:=Aa (show 1<=l.length/\l.length<=64 from ac);have aC:=Aa (Hx w1 (.pointer (some ⟨w.heap.size,0,none⟩)) (.slice a l.length cap) l.length (Al l) (HL.o.ex e0) (fun i=>decide (l.getD i 0<0∨(l.length:Int)<=l.getD i 0)) fun q i u hu=>by
   obtain⟨x,hx,rfl⟩:∃x,l[i]?=some x/\u= .int .i64 x:=by
    simp only[Al,List.getElem?_map]at hu;obtain⟨x,h1,h2⟩:=Option.map_eq_some_iff.1 hu;exact⟨x,h1,h2.symm⟩
   have hd:l.getD i 0=x:=by rw[List.getD_eq_getElem?_getD,hx];rfl
   rw[hd];exact PY _ w.heap.size x a l.length cap (((Ex.refl w1).drewN q).cell c0))
  have aN:=Aa (show((List.range l.length).any fun i=>decide (l.getD i 0<0∨(l.length:Int)<=l.getD i 0))=decide (∃x∈l,x<0∨(l.length:Int)<=x) from by
   rw[Bool.eq_iff_iff];simp only[List.any_eq_true,List.mem_range,decide_eq_true_eq];constructor
   .exact zaA
   .rintro⟨x,hx,h⟩;obtain⟨i,hi,rfl⟩:=List.getElem_of_mem hx;exact⟨i,hi,by rw[List.getD_eq_getElem?_getD,List.getElem?_eq_getElem hi];exact h⟩)
  rw[aN.o]at aC;clear aN hd hz;by_cases ho:∃x∈l,x<0∨(l.length:Int)<=x
  .have HP:=Aa (show Bv l=6 from by unfold Bv;rw[if_neg (by have:=aH.o;omega),if_pos ho]);rw[decide_eq_true ho]at aC;clear ho;go_wp2_with (go_at_call 116;refine aC.o.mono ?_;rintro e w'⟨rfl,q,rfl⟩)
   go_ret;exact⟨Ag HP.o.symm,e0.drewN _⟩
  .rw[decide_eq_false ho]at aC;have aQ:=Aa (show ∀(i:Nat) (x:Int),l[i]?=some x->0<=x/\x<l.length from fun i x h=>by
    apply Classical.byContradiction;intro hn;exact ho ⟨x,List.mem_of_getElem? h,ac⟩)
   have aK:=Aa (show Bv l=if l.Nodup then 0 else 18 from by unfold Bv;rw[if_neg (by have:=aH.o;omega),if_neg ho]);have HE:=Aa e0;have hl64:=aH.o.2;clear ho e0;go_wp2_with (first|(go_at_call 116;refine aC.o.mono ?_;rintro e w'⟨rfl,q,rfl⟩;have c0:=((Ex.refl w1).drewN q).cell c0)|(at_make;refine Aq _ rfl _ _ 168 rfl 4 (.bool false) 1 Tryz.underlying168 JD rfl _ l.length rfl rfl rfl ac ai ?_))
   intro w3 aA aF;have aJ:=Aa (((Ex.refl w1).drewN q).trans aF);have c0:=aF.cell c0;obtain⟨g,aG⟩:=nA w1.heap.size;rw[aG]at aA ⊢;have aP:=Aa (show w1.heap.size<=g from by rw[<-aG];exact Nat.le_refl _);have aL:=Aa (show AI w3 g 4 g l.length (bv fun x=>decide ((x:Int)∈l.take 0)) from aA.bcongr fun j _=>ag);have aM:=Aa (show(l.take 0).Nodup from ag);clear aA aF aG aC;go_wp2_with fail
   go_loopw [21] (fun k' wr=>∃(k:Nat),k<=l.length/\k'= .int .i64 k/\Hia (AI wr g 4 g l.length (bv fun x=>decide ((x:Int)∈l.take k)))/\Hia ((l.take k).Nodup)/\Hia (Ex w1 wr)) (fun k' _=>l.length-(intOf k').toNat)
   case atStart=>exact⟨0,ac,rfl,aL,aM,aJ⟩
   case round=>
    clear aL aM aJ c0;obtain⟨k,hk,rfl,aA,aD,hx⟩:=hrel;by_cases hkn:k<l.length
    .obtain⟨b,o,rfl,hc⟩:∃b o,a=some ⟨b,o,none⟩/\∀(j:Nat) (x:Int),l[j]?=some x->w1.cell? ⟨b,o+j,none⟩=some (.int .i64 x):=by
      exact zbW
     obtain⟨x,aE⟩:∃x,l[k]?=some x:=⟨_,List.getElem?_eq_getElem hkn⟩;obtain⟨y1,y2⟩:=aQ.o k x aE;obtain⟨X,rfl⟩:∃X:Nat,x=X:=⟨x.toNat,ac⟩;have aO:X<l.length:=db;have c1:=hx.o.cell (hc k X aE);have c3:=aA.o.cell aO;have c4:=aA.o.frz X;have i1:(0:Int)<=(k:Int):=ac;have i2:(k:Int)<(l.length:Int):=ac;have aB:l.take (k+1)=l.take k ++ [(X:Int)]:=by rw[List.take_add_one,aE];rfl
     by_cases hin:(X:Int)∈l.take k
     .have c5:wr.cell? ⟨g,X,none⟩=some (.bool true):=by rw[c3];show some (Value.bool (decide ((X:Int)∈l.take k)))=_;rw[decide_eq_true hin]
      have aR:=Aa (show Bv l=18 from by
       rw[aK.o,if_neg];intro h;have h2:(l.take (k+1)).Nodup:=h.sublist (List.take_sublist _ _);rw[aB,List.nodup_append]at h2;exact h2.2.2 _ hin _ (List.mem_singleton.2 rfl) rfl)
      have aI:=Aa (HE.o.trans hx.o);clear hc c3 aA aD hx aB hin;go_wp2_with fail
      go_ret;exact⟨Ag aR.o.symm,aI.o⟩
     .have c5:wr.cell? ⟨g,X,none⟩=some (.bool false):=by rw[c3];show some (Value.bool (decide ((X:Int)∈l.take k)))=_;rw[decide_eq_false hin]
      have HO:=Aa (show AI (wr.setCell ⟨g,X,none⟩ (.bool true)) g 4 g l.length (bv fun x=>decide ((x:Int)∈l.take (k+1))) from by
       refine(aA.o.set X _).congr fun i hi=>?_;by_cases e:i=X
       .subst e;rw[Ad];show _=Value.bool (decide ((i:Int)∈l.take (k+1)));rw[aB,decide_eq_true ag]
       .rw[Ae _ _ e];show Value.bool (decide ((i:Int)∈l.take k))=Value.bool (decide ((i:Int)∈l.take (k+1)))
        rw[aB]
        congr 1
        have:¬(i:Int)=X:=ac;simp[this])
      have aS:=Aa (show(l.take (k+1)).Nodup from by
       rw[aB,List.nodup_append];exact⟨aD.o,ag,fun y hy z hz e=>by rw[List.mem_singleton.1 hz]at e;subst e;exact hin hy⟩)
      have HX:=Aa (aA.o.exSet (a:=w1) aP.o hx.o X (.bool true));clear hc c3 aA aD hx aB hin;go_wp2_with fail
      go_roundw
      case rel=>exact⟨k+1,ac,by go_num,HO,aS,HX⟩
      case measure=>simp[intOf];omega
    .obtain rfl:k=l.length:=by omega
     have HP:=Aa (show Bv l=0 from by
      rw[aK.o,if_pos];have:=aD.o
      rwa[List.take_length]at this)
     have aI:=Aa (HE.o.trans hx.o);clear aA aD hx;go_wp2_with fail
     go_ret;exact⟨Ag HP.o.symm,aI.o⟩
section
variable {p m:Nat} {ml:List Int} {mv:Value}
end
section
variable {p m:Nat} {ml:List Int} {mv:Value}
end
section
variable {p m:Int} {mv:Value}
end
section
variable {p m:Nat} {low:Vc}
theorem Tq(hp:2<=p)(hm:1<=m){x:Nat}(hx:x<p^m):Bm p m low x 1=x:=by
 show Ap p m low 1 x=x
 exact Dl hp hm hx
theorem Tr(hp:2<=p)(hm:1<=m)(x y:Nat):∀e,Bm p m low (Ap p m low x y) e=Ap p m low (Bm p m low x e) (Bm p m low y e)
 | 0=>by
  show 1=Ap p m low 1 1
  rw[Dl hp hm (Bw hp hm)]
 | e+1=>by
  show Ap p m low (Bm p m low (Ap p m low x y) e) (Ap p m low x y)=Ap p m low (Ap p m low (Bm p m low x e) x) (Ap p m low (Bm p m low y e) y)
  have h1:1<=p:=ac;rw[Tr hp hm x y e,BG h1,<-BG h1 (Bm p m low y e),Bb (Bm p m low y e) x,BG h1 x,<-BG h1]
theorem Qz(hp:2<=p)(hm:1<=m){x:Nat}(hx:x<p^m):∀k,QA p m low x k=Bm p m low x (p^k)
 | 0=>by rw[Nat.pow_zero,Tq hp hm hx];rfl
 | k+1=>by
  show Bm p m low (QA p m low x k) p=_
  rw[Qz hp hm hx k,Md hp hm,Nat.pow_succ]
theorem Qo(hp:2<=p)(hm:1<=m)(hF:J4 p m low){x:Nat}(h1:1<=x)(hx:x<p^m):∀e,1<=Bm p m low x e
 | 0=>Nat.le_refl _
 | e+1=>hF.ne_zero hp hm (Qo hp hm hF h1 hx e) (CA hp hm x e) h1 hx
theorem V8(hp:2<=p)(hm:1<=m)(hF:J4 p m low){x:Nat}(h1:1<=x)(hx:x<p^m)(k:Nat):1<=QA p m low x k:=by
 rw[Qz hp hm hx];exact Qo hp hm hF h1 hx _
end
structure B6(p m:Nat)(ml pl sl:List Int)(fr N:Nat):Prop where
 hp:2<=p
 hm:1<=m
 hF:J4 p m (lw ml)
 n1:1<=N
 n2:N<=64
 pll:pl.length=N
 sll:sl.length=N
 inj:Iz N (FV pl)
 sc:∀i,i<N->∃z:Nat,sl.getD i 0=z/\1<=z/\z<p^m
 frm:fr<m
theorem VQ{pl:List Int}{N:Nat}(hl:pl.length=N)(hr:Bz pl N=true)(hd:Dt pl=false):Iz N (FV pl):=by
 refine⟨fun i hi=>?_,fun i j hi hj e=>Classical.byContradiction fun aA=>?_⟩
 .have:=Dd hr (i:=i) ac;unfold FV;omega
 .have h1:=Dd hr (i:=i) ac;have h2:=Dd hr (i:=j) ac;have:Dt pl=true:=Fs.2 (by
   unfold FV at e;rcases Nat.lt_or_gt_of_ne aA with h|h
   .exact⟨j,i,h,ac,ac⟩
   .exact⟨i,j,h,ac,ac⟩)
  rw[hd]at this;cases this
theorem Fm{p m:Int}{ml:List Int}{n:Int}{pl sl:List Int}{fr:Int}(h:BF p m ml n pl sl fr=0):
  ∃(pn mn N fn:Nat),p=pn/\m=mn/\n=N/\fr=fn/\Li pn mn ml/\BY p m ml=0/\B6 pn mn ml pl sl fn N:=by
 obtain⟨n0,n1,n2,n3,n4,n5,n6,n7,n8,n9⟩:=Gi h;obtain⟨pn,mn,rfl,rfl,hf,hpr,hF⟩:=(Cm _ _ _).1 n0;obtain⟨fn,rfl⟩:∃fn:Nat,fr=fn:=⟨fr.toNat,ac⟩;obtain⟨N,rfl⟩:∃N:Nat,n=N:=⟨n.toNat,ac⟩;exact⟨pn,mn,N,fn,rfl,rfl,rfl,rfl,hf,n0,hf.p2,hf.m1,hF,ac,ac,ac,ac,VQ ac n5 n8,fun i hi=>XI (by simpa only[Int.toNat_natCast]using n9) ac,ac⟩
theorem QE{q:Nat}{l:List Int}(h:∀i,i<l.length->∃z:Nat,l.getD i 0=z/\1<=z/\z<q):DS q l=0:=by
 unfold DS;have aA:∀x∈l,∃z:Nat,x=z/\1<=z/\z<q:=fun x hx=>by
  obtain⟨i,hi,rfl⟩:=List.getElem_of_mem hx;have:=h i hi;rw[List.getD_eq_getElem?_getD,List.getElem?_eq_getElem hi]at this;exact this
 rw[if_neg,if_neg]
 .intro hc;rw[List.contains_iff_mem]at hc;obtain⟨z,h1,h2,_⟩:=aA 0 hc;omega
 .intro hc;obtain⟨x,hx,h1⟩:=List.any_eq_true.1 hc;obtain⟨z,rfl,h2,h3⟩:=aA x hx;unfold Fa at h1;simp at h1;omega
theorem Wg{pl:List Int}{N:Nat}(hl:pl.length=N)(h0:∀i,i<N->0<=pl.getD i 0)(h:Iz N (FV pl)):Dt pl=false:=by
 cases hd:Dt pl with
 | false=>rfl
 | true=>
  obtain⟨i,j,h1,h2,h3⟩:=Fs.1 hd;have:=h.inj i j ac ac (by unfold FV;rw[h3]);omega
theorem Xs{p m:Nat}{ml pl sl:List Int}{fr N:Nat}(hc:BY p m ml=0)(h:B6 p m ml pl sl fr N)(h0:∀i,i<N->0<=pl.getD i 0):BF p m ml N pl sl fr=0:=by
 have h1:=h.n1;have h2:=h.n2;have h3:=h.pll;have h4:=h.sll;have h5:=h.frm;have hr:Bz pl N=true:=Qa fun j hj=>by
  have:=h.inj.1 j ac;have:=h0 j ac;unfold FV at *;omega
 unfold BF;rw[if_neg (by rw[hc];simp),if_neg ac,if_neg ac,if_neg,if_neg]
 .exact QE fun i hi=>by simpa only[Int.toNat_natCast]using h.sc i ac
 .rw[Wg h3 h0 h.inj];decide
 .rw[hr];rintro (h|h|h)
  .cases h
  .omega
  .omega
section
variable {p m:Nat} {ml pl sl:List Int} {fr N:Nat} {x:List Int}
theorem B6.img(h:B6 p m ml pl sl fr N){i:Nat}(hi:i<N):Kc p m ml pl sl fr x N (FV pl i)=vF p m ml sl fr x i:=SW h.inj _ N (Nat.le_refl _) i hi
theorem Er{N j:Nat}(h:j<N)(f:Nat->Int):(il N f).getD j 0=f j:=by
 rw[List.getD_eq_getElem?_getD,AM h];rfl
theorem B6.imgE(h:B6 p m ml pl sl fr N){j:Nat}(hj:j<N):∃z:Nat,Kc p m ml pl sl fr x N j=z/\z<p^m:=by
 obtain⟨i,hi,rfl⟩:=h.inj.surj hj;rw[h.img hi];exact⟨_,rfl,Cb (by have:=h.hp;omega) _ _⟩
end
section
variable {p m:Nat} {ml pl sl ql tl:List Int} {fr fs N:Nat} {x:List Int}
theorem Iz.comp{π σ:Nat->Nat}(h:Iz N π)(k:Iz N σ):Iz N (fun i=> σ (π i)):=
 ⟨fun i hi=>k.lt _ (h.lt i hi),fun i j hi hj e=>h.inj i j hi hj (k.inj _ _ (h.lt i hi) (h.lt j hj) e)⟩
theorem MD(h:B6 p m ml pl sl fr N){i:Nat}(hi:i<N):FV (il N (cP pl ql)) i=FV ql (FV pl i):=by
 unfold FV;rw[Er hi];rfl
theorem Un(h:B6 p m ml pl sl fr N)(k:B6 p m ml ql tl fs N):B6 p m ml (il N (cP pl ql)) (il N (cS p m ml pl sl tl fs)) ((fr+fs)%m) N where
 hp:=h.hp
 hm:=h.hm
 hF:=h.hF
 n1:=h.n1
 n2:=h.n2
 pll:=Am _ _
 sll:=Am _ _
 inj:=by
  have hc:=h.inj.comp k.inj;exact⟨fun i hi=>by rw[MD h hi];exact hc.lt i hi,fun i j hi hj e=>by rw[MD h hi,MD h hj]at e;exact hc.inj i j hi hj e⟩
 sc:=fun i hi=>by
  rw[Er hi];obtain⟨s,hs,aD,aA⟩:=h.sc i hi;obtain⟨t,ht,aC,aB⟩:=k.sc _ (h.inj.lt i hi);refine⟨_,rfl,?_,Cb (by have:=h.hp;omega) _ _⟩;rw[hs,ht,Bj aA,Bj aB];exact h.hF.ne_zero h.hp h.hm aC aB (V8 h.hp h.hm h.hF aD aA fs) (Mm h.hp h.hm aA fs)
 frm:=Nat.mod_lt _ (by have:=h.hm;omega)
theorem VS(h:B6 p m ml pl sl fr N):∀i,i<N->∃z:Nat,(il N (Kc p m ml pl sl fr x N)).getD i 0=z/\z<p^m:=fun i hi=>by
 rw[Er hi];exact h.imgE hi
end
section
variable {p m:Nat} {ml:List Int} {N:Nat}
end
theorem Oo(w:World)(pl sl ql tl:List Int)(pv sv qv tv:Value)(hp:Aj w pv pl)(hs:Aj w sv sl)(hq:Aj w qv ql)(ht:Aj w tv tl)(fr fs:Int):
  Calls Tryz.prog 20 #[.agg #[pv,sv,.int .i64 fr],.agg #[qv,tv,.int .i64 fs]] w fun r w'=>r= .returned (.bool (decide (fr=fs/\pl=ql/\sl=tl)))/\Ex w w':=by
 obtain⟨a0,a1,a2,ea⟩:=Ay w pv sv fr;obtain⟨b0,b1,b2,eb⟩:=Ay (w.alloc (.cells #[pv,sv,.int .i64 fr] 26)) qv tv fs;have aF:(w.alloc (.cells #[pv,sv,.int .i64 fr] 26)).heap.size=w.heap.size+1:=ag;rw[aF]at b0 b1 b2;replace a0:=eb.cell a0;replace a1:=eb.cell a1;replace a2:=eb.cell a2;obtain⟨HX,HP,HS,HQ,HT⟩:=Of (ea.trans eb) hp hs hq ht;obtain⟨pa,pc,rfl,-,q1,-⟩:=hp.open;obtain⟨sa,sc,rfl,-,q2,-⟩:=hs.open;obtain⟨qa,qc,rfl,-,q3,-⟩:=hq.open;obtain⟨ta,tc,rfl,-,q4,-⟩:=ht.open;unfold maxLen at q1 q2 q3 q4;obtain⟨B,hB⟩:=nA w.heap.size;rw[hB]at a0 a1 a2 b0 b1 b2;clear hp hs hq ht ea eb aF;go_enter Tryz.func20,Tryz.ntmps20
 go_upto_region 1 with fail
 try simp only[hB]
 clear hB;generalize (w.alloc (.cells #[.slice pa pl.length pc,.slice sa sl.length sc,.int .i64 fr] 26)).alloc (.cells #[.slice qa ql.length qc,.slice ta tl.length tc,.int .i64 fs] 26)=w1 at *;have aE:=Aa (fun w' (h:Ex w1 w')=>(⟨h.cell a0,h.cell a1,h.cell b0,h.cell b1⟩:_/\_/\_/\_));have aD:=Aa (CW w1 pl ql _ _ (HP.o.ex HX.o) (HQ.o.ex HX.o));have aI:=Aa (fun (w2:World) (h:Ex w1 w2)=>CW w2 sl tl _ _ (HS.o.ex (HX.o.trans h)) (HT.o.ex (HX.o.trans h)));by_cases h1:fr=fs
 .have k1:(fr==fs)=true:=by simpa using h1
  by_cases h2:pl=ql
  .have aA:=Aa aD.o;rw[show decide (pl=ql)=true from by simpa using h2]at aA;have aG:=Aa (And.intro h1 h2);clear h1 h2 aD;go_wp2_with fail
   refine aA.o.mono ?_;rintro e w2⟨rfl,n2,rfl⟩;have aC:=Aa ((Ex.refl w1).drewN n2);clear a0 a1 b0 b1;obtain⟨a0,a1,b0,b1⟩:=aE.o _ aC.o;have aB:=Aa (aI.o _ aC.o);obtain⟨D,hD⟩:=nA (decide (sl=tl));rw[hD]at aB;have HD:=Aa hD;clear hD;go_wp2_with fail
   refine aB.o.mono ?_;rintro e w3⟨rfl,n3,rfl⟩;have aH:=Aa ((Ex.refl w1).drewN (n2+n3));go_wp2_with fail
   go_ret;refine⟨?_,HX.o.trans aH.o⟩;have:=HD.o;have:=aG.o.1;have:=aG.o.2
   simp_all
  .have aA:=Aa aD.o;rw[show decide (pl=ql)=false from by simpa using h2]at aA;have H2:=Aa h2;clear h2 aD;go_wp2_with fail
   refine aA.o.mono ?_;rintro e w2⟨rfl,n2,rfl⟩;have aC:=Aa ((Ex.refl w1).drewN n2);go_wp2_with fail
   go_ret;refine⟨?_,HX.o.trans aC.o⟩;have:=H2.o
   simp_all
 .have k1:(fr==fs)=false:=by simpa using h1
  have H1:=Aa h1;clear h1;go_wp2_with fail
  go_ret;refine⟨?_,HX.o⟩;have:=H1.o
  simp_all
section
variable {w w':World} {base g R N cap:Nat} {vals:Nat->Value} {a:Nat->Nat->Int}
variable {w1 wr:World} {piv:List Nat} {pv pv' u:Value} {f:Nat->Int}
end
section
open Go.Shelf
def Tryz.lays189_ren:Go.Shelf.Ren:=⟨fun | 189=>125 | 125=>178 | 257=>177 | 128=>221 | 129=>222 | 294=>212 | 295=>213 | 296=>214 | 297=>215 | 298=>216 | 299=>217 | 216=>218 | 300=>219 | 301=>220 | 328=>255 | 329=>256 | 330=>257 | 331=>258 | 332=>259 | 215=>260 | 343=>267|n=>n,fun | 28=>22 | 3=>3 | 46=>146 | 0=>0 | 51=>91 | 53=>77 | 4=>4 | 183=>248 | 182=>247 | 131=>253 | 5=>5 | 9=>9 | 218=>278 | 222=>282 | 228=>289 | 229=>203|n=>n,fun|n=>n⟩
theorem Tryz.lays189:Go.Proofs.Lays.n189 Tryz.prog Tryz.lays189_ren:= {
 mixed:=ah
 f125:=Tryz.func178.trans (congrArg some ah)
 f128:=Tryz.func221.trans (congrArg some ah)
 f129:=Tryz.func222.trans (congrArg some ah)
 f189:=Tryz.func125.trans (congrArg some ah)
 f215:=Tryz.func260.trans (congrArg some ah)
 f216:=Tryz.func218.trans (congrArg some ah)
 f257:=Tryz.func177.trans (congrArg some ah)
 f294:=Tryz.func212.trans (congrArg some ah)
 f295:=Tryz.func213.trans (congrArg some ah)
 f296:=Tryz.func214.trans (congrArg some ah)
 f297:=Tryz.func215.trans (congrArg some ah)
 f298:=Tryz.func216.trans (congrArg some ah)
 f299:=Tryz.func217.trans (congrArg some ah)
 f300:=Tryz.func219.trans (congrArg some ah)
 f301:=Tryz.func220.trans (congrArg some ah)
 f328:=Tryz.func255.trans (congrArg some ah)
 f329:=Tryz.func256.trans (congrArg some ah)
 f330:=Tryz.func257.trans (congrArg some ah)
 f331:=Tryz.func258.trans (congrArg some ah)
 f332:=Tryz.func259.trans (congrArg some ah)
 f343:=Tryz.func267.trans (congrArg some ah)
 t0:=Tryz.underlying0
 a0:=Tryz.isAgg0
 z0:=Tryz.sizeOf0
 v0:=Tryz.zeroValue0
 t3:=Tryz.underlying3
 a3:=Tryz.isAgg3
 z3:=Tryz.sizeOf3
 v3:=Tryz.zeroValue3
 t4:=Tryz.underlying4
 a4:=Tryz.isAgg4
 z4:=Tryz.sizeOf4
 v4:=Tryz.zeroValue4
 t5:=Tryz.underlying5
 a5:=Tryz.isAgg5
 z5:=Tryz.sizeOf5
 v5:=Tryz.zeroValue5
 t9:=Tryz.underlying9
 a9:=Tryz.isAgg9
 z9:=Tryz.sizeOf9
 v9:=Tryz.zeroValue9
 t28:=Tryz.underlying22
 a28:=Tryz.isAgg22
 z28:=Tryz.sizeOf22
 v28:=Tryz.zeroValue22
 t46:=Tryz.underlying146
 a46:=Tryz.isAgg146
 z46:=Tryz.sizeOf146
 v46:=Tryz.zeroValue146
 t51:=Tryz.underlying91
 a51:=Tryz.isAgg91
 z51:=Tryz.sizeOf91
 v51:=Tryz.zeroValue91
 t53:=Tryz.underlying77
 a53:=Tryz.isAgg77
 z53:=Tryz.sizeOf77
 v53:=Tryz.zeroValue77
 t131:=Tryz.underlying253
 a131:=Tryz.isAgg253
 z131:=Tryz.sizeOf253
 v131:=Tryz.zeroValue253
 t182:=Tryz.underlying247
 a182:=Tryz.isAgg247
 z182:=Tryz.sizeOf247
 v182:=Tryz.zeroValue247
 t183:=Tryz.underlying248
 a183:=Tryz.isAgg248
 z183:=Tryz.sizeOf248
 v183:=Tryz.zeroValue248
 t218:=Tryz.underlying278
 a218:=Tryz.isAgg278
 z218:=Tryz.sizeOf278
 v218:=Tryz.zeroValue278
 t222:=Tryz.underlying282
 a222:=Tryz.isAgg282
 z222:=Tryz.sizeOf282
 v222:=Tryz.zeroValue282
 t228:=Tryz.underlying289
 a228:=Tryz.isAgg289
 z228:=Tryz.sizeOf289
 v228:=Tryz.zeroValue289
 t229:=Tryz.underlying203
 a229:=Tryz.isAgg203
 z229:=Tryz.sizeOf203
 v229:=Tryz.zeroValue203 }
open Go.Sort Go.RowKit in
theorem Tryz.slices_Sort_int (blk aA cap:Nat) (zs:List Int) (w:World) (hH:Holds (Value.int .i64) w blk aA zs.toArray) (aB:blk<w.heap.size) (aC:zs.length<4611686018427387904):
  Calls Tryz.prog 125 #[.slice (some ⟨blk,aA,none⟩) zs.length cap] w fun e w'=>
   e= .returned (.tuple #[])/\∃n os,w'=grow (putRow (Value.int .i64) (Sort.ahead w n) blk aA (zs.mergeSort fun x y=>decide (x<=y)).toArray) os:=Any.slices_Sort_int Tryz.lays189 blk aA cap zs w hH aB aC
end
end Go.Proofs.YtehieobniamagaaGreat
