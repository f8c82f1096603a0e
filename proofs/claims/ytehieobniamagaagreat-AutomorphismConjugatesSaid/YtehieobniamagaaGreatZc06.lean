/- What the kernel's tables say. -/
import Derived.Test.YtehieobniamagaaGreatZc05
namespace Go.Proofs.YtehieobniamagaaGreat
open Go.RowKit
set_option linter.all false
set_option maxRecDepth 100000
set_option maxRecDepth 100000
set_option maxHeartbeats 2000000
theorem Pw{p m:Nat}{b1:List Bool}{D:List (List Bool)}:∀(T:List Nat) (s i t:Nat),Fq p m b1 D T s=true->T[i]?=some t->XA p m b1 D t (Im p m (s+i))=true
 | [],s,i,t,_,h=>by simp at h
 | x :: T,s,i,t,h,hi=>by
  have h1:(match XA p m b1 D x (Im p m s) with|true=>Fq p m b1 D T (Nat.succ s)|false=>false)=true:=h
  cases he:XA p m b1 D x (Im p m s) with
  | false=>rw[he]at h1;cases h1
  | true=>
   rw[he]at h1
   cases i with
   | zero=>simp at hi;subst hi;exact he
   | succ i=>
    have:=Pw T (s+1) i t h1 (by simpa using hi)
    rwa[show s+1+i=s+(i+1) by omega]at this
theorem QX{f:List Bool->Bool}:∀(l:List (List Bool)),allB f l=true->∀x∈l,f x=true
 | [],_,x,h=>by cases h
 | y :: l,h,x,hx=>by
  have h1:(match f y with|true=>allB f l|false=>false)=true:=h
  cases hf:f y with
  | false=>rw[hf]at h1;cases h1
  | true=>
   rw[hf]at h1;rcases List.mem_cons.1 hx with rfl|hx
   .exact hf
   .exact QX l h1 x hx
theorem Me(p:Nat):∀m,Im p m 0=List.replicate m 0
 | 0=>rfl
 | m+1=>by
  show Nat.mod 0 p :: Im p m (Nat.div 0 p)=_
  have h1:Nat.mod 0 p=0:=Nat.zero_mod p;have h2:Nat.div 0 p=0:=Nat.zero_div p;rw[h1,h2,Me p m];rfl
theorem Ny{p m g:Nat}{b1:List Bool}{D:List (List Bool)}{low:List Nat}(hp:2<=p)(hm:1<=m)(hl:low.length=m)(hg:g<p^m)(h:gnC p m g b1 D low=true):
  BO p m (lf low) g (DT 0 b1)=1/\∀b∈D,BO p m (lf low) g (DT 0 b)≠1:=by
 unfold gnC at h;rw[Me]at h;have aA:=fun bs=>RA hp hm hl g hg bs 0
 cases h1:Nat.beq (pwC p m low (List.replicate m 0) g b1 1) 1 with
 | false=>rw[h1]at h;cases h
 | true=>
  rw[h1]at h;refine⟨by rw[<-aA];exact Nat.eq_of_beq_eq_true h1,fun b hb e=>?_⟩;have h2:=QX D h b hb;rw[<-aA]at e;have e':pwC p m low (List.replicate m 0) g b 1=1:=e;rw[e']at h2;simp at h2
theorem NG{p:Nat}(hp:1<=p):∀l:List Nat,QM p l=0->∀j,l.getD j 0=0
 | [],_,j=>by simp
 | x :: l,h,j=>by
  have h1:x+p*QM p l=0:=h;have h2:QM p l=0:=by
   rcases Nat.eq_zero_or_pos (QM p l) with e|e
   .exact e
   .have:=Nat.mul_le_mul hp e;omega
  cases j with
  | zero=>simp;omega
  | succ j=>simpa using NG hp l h2 j
theorem zaH{P:Prop}(h:P:=by
 have hs:I0 d Aw:=fun i hi=>by unfold Aw;rw[if_neg (by omega)]
 rw[O6 hs _ _ j (by omega)]):P:=h
theorem Vi{p d u:Nat}{low:List Nat}(hp:2<=p)(hd:1<=d)(h:dvC p d u low=true):Cv p (ap d (AK p d u) (low.length+1) (lf (low ++ [1])) Aw) (fun _=>0):=by
 unfold dvC at h;have h0:=NG (show 1<=p by omega) _ (Nat.eq_of_beq_eq_true h);rw[Me]at h0;obtain⟨h1,h2⟩:=Lq (p:=p) (m:=d) (low:=Im p d u) (a:=Im p d 1) ac hd (Dh p d u) (Dh p d 1) rfl (low ++ [1]);rw[Jq,Jq,O0 hp hd]at h2;intro j;by_cases hj:j<d
 .have:=h2 j hj;rw[h0 j,OJ,List.length_append]at this;rw[show low.length+1=low.length + [1].length from rfl,<-this];rfl
 .exact zaH
def bndC(p m q t:Nat):Bool:=
 if t%2=0 then decide (1<=t/2%8)&&(decide (2*(t/2%8)<=m)&&decide (t/16<p^(t/2%8))) else decide (1<=t/2)&&decide (t/2<q)
def FO(p m:Nat)(low:List Nat):Prop:=
 Hr p m (lf low)∨∃d u,1<=d/\2*d<=m/\u<p^d/\Cv p (ap d (AK p d u) (m+1) (lf (low ++ [1])) Aw) (fun _=>0)
theorem zcw{P:Prop}(h:P:=by
 obtain⟨y,hy,hd⟩:=hC e h1 h2;exact⟨_,List.mem_map.2 ⟨y,hy,rfl⟩,hd⟩):P:=h
theorem Ur{p m q:Nat}{b1:List Bool}{D:List (List Bool)}{T:List Nat}(hp:2<=p)(hm:1<=m)(hq:p^m=q)(hT:Fq p m b1 D T 0=true)(hl:T.length=q)
  (hb:∀t∈T,bndC p m q t=true) (ho:DT 0 b1=q-1) (hC:∀e,e<q-1->e ∣ q-1->∃y∈D,e ∣ DT 0 y) (v:Nat) (hv:v<q):FO p m (Im p m v):=by
 obtain⟨t,ht⟩:∃t,T[v]?=some t:=⟨_,List.getElem?_eq_getElem ac⟩;have h1:=Pw T 0 v t hT ht;rw[Nat.zero_add]at h1;have h2:=hb t (List.mem_of_getElem? ht);unfold XA at h1;unfold bndC at h2;by_cases he:t%2=0
 .rw[if_pos he]at h2;have h3:Nat.beq (Nat.mod t 2) 0=true:=by
   show Nat.beq (t%2) 0=true
   rw[he];rfl
  rw[h3]at h1;simp only[Bool.and_eq_true,decide_eq_true_eq]at h2;obtain⟨a,b,c⟩:=h2;refine .inr ⟨t/2%8,t/16,a,b,c,?_⟩;have:=Vi hp a h1
  rwa[Dh]at this
 .rw[if_neg he]at h2;have h3:Nat.beq (Nat.mod t 2) 0=false:=by
   show Nat.beq (t%2) 0=false
   cases h:Nat.beq (t%2) 0 with
   | false=>rfl
   | true=>exact absurd (Nat.eq_of_beq_eq_true h) he
  rw[h3]at h1;simp only[Bool.and_eq_true,decide_eq_true_eq]at h2;obtain⟨a,b⟩:=h2;have aA:t/2<p^m:=by rw[hq];exact b
  obtain⟨k1,k2⟩:=Ny hp hm (Dh p m v) aA h1;refine .inl ⟨t/2,a,aA,Xp (D:=D.map (DT 0)) hp hm (by rw[hq,<-ho];exact k1) (fun y hy=>?_) (fun e h1 h2=>?_)⟩
  .obtain⟨x,hx,rfl⟩:=List.mem_map.1 hy;exact k2 x hx
  .rw[hq]at h1 h2;exact zcw
theorem YF{p g:Nat}{b1:List Bool}{D:List (List Bool)}(hp:2<=p)(aB:1<=g)(hg:g<p)(hT:gnC p 1 g b1 D (Im p 1 0)=true)(ho:DT 0 b1=p-1)
  (hC:∀e,e<p-1->e ∣ p-1->∃y∈D,e ∣ DT 0 y):FO p 1 (Im p 1 0):=by
 have aA:g<p^1:=by rw[Nat.pow_one];exact hg
 obtain⟨k1,k2⟩:=Ny hp (Nat.le_refl 1) (Dh p 1 0) aA hT;refine .inl ⟨g,aB,aA,Xp (D:=D.map (DT 0)) hp (Nat.le_refl 1) (by rw[Nat.pow_one,<-ho];exact k1) (fun y hy=>?_) (fun e h1 h2=>?_)⟩
 .obtain⟨x,hx,rfl⟩:=List.mem_map.1 hy;exact k2 x hx
 .rw[Nat.pow_one]at h1 h2;exact zcw
def btA:Nat->Nat->List Bool->List Bool
 | 0,_,l=>l
 | k+1,n,l=>match Nat.beq n 0 with
  | true=>l
  | false=>btA k (Nat.div n 2) (Nat.beq (Nat.mod n 2) 1 :: l)
def dvsP(n:Nat):List (List Bool):=((List.range n).filter fun d=>match Nat.beq (Nat.mod n d) 0 with|true=>Nat.ble 1 d|false=>false).map fun d=>btA 9 d []
def tbP:List (Nat × Nat):= [(2,1),(3,2),(5,2),(7,3),(11,2),(13,2),(17,3),(19,2),(23,5),(29,2),(31,3),(37,2),(41,6),(43,3),(47,5),(53,2),(59,2),(61,2),(67,2),(71,7),(73,5),(79,3),(83,2),(89,3),(97,5),(101,2),(103,5),(107,2),(109,6),(113,3),(127,3),(131,2),(137,3),(139,2),(149,2),(151,6),(157,5),(163,2),(167,5),(173,2),(179,2),(181,2),(191,19),(193,5),(197,2),(199,3),(211,2),(223,3),(227,2),(229,6),(233,3),(239,7),(241,7),(251,6)]
theorem bt_ok:∀d,d<257->DT 0 (btA 9 d [])=d:=ak
theorem tbP_ok:∀e∈tbP,1<=e.2/\e.2<e.1/\e.1<257/\gnC e.1 1 e.2 (btA 9 (e.1-1) []) (dvsP (e.1-1)) (Im e.1 1 0)=true:=ak
theorem Us{e:Nat × Nat}(he:e∈tbP):FO e.1 1 (Im e.1 1 0):=by
 obtain⟨h1,h2,h3,h4⟩:=tbP_ok e he;refine YF ac h1 h2 h4 (bt_ok _ ac) fun d hd hx=>⟨_,List.mem_map.2 ⟨d,List.mem_filter.2 ⟨List.mem_range.2 hd,?_⟩,rfl⟩,?_⟩
 .have e1:Nat.mod (e.1-1) d=0:=Nat.mod_eq_zero_of_dvd hx;have h5:1<=d:=by
   rcases Nat.eq_zero_or_pos d with e2|e2
   .rw[e2]at hx;have:=Nat.zero_dvd.1 hx;omega
   .exact e2
  rw[e1];show Nat.ble 1 d=true
  rw[Nat.ble_eq];exact h5
 .rw[bt_ok d ac];exact Nat.dvd_refl _
theorem RE:∀p,p<257->Jl p=true->p∈tbP.map (·.1):=ak
theorem Er{p m v:Nat}{b1:List Bool}{D:List (List Bool)}{T:List Nat}(hT:Fq p m b1 D T 0=true)(hv:v<p^m)(hp:2<=p:=by omega)(hm:1<=m:=by omega)(hl:T.length=p^m:=by decide +kernel)
  (hb:∀t∈T,bndC p m (p^m) t=true:=by decide +kernel) (ho:DT 0 b1=p^m-1:=by decide +kernel) (hC:∀e,e<p^m-1->e ∣ p^m-1->∃y∈D,e ∣ DT 0 y:=by decide +kernel):FO p m (Im p m v):=
 Ur hp hm rfl hT hl hb ho hC v hv
theorem Zu:((List.range 257).all fun p=>(List.range 9).all fun m=> !(decide (2<=m))||(!(Jl p)||(!(decide (p^m<=256))||decide ((p,m)∈ [(2,2),(2,3),(2,4),(2,5),(2,6),(2,7),(2,8),(3,2),(3,3),(3,4),(3,5),(5,2),(5,3),(7,2),(11,2),(13,2)]))))=true:=ak
theorem UO(m:Nat)(hm:m<9)(p:Nat)(hp:p<257)(h2:2<=m)(aA:Jl p=true)(hq:p^m<=256):(p,m)∈ [(2,2),(2,3),(2,4),(2,5),(2,6),(2,7),(2,8),(3,2),(3,3),(3,4),(3,5),(5,2),(5,3),(7,2),(11,2),(13,2)]:=by
 have h:=List.all_eq_true.1 (List.all_eq_true.1 Zu p (List.mem_range.2 hp)) m (List.mem_range.2 hm);rw[decide_eq_true h2,aA,decide_eq_true hq]at h;simpa using h
theorem Z5{p m v:Nat}(aB:Jl p=true)(hp:p<=256)(aC:1<=m)(hm:m<=8)(hq:p^m<=256)(hv:v<p^m)(h0:m=1->v=0):FO p m (Im p m v):=by
 rcases Nat.eq_or_lt_of_le aC with e|e
 .subst e;obtain rfl:=h0 rfl;have aA:=RE p ac aB;obtain⟨e,he,rfl⟩:=List.mem_map.1 aA;exact Us he
 .have aA:=UO m ac p ac e aB hq;simp only[List.mem_cons,List.not_mem_nil,or_false,Prod.mk.injEq]at aA;rcases aA with⟨rfl,rfl⟩|⟨rfl,rfl⟩|⟨rfl,rfl⟩|⟨rfl,rfl⟩|⟨rfl,rfl⟩|⟨rfl,rfl⟩|⟨rfl,rfl⟩|⟨rfl,rfl⟩|⟨rfl,rfl⟩|⟨rfl,rfl⟩|⟨rfl,rfl⟩|⟨rfl,rfl⟩|⟨rfl,rfl⟩|⟨rfl,rfl⟩|⟨rfl,rfl⟩|⟨rfl,rfl⟩
  .exact Er YV hv
  .exact Er YU hv
  .exact Er YT hv
  .exact Er YS hv
  .exact Er YR hv
  .exact Er YP hv
  .exact Er YO hv
  .exact Er YM hv
  .exact Er YL hv
  .exact Er YK hv
  .exact Er YJ hv
  .exact Er YI hv
  .exact Er YH hv
  .exact Er YG hv
  .exact Er VK hv
  .exact Er VJ hv
theorem lw_isD{p m:Nat}{ml:List Int}(h:Hh p m ml):IsD p m (lw ml):=by
 have hp:=h.p2;refine⟨fun j hj=>?_,fun j=>?_⟩
 .unfold lw;rw[List.getD_eq_getElem?_getD,List.getElem?_eq_none (by have:=h.len;split at this <;> omega)];rfl
 .unfold lw;rw[List.getD_eq_getElem?_getD];rcases hj:ml[j]? with _|z
  .simp;omega
  .exact h.rng z (List.mem_of_getElem? hj)
theorem TY{p d:Nat}{low:Vc}{ml:List Int}(hl:∀j,d<=j->True):QD p d low ml=true↔Cv p (ap d low (ml.length+1) (MJ ml) Aw) (fun _=>0)∨(QD p d low ml=true/\d=0):=by
 unfold QD;rw[List.all_eq_true];constructor
 .intro h;rcases Nat.eq_zero_or_pos d with e|e
  .exact .inr ⟨h,e⟩
  .refine .inl fun j=>?_;by_cases hj:j<d
   .have:=h j (List.mem_range.2 hj);simpa using this
   .exact zaH
 .rintro (h|⟨h,_⟩)
  .intro j _;have:=h j;simpa using this
  .exact h
theorem He{p m:Nat}{ml:List Int}(h:Hh p m ml)(aE:Jl p=true):Hr p m (lw ml)↔(m=1∨Yv p ml=true):=by
 have hp:=h.p2;have hm:=h.m1;have hD:=lw_isD h;obtain⟨v,hv⟩:=nA ((EJ p m (lw ml)).toNat);have aC:AK p m v=lw ml:=by rw[<-hv];exact Md ac hD
 have aD:v<p^m:=by have:=Di hD.2 m;omega
 have hG:=Z5 aE h.p256 hm h.m8 h.q aD (fun e=>by
  subst e;have hl:=h.len;rw[if_pos rfl]at hl;have:ml= []:=List.eq_nil_of_length_eq_zero hl;rw[<-hv,this];simp[EJ,lw])
 unfold FO at hG;rw[Jq,aC]at hG;by_cases e1:m=1
 .constructor
  .intro _;exact .inl e1
  .intro _;rcases hG with hG|⟨d,u,h1,h2,_⟩
   .exact hG
   .omega
 .have hl:=h.len;rw[if_neg e1]at hl;have aA:lf (Im p m v ++ [1])=MJ ml:=by
   funext j;have aF:=congrFun aC j;unfold lf MJ;rw[hl,List.getD_eq_getElem?_getD];by_cases hj:j<m
   .rw[if_pos hj,List.getElem?_append_left (by rw[Dh];exact hj)];have h2:=congrFun (Jq p m v) j;rw[aF]at h2;unfold lf at h2;rw[List.getD_eq_getElem?_getD]at h2;exact h2
   .rw[if_neg hj,List.getElem?_append_right (by rw[Dh];omega),Dh];by_cases hj2:j=m
    .subst hj2;simp
    .rw[if_neg hj2,List.getElem?_eq_none aq];rfl
  rw[aA]at hG;constructor
  .intro hF;right;refine TA fun d u h1 h2=>?_;rw[<-Bool.not_eq_true];intro aB;rcases (TY (fun _ _=>trivial)).1 aB with h3|⟨_,h3⟩
   .refine UU (m:=m) (d:=d+1) (low:=AK p (d+1) u) hp ac ac (DF ac _ _) ?_ hF;intro t;have h4:=h3 t;rw[hl]at h4;rw[<-h4];dsimp only
    congr 1
    rw[ap];rw[IZ (c:=MJ ml) (d:=lw ml) (n:=m) (fun j hj=>by unfold MJ lw;rw[hl,if_pos hj])];rw[show MJ ml m=1 by unfold MJ;rw[hl,if_neg ac,if_pos rfl]];dsimp only;rw[Int.one_mul]
   .omega
  .rintro (e|hir)
   .exact absurd e e1
   .rcases hG with hG|⟨d,u,h1,h2,h3,h4⟩
    .exact hG
    .exfalso;obtain⟨e,rfl⟩:∃e,d=e+1:=⟨d-1,ac⟩;rw[<-hl]at h4 h2;have:=W8 h2 h3 ((TY (fun _ _=>trivial)).2 (.inl h4));rw[this]at hir;cases hir
theorem BU(p m:Int)(ml:List Int):B6 p m ml=0↔FP p m ml:=by
 unfold B6;constructor
 .intro h;split at h
  .rename_i hc;simp only[Bool.and_eq_true,Bool.or_eq_true,decide_eq_true_eq]at hc;obtain⟨h1,h2⟩:=hc;obtain⟨pn,mn,rfl,rfl,hf,aA,_⟩:=N5 h1;refine⟨pn,mn,rfl,rfl,hf,aA,(He hf aA).2 ?_⟩;rcases h2 with h2|h2
   .left;omega
   .right;simpa using h2
  .cases h
 .rintro⟨pn,mn,rfl,rfl,hf,aA,hF⟩;rw[if_pos];simp only[Bool.and_eq_true,Bool.or_eq_true,decide_eq_true_eq];refine⟨(Un hf aA).1,?_⟩;rcases (He hf aA).1 hF with h|h
  .left;omega
  .right;simpa using h
def B9(w:World)(v:Value)(rows:List (List Int)):Prop:=∃vals:List Value,Sl w v rows.length 1 vals/\∀(i:Nat) (r:List Int) (u:Value),rows[i]?=some r->vals[i]?=some u->Aj w u r
theorem B9.ex{w w':World}{v:Value}{rows:List (List Int)}(h:B9 w v rows)(hx:Ex w w'):B9 w' v rows:=by
 obtain⟨vals,h1,h2⟩:=h;exact⟨vals,h1.ex hx,fun i r u a b=>(h2 i r u a b).ex hx⟩
theorem B9.open{w:World}{v:Value}{rows:List (List Int)}(h:B9 w v rows):∃a cap,v= .slice a rows.length cap/\rows.length<=cap/\cap<=maxLen/\
  (0<rows.length->∃b o,a=some ⟨b,o,none⟩/\∀(i:Nat) (r:List Int),rows[i]?=some r->∃u,w.cell? ⟨b,o+i,none⟩=some u/\Aj w u r):=by
 obtain⟨vals,⟨h1,a,cap,h2,h3,h4,h5⟩,h6⟩:=h;refine⟨a,cap,h2,h3,h4,fun hn=>?_⟩;obtain⟨b,o,h7,h8⟩:=h5 hn;refine⟨b,o,h7,fun i r hr=>?_⟩;have hi:=(List.getElem?_eq_some_iff.1 hr).1;have hu:vals[i]?=some vals[i]:=List.getElem?_eq_getElem ac;exact⟨_,h8 i _ hu,h6 i r _ hr hu⟩
def Ce(q:Nat)(l:List Int):Int:=if (l.all fun x=>Gt q x)=true then 0 else 2
section
variable {b p m x0:Nat} {ml:List Int}
theorem ar{P:Prop}(h:P:=by rw[List.getElem?_eq_getElem hj,e]):P:=h
theorem QA(w:World)(hg:Bj w b p m ml x0)(l:List Int)(v:Value)(hl:Aj w v l):
  Calls Tryz.prog 247 #[.pointer (some (b,0)),v] w fun r w'=>r= .returned (.int .i64 (Ce (p^m) l))/\Ex w w':=by
 obtain⟨a,cap,rfl,s1,s2,s3⟩:=hl.open;have S3:=Aa s3;have HG:=Aa hg;have HE:=Aa (show Ce (p^m) l=if (l.all fun x=>Gt (p^m) x)=true then 0 else 2 from rfl);unfold maxLen at s2;clear hl s3 hg;go_enter Tryz.func247,Tryz.ntmps247
 go_wp2_with fail
 go_loopw [6,9] (fun _ i' wr=>∃i:Nat,i<=l.length/\i'= .int .i64 i/\Hia (∀(j:Nat) (x:Int),j<i->l[j]?=some x->Gt (p^m) x=true)/\Ex w wr) (fun _ i' _=>l.length-(intOf i').toNat)
 case atStart=>exact⟨0,ac,rfl,Aa (fun j x h=>ac),Ex.refl _⟩
 case round=>
  obtain⟨i,hi,rfl,aB,hx⟩:=hrel;by_cases hlt:i<l.length
  .obtain⟨x,aA⟩:∃x,l[i]?=some x:=⟨_,List.getElem?_eq_getElem hlt⟩;obtain⟨bb,o,rfl,hc⟩:=S3.o ac;have c1:=hx.cell (hc i x aA);have aC:=Aa (Pd wr (HG.o.ex hx) x);by_cases hb:Gt (p^m) x=true
   .have HA:=Aa (show ∀(j:Nat) (y:Int),j<i+1->l[j]?=some y->Gt (p^m) y=true from fun j y hj hy=>by
     by_cases e:j=i
     .subst e;rw[aA]at hy;injection hy with hy;subst hy;exact hb
     .exact aB.o j y ac hy)
    rw[hb]at aC;clear hc aA hb;go_wp2_with fail
    refine aC.o.mono ?_;rintro e w2⟨rfl,n,rfl⟩;go_wp2_with fail
    go_roundw
    case rel=>exact⟨i+1,ac,by go_num,HA,hx.drewN n⟩
    case measure=>simp[intOf];omega
   .have HF:=Aa (show Ce (p^m) l=2 by
     rw[HE.o,if_neg];intro h;exact hb (List.all_eq_true.1 h x (List.mem_of_getElem? aA)))
    have aD:Gt (p^m) x=false:=by simpa using hb
    rw[aD]at aC;clear hc aA hb aD;go_wp2_with fail
    refine aC.o.mono ?_;rintro e w2⟨rfl,n,rfl⟩;go_wp2_with fail
    go_ret;exact⟨Af HF.o.symm,hx.drewN n⟩
  .obtain rfl:i=l.length:=by omega
   have HF:=Aa (show Ce (p^m) l=0 by
    rw[HE.o,if_pos];rw[List.all_eq_true];intro y hy;obtain⟨j,hj,e⟩:=List.getElem_of_mem hy;exact aB.o j y hj ar)
   go_wp2_with fail
   go_ret;exact⟨Af HF.o.symm,hx⟩
def BV(q:Nat)(aA:Int)(rows:List (List Int)):Int:=
 if aA<0∨256<aA∨256<(rows.length:Int) then 3
 else if (rows.all fun r=>decide ((r.length:Int)=aA))=true then(if (rows.all fun r=>Ce q r==0)=true then 0 else 2) else 3
theorem EU(w:World)(c:Int)(v:Value):(w.alloc (.cells #[c,v] 137)).cell? (w.heap.size,0)=some (.int .i64 c)/\
  (w.alloc (.cells #[c,v] 137)).cell? (w.heap.size,1)=some v/\Ex w (w.alloc (.cells #[c,v] 137)):=
 ⟨ag,ag,(Ex.refl _).alloc _⟩
theorem TW{q:Nat}{l:List Int}:Ce q l=0∨Ce q l=2:=by unfold Ce;split <;> simp
theorem zaS{P:Prop}(h:P:=by
 subst e;rw[hr]at hs;injection hs with hs;subst hs;exact hl):P:=h
theorem dv{P:Prop}(h:P:=by simpa using this):P:=h
theorem RS(w:World)(hg:Bj w b p m ml x0)(cols:Int)(rows:List (List Int))(v:Value)(hv:B9 w v rows):
  Calls Tryz.prog 201 #[.pointer (some (b,0)),.agg #[cols,v]] w fun r w'=>r= .returned (.int .i64 (BV (p^m) cols rows))/\Ex w w':=by
 obtain⟨d0,d1,e0⟩:=EU w cols v;have HE:=Aa (show BV (p^m) cols rows=if cols<0∨256<cols∨256<(rows.length:Int) then 3
 else if (rows.all fun r=>decide ((r.length:Int)=cols))=true then(if (rows.all fun r=>Ce (p^m) r==0)=true then 0 else 2) else 3 from rfl)
 have aD:=hv.ex e0;have HG:=Aa (hg.ex e0);obtain⟨a,cap,rfl,s1,s2,s3⟩:=aD.open;have S3:=Aa s3;unfold maxLen at s2;clear hv aD s3 hg;by_cases h:cols<0∨256<cols∨256<(rows.length:Int)
 .have HR:=Aa (show BV (p^m) cols rows=3 by rw[HE.o,if_pos h]);have hc:cols<0∨(0<=cols/\256<cols)∨(0<=cols/\cols<=256/\256<(rows.length:Int)):=by omega
  clear h HE;rcases hc with hc|⟨h1,h2⟩|⟨h1,h2,h3⟩
  all_goals
   go_enter Tryz.func201,Tryz.ntmps201
   go_wp2_with fail
   go_ret;exact⟨Af HR.o.symm,e0⟩
 .have h1:0<=cols:=by omega
  have h2:cols<=256:=ac;have h3:(rows.length:Int)<=256:=ac;have aG:=Aa (show BV (p^m) cols rows=if (rows.all fun r=>decide ((r.length:Int)=cols))=true then(if (rows.all fun r=>Ce (p^m) r==0)=true then 0 else 2) else 3 by rw[HE.o,if_neg h]);clear h HE;go_enter Tryz.func201,Tryz.ntmps201
  go_wp2_with fail
  generalize w.alloc (.cells #[cols,.slice a rows.length cap] 137)=w1 at *
  go_loopw [6,27] (fun _ i' wr=>∃i:Nat,i<=rows.length/\i'= .int .i64 i/\Hia (∀(j:Nat) (r:List Int),j<i->rows[j]?=some r->(r.length:Int)=cols)/\Ex w1 wr) (fun _ i' _=>rows.length-(intOf i').toNat)
  case atStart=>exact⟨0,ac,rfl,Aa (fun j x h=>ac),Ex.refl _⟩
  case round=>
   obtain⟨i,hi,rfl,aA,hx⟩:=hrel;have r0:=hx.cell d0;have r1:=hx.cell d1;by_cases hlt:i<rows.length
   .obtain⟨r,hr⟩:∃r,rows[i]?=some r:=⟨_,List.getElem?_eq_getElem hlt⟩;obtain⟨bb,o,rfl,hc⟩:=S3.o ac;obtain⟨u,c1,hu⟩:=hc i r hr;obtain⟨ua,uc,rfl,u1,u2,u3⟩:=hu.open;have c2:=hx.cell c1;unfold maxLen at u2;by_cases hl:(r.length:Int)=cols
    .have hb:((r.length:Int) !=cols)=false:=by simpa using hl
     have HA:=Aa (show ∀(j:Nat) (s:List Int),j<i+1->rows[j]?=some s->(s.length:Int)=cols from fun j s hj hs=>by
      by_cases e:j=i
      .exact zaS
      .exact aA.o j s ac hs)
     clear hl hc c1 hu u3 hr;go_wp2_with fail
     go_roundw
     case rel=>exact⟨i+1,ac,by go_num,HA,hx⟩
     case measure=>simp[intOf];omega
    .have hb:((r.length:Int) !=cols)=true:=by simpa using hl
     have HF:=Aa (show BV (p^m) cols rows=3 by
      rw[aG.o,if_neg];intro h;have:=List.all_eq_true.1 h r (List.mem_of_getElem? hr);exact hl dv)
     clear hl hc c1 hu u3 hr;exact zcZ
   .obtain rfl:i=rows.length:=by omega
    have aF:=Aa (show BV (p^m) cols rows=if (rows.all fun r=>Ce (p^m) r==0)=true then 0 else 2 by
     rw[aG.o,if_pos];rw[List.all_eq_true];intro r hr;obtain⟨j,hj,e⟩:=List.getElem_of_mem hr;exact decide_eq_true (aA.o j r hj ar))
    clear aA;go_wp2_with fail
    obtain⟨wo,rfl⟩:∃wo:World,wo=wr:=⟨_,rfl⟩;clear r0 r1
    go_loopw [8,9,40] (fun _ _ i' wr=>∃i:Nat,i<=rows.length/\i'= .int .i64 i/\Hia (∀(j:Nat) (r:List Int),j<i->rows[j]?=some r->Ce (p^m) r=0)/\Ex w1 wr) (fun _ _ i' _=>rows.length-(intOf i').toNat)
    case atStart=>exact⟨0,ac,rfl,Aa (fun j x h=>ac),hx⟩
    case round=>
     clear hx;obtain⟨i,hi,rfl,aA,hx⟩:=hrel;have r0:=hx.cell d0;have r1:=hx.cell d1;by_cases hlt:i<rows.length
     .obtain⟨r,hr⟩:∃r,rows[i]?=some r:=⟨_,List.getElem?_eq_getElem hlt⟩;obtain⟨bb,o,rfl,hc⟩:=S3.o ac;obtain⟨u,c1,hu⟩:=hc i r hr;obtain⟨ua,uc,rfl,u1,u2,u3⟩:=hu.open;have c2:=hx.cell c1;unfold maxLen at u2;have aB:=Aa (QA wr (HG.o.ex hx) r _ (hu.ex hx));by_cases hl:Ce (p^m) r=0
      .have HA:=Aa (show ∀(j:Nat) (s:List Int),j<i+1->rows[j]?=some s->Ce (p^m) s=0 from fun j s hj hs=>by
        by_cases e:j=i
        .exact zaS
        .exact aA.o j s ac hs)
       rw[hl]at aB;clear hl hc c1 hu u3 hr;go_wp2_with fail
       refine aB.o.mono ?_;rintro e w3⟨rfl,aC⟩;go_wp2_with fail
       go_roundw
       case rel=>exact⟨i+1,ac,by go_num,HA,hx.trans aC⟩
       case measure=>simp[intOf];omega
      .have aE:Ce (p^m) r=2:=by rcases TW (q:=p^m) (l:=r) with e|e;exact absurd e hl;exact e
       have HF:=Aa (show BV (p^m) cols rows=2 by
        rw[aF.o,if_neg];intro h;have:=List.all_eq_true.1 h r (List.mem_of_getElem? hr);exact hl dv)
       rw[aE]at aB;clear hl aE hc c1 hu u3 hr;go_wp2_with fail
       refine aB.o.mono ?_;rintro e w3⟨rfl,aC⟩;go_wp2_with fail
       go_ret;exact⟨Af HF.o.symm,e0.trans (hx.trans aC)⟩
     .obtain rfl:i=rows.length:=by omega
      have HF:=Aa (show BV (p^m) cols rows=0 by
       rw[aF.o,if_pos];rw[List.all_eq_true];intro r hr;obtain⟨j,hj,e⟩:=List.getElem_of_mem hr;rw[aA.o j r hj ar];rfl)
      exact zcZ
end
def OpenOut(p m:Int)(ml:List Int)(aA:Int)(rows:List (List Int))(w':World)(r:Ending):Prop:=
 (∃(pn mn x b:Nat),p=pn/\m=mn/\Bj w' b pn mn ml x/\1<=x/\x<pn^mn/\
  ((BV (pn^mn) aA rows=0/\r= .returned (.tuple #[.pointer (some (b,0)),(0:Int)]))∨
  (BV (pn^mn) aA rows≠0/\r= .returned (.tuple #[.pointer none,.int .i64 (BV (pn^mn) aA rows)]))))∨
 (¬FP p m ml/\r= .returned (.tuple #[.pointer none,(1:Int)]))
theorem US(p m:Int)(ml:List Int)(mv:Value)(w:World)(aG:Aj w mv ml)(aA:Int)(rows:List (List Int))(v:Value)(hv:B9 w v rows)(B:Nat)
  (c0:w.cell? (B,0)=some (.int .i64 aA)) (c1:w.cell? (B,1)=some v):
  Calls Tryz.prog 156 #[.agg #[p,m,mv],.slice (some (B,0)) 1 1] w fun r w'=>OpenOut p m ml aA rows w' r/\Ex w w':=by
 obtain⟨d0,d1,d2,e0,_⟩:=AD w p m mv;obtain⟨va,aC,rfl,v1,v2,v3⟩:=hv.open;clear v1 v2 v3;obtain⟨HN,aI,HV,C0,C1⟩:=Of (fun w' h=>Gf p m ml mv w' h) aG hv c0 c1;clear aG hv c0 c1;go_enter Tryz.func156,Tryz.ntmps156
 go_wp2_with fail
 generalize w.alloc (.cells #[p,m,mv] 24)=w1 at *;refine(HN.o _ (aI.o.ex e0)).mono ?_;rintro e w2⟨ho,aE⟩;rcases ho with⟨pn,mn,x,b,rfl,rfl,rfl,hg,x1,x2⟩|⟨hno,rfl⟩
 .have c0:=(e0.trans aE).cell C0.o;have c1:=(e0.trans aE).cell C1.o;have HG:=Aa hg;have e2:=e0.trans aE;clear hg d0 d1 d2 aE;go_wp2_with fail
  refine wp_loop_rounds 2 ?_;rw[rounds_succ];go_wp2_with fail
  have aJ:=Aa (fun w' (h:Ex w w') (h':Bj w' b pn mn ml x)=>RS w' h' aA rows _ (HV.o.ex h));have HB:=Aa (EU w2 aA (.slice va rows.length aC));have aB:Ex w2 (w2.alloc (.cells #[aA,.slice va rows.length aC] 137)):=(Ex.refl _).alloc _;generalize w2.alloc (.cells #[aA,.slice va rows.length aC] 137)=w4 at *;refine(aJ.o w4 (e2.trans aB) (HG.o.ex aB)).mono ?_;rintro e w5⟨rfl,aD⟩;have c0':=aD.cell (aB.cell c0);have c1':=aD.cell (aB.cell c1);by_cases h0:BV (pn^mn) aA rows=0
  .have HH:=Aa h0;rw[h0];clear h0;go_wp2_with fail
   rw[rounds_succ];go_wp2_with fail
   go_ret2;exact⟨.inl ⟨pn,mn,x,b,rfl,rfl,HG.o.ex (aB.trans aD),x1,x2,.inl ⟨HH.o,rfl⟩⟩,(e2.trans aB).trans aD⟩
  .obtain⟨mk,aF⟩:=nA (BV (pn^mn) aA rows);rw[aF]at h0 ⊢;have HK:=Aa aF;have hb:(mk !=0)=true:=by simpa using h0
   have HH:=Aa h0;clear h0 aF;go_wp2_with fail
   go_ret2;exact⟨.inl ⟨pn,mn,x,b,rfl,rfl,HG.o.ex (aB.trans aD),x1,x2,.inr ⟨by rw[HK.o];exact HH.o,by rw[HK.o];rfl⟩⟩,(e2.trans aB).trans aD⟩
 .have aH:=Aa hno;clear hno;go_wp2_with fail
  go_ret2;exact⟨.inr ⟨aH.o,rfl⟩,e0.trans aE⟩
def Mv(p m:Int)(ml:List Int)(aA:Int)(rows:List (List Int))(e:Int):Prop:=
 (∃pn mn:Nat,p=pn/\m=mn/\FP p m ml/\e=BV (pn^mn) aA rows)∨(¬FP p m ml/\e=1)
theorem Bj.fldB{w:World}{b p m x:Nat}{ml:List Int}(h:Bj w b p m ml x)(h1:1<=x)(h2:x<p^m):FP p m ml:=⟨p,m,rfl,rfl,h.sh,h.pr,x,h1,h2,h.gen⟩
section
variable {p m:Nat} {ml:List Int} {mv:Value}
theorem ZN(hf:Hh p m ml)(x:Int):isI p m x=Gt (p^m) x:=by unfold isI Gt;rw[hf.ord]
theorem Iz(w:World)(hf:Hh p m ml)(l:List Int)(v:Value)(hl:Aj w v l):
  Calls Tryz.prog 153 #[.agg #[p,m,mv],v] w fun r w'=>r= .returned (.int .i64 (Ce (p^m) l))/\Ex w w':=by
 obtain⟨d0,d1,d2,e0,_⟩:=AD w p m mv;obtain⟨a,cap,rfl,s1,s2,s3⟩:=(hl.ex e0).open;have S3:=Aa s3;have aH:=Aa (fun w' x=>by have:=S9 p m x mv w';rw[ZN hf]at this;exact this);have HE:=Aa (show Ce (p^m) l=if (l.all fun x=>Gt (p^m) x)=true then 0 else 2 from rfl);unfold maxLen at s2;clear hl s3 hf;go_enter Tryz.func153,Tryz.ntmps153
 go_wp2_with fail
 obtain⟨xb,aC⟩:=nA w.heap.size;rw[aC]at d0 d1 d2
 try simp only[aC]
 generalize w.alloc (.cells #[p,m,mv] 24)=w1 at *;clear aC
 go_loopw [5] (fun i' wr=>∃i:Nat,i<=l.length/\i'= .int .i64 i/\Hia (∀(j:Nat) (x:Int),j<i->l[j]?=some x->Gt (p^m) x=true)/\Ex w1 wr) (fun i' _=>l.length-(intOf i').toNat)
 case atStart=>exact⟨0,ac,rfl,Aa (fun j x h=>ac),Ex.refl _⟩
 case round=>
  obtain⟨i,hi,rfl,aA,hx⟩:=hrel;by_cases hlt:i<l.length
  .obtain⟨x,aB⟩:∃x,l[i]?=some x:=⟨_,List.getElem?_eq_getElem hlt⟩;obtain⟨bb,o,rfl,hc⟩:=S3.o ac;have c1:=hx.cell (hc i x aB);have r0:=hx.cell d0;have r1:=hx.cell d1;have r2:=hx.cell d2;have aF:=Aa (fun w'=>aH.o w' x);have aE:=Aa aB;obtain⟨bo,aD⟩:=nA (Gt (p^m) x);rw[aD]at aF;have aG:=Aa aD;clear hc aB aD;go_wp2_with fail
   go_region_held3 (fun w'=>w'.cell? (xb,0)=some (.int .i64 p)/\w'.cell? (xb,1)=some (.int .i64 m)/\w'.cell? (xb,2)=some mv/\w'.cell? (bb,o+i)=some (.int .i64 x)/\Ex w1 w')
    (first|exact⟨r0,r1,r2,c1,hx.drew⟩|exact⟨hx1.cell r0,hx1.cell r1,hx1.cell r2,hx1.cell c1,hx.drew.trans hx1⟩)
    ((go_at_call 200;refine(aF.o _).mono ?_;rintro e w2⟨rfl,hx1⟩))
   have hE:=(‹_/\_/\_/\_/\Ex w1 _›).2.2.2.2
   cases bo with
   | true=>
    have HA:=Aa (show ∀(j:Nat) (y:Int),j<i+1->l[j]?=some y->Gt (p^m) y=true from fun j y hj hy=>by
     by_cases e:j=i
     .subst e;rw[aE.o]at hy;injection hy with hy;subst hy;exact aG.o
     .exact aA.o j y ac hy)
    go_wp2_with fail
    go_roundw
    case rel=>exact⟨i+1,ac,by go_num,HA,hE⟩
    case measure=>simp[intOf];omega
   | false=>
    have HF:=Aa (show Ce (p^m) l=2 by
     rw[HE.o,if_neg];intro h;have:=List.all_eq_true.1 h x (List.mem_of_getElem? aE.o);rw[aG.o]at this;cases this)
    go_wp2_with fail
    go_ret;exact⟨Af HF.o.symm,e0.trans hE⟩
  .obtain rfl:i=l.length:=by omega
   have HF:=Aa (show Ce (p^m) l=0 by
    rw[HE.o,if_pos];rw[List.all_eq_true];intro y hy;obtain⟨j,hj,e⟩:=List.getElem_of_mem hy;exact aA.o j y hj ar)
   exact zcZ
end
theorem WX{p m:Nat}(hp:1<=p){a b:Nat}(hb:b<p^m)(h:AH p m a b=0):b=CI p m a:=by
 have h1:AH p m (CI p m a) (AH p m a b)=b:=by
  rw[<-BI hp,DU (CI p m a),CR hp,DO hp hb]
 rw[h,Cg hp (Dg hp a)]at h1;exact h1.symm
theorem U6{p m:Nat}{low:Vc}(hp:1<=p)(x y:Nat):Al p m low (CI p m x) y=CI p m (Al p m low x y):=by
 refine WX hp (Bc hp _ _) ?_;rw[<-Js hp,CR hp,BY hp]
theorem Be{p m:Nat}{low:Vc}(hp:1<=p)(x:Nat):Al p m low x 0=0:=by rw[A5,BY hp]
theorem GM{q:Nat}{x:Int}(h0:0<=x)(h:x<q):((Av q x:Nat):Int)=x:=by unfold Av;rw[if_pos ⟨h0,h⟩];omega
theorem CM(q:Nat):Av q 0=0:=by unfold Av;split <;> rfl
theorem L9{q:Nat}{r:List Int}(h:Ce q r=0):∀x∈r,0<=x/\x<q:=fun x hx=>by
 unfold Ce at h;split at h
 .rename_i h1;have:=List.all_eq_true.1 h1 x hx;unfold Gt at this;exact of_decide_eq_true this
 .cases h
theorem TV{q:Nat}{r:List Int}(h:∀x∈r,0<=x/\x<q):Ce q r=0:=by
 unfold Ce;rw[if_pos];rw[List.all_eq_true];intro x hx;unfold Gt;exact decide_eq_true (h x hx)
theorem LB{p m:Nat}{ml:List Int}(hp:2<=p)(hm:1<=m)(hF:Hr p m (lw ml)){z:Nat}(h1:1<=z)(h2:z<p^m):Al p m (lw ml) z (Ef p m ml z)=1:=by
 obtain⟨y,y1,y2,y3⟩:=hF.inv hp hm h1 h2;rw[OA hp hm hF h2 h1 y2 y3,y3]
section
variable {p m:Nat} {ml:List Int} {N:Nat}
theorem AJ(N:Nat)(x:Nat->Int):(il N x).length=N:=by unfold il;simp
theorem zcS{P:Prop}(h:P:=by
 rw[List.getD_eq_getElem?_getD,List.getElem?_eq_getElem (by omega)];rfl):P:=h
theorem TZ(hp:2<=p){r:List Int}(hr:r.length=N){x y:Nat->Int}{i:Nat}(hx:x i=0)(h:∀j,j<N->j≠i->r.getD j 0≠0->y j=x j):∀n,n<=N->
  Cd p m ml (r.take n) ((il N y).take n) 0=if i<n then AH p m (Cd p m ml (r.take n) ((il N x).take n) 0) (Al p m (lw ml) (Av (p^m) (r.getD i 0)) (Av (p^m) (y i))) else Cd p m ml (r.take n) ((il N x).take n) 0
 | 0,_=>by simp[Cd]
 | n+1,hn=>by
  have ih:=TZ hp hr hx h n ac;have hq:1<=p^m:=Nat.pow_pos ac;have aA:r[n]?=some (r.getD n 0):=by
   exact zcS
  rw[G8 r (il N y) n 0 _ _ aA (AQ (show n<N by omega) _),G8 r (il N x) n 0 _ _ aA (AQ (show n<N by omega) _),ih];by_cases e:n=i
  .subst e;rw[if_neg ac,if_pos ac,hx,CM,Be ac,Cg ac (Kl ac _ _ _ ac)]
  .have he:Al p m (lw ml) (Av (p^m) (r.getD n 0)) (Av (p^m) (y n))=Al p m (lw ml) (Av (p^m) (r.getD n 0)) (Av (p^m) (x n)):=by
    by_cases h0:r.getD n 0=0
    .rw[h0,CM,BY ac,BY ac]
    .rw[h n ac e h0]
   rw[he];by_cases hi:i<n
   .rw[if_pos hi,if_pos ac,BI ac,BI ac]
    congr 1
    exact DU _ _
   .rw[if_neg hi,if_neg ac]
theorem QH{r:List Int}(hr:r.length=N)(x:Nat->Int):Cd p m ml (r.take N) ((il N x).take N) 0=Cd p m ml r (il N x) 0:=Jt _ _ _ _ (by rw[hr];omega)
theorem Mb(hp:2<=p){r:List Int}(hr:r.length=N){x y:Nat->Int}{i:Nat}(hi:i<N)(hx:x i=0)(h:∀j,j<N->j≠i->r.getD j 0≠0->y j=x j):
  Cd p m ml r (il N y) 0=AH p m (Cd p m ml r (il N x) 0) (Al p m (lw ml) (Av (p^m) (r.getD i 0)) (Av (p^m) (y i))):=by
 have:=TZ (ml:=ml) (m:=m) hp hr hx h N (Nat.le_refl _);rw[if_pos hi,QH hr,QH hr]at this;exact this
end
section
variable {p m:Nat} {ml:List Int} {N R:Nat}
def dt(p m:Nat)(ml:List Int)(N:Nat)(f x:Nat->Int):Nat:=Cd p m ml (il N f) (il N x) 0
def Sk(p m:Nat)(ml:List Int)(N:Nat)(f x:Nat->Int)(n:Nat):Nat:=Cd p m ml ((il N f).take n) ((il N x).take n) 0
theorem DC(f x:Nat->Int):Sk p m ml N f x 0=0:=by unfold Sk;simp[Cd]
theorem DE(f x:Nat->Int){n:Nat}(hn:n<N):Sk p m ml N f x (n+1)=AH p m (Sk p m ml N f x n) (Al p m (lw ml) (Av (p^m) (f n)) (Av (p^m) (x n))):=
 G8 _ _ n 0 _ _ (AQ hn f) (AQ hn x)
theorem EF(f x:Nat->Int):Sk p m ml N f x N=dt p m ml N f x:=Jt _ _ _ _ (by rw[AJ,AJ];omega)
theorem dtK_lt(hp:2<=p)(f x:Nat->Int)(n:Nat):Sk p m ml N f x n<p^m:=Kl ac _ _ _ (Nat.pow_pos ac)
theorem QG(hp:2<=p)(f x:Nat->Int):dt p m ml N f x<p^m:=Kl ac _ _ _ (Nat.pow_pos ac)
theorem Nu:∀(l k:List Int) (s:Nat),Cd p m ml l k s=Cd p m ml k l s
 | x :: l,y :: k,s=>by unfold Cd;rw[A5,Nu l k]
 | [], [],s=>rfl
 | [],y :: k,s=>by unfold Cd;rfl
 | x :: l, [],s=>by unfold Cd;rfl
theorem Kt(f x:Nat->Int):dt p m ml N f x=dt p m ml N x f:=Nu _ _ _
theorem GU{f f' x x':Nat->Int}(hf:∀j,j<N->f j=f' j)(hx:∀j,j<N->x j=x' j):dt p m ml N f x=dt p m ml N f' x':=by
 have aA:∀n,n<=N->Sk p m ml N f x n=Sk p m ml N f' x' n:=fun n=>by
  induction n with
  | zero=>intro _;rw[DC,DC]
  | succ n ih=>intro hn;rw[DE _ _ ac,DE _ _ ac,ih ac,hf n ac,hx n ac]
 rw[<-EF,<-EF,aA N (Nat.le_refl _)]
theorem Hf(hp:2<=p){f x:Nat->Int}(hf:∀j,j<N->f j=0):dt p m ml N f x=0:=by
 have aA:∀n,n<=N->Sk p m ml N f x n=0:=fun n=>by
  induction n with
  | zero=>intro _;rw[DC]
  | succ n ih=>intro hn;rw[DE _ _ ac,ih ac,hf n ac,CM,BY ac,Cg ac (Nat.pow_pos ac)]
 rw[<-EF,aA N (Nat.le_refl _)]
def BT(p m:Nat)(ml:List Int)(c:Nat)(f:Nat->Int)(j:Nat):Int:=((Al p m (lw ml) c (Av (p^m) (f j)):Nat):Int)
def Cn(p m:Nat)(ml:List Int)(v:Nat->Int)(c:Nat)(u:Nat->Int)(j:Nat):Int:=
 if u j=0 then v j else((AH p m (Av (p^m) (v j)) (Al p m (lw ml) c (Av (p^m) (u j))):Nat):Int)
theorem JV{low:Vc}(hp:1<=p)(a x y:Nat):Al p m low a (AH p m x y)=AH p m (Al p m low a x) (Al p m low a y):=by
 rw[A5,Js hp,A5 x,A5 y]
theorem XP(hp:2<=p)(c:Nat)(f x:Nat->Int):dt p m ml N (BT p m ml c f) x=Al p m (lw ml) c (dt p m ml N f x):=by
 have aA:∀n,n<=N->Sk p m ml N (BT p m ml c f) x n=Al p m (lw ml) c (Sk p m ml N f x n):=fun n=>by
  induction n with
  | zero=>intro _;rw[DC,DC,Be ac]
  | succ n ih=>
   intro hn;rw[DE _ _ ac,DE _ _ ac,ih ac,JV ac]
   congr 1
   unfold BT;rw[AA (Bc ac _ _),Bp ac]
 rw[<-EF,<-EF,aA N (Nat.le_refl _)]
theorem kadd4(hp:1<=p)(a b c d:Nat):AH p m (AH p m a b) (AH p m c d)=AH p m (AH p m a c) (AH p m b d):=by
 rw[BI hp,BI hp]
 congr 1
 rw[<-BI hp,<-BI hp,DU b c]
theorem Sj(hp:2<=p)(v:Nat->Int)(c:Nat)(u x:Nat->Int):dt p m ml N (Cn p m ml v c u) x=AH p m (dt p m ml N v x) (Al p m (lw ml) c (dt p m ml N u x)):=by
 have hq:1<=p^m:=Nat.pow_pos ac;have aA:∀n,n<=N->Sk p m ml N (Cn p m ml v c u) x n=AH p m (Sk p m ml N v x n) (Al p m (lw ml) c (Sk p m ml N u x n)):=fun n=>by
  induction n with
  | zero=>intro _;rw[DC,DC,DC,Be ac,Cg ac ac]
  | succ n ih=>
   intro hn;rw[DE _ _ ac,DE _ _ ac,DE _ _ ac,ih ac,JV ac,kadd4 ac]
   congr 1
   unfold Cn;by_cases h0:u n=0
   .rw[if_pos h0,h0,CM,BY ac,Be ac,Cg ac (Bc ac _ _)]
   .rw[if_neg h0,AA (G9 ac _ _),Js ac,Bp ac]
 rw[<-EF,<-EF,<-EF,aA N (Nat.le_refl _)]
def Cb(p m:Nat)(ml:List Int)(N R:Nat)(a:Nat->Nat->Int)(x:Nat->Int):Prop:=∀i,i<R->dt p m ml N (a i) x=0
def DK(a:Nat->Nat->Int)(s k:Nat):Nat->Nat->Int:=fun i=>if i=s then a k else if i=k then a s else a i
variable {a:Nat->Nat->Int} {x:Nat->Int}
theorem Cb.swp{s k:Nat}(hs:s<R)(hk:k<R):Cb p m ml N R (DK a s k) x↔Cb p m ml N R a x:=by
 unfold Cb DK;constructor
 .intro h i hi;by_cases e:i=s
  .subst e;by_cases e2:k=i
   .subst e2;have:=h k hk;rwa[if_pos rfl]at this
   .have:=h k hk;rwa[if_neg e2,if_pos rfl]at this
  .by_cases e2:i=k
   .subst e2;have:=h s hs;rwa[if_pos rfl]at this
   .have:=h i hi;rwa[if_neg e,if_neg e2]at this
 .intro h i hi;by_cases e:i=s
  .rw[if_pos e];exact h k hk
  .rw[if_neg e];by_cases e2:i=k
   .rw[if_pos e2];exact h s hs
   .rw[if_neg e2];exact h i hi
theorem Cb.scl(hp:2<=p)(hm:1<=m)(hF:Hr p m (lw ml)){s c:Nat}(hs:s<R)(h1:1<=c)(h2:c<p^m):Cb p m ml N R (Ay a s (BT p m ml c (a s))) x↔Cb p m ml N R a x:=by
 unfold Cb;have aA:dt p m ml N (BT p m ml c (a s)) x=0↔dt p m ml N (a s) x=0:=by
  rw[XP hp];constructor
  .intro h;by_cases e:dt p m ml N (a s) x=0
   .exact e
   .have:=hF.ne_zero hp hm h1 h2 (show 1<=dt p m ml N (a s) x by omega) (QG hp _ _);omega
  .intro h;rw[h,Be ac]
 constructor
 .intro h i hi;have:=h i hi;by_cases e:i=s
  .subst e;rw[Ab]at this;exact aA.1 this
  .rwa[Ae _ _ e]at this
 .intro h i hi;by_cases e:i=s
  .subst e;rw[Ab];exact aA.2 (h i hi)
  .rw[Ae _ _ e];exact h i hi
theorem Cb.add(hp:2<=p){s i c:Nat}(hs:s<R)(hi:i<R)(aB:i≠s):Cb p m ml N R (Ay a i (Cn p m ml (a i) c (a s))) x↔Cb p m ml N R a x:=by
 unfold Cb;constructor
 .intro h k hk;have aA:=h s hs;rw[Ae _ _ (fun e=>aB e.symm)]at aA;have:=h k hk;by_cases e:k=i
  .subst e;rw[Ab,Sj hp,aA,Be ac,Cg ac (QG hp _ _)]at this;exact this
  .rwa[Ae _ _ e]at this
 .intro h k hk;by_cases e:k=i
  .subst e;rw[Ab,Sj hp,h k hk,h s hs,Be ac,Cg ac (Nat.pow_pos ac)]
  .rw[Ae _ _ e];exact h k hk
def Q4(p m R N:Nat)(a:Nat->Nat->Int):Prop:=∀i,i<R->∀j,j<N->0<=a i j/\a i j<((p^m:Nat):Int)
theorem Q4.swp{s k:Nat}(hs:s<R)(hk:k<R)(h:Q4 p m R N a):Q4 p m R N (DK a s k):=fun i hi j hj=>by
 unfold DK;by_cases e:i=s
 .rw[if_pos e];exact h k hk j hj
 .rw[if_neg e];by_cases e2:i=k
  .rw[if_pos e2];exact h s hs j hj
  .rw[if_neg e2];exact h i hi j hj
theorem Q4.scl(hp:1<=p){s c:Nat}(h:Q4 p m R N a):Q4 p m R N (Ay a s (BT p m ml c (a s))):=fun i hi j hj=>by
 by_cases e:i=s
 .subst e;rw[Ab];unfold BT;have:=Bc (p:=p) (m:=m) (low:=lw ml) hp c (Av (p^m) (a i j));omega
 .rw[Ae _ _ e];exact h i hi j hj
theorem Q4.add(hp:1<=p){s i c:Nat}(h:Q4 p m R N a):Q4 p m R N (Ay a i (Cn p m ml (a i) c (a s))):=fun k hk j hj=>by
 by_cases e:k=i
 .subst e;rw[Ab];unfold Cn;split
  .exact h k hk j hj
  .have:=G9 (p:=p) (m:=m) hp (Av (p^m) (a k j)) (Al p m (lw ml) c (Av (p^m) (a s j)));omega
 .rw[Ae _ _ e];exact h k hk j hj
structure PV(p m R N:Nat)(a:Nat->Nat->Int)(piv:List Nat)(c:Nat):Prop where
 le:piv.length<=R
 rng:Q4 p m R N a
 lt:∀(j q:Nat),piv[j]?=some q->q<c
 one:∀(j q:Nat),piv[j]?=some q->a j q=1
 zer:∀(j q i:Nat),piv[j]?=some q->i<R->i≠j->a i q=0
 tail:∀(i j:Nat),piv.length<=i->i<R->j<c->a i j=0
 lead:∀(j q k:Nat),piv[j]?=some q->k<q->a j k=0
 asc:∀(i j q r:Nat),i<j->piv[i]?=some q->piv[j]?=some r->q<r
variable {piv:List Nat} {c:Nat}
theorem PV.init(h:Q4 p m R N a):PV p m R N a [] 0:=⟨ag,h,fun j q h=>by simp at h,fun j q h=>by simp at h,fun j q i h=>by simp at h,fun i j _ _ h=>ac,fun j q k h=>by simp at h,fun i j q r _ h=>by simp at h⟩
theorem PV.none(h:PV p m R N a piv c)(hz:∀k,piv.length<=k->k<R->a k c=0):PV p m R N a piv (c+1):=
 ⟨h.le,h.rng,fun j q hj=>by have:=h.lt j q hj;omega,h.one,h.zer,fun i j h1 h2 h3=>by
  by_cases e:j=c
  .rw[e];exact hz i h1 h2
  .exact h.tail i j h1 h2 ac,h.lead,h.asc⟩
theorem PV.swp(h:PV p m R N a piv c){k:Nat}(aC:piv.length<=k)(hk:k<R):PV p m R N (DK a piv.length k) piv c:=by
 refine⟨h.le,h.rng.swp ac hk,h.lt,fun j q hj=>?_,fun j q i hj hi aB=>?_,fun i j h1 h2 h3=>?_,fun j q t hj ht=>?_,h.asc⟩
 .have aA:=(List.getElem?_eq_some_iff.1 hj).1;unfold DK;rw[if_neg ac,if_neg ac];exact h.one j q hj
 .have aA:=(List.getElem?_eq_some_iff.1 hj).1;unfold DK;by_cases e:i=piv.length
  .rw[if_pos e];exact h.zer j q k hj hk ac
  .rw[if_neg e];by_cases e2:i=k
   .rw[if_pos e2];exact h.zer j q _ hj ac ac
   .rw[if_neg e2];exact h.zer j q i hj hi aB
 .unfold DK;by_cases e:i=piv.length
  .rw[if_pos e];exact h.tail k j aC hk h3
  .rw[if_neg e];by_cases e2:i=k
   .rw[if_pos e2];exact h.tail _ j (Nat.le_refl _) ac h3
   .rw[if_neg e2];exact h.tail i j h1 h2 h3
 .have aA:=(List.getElem?_eq_some_iff.1 hj).1;unfold DK;rw[if_neg ac,if_neg ac];exact h.lead j q t hj ht
theorem PV.scl(hp:1<=p)(h:PV p m R N a piv c)(hs:piv.length<R){k:Nat}:PV p m R N (Ay a piv.length (BT p m ml k (a piv.length))) piv c:=by
 have hz:∀j,a piv.length j=0->BT p m ml k (a piv.length) j=0:=fun j hj=>by
  unfold BT;rw[hj,CM,Be hp];rfl
 refine⟨h.le,h.rng.scl hp,h.lt,fun j q hj=>?_,fun j q i hj hi aA=>?_,fun i j h1 h2 h3=>?_,fun j q t hj ht=>?_,h.asc⟩
 .have aB:=(List.getElem?_eq_some_iff.1 hj).1;rw[Ae _ _ ac];exact h.one j q hj
 .have aB:=(List.getElem?_eq_some_iff.1 hj).1;by_cases e:i=piv.length
  .subst e;rw[Ab];exact hz q (h.zer j q _ hj hi aA)
  .rw[Ae _ _ e];exact h.zer j q i hj hi aA
 .by_cases e:i=piv.length
  .subst e;rw[Ab];exact hz j (h.tail _ j (Nat.le_refl _) h2 h3)
  .rw[Ae _ _ e];exact h.tail i j h1 h2 h3
 .have aB:=(List.getElem?_eq_some_iff.1 hj).1;rw[Ae _ _ ac];exact h.lead j q t hj ht
theorem PV.add(hp:1<=p)(h:PV p m R N a piv c)(hs:piv.length<R){i k:Nat}(hi:i<R)(hne:i≠piv.length):PV p m R N (Ay a i (Cn p m ml (a i) k (a piv.length))) piv c:=by
 have hz:∀j,a piv.length j=0->Cn p m ml (a i) k (a piv.length) j=a i j:=fun j hj=>by
  unfold Cn;rw[if_pos hj]
 refine⟨h.le,h.rng.add hp,h.lt,fun j q hj=>?_,fun j q r hj hr aA=>?_,fun r j h1 h2 h3=>?_,fun j q t hj ht=>?_,h.asc⟩
 .have aB:=(List.getElem?_eq_some_iff.1 hj).1;by_cases e:j=i
  .subst e;rw[Ab,hz q (h.zer j q _ hj hs ac)];exact h.one j q hj
  .rw[Ae _ _ e];exact h.one j q hj
 .have aB:=(List.getElem?_eq_some_iff.1 hj).1;by_cases e:r=i
  .subst e;rw[Ab,hz q (h.zer j q _ hj hs ac)];exact h.zer j q r hj hr aA
  .rw[Ae _ _ e];exact h.zer j q r hj hr aA
 .by_cases e:r=i
  .subst e;rw[Ab,hz j (h.tail _ j (Nat.le_refl _) hs h3)];exact h.tail r j h1 h2 h3
  .rw[Ae _ _ e];exact h.tail r j h1 h2 h3
 .by_cases e:j=i
  .subst e;rw[Ab,hz t (h.tail _ t (Nat.le_refl _) hs (by have:=h.lt j q hj;omega))];exact h.lead j q t hj ht
  .rw[Ae _ _ e];exact h.lead j q t hj ht
theorem PV.done(h:PV p m R N a piv c)(hs:piv.length<R)(h1:a piv.length c=1)(hz:∀i,i<R->i≠piv.length->a i c=0):PV p m R N a (piv ++ [c]) (c+1):=by
 have aA:∀(j q:Nat),(piv ++ [c])[j]?=some q->piv[j]?=some q∨(j=piv.length/\q=c):=fun j q hj=>by
  by_cases e:j<piv.length
  .rw[List.getElem?_append_left e]at hj;exact .inl hj
  .rw[List.getElem?_append_right ac]at hj;obtain⟨hl,hv⟩:=List.getElem?_eq_some_iff.1 hj;simp at hl hv;exact .inr ⟨ac,hv.symm⟩
 refine⟨by simp;omega,h.rng,fun j q hj=>?_,fun j q hj=>?_,fun j q i hj hi aB=>?_,fun i j k1 k2 k3=>?_,fun j q t hj ht=>?_,fun i j q r aC hi hj=>?_⟩
 .rcases aA j q hj with k|⟨_,rfl⟩
  .have:=h.lt j q k;omega
  .omega
 .rcases aA j q hj with k|⟨rfl,rfl⟩
  .exact h.one j q k
  .exact h1
 .rcases aA j q hj with k|⟨rfl,rfl⟩
  .exact h.zer j q i k hi aB
  .exact hz i hi aB
 .simp at k1;by_cases e:j=c
  .rw[e];exact hz i k2 ac
  .exact h.tail i j ac k2 ac
 .rcases aA j q hj with k|⟨rfl,rfl⟩
  .exact h.lead j q t k ht
  .exact h.tail _ t (Nat.le_refl _) hs ht
 .rcases aA j r hj with k|⟨rfl,rfl⟩
  .rcases aA i q hi with k2|⟨rfl,rfl⟩
   .exact h.asc i j q r aC k2 k
   .have:=(List.getElem?_eq_some_iff.1 k).1;omega
  .rcases aA i q hi with k2|⟨rfl,rfl⟩
   .exact h.lt i q k2
   .omega
theorem PV.dist(h:PV p m R N a piv c){i j q:Nat}(hi:piv[i]?=some q)(hj:piv[j]?=some q):i=j:=by
 have hjl:=(List.getElem?_eq_some_iff.1 hi).1;have hle:=h.le;by_cases e:i=j
 .exact e
 .exfalso;have h1:=h.one i q hi;have h2:=h.zer j q i hj ac e;omega
structure Kv(p m:Nat)(a:Nat->Nat->Int)(piv:List Nat)(c k:Nat)(x:Nat->Int):Prop where
 c1:x c=1
 pv:∀(i q:Nat),i<k->piv[i]?=some q->x q=((CI p m (Av (p^m) (a i c)):Nat):Int)
 z:∀j,j≠c->(∀i,i<k->piv[i]?≠some j)->x j=0
theorem Kv.zero:Kv p m a piv c 0 (Ay (fun _=>0) c 1):=⟨Ab _ _ _,fun i q h=>absurd h ac,fun j hj _=>Ae _ _ hj⟩
theorem Kv.succ{c0 k q:Nat}(hP:PV p m R N a piv c0)(h:Kv p m a piv c k x)(hq:piv[k]?=some q)(hc:q≠c):Kv p m a piv c (k+1) (Ay x q ((CI p m (Av (p^m) (a k c)):Nat):Int)):=by
 refine⟨by rw[Ae _ _ (fun e=>hc e.symm)];exact h.c1,fun i r hi hr=>?_,fun j hj aA=>?_⟩
 .by_cases e:i=k
  .subst e;rw[hq]at hr;injection hr with hr;subst hr;rw[Ab]
  .have:r≠q:=fun e2=>e (hP.dist (by rw[<-e2];exact hr) hq);rw[Ae _ _ this];exact h.pv i r ac hr
 .have:j≠q:=fun e=>aA k ac (by rw[e];exact hq);rw[Ae _ _ this];exact h.z j hj fun i hi=>aA i ac
theorem zde{P:Prop}(h:P:=by
 rw[List.getD_eq_getElem?_getD,AQ hj];rfl):P:=h
theorem Kv.sol(hp:2<=p)(hm:1<=m){c0:Nat}(hP:PV p m R N a piv c0)(aD:piv.length=R∨c0=N)(hc0:c0<=N)(hc:c<N)(aG:∀i:Nat,piv[i]?≠some c)(h:Kv p m a piv c piv.length x):Cb p m ml N R a x:=by
 have hq:1<p^m:=Bw hp hm;intro i hi;by_cases hl:i<piv.length
 .obtain⟨q,aA⟩:∃q,piv[i]?=some q:=⟨_,List.getElem?_eq_getElem hl⟩;have aE:q<N:=by have:=hP.lt i q aA;omega
  have aF:q≠c:=fun e=>aG i (by rw[<-e];exact aA);have aB:(il N (a i)).length=N:=AJ _ _;have hg:∀j,j<N->(il N (a i)).getD j 0=a i j:=fun j hj=>by
   exact zde
  have e1:Cd p m ml (il N (a i)) (il N (Ay (fun _=>(0:Int)) c 1)) 0=AH p m (Cd p m ml (il N (a i)) (il N fun _=>(0:Int)) 0) (Al p m (lw ml) (Av (p^m) ((il N (a i)).getD c 0)) (Av (p^m) (Ay (fun _=>(0:Int)) c 1 c))):=
   Mb hp aB hc rfl fun j _ hj _=>Ae _ _ hj
  have e2:Cd p m ml (il N (a i)) (il N x) 0=AH p m (Cd p m ml (il N (a i)) (il N (Ay (fun _=>(0:Int)) c 1)) 0) (Al p m (lw ml) (Av (p^m) ((il N (a i)).getD q 0)) (Av (p^m) (x q))):=
   Mb hp aB aE (Ae _ _ aF) fun j hj aH hr=>by
    rw[hg j hj]at hr;by_cases e:j=c
    .rw[e,h.c1,Ab]
    .rw[Ae _ _ e];refine h.z j e fun k hk aC=>?_;by_cases ek:k=i
     .subst ek;rw[aA]at aC;injection aC with aC;exact aH aC.symm
     .exact hr (hP.zer k j i aC hi (fun e=>ek e.symm))
  have e0:Cd p m ml (il N (a i)) (il N fun _=>(0:Int)) 0=0:=by
   have:=Hf (p:=p) (m:=m) (ml:=ml) (N:=N) hp (f:=fun _=>0) (x:=a i) (fun j _=>rfl);rw[Kt]at this;exact this
  show Cd p m ml (il N (a i)) (il N x) 0=0
  rw[e2,e1,e0,hg c hc,hg q aE,hP.one i q aA,Ab,h.pv i q hl aA];have k1:Av (p^m) 1=1:=by have:=AA (q:=p^m) (x:=1) hq;exact this
  rw[k1,DO ac (Bc ac _ _),Bz hp hm (Cc ac _),AA (Dg ac _),Cr hp hm (Dg ac _),CR ac]
 .refine Hf hp fun j hj=>?_;rcases aD with he|he
  .omega
  .exact hP.tail i j ac hi ac
end
end Go.Proofs.YtehieobniamagaaGreat
