/- What the kernel's tables say. -/
import Derived.Test.YtehieobniamagaaGreatZi06
namespace Go.Proofs.YtehieobniamagaaGreat
open List renaming mem_cons→ϒ,replicate→γn,getElem?_eq_getElem→γ,mem_of_getElem?→ι,mem_map→ψ,range→ξ,mem_range→κ,all_eq_true→υ,getD_eq_getElem?_getD→δ,getElem?_eq_none→ϛ,getElem_of_mem→χ
open Nat renaming mod→θv,div→κw,beq→θg,eq_of_beq_eq_true→θr,eq_zero_or_pos→δk,pow_one→θw,le_refl→ζ
open Bool renaming and_eq_true→Ξ,or_eq_true→ηi
open Go.RowKit
set_option linter.all false
set_option maxRecDepth 100000
set_option maxRecDepth 100000
set_option maxHeartbeats 2000000
theorem Px{p m:Nat}{b1:List Bool}{D:List (List Bool)}:∀(T:List Nat) (s i t:Nat),Fh p m b1 D T s=true->T[i]?=some t->XO p m b1 D t (HJ p m (s+i))=true
 | [],s,i,t,_,h=>by simp at h
 | x :: T,s,i,t,h,hi=>by
  have h1:(match XO p m b1 D x (HJ p m s) with|true=>Fh p m b1 D T (Nat.succ s)|false=>false)=true:=h
  cases he:XO p m b1 D x (HJ p m s) with
  | false=>rw[he]at h1;cases h1
  | true=>
   rw[he]at h1
   cases i with
   | zero=>simp at hi;subst hi;exact he
   | succ i=>
    have:=Px T (s+1) i t h1 (by simpa using hi)
    rwa[show s+1+i=s+(i+1) by omega]at this
theorem Q4{f:List Bool->Bool}:∀(l:List (List Bool)),allB f l=true->∀x∈l,f x=true
 | [],_,x,h=>by cases h
 | y :: l,h,x,hx=>by
  have h1:(match f y with|true=>allB f l|false=>false)=true:=h
  cases hf:f y with
  | false=>rw[hf]at h1;cases h1
  | true=>
   rw[hf]at h1;rcases ϒ.1 hx with rfl|hx
   .exact hf
   .exact Q4 l h1 x hx
theorem LH(p:Nat):∀m,HJ p m 0=γn m 0
 | 0=>rfl
 | m+1=>by
  show θv 0 p :: HJ p m (κw 0 p)=_
  have h1:θv 0 p=0:=Nat.zero_mod p;have h2:κw 0 p=0:=Nat.zero_div p;rw[h1,h2,LH p m];rfl
theorem Nk{p m g:Nat}{b1:List Bool}{D:List (List Bool)}{low:List Nat}(hp:2<=p)(hm:1<=m)(hl:low.length=m)(hg:g<p^m)(h:gnC p m g b1 D low=true):
  BN p m (lf low) g (DT 0 b1)=1/\∀b∈D,BN p m (lf low) g (DT 0 b)≠1:=by
 unfold gnC at h;rw[LH]at h;have aA:=fun bs=>RG hp hm hl g hg bs 0
 cases h1:θg (pwC p m low (γn m 0) g b1 1) 1 with
 | false=>rw[h1]at h;cases h
 | true=>
  rw[h1]at h;refine⟨by rw[<-aA];exact θr h1,fun b hb e=>?_⟩;have h2:=Q4 D h b hb;rw[<-aA]at e;have e':pwC p m low (γn m 0) g b 1=1:=e;rw[e']at h2;simp at h2
theorem Nt{p:Nat}(hp:1<=p):∀l:List Nat,QR p l=0->∀j,l.getD j 0=0
 | [],_,j=>by simp
 | x :: l,h,j=>by
  have h1:x+p*QR p l=0:=h;have h2:QR p l=0:=by
   rcases δk (QR p l) with e|e
   .exact e
   .have:=Nat.mul_le_mul hp e;omega
  cases j with
  | zero=>simp;omega
  | succ j=>simpa using Nt hp l h2 j
theorem zaO{P:Prop}(h:P:=by
 have hs:IJ d Aw:=fun i hi=>by unfold Aw;rw[if_neg (by omega)]
 rw[O4 hs _ _ j (by omega)]):P:=h
theorem Vv{p d u:Nat}{low:List Nat}(hp:2<=p)(hd:1<=d)(h:dvC p d u low=true):Cw p (ap d (AO p d u) (low.length+1) (lf (low ++ [1])) Aw) (fun _=>0):=by
 unfold dvC at h;have h0:=Nt (show 1<=p by omega) _ (θr h);rw[LH]at h0;obtain⟨h1,h2⟩:=K7 (p:=p) (m:=d) (low:=HJ p d u) (a:=HJ p d 1) ac hd (Dl p d u) (Dl p d 1) rfl (low ++ [1]);rw[Je,Je,OW hp hd]at h2;intro j;by_cases hj:j<d
 .have:=h2 j hj;rw[h0 j,OD,List.length_append]at this;rw[show low.length+1=low.length + [1].length from rfl,<-this];rfl
 .exact zaO
def bndC(p m q t:Nat):Bool:=
 if t%2=0 then decide (1<=t/2%8)&&(decide (2*(t/2%8)<=m)&&decide (t/16<p^(t/2%8))) else decide (1<=t/2)&&decide (t/2<q)
def FC(p m:Nat)(low:List Nat):Prop:=
 Hc p m (lf low)∨∃d u,1<=d/\2*d<=m/\u<p^d/\Cw p (ap d (AO p d u) (m+1) (lf (low ++ [1])) Aw) (fun _=>0)
theorem zcG{P:Prop}(h:P:=by
 obtain⟨y,hy,hd⟩:=hC e h1 h2;exact⟨_,List.mem_map.2 ⟨y,hy,rfl⟩,hd⟩):P:=h
theorem UA{p m q:Nat}{b1:List Bool}{D:List (List Bool)}{T:List Nat}(hp:2<=p)(hm:1<=m)(hq:p^m=q)(hT:Fh p m b1 D T 0=true)(hl:T.length=q)
  (hb:∀t∈T,bndC p m q t=true) (ho:DT 0 b1=q-1) (hC:∀e,e<q-1->e ∣ q-1->∃y∈D,e ∣ DT 0 y) (v:Nat) (hv:v<q):FC p m (HJ p m v):=by
 obtain⟨t,ht⟩:∃t,T[v]?=some t:=⟨_,γ ac⟩;have h1:=Px T 0 v t hT ht;rw[Nat.zero_add]at h1;have h2:=hb t (ι ht);unfold XO at h1;unfold bndC at h2;by_cases he:t%2=0
 .rw[if_pos he]at h2;have h3:θg (θv t 2) 0=true:=by
   show θg (t%2) 0=true
   rw[he];rfl
  rw[h3]at h1;simp only[Ξ,decide_eq_true_eq]at h2;obtain⟨a,b,c⟩:=h2;refine .inr ⟨t/2%8,t/16,a,b,c,?_⟩;have:=Vv hp a h1
  rwa[Dl]at this
 .rw[if_neg he]at h2;have h3:θg (θv t 2) 0=false:=by
   show θg (t%2) 0=false
   cases h:θg (t%2) 0 with
   | false=>rfl
   | true=>exact absurd (θr h) he
  rw[h3]at h1;simp only[Ξ,decide_eq_true_eq]at h2;obtain⟨a,b⟩:=h2;have aA:t/2<p^m:=by rw[hq];exact b
  obtain⟨k1,k2⟩:=Nk hp hm (Dl p m v) aA h1;refine .inl ⟨t/2,a,aA,XD (D:=D.map (DT 0)) hp hm (by rw[hq,<-ho];exact k1) (fun y hy=>?_) (fun e h1 h2=>?_)⟩
  .obtain⟨x,hx,rfl⟩:=ψ.1 hy;exact k2 x hx
  .rw[hq]at h1 h2;exact zcG
theorem YP{p g:Nat}{b1:List Bool}{D:List (List Bool)}(hp:2<=p)(aB:1<=g)(hg:g<p)(hT:gnC p 1 g b1 D (HJ p 1 0)=true)(ho:DT 0 b1=p-1)
  (hC:∀e,e<p-1->e ∣ p-1->∃y∈D,e ∣ DT 0 y):FC p 1 (HJ p 1 0):=by
 have aA:g<p^1:=by rw[θw];exact hg
 obtain⟨k1,k2⟩:=Nk hp (ζ 1) (Dl p 1 0) aA hT;refine .inl ⟨g,aB,aA,XD (D:=D.map (DT 0)) hp (ζ 1) (by rw[θw,<-ho];exact k1) (fun y hy=>?_) (fun e h1 h2=>?_)⟩
 .obtain⟨x,hx,rfl⟩:=ψ.1 hy;exact k2 x hx
 .rw[θw]at h1 h2;exact zcG
def btA:Nat->Nat->List Bool->List Bool
 | 0,_,l=>l
 | k+1,n,l=>match θg n 0 with
  | true=>l
  | false=>btA k (κw n 2) (θg (θv n 2) 1 :: l)
def dvsP(n:Nat):List (List Bool):=((ξ n).filter fun d=>match θg (θv n d) 0 with|true=>Nat.ble 1 d|false=>false).map fun d=>btA 9 d []
def tbP:List (Nat × Nat):= [(2,1),(3,2),(5,2),(7,3),(11,2),(13,2),(17,3),(19,2),(23,5),(29,2),(31,3),(37,2),(41,6),(43,3),(47,5),(53,2),(59,2),(61,2),(67,2),(71,7),(73,5),(79,3),(83,2),(89,3),(97,5),(101,2),(103,5),(107,2),(109,6),(113,3),(127,3),(131,2),(137,3),(139,2),(149,2),(151,6),(157,5),(163,2),(167,5),(173,2),(179,2),(181,2),(191,19),(193,5),(197,2),(199,3),(211,2),(223,3),(227,2),(229,6),(233,3),(239,7),(241,7),(251,6)]
theorem bt_ok:∀d,d<257->DT 0 (btA 9 d [])=d:=ak
theorem tbP_ok:∀e∈tbP,1<=e.2/\e.2<e.1/\e.1<257/\gnC e.1 1 e.2 (btA 9 (e.1-1) []) (dvsP (e.1-1)) (HJ e.1 1 0)=true:=ak
theorem UB{e:Nat × Nat}(he:e∈tbP):FC e.1 1 (HJ e.1 1 0):=by
 obtain⟨h1,h2,h3,h4⟩:=tbP_ok e he;refine YP ac h1 h2 h4 (bt_ok _ ac) fun d hd hx=>⟨_,ψ.2 ⟨d,List.mem_filter.2 ⟨κ.2 hd,?_⟩,rfl⟩,?_⟩
 .have e1:θv (e.1-1) d=0:=Nat.mod_eq_zero_of_dvd hx;have h5:1<=d:=by
   rcases δk d with e2|e2
   .rw[e2]at hx;have:=Nat.zero_dvd.1 hx;omega
   .exact e2
  rw[e1];show Nat.ble 1 d=true
  rw[Nat.ble_eq];exact h5
 .rw[bt_ok d ac];exact Nat.dvd_refl _
theorem RK:∀p,p<257->I6 p=true->p∈tbP.map (·.1):=ak
theorem Ej{p m v:Nat}{b1:List Bool}{D:List (List Bool)}{T:List Nat}(hT:Fh p m b1 D T 0=true)(hv:v<p^m)(hp:2<=p:=by omega)(hm:1<=m:=by omega)(hl:T.length=p^m:=by decide +kernel)
  (hb:∀t∈T,bndC p m (p^m) t=true:=by decide +kernel) (ho:DT 0 b1=p^m-1:=by decide +kernel) (hC:∀e,e<p^m-1->e ∣ p^m-1->∃y∈D,e ∣ DT 0 y:=by decide +kernel):FC p m (HJ p m v):=
 UA hp hm rfl hT hl hb ho hC v hv
theorem ZC:((ξ 257).all fun p=>(ξ 9).all fun m=> !(decide (2<=m))||(!(I6 p)||(!(decide (p^m<=256))||decide ((p,m)∈ [(2,2),(2,3),(2,4),(2,5),(2,6),(2,7),(2,8),(3,2),(3,3),(3,4),(3,5),(5,2),(5,3),(7,2),(11,2),(13,2)]))))=true:=ak
theorem UX(m:Nat)(hm:m<9)(p:Nat)(hp:p<257)(h2:2<=m)(aA:I6 p=true)(hq:p^m<=256):(p,m)∈ [(2,2),(2,3),(2,4),(2,5),(2,6),(2,7),(2,8),(3,2),(3,3),(3,4),(3,5),(5,2),(5,3),(7,2),(11,2),(13,2)]:=by
 have h:=υ.1 (υ.1 ZC p (κ.2 hp)) m (κ.2 hm);rw[decide_eq_true h2,aA,decide_eq_true hq]at h;simpa using h
theorem god_all{p m v:Nat}(aB:I6 p=true)(hp:p<=256)(aC:1<=m)(hm:m<=8)(hq:p^m<=256)(hv:v<p^m)(h0:m=1->v=0):FC p m (HJ p m v):=by
 rcases Nat.eq_or_lt_of_le aC with e|e
 .subst e;obtain rfl:=h0 rfl;have aA:=RK p ac aB;obtain⟨e,he,rfl⟩:=ψ.1 aA;exact UB he
 .have aA:=UX m ac p ac e aB hq;simp only[ϒ,List.not_mem_nil,or_false,Prod.mk.injEq]at aA;rcases aA with⟨rfl,rfl⟩|⟨rfl,rfl⟩|⟨rfl,rfl⟩|⟨rfl,rfl⟩|⟨rfl,rfl⟩|⟨rfl,rfl⟩|⟨rfl,rfl⟩|⟨rfl,rfl⟩|⟨rfl,rfl⟩|⟨rfl,rfl⟩|⟨rfl,rfl⟩|⟨rfl,rfl⟩|⟨rfl,rfl⟩|⟨rfl,rfl⟩|⟨rfl,rfl⟩|⟨rfl,rfl⟩
  .exact Ej Y9 hv
  .exact Ej Y8 hv
  .exact Ej Y7 hv
  .exact Ej Y6 hv
  .exact Ej Y4 hv
  .exact Ej YZ hv
  .exact Ej YY hv
  .exact Ej YX hv
  .exact Ej YW hv
  .exact Ej YV hv
  .exact Ej YU hv
  .exact Ej YT hv
  .exact Ej YS hv
  .exact Ej YR hv
  .exact Ej V5 hv
  .exact Ej V4 hv
theorem lw_isD{p m:Nat}{ml:List Int}(h:Gg p m ml):IsD p m (lw ml):=by
 have hp:=h.p2;refine⟨fun j hj=>?_,fun j=>?_⟩
 .unfold lw;rw[δ,ϛ (by have:=h.len;split at this <;> omega)];rfl
 .unfold lw;rw[δ];rcases hj:ml[j]? with _|z
  .simp;omega
  .exact h.rng z (ι hj)
theorem T8{p d:Nat}{low:Vc}{ml:List Int}(hl:∀j,d<=j->True):QJ p d low ml=true↔Cw p (ap d low (ml.length+1) (Mo ml) Aw) (fun _=>0)∨(QJ p d low ml=true/\d=0):=by
 unfold QJ;rw[υ];constructor
 .intro h;rcases δk d with e|e
  .exact .inr ⟨h,e⟩
  .refine .inl fun j=>?_;by_cases hj:j<d
   .have:=h j (κ.2 hj);simpa using this
   .exact zaO
 .rintro (h|⟨h,_⟩)
  .intro j _;have:=h j;simpa using this
  .exact h
theorem GW{p m:Nat}{ml:List Int}(h:Gg p m ml)(aE:I6 p=true):Hc p m (lw ml)↔(m=1∨YG p ml=true):=by
 have hp:=h.p2;have hm:=h.m1;have hD:=lw_isD h;obtain⟨v,hv⟩:=nA ((Ev p m (lw ml)).toNat);have aC:AO p m v=lw ml:=by rw[<-hv];exact LF ac hD
 have aD:v<p^m:=by have:=Dm hD.2 m;omega
 have hG:=god_all aE h.p256 hm h.m8 h.q aD (fun e=>by
  subst e;have hl:=h.len;rw[if_pos rfl]at hl;have:ml= []:=List.eq_nil_of_length_eq_zero hl;rw[<-hv,this];simp[Ev,lw])
 unfold FC at hG;rw[Je,aC]at hG;by_cases e1:m=1
 .constructor
  .intro _;exact .inl e1
  .intro _;rcases hG with hG|⟨d,u,h1,h2,_⟩
   .exact hG
   .omega
 .have hl:=h.len;rw[if_neg e1]at hl;have aA:lf (HJ p m v ++ [1])=Mo ml:=by
   funext j;have aF:=congrFun aC j;unfold lf Mo;rw[hl,δ];by_cases hj:j<m
   .rw[if_pos hj,List.getElem?_append_left (by rw[Dl];exact hj)];have h2:=congrFun (Je p m v) j;rw[aF]at h2;unfold lf at h2;rw[δ]at h2;exact h2
   .rw[if_neg hj,List.getElem?_append_right (by rw[Dl];omega),Dl];by_cases hj2:j=m
    .subst hj2;simp
    .rw[if_neg hj2,ϛ aq];rfl
  rw[aA]at hG;constructor
  .intro hF;right;refine TH fun d u h1 h2=>?_;rw[<-Bool.not_eq_true];intro aB;rcases (T8 (fun _ _=>trivial)).1 aB with h3|⟨_,h3⟩
   .refine U4 (m:=m) (d:=d+1) (low:=AO p (d+1) u) hp ac ac (DF ac _ _) ?_ hF;intro t;have h4:=h3 t;rw[hl]at h4;rw[<-h4];dsimp only
    congr 1
    rw[ap];rw[II (c:=Mo ml) (d:=lw ml) (n:=m) (fun j hj=>by unfold Mo lw;rw[hl,if_pos hj])];rw[show Mo ml m=1 by unfold Mo;rw[hl,if_neg ac,if_pos rfl]];dsimp only;rw[Int.one_mul]
   .omega
  .rintro (e|hir)
   .exact absurd e e1
   .rcases hG with hG|⟨d,u,h1,h2,h3,h4⟩
    .exact hG
    .exfalso;obtain⟨e,rfl⟩:∃e,d=e+1:=⟨d-1,ac⟩;rw[<-hl]at h4 h2;have:=Xk h2 h3 ((T8 (fun _ _=>trivial)).2 (.inl h4));rw[this]at hir;cases hir
theorem BU(p m:Int)(ml:List Int):Cm p m ml=0↔FD p m ml:=by
 unfold Cm;constructor
 .intro h;split at h
  .rename_i hc;simp only[Ξ,ηi,decide_eq_true_eq]at hc;obtain⟨h1,h2⟩:=hc;obtain⟨pn,mn,rfl,rfl,hf,aA,_⟩:=NV h1;refine⟨pn,mn,rfl,rfl,hf,aA,(GW hf aA).2 ?_⟩;rcases h2 with h2|h2
   .left;omega
   .right;simpa using h2
  .cases h
 .rintro⟨pn,mn,rfl,rfl,hf,aA,hF⟩;rw[if_pos];simp only[Ξ,ηi,decide_eq_true_eq];refine⟨(Uw hf aA).1,?_⟩;rcases (GW hf aA).1 hF with h|h
  .left;omega
  .right;simpa using h
def B6(w:World)(v:Value)(rows:List (List Int)):Prop:=∃vals:List Value,Sl w v rows.length 1 vals/\∀(i:Nat) (r:List Int) (u:Value),rows[i]?=some r->vals[i]?=some u->Ak w u r
theorem B6.ex{w w':World}{v:Value}{rows:List (List Int)}(h:B6 w v rows)(hx:Ex w w'):B6 w' v rows:=by
 obtain⟨vals,h1,h2⟩:=h;exact⟨vals,h1.ex hx,fun i r u a b=>(h2 i r u a b).ex hx⟩
theorem B6.open{w:World}{v:Value}{rows:List (List Int)}(h:B6 w v rows):∃a cap,v= .slice a rows.length cap/\rows.length<=cap/\cap<=maxLen/\
  (0<rows.length->∃b o,a=some ⟨b,o,none⟩/\∀(i:Nat) (r:List Int),rows[i]?=some r->∃u,w.cell? ⟨b,o+i,none⟩=some u/\Ak w u r):=by
 obtain⟨vals,⟨h1,a,cap,h2,h3,h4,h5⟩,h6⟩:=h;refine⟨a,cap,h2,h3,h4,fun hn=>?_⟩;obtain⟨b,o,h7,h8⟩:=h5 hn;refine⟨b,o,h7,fun i r hr=>?_⟩;have hi:=(List.getElem?_eq_some_iff.1 hr).1;have hu:vals[i]?=some vals[i]:=γ ac;exact⟨_,h8 i _ hu,h6 i r _ hr hu⟩
def Ct(q:Nat)(l:List Int):Int:=if (l.all fun x=>GU q x)=true then 0 else 2
section
variable {b p m x0:Nat} {ml:List Int}
theorem ar{P:Prop}(h:P:=by rw[List.getElem?_eq_getElem hj,e]):P:=h
theorem QI(w:World)(hg:Bh w b p m ml x0)(l:List Int)(v:Value)(hl:Ak w v l):
  Calls Tryz.prog 247 #[(b,0),v] w fun r w'=>r= .returned (.int .i64 (Ct (p^m) l))/\Ex w w':=by
 obtain⟨a,cap,rfl,s1,s2,s3⟩:=hl.open;have S3:=Aa s3;have HG:=Aa hg;have HE:Hia (Ct (p^m) l=if (l.all fun x=>GU (p^m) x)=true then 0 else 2):=Aa (rfl);unfold maxLen at s2;clear hl s3 hg;go_enter Tryz.func247,Tryz.ntmps247
 go_wp2_with fail
 go_loopw [6,9] (fun _ i' wr=>∃i:Nat,i<=l.length/\i'= .int .i64 i/\Hia (∀(j:Nat) (x:Int),j<i->l[j]?=some x->GU (p^m) x=true)/\Ex w wr) (fun _ i' _=>l.length-(intOf i').toNat)
 case atStart=>exact⟨0,ac,rfl,Aa (fun j x h=>ac),Ex.refl _⟩
 case round=>
  obtain⟨i,hi,rfl,aB,hx⟩:=hrel;by_cases hlt:i<l.length
  .obtain⟨x,aA⟩:∃x,l[i]?=some x:=⟨_,γ hlt⟩;obtain⟨bb,o,rfl,hc⟩:=S3.o ac;have c1:=hx.cell (hc i x aA);have aC:=Aa (Pd wr (HG.o.ex hx) x);by_cases hb:GU (p^m) x=true
   .have HA:Hia (∀(j:Nat) (y:Int),j<i+1->l[j]?=some y->GU (p^m) y=true):=Aa (fun j y hj hy=>by
     by_cases e:j=i
     .subst e;rw[aA]at hy;injection hy with hy;subst hy;exact hb
     .exact aB.o j y ac hy)
    rw[hb]at aC;clear hc aA hb;go_wp2_with fail
    refine aC.o.mono ?_;rintro e w2⟨rfl,n,rfl⟩;go_wp2_with fail
    go_roundw
    case rel=>exact⟨i+1,ac,by go_num,HA,hx.drewN n⟩
    case measure=>exact Ωm
   .have HF:=Aa (show Ct (p^m) l=2 by
     rw[HE.o,if_neg];intro h;exact hb (υ.1 h x (ι aA)))
    have aD:GU (p^m) x=false:=by simpa using hb
    rw[aD]at aC;clear hc aA hb aD;go_wp2_with fail
    refine aC.o.mono ?_;rintro e w2⟨rfl,n,rfl⟩;go_wp2_with fail
    go_ret;exact⟨Ai HF.o.symm,hx.drewN n⟩
  .obtain rfl:i=l.length:=by omega
   have HF:=Aa (show Ct (p^m) l=0 by
    rw[HE.o,if_pos];rw[υ];intro y hy;obtain⟨j,hj,e⟩:=χ hy;exact aB.o j y hj ar)
   go_wp2_with fail
   go_ret;exact⟨Ai HF.o.symm,hx⟩
def BV(q:Nat)(aA:Int)(rows:List (List Int)):Int:=
 if aA<0∨256<aA∨256<(rows.length:Int) then 3
 else if (rows.all fun r=>decide ((r.length:Int)=aA))=true then(if (rows.all fun r=>Ct q r==0)=true then 0 else 2) else 3
theorem EI(w:World)(c:Int)(v:Value):(w.alloc (.cells #[c,v] 137)).cell? (w.heap.size,0)=some (.int .i64 c)/\
  (w.alloc (.cells #[c,v] 137)).cell? (w.heap.size,1)=some v/\Ex w (w.alloc (.cells #[c,v] 137)):=
 ⟨ag,ag,(Ex.refl _).alloc _⟩
theorem T7{q:Nat}{l:List Int}:Ct q l=0∨Ct q l=2:=by unfold Ct;split <;> simp
theorem za0{P:Prop}(h:P:=by
 subst e;rw[hr]at hs;injection hs with hs;subst hs;exact hl):P:=h
theorem ep{P:Prop}(h:P:=by simpa using this):P:=h
theorem R0(w:World)(hg:Bh w b p m ml x0)(cols:Int)(rows:List (List Int))(v:Value)(hv:B6 w v rows):
  Calls Tryz.prog 201 #[(b,0),.agg #[cols,v]] w fun r w'=>r= .returned (.int .i64 (BV (p^m) cols rows))/\Ex w w':=by
 obtain⟨d0,d1,e0⟩:=EI w cols v;have HE:=Aa (show BV (p^m) cols rows=if cols<0∨256<cols∨256<(rows.length:Int) then 3
 else if (rows.all fun r=>decide ((r.length:Int)=cols))=true then(if (rows.all fun r=>Ct (p^m) r==0)=true then 0 else 2) else 3 from rfl)
 have aD:=hv.ex e0;have HG:=Aa (hg.ex e0);obtain⟨a,cap,rfl,s1,s2,s3⟩:=aD.open;have S3:=Aa s3;unfold maxLen at s2;clear hv aD s3 hg;by_cases h:cols<0∨256<cols∨256<(rows.length:Int)
 .have HR:=Aa (show BV (p^m) cols rows=3 by rw[HE.o,if_pos h]);have hc:cols<0∨(0<=cols/\256<cols)∨(0<=cols/\cols<=256/\256<(rows.length:Int)):=by omega
  clear h HE;rcases hc with hc|⟨h1,h2⟩|⟨h1,h2,h3⟩
  all_goals
   go_enter Tryz.func201,Tryz.ntmps201
   go_wp2_with fail
   go_ret;exact⟨Ai HR.o.symm,e0⟩
 .have h1:0<=cols:=by omega
  have h2:cols<=256:=ac;have h3:(rows.length:Int)<=256:=ac;have aG:=Aa (show BV (p^m) cols rows=if (rows.all fun r=>decide ((r.length:Int)=cols))=true then(if (rows.all fun r=>Ct (p^m) r==0)=true then 0 else 2) else 3 by rw[HE.o,if_neg h]);clear h HE;go_enter Tryz.func201,Tryz.ntmps201
  go_wp2_with fail
  generalize w.alloc (.cells #[cols,(a,rows.length,cap)] 137)=w1 at *
  go_loopw [6,27] (fun _ i' wr=>∃i:Nat,i<=rows.length/\i'= .int .i64 i/\Hia (∀(j:Nat) (r:List Int),j<i->rows[j]?=some r->(r.length:Int)=cols)/\Ex w1 wr) (fun _ i' _=>rows.length-(intOf i').toNat)
  case atStart=>exact⟨0,ac,rfl,Aa (fun j x h=>ac),Ex.refl _⟩
  case round=>
   obtain⟨i,hi,rfl,aA,hx⟩:=hrel;have r0:=hx.cell d0;have r1:=hx.cell d1;by_cases hlt:i<rows.length
   .obtain⟨r,hr⟩:∃r,rows[i]?=some r:=⟨_,γ hlt⟩;obtain⟨bb,o,rfl,hc⟩:=S3.o ac;obtain⟨u,c1,hu⟩:=hc i r hr;obtain⟨ua,uc,rfl,u1,u2,u3⟩:=hu.open;have c2:=hx.cell c1;unfold maxLen at u2;by_cases hl:(r.length:Int)=cols
    .have hb:((r.length:Int) !=cols)=false:=by simpa using hl
     have HA:Hia (∀(j:Nat) (s:List Int),j<i+1->rows[j]?=some s->(s.length:Int)=cols):=Aa (fun j s hj hs=>by
      by_cases e:j=i
      .exact za0
      .exact aA.o j s ac hs)
     clear hl hc c1 hu u3 hr;go_wp2_with fail
     go_roundw
     case rel=>exact⟨i+1,ac,by go_num,HA,hx⟩
     case measure=>exact Ωm
    .have hb:((r.length:Int) !=cols)=true:=by simpa using hl
     have HF:=Aa (show BV (p^m) cols rows=3 by
      rw[aG.o,if_neg];intro h;have:=υ.1 h r (ι hr);exact hl ep)
     clear hl hc c1 hu u3 hr;exact zc7
   .obtain rfl:i=rows.length:=by omega
    have aF:=Aa (show BV (p^m) cols rows=if (rows.all fun r=>Ct (p^m) r==0)=true then 0 else 2 by
     rw[aG.o,if_pos];rw[υ];intro r hr;obtain⟨j,hj,e⟩:=χ hr;exact decide_eq_true (aA.o j r hj ar))
    clear aA;go_wp2_with fail
    obtain⟨wo,rfl⟩:∃wo:World,wo=wr:=⟨_,rfl⟩;clear r0 r1
    go_loopw [8,9,40] (fun _ _ i' wr=>∃i:Nat,i<=rows.length/\i'= .int .i64 i/\Hia (∀(j:Nat) (r:List Int),j<i->rows[j]?=some r->Ct (p^m) r=0)/\Ex w1 wr) (fun _ _ i' _=>rows.length-(intOf i').toNat)
    case atStart=>exact⟨0,ac,rfl,Aa (fun j x h=>ac),hx⟩
    case round=>
     clear hx;obtain⟨i,hi,rfl,aA,hx⟩:=hrel;have r0:=hx.cell d0;have r1:=hx.cell d1;by_cases hlt:i<rows.length
     .obtain⟨r,hr⟩:∃r,rows[i]?=some r:=⟨_,γ hlt⟩;obtain⟨bb,o,rfl,hc⟩:=S3.o ac;obtain⟨u,c1,hu⟩:=hc i r hr;obtain⟨ua,uc,rfl,u1,u2,u3⟩:=hu.open;have c2:=hx.cell c1;unfold maxLen at u2;have aB:=Aa (QI wr (HG.o.ex hx) r _ (hu.ex hx));by_cases hl:Ct (p^m) r=0
      .have HA:Hia (∀(j:Nat) (s:List Int),j<i+1->rows[j]?=some s->Ct (p^m) s=0):=Aa (fun j s hj hs=>by
        by_cases e:j=i
        .exact za0
        .exact aA.o j s ac hs)
       rw[hl]at aB;clear hl hc c1 hu u3 hr;go_wp2_with fail
       refine aB.o.mono ?_;rintro e w3⟨rfl,aC⟩;go_wp2_with fail
       go_roundw
       case rel=>exact⟨i+1,ac,by go_num,HA,hx.trans aC⟩
       case measure=>exact Ωm
      .have aE:Ct (p^m) r=2:=by rcases T7 (q:=p^m) (l:=r) with e|e;exact absurd e hl;exact e
       have HF:=Aa (show BV (p^m) cols rows=2 by
        rw[aF.o,if_neg];intro h;have:=υ.1 h r (ι hr);exact hl ep)
       rw[aE]at aB;clear hl aE hc c1 hu u3 hr;go_wp2_with fail
       refine aB.o.mono ?_;rintro e w3⟨rfl,aC⟩;go_wp2_with fail
       go_ret;exact⟨Ai HF.o.symm,e0.trans (hx.trans aC)⟩
     .obtain rfl:i=rows.length:=by omega
      have HF:=Aa (show BV (p^m) cols rows=0 by
       rw[aF.o,if_pos];rw[υ];intro r hr;obtain⟨j,hj,e⟩:=χ hr;rw[aA.o j r hj ar];rfl)
      exact zc7
end
def OpenOut(p m:Int)(ml:List Int)(aA:Int)(rows:List (List Int))(w':World)(r:Ending):Prop:=
 (∃(pn mn x b:Nat),p=pn/\m=mn/\Bh w' b pn mn ml x/\1<=x/\x<pn^mn/\
  ((BV (pn^mn) aA rows=0/\r= .returned (.tuple #[(b,0),Ω]))∨
  (BV (pn^mn) aA rows≠0/\r= .returned (.tuple #[.pointer none,.int .i64 (BV (pn^mn) aA rows)]))))∨
 (¬FD p m ml/\r= .returned (.tuple #[.pointer none,(1:Int)]))
theorem U1(p m:Int)(ml:List Int)(mv:Value)(w:World)(aG:Ak w mv ml)(aA:Int)(rows:List (List Int))(v:Value)(hv:B6 w v rows)(B:Nat)
  (c0:w.cell? (B,0)=some (.int .i64 aA)) (c1:w.cell? (B,1)=some v):
  Calls Tryz.prog 156 #[.agg #[p,m,mv],.slice (some (B,0)) 1 1] w fun r w'=>OpenOut p m ml aA rows w' r/\Ex w w':=by
 obtain⟨d0,d1,d2,e0,_⟩:=AA w p m mv;obtain⟨va,aC,rfl,v1,v2,v3⟩:=hv.open;clear v1 v2 v3;obtain⟨HN,aI,HV,C0,C1⟩:=On (fun w' h=>FV p m ml mv w' h) aG hv c0 c1;clear aG hv c0 c1;go_enter Tryz.func156,Tryz.ntmps156
 go_wp2_with fail
 generalize w.alloc (.cells #[p,m,mv] 24)=w1 at *;refine(HN.o _ (aI.o.ex e0)).mono ?_;rintro e w2⟨ho,aE⟩;rcases ho with⟨pn,mn,x,b,rfl,rfl,rfl,hg,x1,x2⟩|⟨hno,rfl⟩
 .have c0:=(e0.trans aE).cell C0.o;have c1:=(e0.trans aE).cell C1.o;have HG:=Aa hg;have e2:=e0.trans aE;clear hg d0 d1 d2 aE;go_wp2_with fail
  refine wp_loop_rounds 2 ?_;rw[rounds_succ];go_wp2_with fail
  have aJ:=Aa (fun w' (h:Ex w w') (h':Bh w' b pn mn ml x)=>R0 w' h' aA rows _ (HV.o.ex h));have HB:=Aa (EI w2 aA (.slice va rows.length aC));have aB:Ex w2 (w2.alloc (.cells #[aA,(va,rows.length,aC)] 137)):=(Ex.refl _).alloc _;generalize w2.alloc (.cells #[aA,(va,rows.length,aC)] 137)=w4 at *;refine(aJ.o w4 (e2.trans aB) (HG.o.ex aB)).mono ?_;rintro e w5⟨rfl,aD⟩;have c0':=aD.cell (aB.cell c0);have c1':=aD.cell (aB.cell c1);by_cases h0:BV (pn^mn) aA rows=0
  .have HH:=Aa h0;rw[h0];clear h0;go_wp2_with fail
   rw[rounds_succ];go_wp2_with fail
   go_ret2;exact⟨.inl ⟨pn,mn,x,b,rfl,rfl,HG.o.ex (aB.trans aD),x1,x2,.inl ⟨HH.o,rfl⟩⟩,(e2.trans aB).trans aD⟩
  .obtain⟨mk,aF⟩:=nA (BV (pn^mn) aA rows);rw[aF]at h0 ⊢;have HK:=Aa aF;have hb:(mk !=0)=true:=by simpa using h0
   have HH:=Aa h0;clear h0 aF;go_wp2_with fail
   go_ret2;exact⟨.inl ⟨pn,mn,x,b,rfl,rfl,HG.o.ex (aB.trans aD),x1,x2,.inr ⟨by rw[HK.o];exact HH.o,by rw[HK.o];rfl⟩⟩,(e2.trans aB).trans aD⟩
 .have aH:=Aa hno;clear hno;go_wp2_with fail
  go_ret2;exact⟨.inr ⟨aH.o,rfl⟩,e0.trans aE⟩
def Me(p m:Int)(ml:List Int)(aA:Int)(rows:List (List Int))(e:Int):Prop:=
 (∃pn mn:Nat,p=pn/\m=mn/\FD p m ml/\e=BV (pn^mn) aA rows)∨(¬FD p m ml/\e=1)
theorem Bh.fldB{w:World}{b p m x:Nat}{ml:List Int}(h:Bh w b p m ml x)(h1:1<=x)(h2:x<p^m):FD p m ml:=⟨p,m,rfl,rfl,h.sh,h.pr,x,h1,h2,h.gen⟩
section
variable {p m:Nat} {ml:List Int} {mv:Value}
theorem ZX(hf:Gg p m ml)(x:Int):isI p m x=GU (p^m) x:=by unfold isI GU;rw[hf.ord]
theorem N6(w:World)(hf:Gg p m ml)(l:List Int)(v:Value)(hl:Ak w v l):
  Calls Tryz.prog 153 #[.agg #[p,m,mv],v] w fun r w'=>r= .returned (.int .i64 (Ct (p^m) l))/\Ex w w':=by
 obtain⟨d0,d1,d2,e0,_⟩:=AA w p m mv;obtain⟨a,cap,rfl,s1,s2,s3⟩:=(hl.ex e0).open;have S3:=Aa s3;have aH:=Aa (fun w' x=>by have:=Ti p m x mv w';rw[ZX hf]at this;exact this);have HE:Hia (Ct (p^m) l=if (l.all fun x=>GU (p^m) x)=true then 0 else 2):=Aa (rfl);unfold maxLen at s2;clear hl s3 hf;go_enter Tryz.func153,Tryz.ntmps153
 go_wp2_with fail
 obtain⟨xb,aC⟩:=nA w.heap.size;rw[aC]at d0 d1 d2
 try simp only[aC]
 generalize w.alloc (.cells #[p,m,mv] 24)=w1 at *;clear aC
 go_loopw [5] (fun i' wr=>∃i:Nat,i<=l.length/\i'= .int .i64 i/\Hia (∀(j:Nat) (x:Int),j<i->l[j]?=some x->GU (p^m) x=true)/\Ex w1 wr) (fun i' _=>l.length-(intOf i').toNat)
 case atStart=>exact⟨0,ac,rfl,Aa (fun j x h=>ac),Ex.refl _⟩
 case round=>
  obtain⟨i,hi,rfl,aA,hx⟩:=hrel;by_cases hlt:i<l.length
  .obtain⟨x,aB⟩:∃x,l[i]?=some x:=⟨_,γ hlt⟩;obtain⟨bb,o,rfl,hc⟩:=S3.o ac;have c1:=hx.cell (hc i x aB);have r0:=hx.cell d0;have r1:=hx.cell d1;have r2:=hx.cell d2;have aF:=Aa (fun w'=>aH.o w' x);have aE:=Aa aB;obtain⟨bo,aD⟩:=nA (GU (p^m) x);rw[aD]at aF;have aG:=Aa aD;clear hc aB aD;go_wp2_with fail
   go_region_held3 (fun w'=>w'.cell? (xb,0)=some (.int .i64 p)/\w'.cell? (xb,1)=some (.int .i64 m)/\w'.cell? (xb,2)=some mv/\w'.cell? (bb,o+i)=some (.int .i64 x)/\Ex w1 w')
    (first|exact⟨r0,r1,r2,c1,hx.drew⟩|exact⟨hx1.cell r0,hx1.cell r1,hx1.cell r2,hx1.cell c1,hx.drew.trans hx1⟩)
    ((go_at_call 200;refine(aF.o _).mono ?_;rintro e w2⟨rfl,hx1⟩))
   have hE:=(‹_/\_/\_/\_/\Ex w1 _›).2.2.2.2
   cases bo with
   | true=>
    have HA:Hia (∀(j:Nat) (y:Int),j<i+1->l[j]?=some y->GU (p^m) y=true):=Aa (fun j y hj hy=>by
     by_cases e:j=i
     .subst e;rw[aE.o]at hy;injection hy with hy;subst hy;exact aG.o
     .exact aA.o j y ac hy)
    go_wp2_with fail
    go_roundw
    case rel=>exact⟨i+1,ac,by go_num,HA,hE⟩
    case measure=>exact Ωm
   | false=>
    have HF:=Aa (show Ct (p^m) l=2 by
     rw[HE.o,if_neg];intro h;have:=υ.1 h x (ι aE.o);rw[aG.o]at this;cases this)
    go_wp2_with fail
    go_ret;exact⟨Ai HF.o.symm,e0.trans hE⟩
  .obtain rfl:i=l.length:=by omega
   have HF:=Aa (show Ct (p^m) l=0 by
    rw[HE.o,if_pos];rw[υ];intro y hy;obtain⟨j,hj,e⟩:=χ hy;exact aA.o j y hj ar)
   exact zc7
end
end Go.Proofs.YtehieobniamagaaGreat
