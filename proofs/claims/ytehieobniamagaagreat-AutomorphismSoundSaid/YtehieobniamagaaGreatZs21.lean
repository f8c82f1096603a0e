/- Sound 21 -/
import Derived.Test.YtehieobniamagaaGreatZs20
namespace Go.Proofs.YtehieobniamagaaGreat
open Go.RowKit
set_option linter.all false
set_option maxRecDepth 100000
set_option maxHeartbeats 8000000
def JA(p m N:Nat)(f:Nat->Int):Prop:=∀j,j<N->0<=f j/\f j<((p^m:Nat):Int)
section
variable {p m:Nat} {ml:List Int} {N:Nat}
theorem Uk(hp:1<=p)(x:Int)(u r:Nat->Int):KT p m ml x u r=BN p m ml u (CH p m (Ar (p^m) x)) r:=by
 funext j;unfold KT BN;rw[UM hp]
theorem YU(hp:2<=p){u r:Nat->Int}{pl:Nat}{x:Nat->Int}(hx:dt p m ml N r x=0):dt p m ml N (Mm p m ml u pl r) x=dt p m ml N u x:=by
 unfold Mm;split
 .rfl
 .rw[Uk ac,LB hp,hx,AE ac,Bt ac (QA hp _ _)]
theorem VO(hp:2<=p){u r:Nat->Int}{pl:Nat}(hu:JA p m N u):JA p m N (Mm p m ml u pl r):=by
 unfold Mm;split
 .exact hu
 .intro j hj;unfold KT;split
  .exact hu j hj
  .have:=E4 (m:=m) (show 1<=p by omega) (Ar (p^m) (u j)) (CH p m (Ai p m (lw ml) (Ar (p^m) (u pl)) (Ar (p^m) (r j))));omega
theorem NW(hp:2<=p){a:Nat->Nat->Int}{pl:Nat->Nat}{v x:Nat->Int}:∀k,BY p m ml N k a x->dt p m ml N (NX p m ml a pl v k) x=dt p m ml N v x
 | 0,_=>rfl
 | k+1,h=>by
  show dt p m ml N (Mm p m ml (NX p m ml a pl v k) (pl k) (a k)) x=_
  rw[YU hp (h k (by omega))];exact NW hp k fun i hi=>h i (by omega)
theorem KR(hp:2<=p){a:Nat->Nat->Int}{pl:Nat->Nat}{v:Nat->Int}(hv:JA p m N v):∀k,JA p m N (NX p m ml a pl v k)
 | 0=>hv
 | k+1=>VO hp (KR hp hv k)
theorem Io(hp:2<=p)(hm:1<=m){n:Nat}{a:Nat->Nat->Int}{pl:Nat->Nat}{v:Nat->Int}(h:Vi N a pl n):∀k,k<=n->∀j,j<k->NX p m ml a pl v k (pl j)=0
 | 0,_,j,hj=>by omega
 | k+1,hk,j,hj=>by
  show Mm p m ml (NX p m ml a pl v k) (pl k) (a k) (pl j)=0
  unfold Mm;split
  .rename_i h0;by_cases e:j=k
   .rw[e];exact h0
   .exact Io hp hm h k (by omega) j (by omega)
  .unfold KT;by_cases e:j=k
   .rw[e,h.one k (by omega),if_neg (by decide),FV hp hm,BA hp hm (B9 (Nat.pow_pos (by omega)) _),CQ (by omega)];rfl
   .rw[h.zer k j (by omega) (by omega),if_pos rfl];exact Io hp hm h k (by omega) j (by omega)
theorem Qn{pr:Nat->Bool}{n:Nat}:Cv pr n<0↔∀j,j<n->pr j=false:=by
 have h:=Ee pr n;constructor
 .intro h0;rw[decide_eq_false ac]at h;intro j hj
  cases e:pr j with
  | false=>rfl
  | true=>
   have:(List.range n).any pr=true:=List.any_eq_true.2 ⟨j,List.mem_range.2 hj,e⟩;rw[h]at this;cases this
 .intro ha;rw[BV ha];decide
theorem ZN{pr:Nat->Bool}{n:Nat}(h:0<=Cv pr n):(Cv pr n).toNat<n/\pr (Cv pr n).toNat=true/\∀j,j<(Cv pr n).toNat->pr j=false:=by
 unfold Cv at h ⊢;split
 .rename_i i hi;rw[List.find?_range_eq_some]at hi;refine⟨by have:=List.mem_range.1 hi.2.1;simpa using this,by simpa using hi.1,fun j hj=>?_⟩;have:=hi.2.2 j (by simpa using hj);simpa using this
 .rename_i hn;rw[hn]at h;exact absurd h ae
theorem Tb{t:Nat}{v:Nat->Int}:Mo t v<0↔∀j,j<t->v j=0:=by
 unfold Mo;rw[Qn];exact⟨fun h j hj=>by simpa using h j hj,fun h j hj=>by simpa using h j hj⟩
theorem lzI_at{t:Nat}{v:Nat->Int}(h:0<=Mo t v):(Mo t v).toNat<t/\v (Mo t v).toNat≠0:=by
 obtain⟨h1,h2,-⟩:=ZN h;refine⟨h1,?_⟩;have h3:(v (Mo t v).toNat !=0)=true:=h2;simpa using h3
structure QW(p m:Nat)(ml:List Int)(N k:Nat)(rows:Nat->Nat->Int)(e:Mh):Prop where
 ech:Vi N e.a e.pl e.n
 sol:∀x,BY p m ml N e.n e.a x↔BY p m ml N k rows x
theorem BY.succ_iff{k:Nat}{rows:Nat->Nat->Int}{x:Nat->Int}:BY p m ml N (k+1) rows x↔BY p m ml N k rows x/\dt p m ml N (rows k) x=0:=
 ⟨fun h=>⟨fun i hi=>h i ac,h k ac⟩,fun h i hi=>by
  by_cases e:i=k
  .rw[e];exact h.2
  .exact h.1 i ac⟩
theorem YD(hp:2<=p)(hm:1<=m)(hF:Hf p m (lw ml)){k:Nat}{rows:Nat->Nat->Int}{e:Mh}(h:QW p m ml N k rows e)(hr:JA p m N (rows k)):QW p m ml N (k+1) rows (Gr p m ml N e (rows k)):=by
 have aJ:0<p^m:=Nat.pow_pos ac;have aD:JA p m N (e.red p m ml (rows k)):=KR hp hr _;have aF:∀x,BY p m ml N e.n e.a x->dt p m ml N (e.red p m ml (rows k)) x=dt p m ml N (rows k) x:=fun x hx=>NW hp _ hx;unfold Gr;split
 .rename_i hz;obtain⟨aC,aI⟩:=lzI_at hz;generalize hZ:(Mo N (e.red p m ml (rows k))).toNat=z at aC aI;obtain⟨r1,r2⟩:=aD z aC;have hk0:((Ar (p^m) (e.red p m ml (rows k) z):Nat):Int)=e.red p m ml (rows k) z:=Fy r1 r2;have aL:1<=Ar (p^m) (e.red p m ml (rows k) z):=by omega
  have aK:Ar (p^m) (e.red p m ml (rows k) z)<p^m:=B9 aJ _;obtain⟨c,hc⟩:=nA (ivz p m ml (Ar (p^m) (e.red p m ml (rows k) z)));have aG:Ai p m (lw ml) c (Ar (p^m) (e.red p m ml (rows k) z))=1:=by
   rw[<-hc];unfold ivz;rw[if_neg ac,AU];exact Lg hp hm hF aL aK
  rw[hc];have aH:∀j,j<e.n->e.red p m ml (rows k) (e.pl j)=0:=fun j hj=>Io hp hm h.ech _ (Nat.le_refl _) j hj;have aE:∀j,j<e.n->Az e.pl e.n z j=e.pl j:=fun j hj=>Ad _ _ ac;have aB:∀j,j<e.n->Az e.a e.n (BM p m ml c (e.red p m ml (rows k))) j=e.a j:=fun j hj=>Ad _ _ ac;refine⟨⟨fun i hi=>?_,fun i hi=>?_,fun i j hj hi=>?_⟩,fun x=>?_⟩
  .simp only at hi ⊢;by_cases ei:i=e.n
   .rw[ei,Ab];exact aC
   .rw[aE i ac];exact h.ech.lt i ac
  .simp only at hi ⊢;by_cases ei:i=e.n
   .rw[ei,Ab,Ab];show((Ai p m (lw ml) c (Ar (p^m) (e.red p m ml (rows k) z)):Nat):Int)=1
    rw[aG];rfl
   .rw[aE i ac,aB i ac];exact h.ech.one i ac
  .simp only at hi ⊢;rw[aE j ac];by_cases ei:i=e.n
   .rw[ei,Ab];show((Ai p m (lw ml) c (Ar (p^m) (e.red p m ml (rows k) (e.pl j))):Nat):Int)=0
    rw[aH j ac,Cf,AE ac];rfl
   .rw[aB i ac];exact h.ech.zer i j hj ac
  .simp only;rw[BY.succ_iff (k:=e.n),BY.succ_iff (k:=k),Ab,Xw hp];have e1:BY p m ml N e.n (Az e.a e.n (BM p m ml c (e.red p m ml (rows k)))) x↔BY p m ml N e.n e.a x:=
    ⟨fun h i hi=>by rw[<-aB i hi];exact h i hi,fun h i hi=>by rw[aB i hi];exact h i hi⟩
   rw[e1];constructor
   .rintro⟨a1,a2⟩;refine⟨(h.sol x).1 a1,?_⟩;rw[<-aF x a1];apply Classical.byContradiction;intro hne;have hcl:c≠0:=fun h0=>by
     rw[h0,BT ac]at aG;cases aG
    have aM:c<p^m:=by
     apply Classical.byContradiction;intro aA;rw[<-hc]at aA;unfold ivz at aA;rw[if_neg ac]at aA;exact aA (Kg ac _)
    have:=hF.ne_zero hp hm (a:=c) (b:=dt p m ml N (e.red p m ml (rows k)) x) ac aM ac (QA hp _ _);omega
   .rintro⟨a1,a2⟩;have a3:=(h.sol x).2 a1;exact⟨a3,by rw[aF x a3,a2,AE ac]⟩
 .rename_i hz;have h0:=Tb.1 (Int.not_le.1 hz);refine⟨h.ech,fun x=>?_⟩;rw[BY.succ_iff (k:=k),h.sol x];refine⟨fun a=>⟨a,?_⟩,fun a=>a.1⟩;rw[<-aF x ((h.sol x).2 a)];exact E7 hp h0
theorem Re(hp:2<=p)(hm:1<=m)(hF:Hf p m (lw ml)){rows:Nat->Nat->Int}{K:Nat}(hr:∀i,i<K->JA p m N (rows i)):∀k,k<=K->QW p m ml N k rows (Hi p m ml N rows k)
 | 0,_=>⟨⟨fun i hi=>absurd hi (Nat.not_lt_zero i),fun i hi=>absurd hi (Nat.not_lt_zero i),fun i j _ hi=>absurd hi (Nat.not_lt_zero i)⟩,fun x=>⟨fun _ i hi=>absurd hi (Nat.not_lt_zero i),fun _ i hi=>absurd hi (Nat.not_lt_zero i)⟩⟩
 | k+1,hk=>YD hp hm hF (Re hp hm hF hr k (by omega)) (hr k (by omega))
theorem QW.red_iff(hp:2<=p)(hm:1<=m){k:Nat}{rows:Nat->Nat->Int}{e:Mh}(h:QW p m ml N k rows e){v:Nat->Int}(hv:JA p m N v):Mo N (e.red p m ml v)<0↔Cl p m ml N k rows v:=by
 rw[Tb];have aA:∀x,BY p m ml N e.n e.a x->dt p m ml N (e.red p m ml v) x=dt p m ml N v x:=fun x hx=>NW hp _ hx;constructor
 .intro h0 x hx;rw[<-aA x ((h.sol x).2 hx)];exact E7 hp h0
 .intro hc j hj;have:=Vi.zero (ml:=ml) hp hm h.ech (fun i hi=>Io hp hm h.ech _ (Nat.le_refl _) i hi) (fun x hx=>by
   show dt p m ml N (e.red p m ml v) x=0
   rw[aA x hx];exact hc x ((h.sol x).1 hx)) hj
  obtain⟨r1,r2⟩:=KR (ml:=ml) (a:=e.a) (pl:=e.pl) hp hv e.n j hj;have e2:=Fy r1 r2;rw[this]at e2;exact e2.symm
theorem Iy(hp:2<=p)(hm:1<=m){k n:Nat}{rows l:Nat->Nat->Int}{e:Mh}(h:QW p m ml N k rows e)(hl:∀i,i<n->JA p m N (l i)):Jj p m ml N e l n<0↔∀i,i<n->Cl p m ml N k rows (l i):=by
 unfold Jj;rw[Qn];constructor
 .intro h0 i hi;have:=h0 i hi;rw[decide_eq_false_iff_not]at this;exact(h.red_iff hp hm (hl i hi)).1 ac
 .intro h0 i hi;rw[decide_eq_false_iff_not];have:=(h.red_iff hp hm (hl i hi)).2 (h0 i hi);omega
end
def AF(L:List Lv):List (List Int):=L.flatMap fun l=>l.reps
theorem Lu{L:List Lv}{i:Nat}{l:Lv}(h:L[i]?=some l):AF (L.take (i+1))=AF (L.take i)++l.reps:=by
 unfold AF;rw[List.take_add_one,h];simp
theorem Qm(L:List Lv)(i:Nat):(AF (L.take i)).length<=(AF L).length:=by
 have:AF L=AF (L.take i)++AF (L.drop i):=by
  unfold AF;rw[<-List.flatMap_append,List.take_append_drop]
 rw[this,List.length_append];omega
open Classical in
noncomputable def Bf (d:Int) (L:List Lv):Int:=if d<1∨64<d then 4 else if Es d (AF L)=0/\L=Cd d.toNat ((AF L).map CL) d.toNat then 0 else 5
theorem QK{n:Nat}{S:List (Nat->Nat)}{m:Nat}{l:Lv}(h:l∈Cd n S m):l.orb.length<=n/\l.reps.length=l.orb.length:=by
 unfold Cd at h;obtain⟨h1,h2⟩:=List.mem_filter.1 h;obtain⟨b,_,rfl⟩:=List.mem_map.1 h1;refine⟨by show(CN (Bp S b n)).length<=n;rw[Ck];exact Fu S b n,?_⟩;show(Eb n S b n).length=(CN (Bp S b n)).length
 unfold Eb;rw[List.length_map,Ck]
structure Hg(w0 wr:World)(gv:Value)(M:List (List Int))(vals:List Value):Prop where
 own:wr.ownsRow w0.heap.size 22 1 gv M.length vals
 row:∀(i:Nat) (r:List Int) (u:Value),M[i]?=some r->vals[i]?=some u->Al w0 u r
 ex:Ex w0 wr
theorem Hg.nil(w:World):Hg w w (.slice none 0 0) [] []:=⟨World.ownsRow_nil _ _ _ _,fun i r u h=>by simp at h,Ex.refl _⟩
theorem Hg.len{w0 wr:World}{gv:Value}{M:List (List Int)}{vals:List Value}(h:Hg w0 wr gv M vals):vals.length=M.length:=by have:=h.own.1;omega
theorem Hg.later{w0 wr w':World}{gv:Value}{M:List (List Int)}{vals:List Value}(h:Hg w0 wr gv M vals)(hx:Ex wr w'):Hg w0 w' gv M vals:=⟨Aj h.own hx,h.row,h.ex.trans hx⟩
theorem Hg.msl{w0 wr:World}{gv:Value}{M:List (List Int)}{vals:List Value}(h:Hg w0 wr gv M vals):BZ wr gv M:=⟨vals,Sl.own h.own,fun i r u a b=>(h.row i r u a b).ex h.ex⟩
theorem Hg.app{w0 wr w':World}{gv gv':Value}{M R:List (List Int)}{vals us:List Value}(h:Hg w0 wr gv M vals)(hr:∀(i:Nat) (r:List Int) (u:Value),R[i]?=some r->us[i]?=some u->Al w0 u r)
  (ho:w'.ownsRow w0.heap.size 22 1 gv' (M.length+R.length) (vals++us)) (hx:Ex w0 w'):Hg w0 w' gv' (M++R) (vals++us):=by
 have hn:=h.len;refine⟨by rw[List.length_append];exact ho,fun i r u h1 h2=>?_,hx⟩;by_cases e:i<M.length
 .rw[List.getElem?_append_left e]at h1;rw[List.getElem?_append_left ac]at h2;exact h.row i r u h1 h2
 .rw[List.getElem?_append_right ac]at h1 h2;rw[hn]at h2;exact hr _ r u h1 h2
theorem DX.open3{w:World}{v:Value}{L:List Lv}(h:DX w v L):∃a cap,v= .slice a L.length cap/\L.length<=cap/\cap<=maxLen/\
  (0<L.length->∃b o,a=some ⟨b,o,none⟩/\∀(i:Nat) (l:Lv),L[i]?=some l->∃u r,w.cell? ⟨b,o+i*3,none⟩=some (.int .i64 l.pt)/\w.cell? ⟨b,o+i*3+1,none⟩=some u/\w.cell? ⟨b,o+i*3+2,none⟩=some r/\Al w u l.orb/\BZ w r l.reps):=by
 obtain⟨a,cap,h1,h2,h3,h4⟩:=h.open;refine⟨a,cap,h1,h2,h3,fun hn=>?_⟩;obtain⟨b,o,h5,h6⟩:=h4 hn;refine⟨b,o,h5,fun i l hl=>?_⟩;obtain⟨u,r,k1,k2,k3,k4,k5⟩:=h6 i l hl;exact⟨u,r,by rw[Nat.mul_comm i 3];exact k1,by rw[Nat.mul_comm i 3,Nat.add_assoc];exact k2,by rw[Nat.mul_comm i 3,Nat.add_assoc];exact k3,k4,k5⟩
theorem Te{l k:List Lv}(hl:l.length=k.length)(h:∀j,j<l.length->l[j]?=k[j]?):l=k:=by
 exact zcs
theorem BO(w:World)(c:Int)(v:Value):(w.alloc (.cells #[c,v] 43)).cell? (w.heap.size,0)=some (.int .i64 c)/\
  (w.alloc (.cells #[c,v] 43)).cell? (w.heap.size,1)=some v/\Ex w (w.alloc (.cells #[c,v] 43)):=
 ⟨ag,ag,(Ex.refl _).alloc _⟩
theorem Ef(w:World)(c:Int)(u v:Value):(w.alloc (.cells #[c,u,v] 90)).cell? (w.heap.size,0)=some (.int .i64 c)/\
  (w.alloc (.cells #[c,u,v] 90)).cell? (w.heap.size,1)=some u/\(w.alloc (.cells #[c,u,v] 90)).cell? (w.heap.size,2)=some v/\Ex w (w.alloc (.cells #[c,u,v] 90)):=
 ⟨ag,ag,ag,(Ex.refl _).alloc _⟩
theorem zct{P:Prop}(h:P:=by
 go_wp2_with fail
 go_ret;exact⟨Af HR.o,aJ.o.trans (aA.o.ex.trans EB.o)⟩):P:=h
theorem ER(w:World)(d:Int)(L:List Lv)(lv:Value)(hL:DX w lv L)(hg:(AF L).length<=1000):
  Calls Tryz.prog 70 #[.agg #[d,lv]] w fun r w'=>r= .returned (.int .i64 (Bf d L))/\Ex w w':=by
 obtain⟨d0,d1,e0⟩:=BO w d lv;obtain⟨za,zc,rfl,z1,z2,z3⟩:=(hL.ex e0).open3;unfold maxLen at z2;have HL:=Aa (hL.ex e0);have Z3:=Aa z3;clear z3 hL;have HG:=Aa (H6 (w.alloc (.cells #[d,.slice za L.length zc] 43)) d);go_enter Tryz.func70,Tryz.ntmps70
 go_wp2_with fail
 obtain⟨q,hq⟩:=nA w.heap.size;rw[hq]at d0 d1
 try simp only[hq]
 clear hq;generalize w.alloc (.cells #[d,.slice za L.length zc] 43)=w1 at *;have aJ:=Aa e0;clear e0;refine HG.o.mono ?_;rintro e wd⟨rfl,rfl⟩;by_cases hd:d<1∨64<d
 .have HR:=Aa (show(4:Int)=Bf d L from by unfold Bf;rw[if_pos hd]);have aR:Mr d=4:=by unfold Mr;rw[if_pos hd]
  rw[aR];clear hd aR;go_wp2_with fail
  go_ret;exact⟨Af HR.o,aJ.o⟩
 .have aR:Mr d=0:=by unfold Mr;rw[if_neg hd]
  rw[aR];obtain⟨D,rfl⟩:∃D:Nat,d=D:=⟨d.toNat,ac⟩;have hD1:1<=D:=bf;have hD2:D<=64:=ac;have aE:=Aa (show(¬(Es D (AF L)=0/\L=Cd D ((AF L).map CL) D))->5=Bf D L from fun h=>by unfold Bf;rw[if_neg hd];exact(if_neg h).symm);have bG:=Aa (show Es D (AF L)=0->L=Cd D ((AF L).map CL) D->0=Bf D L from fun h k=>by unfold Bf;rw[if_neg hd];exact(if_pos ⟨h,k⟩).symm);clear hd aR;have D0:=Aa d0;have D1:=Aa d1;by_cases hln:D<L.length
  .have HR:=Aa (aE.o <| by
    rintro⟨_,h⟩;have:=congrArg List.length h;have:=QL D ((AF L).map CL) D;omega)
   have h1:(D:Int)<(L.length:Int):=ac;go_wp2_with fail
   go_ret;exact⟨Af HR.o,aJ.o⟩
  .have h1:¬(D:Int)<(L.length:Int):=by omega
   go_wp2_with fail
   clear d0 d1
   go_loopw [4,27] (fun gv' k' wr=>∃(k:Nat) (vals:List Value),k<=L.length/\k'= .int .i64 k/\Hia (Hg w1 wr gv' (AF (L.take k)) vals)) (fun _ k' _=>L.length-(intOf k').toNat)
   case atStart=>exact⟨0, [],ac,rfl,Aa (Hg.nil w1)⟩
   case round=>
    obtain⟨k,vals,hk,rfl,aA⟩:=hrel;have cA:=Qm L k;obtain⟨ga,gc,rfl⟩:=Ae aA.o.own;by_cases hkl:k<L.length
    .obtain⟨l,hl⟩:∃l,L[k]?=some l:=⟨_,List.getElem?_eq_getElem hkl⟩;obtain⟨zb,zo,rfl,aO⟩:=Z3.o ac;obtain⟨u,r,c0,c1,c2,hu,hr⟩:=aO k l hl;have c0:=aA.o.ex.cell c0;have c1:=aA.o.ex.cell c1;have c2:=aA.o.ex.cell c2;have d0:=aA.o.ex.cell D0.o;have d1:=aA.o.ex.cell D1.o;obtain⟨oa,oc,rfl,_,_,_⟩:=hu.open;obtain⟨ra,rc,rfl,_,_,_⟩:=hr.open;have i1:(0:Int)<=(k:Int):=by omega
     have i2:(k:Int)<(L.length:Int):=ac;obtain⟨p,hp⟩:=nA l.pt;rw[hp]at c0;obtain⟨bE,HPE,HU,aU⟩:=Eq hl hp hu hr;obtain⟨b0,b1,b2,eb⟩:=Ef wr p (.slice oa l.orb.length oc) (.slice ra l.reps.length rc);have bd0:=eb.cell d0;have EB:=Aa eb;clear aO hl hp hu hr d1 eb;by_cases hbad:D<l.orb.length
     .have HR:=Aa (aE.o <| by
       rintro⟨_,h⟩;have:=(QK (h ▸ List.mem_of_getElem? bE.o)).1;omega)
      have h2:(D:Int)<(l.orb.length:Int):=ac;clear hbad;exact zct
     .have h2:¬(D:Int)<(l.orb.length:Int):=by omega
      by_cases hne:l.reps.length=l.orb.length
      .have h3:((l.reps.length:Int) !=(l.orb.length:Int))=false:=by simp;omega
       have HNE:=Aa hne;clear hne hbad;obtain⟨us,bO,_,bL⟩:=aU.o.vals;have bP:=Aa bL;have bR:=Aa bO;clear bL bO;have cG:=Aa (show ∀u∈us,u.oneCell'=true from fun u hu=>by
        obtain⟨i,hi,e⟩:=List.getElem_of_mem hu;have hul:us.length=l.reps.length:=by have:=bR.o.1;omega
        obtain⟨_,_,rfl,_⟩:=(bP.o i _ u (List.getElem?_eq_getElem ac) au).open;rfl)
       have aZ:=Qm L (k+1);have bY:=Aa (Lu bE.o);rw[bY.o,List.length_append]at aZ;have HB:=Aa (Nat.le_trans aA.o.ex.size EB.o.size);have bU:=Aa (Aj aA.o.own EB.o);have cC:=Aa (bR.o.ex (aA.o.ex.trans EB.o));go_wp2_with (at_builtin;refine Bl _ rfl _ _ 37 rfl w1.heap.size 22 (.slice none 0 0) 1 24 Tryz.underlying37 BU rfl ae (.slice ga (AF (L.take k)).length gc) (AF (L.take k)).length vals rfl bU.o (.slice ra l.reps.length rc) l.reps.length us rfl cC.o cG.o ai ac HB.o ?_;intro v' w' aK hg hb;have cI:=Aa (aA.o.app (R:=l.reps) (us:=us) (fun i r u a b=>bP.o i r u a b) aK (Ex.grown (aA.o.ex.trans EB.o) bU.o (Nat.le_refl _) hg));obtain⟨oa',oc',rfl⟩:=Ae aK;clear aK hg hb)
       go_roundw
       case rel=>exact⟨k+1,_,ac,by go_num,by rw[bY.o];exact cI⟩
       case measure=>simp[intOf];omega
      .have h3:((l.reps.length:Int) !=(l.orb.length:Int))=true:=by simp;omega
       have HR:=Aa (aE.o <| by
        rintro⟨_,h⟩;have:=(QK (h ▸ List.mem_of_getElem? bE.o)).2;omega)
       clear hbad hne;exact zct
    .obtain rfl:k=L.length:=by omega
     have d0:=aA.o.ex.cell D0.o;have bA:=ND wr D (AF (L.take L.length)) _ aA.o.msl ac;rw[List.take_length]at bA;have bI:=Aa bA;have bM:AF (L.take L.length)=AF L:=by rw[List.take_length]
     rw[bM];have aG:=Aa aA.o.ex;clear bA bM aA cA;by_cases hg0:Es D (AF L)=0
     .have aM:Dd D (AF L)=(⟨D,Cd D ((AF L).map CL) D⟩,0):=by unfold Dd;rw[hg0,if_neg ae];rfl
      have bX:=Aa (bG.o hg0);have bF:=Aa (show L≠Cd D ((AF L).map CL) D->5=Bf D L from fun h=>aE.o fun k=>h k.2);obtain⟨K,hK⟩:=nA (Cd D ((AF L).map CL) D);rw[hK]at aM bX bF;have aY:=Aa aM;clear hK aM hg0;by_cases hkl:K.length=L.length
      .have hb:((K.length:Int) !=(L.length:Int))=false:=by simp;omega
       have bV:=Aa hkl;clear hkl;go_wp2_with (go_at_call 123;refine bI.o.mono ?_;rintro e w5⟨⟨kv,rfl,aB⟩,aC⟩;rw[aY.o]at aB ⊢;dsimp only at aB ⊢;have cH:=Aa aB;obtain⟨ka,kc,rfl,_,_,aQ⟩:=aB.open3;have bW:=Aa aQ;have aL:=Aa (aG.o.trans aC);have d0:=(aG.o.trans aC).cell D0.o;have d1:=(aG.o.trans aC).cell D1.o;obtain⟨b0,b1,eb⟩:=BO w5 D (.slice ka K.length kc);have e1:=eb.cell d1;have EB:=Aa eb;clear aB aQ aC eb)
       go_loopw [72] (fun j' wr=>∃(j:Nat),j<=L.length/\j'= .int .i64 j/\Hia (∀i,i<j->L[i]?=K[i]?)/\Hia (Ex (w5.alloc (.cells #[D,.slice ka K.length kc] 43)) wr)) (fun j' _=>L.length-(intOf j').toNat)
       case atStart=>exact⟨0,ac,rfl,Aa (fun i h=>ac),Aa (Ex.refl _)⟩
       case round=>
        clear d0 d1 e1;obtain⟨j,hj,rfl,aD,aF⟩:=hrel;by_cases hjl:j<L.length
        .obtain⟨l,hl⟩:∃l,L[j]?=some l:=⟨_,List.getElem?_eq_getElem hjl⟩;have cB:j<K.length:=by have:=bV.o;omega
         obtain⟨k,hk⟩:∃k,K[j]?=some k:=⟨_,List.getElem?_eq_getElem cB⟩;obtain⟨zb,zo,rfl,aO⟩:=Z3.o ac;obtain⟨yb,yo,rfl,bK⟩:=bW.o ac;have aT:=Aa ((aL.o.trans EB.o).trans aF.o);obtain⟨u,r,c0,c1,c2,hu,hr⟩:=aO j l hl;obtain⟨v,s,f0,f1,f2,hv,hs⟩:=bK j k hk;have c0:=aT.o.cell c0;have c1:=aT.o.cell c1;have c2:=aT.o.cell c2;have f0:=(EB.o.trans aF.o).cell f0;have f1:=(EB.o.trans aF.o).cell f1;have f2:=(EB.o.trans aF.o).cell f2;have b1:=aF.o.cell b1;obtain⟨oa,oc,rfl,_,_,_⟩:=hu.open;obtain⟨ra,rc,rfl,_,_,_⟩:=hr.open;obtain⟨pa,pc,rfl,_,_,_⟩:=hv.open;obtain⟨sa,sc,rfl,_,_,_⟩:=hs.open;have i1:(0:Int)<=(j:Int):=bf;have i2:(j:Int)<(L.length:Int):=ac;have i3:(j:Int)<(K.length:Int):=ac;obtain⟨p,hp⟩:=nA l.pt;rw[hp]at c0;obtain⟨t,ht⟩:=nA k.pt;rw[ht]at f0;obtain⟨aV,aW,bS,bT⟩:=Eq hl hk hp ht;obtain⟨a0,a1,a2,ea⟩:=Ef wr p (.slice oa l.orb.length oc) (.slice ra l.reps.length rc);have f0:=ea.cell f0;have f1:=ea.cell f1;have f2:=ea.cell f2;have b1:=ea.cell b1;obtain⟨g0,g1,g2,eg⟩:=Ef (wr.alloc (.cells #[p,.slice oa l.orb.length oc,.slice ra l.reps.length rc] 90)) t (.slice pa k.orb.length pc) (.slice sa k.reps.length sc);obtain⟨cF,cE,aU,bQ,cD,bB⟩:=To ((hu.ex aT.o).ex (ea.trans eg)) (hv.ex ((EB.o.trans aF.o).trans (ea.trans eg))) ((hr.ex aT.o).ex (ea.trans eg)) (hs.ex ((EB.o.trans aF.o).trans (ea.trans eg))) (aF.o.trans (ea.trans eg)) ((aJ.o.trans (aL.o.trans EB.o)).trans (aF.o.trans (ea.trans eg)));have a0:=eg.cell a0;have a1:=eg.cell a1;have a2:=eg.cell a2;have bN:(wr.alloc (.cells #[p,.slice oa l.orb.length oc,.slice ra l.reps.length rc] 90)).heap.size=wr.heap.size+1:=ag;rw[bN]at g0 g1 g2;clear aO bK hl hk hp ht hu hv hr hs ea eg bN;have bH:=Aa (show(L[j]?≠K[j]?)->5=Bf D L from fun h=>bF.o fun e=>h cj);by_cases hpt:p=t
         .subst hpt;have bZ:(p !=p)=false:=by simp
          have A2:=Aa a2;have G2:=Aa g2;have aN:=Hb ((wr.alloc (.cells #[p,.slice oa l.orb.length oc,.slice ra l.reps.length rc] 90)).alloc (.cells #[p,.slice pa k.orb.length pc,.slice sa k.reps.length sc] 90)) l.orb k.orb _ _ cF.o cE.o;by_cases DV:l.orb=k.orb
          .rw[decide_eq_true DV]at aN;have aX:=Aa aN;clear aN;by_cases hre:l.reps=k.reps
           .have HE:=Aa (show L[j]?=K[j]? from by
             rw[aV.o,aW.o];have e1:=bS.o;have e2:=bT.o;cases l;cases k
             simp only at DV hre e1 e2;rw[DV,hre,e1,e2])
            have bJ:=Aa (show ∀i,i<j+1->L[i]?=K[i]? from fun i hi=>by
             by_cases e:i=j
             .subst e;exact HE.o
             .exact aD.o i ac)
            have bD:=Aa (decide_eq_true hre);clear DV hre aD;go_wp2_with (first|(go_at_call 101;refine aX.o.mono ?_;rintro e w6⟨rfl,n6,aI⟩;have X6:=(show Ex ((wr.alloc (.cells #[p,.slice oa l.orb.length oc,.slice ra l.reps.length rc] 90)).alloc (.cells #[p,.slice pa k.orb.length pc,.slice sa k.reps.length sc] 90)) w6 from by rw[aI];exact(Ex.refl _).drewN n6);have a2:=X6.cell A2.o;have g2:=X6.cell G2.o;have aH:=D9 w6 l.reps k.reps _ _ (aU.o.ex X6) (bQ.o.ex X6);rw[bD.o]at aH;have aH:=Aa aH;have aS:=Aa X6;clear aI X6)|(go_at_call 128;refine aH.o.mono ?_;rintro e w7⟨rfl,n7,aP⟩;have bC:=Aa (aS.o.trans (show Ex w6 w7 from by rw[aP];exact(Ex.refl w6).drewN n7));clear aP))
            go_roundw
            case rel=>exact⟨j+1,ac,by go_num,bJ,Aa (cD.o.trans bC.o)⟩
            case measure=>simp[intOf];omega
           .have HR:=Aa (bH.o (by
             rw[aV.o,aW.o];intro e;injection e with e;exact hre cj))
            have bD:=Aa (decide_eq_false hre);clear DV hre aD;go_wp2_with (first|(go_at_call 101;refine aX.o.mono ?_;rintro e w6⟨rfl,n6,aI⟩;have X6:=(show Ex ((wr.alloc (.cells #[p,.slice oa l.orb.length oc,.slice ra l.reps.length rc] 90)).alloc (.cells #[p,.slice pa k.orb.length pc,.slice sa k.reps.length sc] 90)) w6 from by rw[aI];exact(Ex.refl _).drewN n6);have a2:=X6.cell A2.o;have g2:=X6.cell G2.o;have aH:=D9 w6 l.reps k.reps _ _ (aU.o.ex X6) (bQ.o.ex X6);rw[bD.o]at aH;have aH:=Aa aH;have aS:=Aa X6;clear aI X6)|(go_at_call 128;refine aH.o.mono ?_;rintro e w7⟨rfl,n7,aP⟩;have bC:=Aa (aS.o.trans (show Ex w6 w7 from by rw[aP];exact(Ex.refl w6).drewN n7));clear aP))
            go_ret;exact⟨Af HR.o,bB.o.trans bC.o⟩
          .have HR:=Aa (bH.o (by
            rw[aV.o,aW.o];intro e;injection e with e;exact DV cj))
           rw[decide_eq_false DV]at aN;have aX:=Aa aN;clear aN DV aD;go_wp2_with (go_at_call 101;refine aX.o.mono ?_;rintro e w6⟨rfl,n6,aI⟩;have aS:=Aa (show Ex ((wr.alloc (.cells #[p,.slice oa l.orb.length oc,.slice ra l.reps.length rc] 90)).alloc (.cells #[p,.slice pa k.orb.length pc,.slice sa k.reps.length sc] 90)) w6 from by rw[aI];exact(Ex.refl _).drewN n6);clear aI)
           go_ret;exact⟨Af HR.o,bB.o.trans aS.o⟩
         .have bZ:(p !=t)=true:=by simpa using hpt
          have HR:=Aa (bH.o (by
           rw[aV.o,aW.o];intro e;injection e with e;have e1:=bS.o;have e2:=bT.o;exact hpt (by rw[<-e1,<-e2,e])))
          clear hpt;go_wp2_with fail
          go_ret;exact⟨Af HR.o,bB.o⟩
        .obtain rfl:j=L.length:=by omega
         have HR:=Aa (bX.o (Te bV.o.symm aD.o));go_wp2_with fail
         go_ret;exact⟨Af HR.o,aJ.o.trans ((aL.o.trans EB.o).trans aF.o)⟩
      .have hb:((K.length:Int) !=(L.length:Int))=true:=by simp;omega
       have HR:=Aa (bF.o fun e=>hkl (by rw[<-e]));clear hkl;go_wp2_with (go_at_call 123;refine bI.o.mono ?_;rintro e w5⟨⟨kv,rfl,aB⟩,aC⟩;rw[aY.o]at aB ⊢;dsimp only at aB ⊢;have cH:=Aa aB;obtain⟨ka,kc,rfl,_,_,aQ⟩:=aB.open3;have bW:=Aa aQ;have aL:=Aa (aG.o.trans aC);have d0:=(aG.o.trans aC).cell D0.o;have d1:=(aG.o.trans aC).cell D1.o;obtain⟨b0,b1,eb⟩:=BO w5 D (.slice ka K.length kc);have e1:=eb.cell d1;have EB:=Aa eb;clear aB aQ aC eb)
       go_ret;exact⟨Af HR.o,aJ.o.trans (aL.o.trans EB.o)⟩
     .obtain⟨E,hE⟩:=nA (Es D (AF L));have aM:Dd D (AF L)=(⟨0, []⟩,E):=by unfold Dd;rw[if_pos hg0,hE]
      have aY:=Aa aM;have HR:=Aa (aE.o fun h=>hg0 h.1);rw[hE]at hg0;have hb:(E !=0)=true:=by simpa using hg0
      clear aM hE hg0;go_wp2_with (go_at_call 123;refine bI.o.mono ?_;rintro e w5⟨⟨kv,rfl,aB⟩,aC⟩;rw[aY.o]at aB ⊢;dsimp only at aB ⊢;obtain⟨ka,kc,rfl,_,_,_⟩:=aB.open3;have aL:=Aa (aG.o.trans aC);have d0:=(aG.o.trans aC).cell D0.o;have d1:=(aG.o.trans aC).cell D1.o;obtain⟨b0,b1,eb⟩:=BO w5 0 (.slice ka 0 kc);have EB:=Aa eb;clear aB aC eb)
      go_ret;exact⟨Af HR.o,aJ.o.trans (aL.o.trans EB.o)⟩
theorem UJ{P:(Nat->Nat)->Prop}(h:∃f,P f)(n:Nat):∃f,P f/\∀g,P g->E3 n f g:=by
 have aC:∀i,∃f,P f/\∀g,P g->(∀j,j<i->f j=g j)∨∃k,k<i/\(∀j,j<k->f j=g j)/\f k<g k:=by
  intro i
  induction i with
  | zero=>
   obtain⟨f,hf⟩:=h;exact⟨f,hf,fun g _=> .inl fun j hj=>ac⟩
  | succ i ih=>
   obtain⟨f,hf,hl⟩:=ih;have aA:∀N f',P f'->(∀j,j<i->f j=f' j)->f' i<=N->∃aB,P aB/\(∀j,j<i->f j=aB j)/\∀g,P g->(∀j,j<i->f j=g j)->aB i<=g i:=by
    intro N
    induction N with
    | zero=>exact fun f' h1 h2 h3=>⟨f',h1,h2,fun g _ _=>ac⟩
    | succ N ihN=>
     intro f' h1 h2 h3;by_cases hex:∃g,P g/\(∀j,j<i->f j=g j)/\g i<=N
     .obtain⟨g,g1,g2,g3⟩:=hex;exact ihN g g1 g2 g3
     .refine⟨f',h1,h2,fun g g1 g2=>?_⟩;apply Classical.byContradiction;intro hn;exact hex ⟨g,g1,g2,ac⟩
   obtain⟨f',h1,h2,h3⟩:=aA (f i) f hf (fun _ _=>rfl) (Nat.le_refl _);refine⟨f',h1,fun g hg=>?_⟩;rcases hl g hg with h4|⟨k,k1,k2,k3⟩
   .have h5:=h3 g hg h4;by_cases e:f' i=g i
    .exact .inl fun j hj=>by
      by_cases e2:j=i
      .subst e2;exact e
      .rw[<-h2 j ac,h4 j ac]
    .exact .inr ⟨i,ac,fun j hj=>by rw[<-h2 j hj,h4 j hj],ac⟩
   .exact .inr ⟨k,ac,fun j hj=>by rw[<-h2 j ac,k2 j hj],by rw[<-h2 k k1];exact k3⟩
 obtain⟨f,hf,hl⟩:=aC n;exact⟨f,hf,hl⟩
open Classical in
theorem CJ {S:List (Nat->Nat)} {b m x:Nat}:x∈Bp S b m↔x<m/\∃f,Gn S f/\A5 b f/\f b=x:=by
 unfold Bp;rw[List.mem_filter,List.mem_range,decide_eq_true_eq]
theorem DS{n:Nat}{S:List (Nat->Nat)}(hS:∀s∈S,Be n s){b x:Nat}(h:∃f,Gn S f/\A5 b f/\f b=x):EO n S b x (Fi n S b x):=by
 obtain⟨f,⟨h1,h2,h3⟩,h4⟩:=UJ (P:=fun f=>Gn S f/\A5 b f/\f b=x) h n;have hl:EO n S b x f:=⟨h1,h2,h3,fun g k1 k2 k3=>h4 g ⟨k1,k2,k3⟩⟩;rw[Kf hS hl];exact hl
inductive Mg(n:Nat)(S:List (Nat->Nat)):Nat->List Nat->Prop
 | nil:Mg n S n []
  | skip {b:Nat} {bs:List Nat}:b<n->(Bp S b n).length<=1->Mg n S (b+1) bs->Mg n S b bs
 | cons {b:Nat} {bs:List Nat}:b<n->1<(Bp S b n).length->Mg n S (b+1) bs->Mg n S b (b :: bs)
theorem Mg.le{n:Nat}{S:List (Nat->Nat)}{b:Nat}{bs:List Nat}(h:Mg n S b bs):b<=n:=by
 cases h <;> omega
theorem Mg.ge{n:Nat}{S:List (Nat->Nat)}{b:Nat}{bs:List Nat}(h:Mg n S b bs):∀c∈bs,b<=c/\c<n:=by
 induction h with
 | nil=>intro c hc;cases hc
 | skip h1 _ _ ih=>intro c hc;have:=ih c hc;omega
 | cons h1 _ _ ih=>
  intro c hc;rcases List.mem_cons.1 hc with e|e
  .subst e;omega
  .have:=ih c e;omega
noncomputable def Eo(n:Nat)(S:List (Nat->Nat))(k:Nat):List Nat:=((List.range k).map fun i=>n-k+i).filter fun b=>decide (1<(Bp S b n).length)
theorem Vs(n:Nat)(S:List (Nat->Nat)):∀k,k<=n->Mg n S (n-k) (Eo n S k)
 | 0,_=>by
  rw[Nat.sub_zero];exact .nil
 | k+1,hk=>by
  have ih:=Vs n S k ac;have he:((List.range (k+1)).map fun i=>n-(k+1)+i)=(n-(k+1)) :: ((List.range k).map fun i=>n-k+i):=by
   rw[List.range_succ_eq_map,List.map_cons,List.map_map]
   congr 1
   exact List.map_congr_left fun i _=>by show n-(k+1)+(i+1)=n-k+i;omega
  have hb:n-k=n-(k+1)+1:=ac;rw[hb]at ih;by_cases h:1<(Bp S (n-(k+1)) n).length
  .have:Eo n S (k+1)=(n-(k+1)) :: Eo n S k:=by
    unfold Eo;rw[he,List.filter_cons,if_pos (decide_eq_true h)]
   rw[this];exact .cons ac h ih
  .have:Eo n S (k+1)=Eo n S k:=by
    unfold Eo;rw[he,List.filter_cons,if_neg ay]
   rw[this];exact .skip ac ac ih
noncomputable def DF(n:Nat)(S:List (Nat->Nat)):List Nat:=(List.range n).filter fun b=>decide (1<(Bp S b n).length)
theorem Ik(n:Nat)(S:List (Nat->Nat)):Mg n S 0 (DF n S):=by
 have h:=Vs n S n (Nat.le_refl _);rw[Nat.sub_self]at h;have:Eo n S n=DF n S:=by
  unfold Eo DF
  congr 1
  rw[Nat.sub_self];simp
 rwa[this]at h
theorem EJ(n:Nat)(S:List (Nat->Nat)):Cd n S n=(DF n S).map (Fj n S):=by
 unfold Cd DF;rw[List.filter_map]
 congr 1
 apply List.filter_congr;intro b _;show decide (1<(CN (Bp S b n)).length)=_
 rw[Ck]
theorem Za{n:Nat}{S:List (Nat->Nat)}{b:Nat}(hb:b<n)(h:(Bp S b n).length<=1){f:Nat->Nat}(hf:Gn S f)(hP:Be n f)(hF:A5 b f):A5 (b+1) f:=fun i hi=>by
 by_cases e:i=b
 .subst e;have h1:i∈Bp S i n:=CJ.2 ⟨hb,Ek,.one,Jr _,rfl⟩;have h2:f i∈Bp S i n:=CJ.2 ⟨hP.lt i hb,f,hf,hF,rfl⟩;obtain⟨j,hj,e1⟩:=List.getElem_of_mem h1;obtain⟨k,hk,e2⟩:=List.getElem_of_mem h2;have:j=k:=by omega
  subst this;rw[<-e2,e1]
 .exact hF i ac
noncomputable def Ei(n:Nat)(S:List (Nat->Nat)):List Nat->(Nat->Nat)->Nat->(Nat->Nat) × Nat
 | [],f,k=>(f,k)
 | b :: bs,f,k=>if f b∈Bp S b n then Ei n S bs (Aq f (A8 n (Fi n S b (f b)))) (k+1) else(f,k)
theorem Pt{n:Nat}{S:List (Nat->Nat)}(hS:∀s∈S,Be n s):∀(bs:List Nat) (f:Nat->Nat) (k:Nat),Be n f->Be n (Ei n S bs f k).1
 | [],f,k,h=>h
 | b :: bs,f,k,h=>by
  unfold Ei;split
  .rename_i hm;exact Pt hS bs _ _ (h.comp ((DS hS (CJ.1 hm).2).gn.isP hS).inv)
  .exact h
noncomputable def B3(n:Nat)(S:List (Nat->Nat))(bs:List Nat):List (Nat->Nat):=bs.flatMap fun b=>(Bp S b n).map (Fi n S b)
theorem G6(n:Nat)(S:List (Nat->Nat))(bs:List Nat):AF (bs.map (Fj n S))=(B3 n S bs).map (li n):=by
 unfold AF B3;rw[List.flatMap_map,List.map_flatMap]
 congr 1
 funext b;show Eb n S b n=_
 unfold Eb;rw[List.map_map];rfl
theorem MZ{n:Nat}{S:List (Nat->Nat)}(hS:∀s∈S,Be n s){bs:List Nat}{r:Nat->Nat}(h:r∈B3 n S bs):∃b∈bs,Gn S r/\A5 b r:=by
 unfold B3 at h;obtain⟨b,hb,h1⟩:=List.mem_flatMap.1 h;obtain⟨x,hx,rfl⟩:=List.mem_map.1 h1;have:=DS hS (CJ.1 hx).2;exact⟨b,hb,this.gn,this.fix⟩
theorem FR{n:Nat}{S:List (Nat->Nat)}(hS:∀s∈S,Be n s)(bs:List Nat):∀r∈B3 n S bs,Be n r:=fun r hr=>by
 obtain⟨_,_,h,_⟩:=MZ hS hr;exact h.isP hS
theorem Ue{n:Nat}{S:List (Nat->Nat)}(hS:∀s∈S,Be n s){b:Nat}(hb:b<n){f:Nat->Nat}(hf:Gn S f)(hF:A5 b f):
  f b∈Bp S b n/\Gn S (Aq f (A8 n (Fi n S b (f b))))/\A5 (b+1) (Aq f (A8 n (Fi n S b (f b))))/\Aq (Aq f (A8 n (Fi n S b (f b)))) (Fi n S b (f b))=f:=by
 have hP:=hf.isP hS;have hm:f b∈Bp S b n:=CJ.2 ⟨hP.lt b hb,f,hf,hF,rfl⟩;have hl:=DS hS (CJ.1 hm).2;have aA:=hl.gn.isP hS;exact⟨hm,hf.mul (hl.gn.inv hS),hF.div aA hl.fix hl.at_,aA.cancel⟩
theorem Pr{n:Nat}{S:List (Nat->Nat)}(hS:∀s∈S,Be n s){b:Nat}{bs:List Nat}(h:Mg n S b bs):∀(f:Nat->Nat) (k:Nat),Gn S f->A5 b f->Ei n S bs f k=(Ek,k+bs.length)/\Gn (B3 n S bs) f:=by
 induction h with
 | nil=>
  intro f k hf hF;have:=A5.all (hf.isP hS) hF;subst this;exact⟨rfl,.one⟩
 | skip h1 h2 _ ih=>exact fun f k hf hF=>ih f k hf (Za h1 h2 hf (hf.isP hS) hF)
 | @cons b bs h1 h2 _ ih=>
  intro f k hf hF;obtain⟨k1,k2,k3,k4⟩:=Ue hS h1 hf hF;obtain⟨m1,m2⟩:=ih _ (k+1) k2 k3;constructor
  .unfold Ei;rw[if_pos k1,m1,List.length_cons,show k+1+bs.length=k+(bs.length+1) by omega]
  .rw[<-k4];refine Gn.mul (m2.mono fun s hs=>Gn.of ?_) (Gn.of ?_)
   .unfold B3 at hs ⊢;rw[List.flatMap_cons];exact List.mem_append_right _ hs
   .unfold B3;rw[List.flatMap_cons];exact List.mem_append_left _ (List.mem_map.2 ⟨_,k1,rfl⟩)
theorem SP{n:Nat}{S:List (Nat->Nat)}(hS:∀s∈S,Be n s):∀(bs:List Nat) (f:Nat->Nat) (k:Nat),Be n f->Ei n S bs f k=(Ek,k+bs.length)->Gn S f
 | [],f,k,hP,h=>by
  unfold Ei at h;injection h with h _;rw[h];exact .one
 | b :: bs,f,k,hP,h=>by
  unfold Ei at h;split at h
  .rename_i hm;have hl:=DS hS (CJ.1 hm).2;have aA:=hl.gn.isP hS;have:=SP hS bs _ (k+1) (hP.comp aA.inv) (by rw[h,List.length_cons,show k+1+bs.length=k+(bs.length+1) by omega]);rw[<-aA.cancel (f:=f)];exact this.mul hl.gn
  .injection h with _ h;rw[List.length_cons]at h;omega
theorem Vx{n:Nat}{S:List (Nat->Nat)}(hS:∀s∈S,Be n s){f:Nat->Nat}(hP:Be n f):Ei n S (DF n S) f 0=(Ek,(DF n S).length)↔Gn S f:=by
 constructor
 .intro h;exact SP hS _ f 0 hP (by rw[h,Nat.zero_add])
 .intro h;have:=(Pr hS (Ik n S) f 0 h (fun i hi=>ac)).1;rwa[Nat.zero_add]at this
theorem DO{n:Nat}{S:List (Nat->Nat)}(hS:∀s∈S,Be n s){b:Nat}{bs:List Nat}(h:Mg n S b bs)(f:Nat->Nat):Gn (B3 n S bs) f↔Gn S f/\A5 b f:=by
 constructor
 .intro hf
  induction hf with
  | one=>exact⟨.one,Jr _⟩
  | step _ hs ih=>
   obtain⟨c,hc,h1,h2⟩:=MZ hS hs;have:=h.ge c hc;exact⟨ih.1.mul h1,ih.2.comp fun i hi=>h2 i ac⟩
 .rintro⟨h1,h2⟩;exact(Pr hS h f 0 h1 h2).2
open Classical in
theorem Jh {n:Nat} {S:List (Nat->Nat)} (hS:∀s∈S,Be n s) {b:Nat} {bs:List Nat} (h:Mg n S b bs) {c:Nat} (hc:b<=c) (m:Nat):Bp (B3 n S bs) c m=Bp S c m:=by
 unfold Bp;apply List.filter_congr;intro x _;rw[decide_eq_decide];constructor
 .rintro⟨f,h1,h2,h3⟩;exact⟨f,((DO hS h f).1 h1).1,h2,h3⟩
 .rintro⟨f,h1,h2,h3⟩;exact⟨f,(DO hS h f).2 ⟨h1,fun i hi=>h2 i ac⟩,h2,h3⟩
theorem Wa{n:Nat}{S:List (Nat->Nat)}(hS:∀s∈S,Be n s){b:Nat}{bs:List Nat}(h:Mg n S b bs){c:Nat}(hc:c<b):(Bp (B3 n S bs) c n).length<=1:=by
 have aA:∀x∈Bp (B3 n S bs) c n,x=c:=fun x hx=>by
  obtain⟨_,f,h1,_,h3⟩:=CJ.1 hx;rw[<-h3];exact((DO hS h f).1 h1).2 c hc
 have aB:(Bp (B3 n S bs) c n).Nodup:=List.Nodup.sublist List.filter_sublist List.nodup_range
 match hq:Bp (B3 n S bs) c n with
 | []=>simp
 | [x]=>simp
 | x :: y :: q=>
  exfalso;rw[hq]at aB aA;have h1:=aA x ag;have h2:=aA y ag;rw[h1,h2]at aB;simp at aB
theorem UK{n:Nat}{S:List (Nat->Nat)}(hS:∀s∈S,Be n s){b:Nat}{bs:List Nat}(h:Mg n S b bs){c:Nat}(hc:b<=c):Fj n (B3 n S bs) c=Fj n S c:=by
 have hL:∀x,x∈Bp S c n->Fi n (B3 n S bs) c x=Fi n S c x:=fun x hx=>by
  have hl:=DS hS (CJ.1 hx).2;refine Kf (FR hS bs) ⟨(DO hS h _).2 ⟨hl.gn,fun i hi=>hl.fix i ac⟩,hl.fix,hl.at_,fun g h1 h2 h3=>hl.le g ((DO hS h g).1 h1).1 h2 h3⟩
 unfold Fj Eb;rw[Jh hS h hc]
 congr 1
 exact List.map_congr_left fun x hx=>by rw[hL x hx]
theorem XF{n:Nat}{S:List (Nat->Nat)}(hS:∀s∈S,Be n s){b:Nat}{bs:List Nat}(h:Mg n S b bs):Cd n (B3 n S bs) n=bs.map (Fj n S):=by
 rw[EJ];have aA:∀ {b':Nat} {bs':List Nat},Mg n S b' bs'->b<=b'->∀bs'',Mg n (B3 n S bs) b' bs''->bs''=bs':=by
  intro b' bs' h'
  induction h' with
  | nil=>
   intro hb bs'' h2
   cases h2 with
   | nil=>rfl
   | skip h _ _=>omega
   | cons h _ _=>omega
  | skip h1 h2 _ ih=>
   intro hb bs'' h3
   cases h3 with
   | nil=>omega
   | skip k1 k2 k3=>exact ih ac _ k3
   | cons k1 k2 k3=>rw[Jh hS h hb]at k2;omega
  | cons h1 h2 _ ih=>
   intro hb bs'' h3
   cases h3 with
   | nil=>omega
   | skip k1 k2 k3=>rw[Jh hS h hb]at k2;omega
   | cons k1 k2 k3=>rw[ih ac _ k3]
 have low:∀d c,c+d=b->∀bs'',Mg n (B3 n S bs) c bs''->Mg n (B3 n S bs) b bs'':=by
  intro d
  induction d with
  | zero=>intro c hc bs'' h2;rw[<-hc];exact h2
  | succ d ih=>
   intro c hc bs'' h2;have hle:=h.le
   cases h2 with
   | nil=>omega
   | skip k1 k2 k3=>exact ih (c+1) ac bs'' k3
   | cons k1 k2 k3=>have:=Wa hS h (c:=c) ac;omega
 rw[aA h (Nat.le_refl _) _ (low b 0 ac _ (Ik n _))];exact List.map_congr_left fun c hc=>UK hS h (h.ge c hc).1
theorem TP{n:Nat}{S:List (Nat->Nat)}(h1:1<=n)(h2:n<=64)(hS:∀s∈S,Be n s){b:Nat}{bs:List Nat}(h:Mg n S b bs):Bf n (bs.map (Fj n S))=0:=by
 unfold Bf;rw[if_neg ac];refine if_pos ⟨?_,?_⟩
 .rw[G6];exact Tp h1 h2 (FR hS bs)
 .rw[G6,Ep (FR hS bs)];exact(XF hS h).symm
theorem IL{d:Int}{L:List Lv}(h:Bf d L=0):∃n:Nat,d=n/\1<=n/\n<=64/\∃S:List (Nat->Nat),(∀s∈S,Be n s)/\AF L=S.map (li n)/\L=(DF n S).map (Fj n S):=by
 unfold Bf at h;split at h
 .cases h
 .split at h
  .rename_i h1 h2;obtain⟨N,rfl,h3,h4,S,h5,h6⟩:=Kl h2.1;refine⟨N,rfl,h3,h4,S,h6,h5,?_⟩;rw[<-EJ];have:=h2.2
   rwa[h5,Ep h6]at this
  .cases h
theorem Lo{q:List Nat}{j y:Nat}(h:q[j]?=some y):(CN q).getD j 0=(y:Int):=by
 rw[List.getD_eq_getElem?_getD,Tm h];rfl
theorem ZA{q:List Nat}{y:Nat}(h:y∈q):∃i:Nat,q[i]?=some y/\Cv (fun j=>(y:Int)==(CN q).getD j 0) (CN q).length=i:=by
 rw[Ck];have aA:∀k:Nat,(∃i:Nat,i<k/\q[i]?=some y/\∀j:Nat,j<i->q[j]?≠some y)∨∀j:Nat,j<k->q[j]?≠some y:=by
  intro k
  induction k with
  | zero=>exact .inr fun j h=>ac
  | succ k ih=>
   rcases ih with⟨i,h1,h2,h3⟩|h1
   .exact .inl ⟨i,ac,h2,h3⟩
   .by_cases e:q[k]?=some y
    .exact .inl ⟨k,ac,e,h1⟩
    .exact .inr fun j hj=>by
      by_cases e2:j=k
      .subst e2;exact e
      .exact h1 j ac
 rcases aA q.length with⟨i,h1,h2,h3⟩|h1
 .refine⟨i,h2,Cy h1 (by rw[Lo h2];simp) fun j hj=>?_⟩;have hq:q[j]?=some (q[j]'ac):=List.getElem?_eq_getElem _;rw[Lo hq];have:q[j]'ac≠y:=fun e=>h3 j hj (by rw[hq,e]);simp;omega
 .obtain⟨j,hj,e⟩:=List.getElem_of_mem h;exact absurd ar (h1 j hj)
theorem WS{q:List Nat}{y:Nat}(h:¬y∈q):Cv (fun j=>(y:Int)==(CN q).getD j 0) (CN q).length=-1:=by
 rw[Ck];refine BV fun j hj=>?_;have hq:q[j]?=some (q[j]'ac):=List.getElem?_eq_getElem _;rw[Lo hq];have:q[j]'ac≠y:=fun e=>h (by rw[<-e];exact List.getElem_mem hj);simp;omega
def I4(L:List Lv):Nat:=JR (L.map fun l=>l.orb.length)
theorem MS{L:List Lv}{k:Nat}{l:Lv}(h:L[k]?=some l):I4 (L.take (k+1))=I4 (L.take k)*l.orb.length:=by
 unfold I4;rw[List.map_take,List.map_take];exact KY (by rw[List.getElem?_map,h];rfl)
theorem RS{n:Nat}{S:List (Nat->Nat)}{bs:List Nat}{l:Lv}(h:l∈bs.map (Fj n S)):l.orb.length<=n:=by
 obtain⟨b,_,rfl⟩:=List.mem_map.1 h;show(CN (Bp S b n)).length<=n
 rw[Ck];exact Fu S b n
theorem Rg{L:List Lv}(h:∀l∈L,l.orb.length<=64):∀k,k<=64->Dp (I4 (L.take k)):=by
 have aA:∀k,I4 (L.take k)<=64^k:=by
  intro k
  induction k with
  | zero=>exact Nat.le_refl _
  | succ k ih=>
   by_cases hk:k<L.length
   .have hl:L[k]?=some (L[k]'hk):=List.getElem?_eq_getElem hk;rw[MS hl,Nat.pow_succ];exact Nat.mul_le_mul ih (h _ (List.getElem_mem hk))
   .rw[List.take_of_length_le ac]at ih ⊢;exact Nat.le_trans ih (Nat.pow_le_pow_right ac ac)
 intro k hk;have h1:(64:Nat)^k<=64^64:=Nat.pow_le_pow_right ac hk;have h2:(64:Nat)^64=BJ^12:=ae;have h3:BJ^12<BJ^200:=(Nat.pow_lt_pow_iff_right (by decide:1<BJ)).2 ac;have:=aA k;unfold Dp;omega
def SizR(d:Int)(L:List Lv)(r:Ending)(w':World):Prop:=(Bf d L≠0/\r= .returned (.tuple #[.slice none 0 0,.int .i64 (Bf d L)]))∨(Bf d L=0/\∃v,r= .returned (.tuple #[v,(0:Int)])/\IW w' v (I4 L))
theorem nml2{w:World}{u v:Value}{x y:Nat}(hu:IW w u x)(hv:IW w v y)(t:TypeId):NMl (w.alloc (.cells #[u,v] t)) (.slice (some (w.heap.size,0)) 2 2) [x,y]:=by
 have ea:Ex w (w.alloc (.cells #[u,v] t)):=(Ex.refl _).alloc _;refine⟨[u,v],⟨rfl,_,2,rfl,Nat.le_refl _,by unfold maxLen;omega,fun _=>⟨_,0,rfl,fun j z hz=>?_⟩⟩,fun i z s h1 h2=>?_⟩
 .match j,hz with
  | 0,hz=>simp at hz;subst hz;simp
  | 1,hz=>simp at hz;subst hz;simp
  | j+2,hz=>simp at hz
 .match i,h1,h2 with
  | 0,h1,h2=>simp at h1 h2;subst h1 h2;exact hu.ex ea
  | 1,h1,h2=>simp at h1 h2;subst h1 h2;exact hv.ex ea
  | i+2,h1,h2=>simp at h1
theorem nMul2{w:World}{u v:Value}{x y:Nat}(hu:IW w u x)(hv:IW w v y)(hx:Dp x)(hy:Dp y)(aA:Dp (x*y))(t:TypeId):
  Calls Tryz.prog 41 #[.slice (some (w.heap.size,0)) 2 2] (w.alloc (.cells #[u,v] t)) fun r w'=>(∃u,r= .returned u/\IW w' u (x*y))/\Ex w w':=by
 have h:=Wj _ _ _ (nml2 hu hv t) (fun z hz=>by
  simp at hz;rcases hz with e|e
  .rw[e];exact hx
  .rw[e];exact hy) (fun j hj=>by
  match j,hj with
  | 0,_=>exact GW (by show(1:Nat)<_;omega)
  | 1,_=>show Dp (1*x);rw[Nat.one_mul];exact hx
  | 2,_=>show Dp (1*x*y);rw[Nat.one_mul];exact aA)
 have e:JR [x,y]=x*y:=by show 1*x*y=_;rw[Nat.one_mul]
 rw[e]at h;exact h.mono fun r w' ⟨h1,h2⟩=>⟨h1,((Ex.refl w).alloc _).trans h2⟩
theorem zbM{P:Prop}(h:P:=by
 unfold DF;have:=List.length_filter_le (fun b=>decide (1<(Bp S b n).length)) (List.range n);rw[List.length_range]at this;exact this):P:=h
theorem QX(w:World)(d:Int)(L:List Lv)(lv:Value)(hL:DX w lv L)(hg:(AF L).length<=1000):
  Calls Tryz.prog 35 #[.agg #[d,lv]] w fun r w'=>SizR d L r w'/\Ex w w':=by
 obtain⟨d0,d1,e0⟩:=BO w d lv;obtain⟨za,zc,rfl,z1,z2,z3⟩:=(hL.ex e0).open3;unfold maxLen at z2;have bF:=Aa (ER _ d L _ (hL.ex e0) hg);have Z3:=Aa z3;clear z3 hL;go_enter Tryz.func35,Tryz.ntmps35
 go_wp2_with fail
 obtain⟨q,hq⟩:=nA w.heap.size;rw[hq]at d0 d1
 try simp only[hq]
 clear hq;generalize w.alloc (.cells #[d,.slice za L.length zc] 43)=w1 at *;have aR:=Aa e0;clear e0;refine bF.o.mono ?_;rintro e w2⟨rfl,aA⟩;have d1:=aA.cell d1;have aH:=Aa aA;obtain⟨E,hE⟩:=nA (Bf d L);rw[hE];by_cases h0:E=0
 .subst h0;obtain⟨n,rfl,hn1,hn2,S,hS,aS,aG⟩:=IL hE;have aB:∀l∈L,l.orb.length<=n:=fun l hl=>RS (aG ▸ hl);have hll:L.length<=n:=by
   rw[aG,List.length_map];exact zbM
  obtain⟨bA,aQ,D1,HE,bB⟩:=Of aB (Rg (L:=L) fun l hl=>by have:=aB l hl;omega) d1 hE (XW w2 1 ac);clear aA hE aB aG aS hS d0;go_wp2_with (go_at_call 42;refine bB.o.mono ?_;rintro e w3⟨⟨u,rfl,hu⟩,aD⟩;have HU:=Aa hu;have aO:=Aa aD;have d1:=aD.cell D1.o;clear hu aD)
  clear d1
  go_loopw [5,17] (fun p' k' wr=>∃(k:Nat),k<=L.length/\k'= .int .i64 k/\Hia (IW wr p' (I4 (L.take k)))/\Hia (Ex w3 wr)) (fun _ k' _=>L.length-(intOf k').toNat)
  case atStart=>exact⟨0,ac,rfl,HU,Aa (Ex.refl _)⟩
  case round=>
   clear HU;obtain⟨k,hk,rfl,hn,aF⟩:=hrel;obtain⟨pn,pf,_,_,aN⟩:=id hn.o;obtain⟨pa,pc,rfl,_,_,_⟩:=aN.open;clear aN;by_cases hkl:k<L.length
   .obtain⟨l,hl⟩:∃l,L[k]?=some l:=⟨_,List.getElem?_eq_getElem hkl⟩;obtain⟨zb,zo,rfl,aK⟩:=Z3.o ac;have aJ:=Aa (aH.o.trans (aO.o.trans aF.o));obtain⟨u,r,c0,c1,c2,hu,hr⟩:=aK k l hl;have c0:=aJ.o.cell c0;have c1:=aJ.o.cell c1;have c2:=aJ.o.cell c2;obtain⟨oa,oc,rfl,_,_,_⟩:=hu.open;obtain⟨ra,rc,rfl,_,_,_⟩:=hr.open;have i1:(0:Int)<=(k:Int):=by omega
    have i2:(k:Int)<(L.length:Int):=ac;have aB:=bA.o l (List.mem_of_getElem? hl);obtain⟨p,hp⟩:=nA l.pt;rw[hp]at c0;obtain⟨b0,b1,b2,eb⟩:=Ef wr p (.slice oa l.orb.length oc) (.slice ra l.reps.length rc);have e1:IntKind.u64.wrap (l.orb.length:Int)=(l.orb.length:Int):=bt;obtain⟨aI,HN,bE,aP,aY,aZ,aX⟩:=OK (XW (wr.alloc (.cells #[p,.slice oa l.orb.length oc,.slice ra l.reps.length rc] 90)) l.orb.length ac) (hn.o.ex eb) eb (MS hl) (aQ.o (k+1) ac) (aQ.o k ac) (GW (x:=l.orb.length) ac);clear aK hl hp hu hr eb hn;go_wp2_with (first|(go_at_call 42;refine aI.o.mono ?_;rintro e w5⟨⟨u5,rfl,aE⟩,aC⟩;obtain⟨_,_,_,_,h5⟩:=id aE;obtain⟨ya,yc,rfl,_,_,_⟩:=h5.open;have bC:=Aa (nMul2 (HN.o.ex aC) aE aZ.o aX.o (by rw[<-aP.o];exact aY.o) 56);have aU:=Aa aC;clear h5 aE aC)|(go_at_call 41;refine bC.o.mono ?_;rintro e w6⟨⟨u6,rfl,aM⟩,aL⟩;have aW:=Aa aM;have aT:=Aa aL;clear aM aL))
    have bD:=Aa (aF.o.trans (bE.o.trans (aU.o.trans aT.o)));have aV:=Aa (show IW w6 u6 (I4 (L.take (k+1))) from by
     rw[aP.o];exact aW.o)
    go_roundw
    case rel=>exact⟨k+1,ac,by go_num,aV,bD⟩
    case measure=>simp[intOf];omega
   .obtain rfl:k=L.length:=by omega
    have HN:=Aa (show IW wr (.slice pa pn pc) (I4 L) from by have:=hn.o;rwa[List.take_length]at this);go_wp2_with fail
    go_ret2;exact⟨.inr ⟨HE.o,_,rfl,HN.o⟩,aR.o.trans (aH.o.trans (aO.o.trans aF.o))⟩
 .have hb:(E !=0)=true:=by simpa using h0
  have HR:=Aa (show Bf d L≠0 from by rw[hE];exact h0);have HE:=Aa hE;clear h0 hE aA;go_wp2_with fail
  go_ret2;exact⟨.inl ⟨HR.o,ret_ve HE.o.symm⟩,aR.o.trans aH.o⟩
theorem PM{P:Program}{f:FuncId}{aA:Array Value}{w:World}{n:Nat}{v:Value}
  (h:Calls P f aA (w.drewN n) fun e w'=>e= .returned v/\w.drewN n=w'):Calls P f aA (w.drewN n) fun e w''=>e= .returned v/\∃m,w''=w.drewN m:=
 h.mono fun _ _ ⟨he,hm⟩=>⟨he,n,hm.symm⟩
noncomputable def DN(d:Int)(L:List Lv)(p:List Int):Int:=if Bf d L≠0 then Bf d L else if BR p≠0 then BR p else if (p.length:Int)≠d then 10 else 0
noncomputable def Gh(d:Int)(L:List Lv)(p:List Int):List Int × Nat × Int:=if DN d L p≠0 then([],0,DN d L p) else
 (li d.toNat (Ei d.toNat ((AF L).map CL) (DF d.toNat ((AF L).map CL)) (CL p) 0).1,(Ei d.toNat ((AF L).map CL) (DF d.toNat ((AF L).map CL)) (CL p) 0).2,0)
def SftR(d:Int)(L:List Lv)(p:List Int)(r:Ending)(w':World):Prop:=∃v,r= .returned (.tuple #[v,((Gh d L p).2.1:Int),.int .i64 (Gh d L p).2.2])/\Al w' v (Gh d L p).1
theorem Il{d:Int}{L:List Lv}{p l:List Int}{k:Nat}{e:Int}{v:Value}{w':World}(h:Gh d L p=(l,k,e))(hv:Al w' v l):SftR d L p (.returned (.tuple #[v,(k:Int),e])) w':=⟨v,by rw[h],by rw[h];exact hv⟩
theorem bc{P:Prop}(h:P:=by simp[results,Tryz.results100,go_sem]):P:=h
theorem XT(w:World)(d:Int)(L:List Lv)(lv:Value)(hL:DX w lv L)(hg:(AF L).length<=1000)(p:List Int)(pv:Value)(hp:Al w pv p):
  Calls Tryz.prog 100 #[.agg #[d,lv],pv] w fun r w'=>SftR d L p r w'/\Ex w w':=by
 obtain⟨d0,d1,e0⟩:=BO w d lv;obtain⟨za,zc,rfl,z1,z2,z3⟩:=(hL.ex e0).open3;unfold maxLen at z2;have cM:=Aa (ER _ d L _ (hL.ex e0) hg);have Z3:=Aa z3;have HP:=Aa (hp.ex e0);obtain⟨pa,pc,rfl,_,_,_⟩:=hp.open;clear z3 hL hp;go_enter Tryz.func100,Tryz.ntmps100
 go_wp2_with fail
 obtain⟨q,hq⟩:=nA w.heap.size;rw[hq]at d0 d1
 try simp only[hq]
 clear hq;generalize w.alloc (.cells #[d,.slice za L.length zc] 43)=w1 at *;have aM:=Aa e0;clear e0;refine cM.o.mono ?_;rintro e w2⟨rfl,aH⟩;have d1:=aH.cell d1;have d0:=aH.cell d0;have aG:=Aa aH;obtain⟨E,hE⟩:=nA (Bf d L);rw[hE];by_cases h0:E=0
 .subst h0;have aJ:=Aa (JI w2 p _ (HP.o.ex aH));obtain⟨F,hF⟩:=nA (BR p);rw[hF]at aJ;have D0:=Aa d0;have D1:=Aa d1;clear aH;by_cases h1:F=0
  .subst h1;obtain⟨n,f,hn1,hn2,hpl,aS,rfl⟩:=Ir hF;by_cases h2:((li n f).length:Int)=d
   .have bZ:(n:Int)=d:=by rw[<-h2,Ch]
    subst bZ;obtain⟨n',bK,_,_,S,hS,aD,bQ⟩:=IL hE;have bK:n'=n:=ac;subst bK;have bF:((AF L).map CL)=S:=by rw[aD];exact Ep hS
    have bO:CL (li n' f)=f:=GO aS;have aW:=Aa (show ∀(g:Nat->Nat) (k:Nat),Ei n' S (DF n' S) f 0=(g,k)->Gh n' L (li n' f)=(li n' g,k,0) from fun g k h=>by
     have:DN n' L (li n' f)=0:=by unfold DN;rw[hE,if_neg ae,hF,if_neg ae,if_neg eh]
     unfold Gh;rw[this,if_neg ae,bF,bO];show(li n' (Ei n' S (DF n' S) f 0).1,(Ei n' S (DF n' S) f 0).2,0)=_
     rw[h])
    have HS:=Aa hS;have aX:=Aa bQ;have cL:=Aa aS;obtain⟨pt,aC⟩:=nA (DF n' S);have cG:=Aa (show ∀b∈pt,b<n' from fun b hb=>by
     rw[<-aC]at hb;unfold DF at hb;exact List.mem_range.1 (List.mem_filter.1 hb).1)
    rw[aC]at aW aX;have bL:L.length=pt.length:=by rw[aX.o,List.length_map]
    have hptl:pt.length<=n':=by
     rw[<-aC];unfold DF;have:=List.length_filter_le (fun b=>decide (1<(Bp S b n').length)) (List.range n');rw[List.length_range]at this;exact this
    have bP:=HP.o.ex aG.o;have bY:=Aa (fun w' (hx:Ex w2 w')=>JH w' _ _ (bP.ex hx) eh eh);have bX:=Aa bL;rw[Ch]at bY h2;have aK:(li n' f).length=n':=Ch _ _;rw[aK]at aJ ⊢;clear hE hF aD bQ bF bO hS aS aC bL bP h2 aK;go_wp2_with (first|(go_at_call 57;refine aJ.o.mono ?_;rintro e w3⟨rfl,aA⟩;have aF:=Aa aA;have d0:=aA.cell D0.o;clear aA)|(go_at_call 154;refine(bY.o _ aF.o).mono ?_;rintro e w4⟨cg,cc,rfl,bJ,aQ⟩;have bV:=Aa bJ;have aV:=Aa (aF.o.trans aQ);have d1:=(aF.o.trans aQ).cell D1.o;clear bJ aQ))
    have D4:=Aa d1;clear d0 d1;have bU:=Aa (show Al w4 (.slice (some ⟨cg,0,none⟩) n' cc) (li n' f) from by
     have e:il n' (fun j=>(li n' f).getD j 0)=li n' f:=by
      unfold li;exact Qi fun j hj=>Zz hj _
     have:=bV.o.isl
     rwa[e]at this)
    go_loopw [8,35] (fun o' k' wr=>∃(k:Nat) (g:Nat->Nat),k<=L.length/\k'= .int .i64 k/\Hia (Be n' g)/\Hia (Al wr o' (li n' g))/\Hia (Ei n' S pt f 0=Ei n' S (pt.drop k) g k)/\Hia (Ex w4 wr)) (fun _ k' _=>L.length-(intOf k').toNat)
    case atStart=>exact⟨0,f,ac,rfl,cL,bU,Aa rfl,Aa (Ex.refl _)⟩
    case round=>
     clear bU bV;obtain⟨k,g,hk,rfl,bN,aD,aO,aL⟩:=hrel;obtain⟨oa,oc,rfl,_,_,_⟩:=DU aD.o;obtain⟨ob,oo,rfl,_,bG⟩:=Ew aD.o ac;by_cases hkl:k<L.length
     .obtain⟨b,hb⟩:∃b,pt[k]?=some b:=⟨_,List.getElem?_eq_getElem (by rw[<-bX.o];exact hkl)⟩;have cB:=cG.o b (List.mem_of_getElem? hb);have hl:L[k]?=some (Fj n' S b):=by rw[aX.o,List.getElem?_map,hb];rfl
      have aT:pt.drop k=b :: pt.drop (k+1):=by
       have h1:=(List.getElem?_eq_some_iff.1 hb).1;rw[List.drop_eq_getElem_cons h1];have h2:=(List.getElem?_eq_some_iff.1 hb).2;rw[h2]
      have HRE:=Aa (aO.o.trans (by rw[aT]));obtain⟨zb,zo,rfl,aY⟩:=Z3.o ac;obtain⟨u,r,c0,c1,c2,hu,hr⟩:=aY k _ hl;have aN:=Aa (aG.o.trans (aV.o.trans aL.o));have c0:wr.cell? (zb,zo+k*3)=some (.int .i64 (b:Int)):=aN.o.cell c0;have c1:=aN.o.cell c1;have c2:=aN.o.cell c2;have hu:Al w1 u (CN (Bp S b n')):=hu;have hr:BZ w1 r ((Bp S b n').map fun x=>li n' (Fi n' S b x)):=hr;have bW:=Aa (fun y=>CJ (S:=S) (b:=b) (m:=n') (x:=y));obtain⟨Q,hQ⟩:=nA (Bp S b n');obtain⟨R,hR⟩:∃R,(Q.map fun x=>li n' (Fi n' S b x))=R:=⟨_,rfl⟩;rw[hQ]at hu hr bW;rw[hR]at hr;have cF:=Aa hR;have bC:Ei n' S (b :: pt.drop (k+1)) g k=if g b∈Q then Ei n' S (pt.drop (k+1)) (Aq g (A8 n' (Fi n' S b (g b)))) (k+1) else(g,k):=by rw[<-hQ];rfl
      have aI:=Aa (aO.o.trans ((by rw[aT]:Ei n' S (pt.drop k) g k=Ei n' S (b :: pt.drop (k+1)) g k).trans bC));have HU:=Aa (hu.ex aN.o);have cE:=Aa (hr.ex aN.o);obtain⟨ua,uc,rfl,_,_,_⟩:=hu.open;obtain⟨ra,rc,rfl,_,_,_⟩:=hr.open;have co:=bG b cB;have i1:(0:Int)<=(k:Int):=by omega
      have i2:(k:Int)<(L.length:Int):=ac;have i3:(0:Int)<=(b:Int):=ac;have i4:(b:Int)<(n':Int):=ac;obtain⟨y,hy⟩:=nA (g b);rw[hy]at co aI;obtain⟨b0,b1,b2,eb⟩:=Ef wr (b:Int) (.slice ua (CN Q).length uc) (.slice ra R.length rc);have co:=eb.cell co;have aB:=fun q'=>Nz ((wr.alloc (.cells #[(b:Int),.slice ua (CN Q).length uc,.slice ra R.length rc] 90)).drewN q') (CN Q) _ (y:Int) ((HU.o.ex eb).ex ((Ex.refl _).drewN q'));have HYE:=Aa hy;have EB:=Aa eb;clear aT hl aY hb hu hr hQ hR bC bG eb hy aO;by_cases hm:y∈Q
      .obtain⟨i,hi,bM⟩:=ZA hm;rw[bM]at aB;have aB:=Aa aB;rw[if_pos hm]at aI;obtain⟨x,hx⟩:=nA (Fi n' S b y);have aE:=(DS HS.o ((bW.o y).1 hm).2).gn.isP HS.o (n:=n');rw[hx]at aI aE;have bR:=Aa aE;have aU:R[i]?=some (li n' x):=by rw[<-cF.o,List.getElem?_map,hi,<-hx];rfl
       have cA:=(List.getElem?_eq_some_iff.1 aU).1;obtain⟨_,_,er,_,_,bE⟩:=cE.o.open;injection er with er1 er2 er3;subst er1 er3;obtain⟨rb,ro,rfl,bD⟩:=bE ac;obtain⟨v,bB,aR⟩:=bD i _ aU;have bT:=Aa (aR.ex EB.o);have cv:=EB.o.cell bB;obtain⟨va,vc,rfl,_,_,_⟩:=DU aR;have i5:(0:Int)<=(i:Int):=bf;have i6:(i:Int)<(R.length:Int):=ac;clear hm hi bM hx aE aU er2 bE bD bB aR cA;go_wp2_with fail
       obtain⟨W,hW⟩:=nA ((wr.alloc (.cells #[(b:Int),.slice ua (CN Q).length uc,.slice (some ⟨rb,ro,none⟩) R.length rc] 90)));rw[hW]at aB b0 b1 b2 co EB bT cv ⊢;clear hW
       go_quiet ((go_at_call 155;exact PM (aB.o _)))
       have cJ:=Aa (fun q'=>GH (W.drewN q') n' x _ (bT.o.ex ((Ex.refl W).drewN q')) ac bR.o);have cK:=Aa (bN.o.comp bR.o.inv);go_wp2_with (first|(go_at_call 109;refine(cJ.o _).mono ?_;rintro e w6⟨ig,rfl,bI,bA⟩;have cI:=Aa bI.li;have bS:=Aa ((EB.o.drewN _).trans bA);clear bI bA)|(go_at_call 108;refine(Fl w6 n' g (A8 n' x) _ _ (aD.o.ex bS.o) cI.o ac bN.o.lt).mono ?_;rintro e w7⟨tg,rfl,bH,aZ⟩;have cH:=Aa bH.li;have cD:=Aa (bS.o.trans aZ);clear bH aZ))
       go_roundw
       case rel=>exact⟨k+1,_,ac,by go_num,cK,cH,aI,Aa (aL.o.trans cD.o)⟩
       case measure=>simp[intOf];omega
      .rw[WS hm]at aB;have aB:=Aa aB;rw[if_neg hm]at aI;have HR:=Aa (aW.o _ _ aI.o);clear hm;go_wp2_with fail
       obtain⟨W,hW⟩:=nA ((wr.alloc (.cells #[(b:Int),.slice ua (CN Q).length uc,.slice ra R.length rc] 90)));rw[hW]at aB b0 b1 b2 co EB ⊢;clear hW
       go_quiet ((go_at_call 155;exact PM (aB.o _)))
       go_wp2_with fail
       exact bodyPost_ret (v:= .tuple #[.slice (some ⟨ob,oo,none⟩) n' oc,(k:Nat),(0:Int)]) bc rfl ⟨Il HR.o (aD.o.ex (EB.o.drewN _)),aM.o.trans (aG.o.trans (aV.o.trans (aL.o.trans (EB.o.drewN _))))⟩
     .obtain rfl:k=L.length:=by omega
      have HR:=Aa (aW.o g L.length (aO.o.trans (by rw[bX.o,List.drop_length];rfl)));have d1:=(aL.o).cell D4.o;go_wp2_with fail
      go_quiet (fail)
      go_wp2_with fail
      exact bodyPost_ret (v:= .tuple #[.slice (some ⟨ob,oo,none⟩) n' oc,(L.length:Nat),(0:Int)]) bc rfl ⟨Il HR.o (aD.o.ex ((Ex.refl wr).drewN _)),aM.o.trans (aG.o.trans (aV.o.trans (aL.o.drewN _)))⟩
   .have aP:(li n f).length=n:=Ch n f;rw[aP]at h2;have HR:=Aa (show Gh d L (li n f)=([],0,10) from by
     have:DN d L (li n f)=10:=by unfold DN;rw[hE,if_neg ae,hF,if_neg ae,if_pos (by rw[aP];exact h2)]
     unfold Gh;rw[this];rfl)
    have hb:((n:Int) !=d)=true:=du;rw[aP]at aJ ⊢;clear hE hF h2 aP;go_wp2_with (go_at_call 57;refine aJ.o.mono ?_;rintro e w3⟨rfl,aA⟩;have aF:=Aa aA;have d0:=aA.cell D0.o;clear aA)
    exact bodyPost_ret (v:= .tuple #[.slice none 0 0,(0:Nat),(10:Int)]) bc rfl ⟨Il HR.o (A7 _),aM.o.trans (aG.o.trans aF.o)⟩
  .have HR:=Aa (show Gh d L p=([],0,F) from by
    have:DN d L p=F:=by unfold DN;rw[hE,if_neg ae,hF,if_pos h1]
    unfold Gh;rw[this,if_pos h1])
   have hb:(F !=0)=true:=br;have cC:(F==0)=false:=br;clear hE hF h1;go_wp2_with (go_at_call 57;refine aJ.o.mono ?_;rintro e w3⟨rfl,aA⟩;have aF:=Aa aA;have d0:=aA.cell D0.o;clear aA)
   exact bodyPost_ret (v:= .tuple #[.slice none 0 0,(0:Nat),F]) bc rfl ⟨Il HR.o (A7 _),aM.o.trans (aG.o.trans aF.o)⟩
 .have HR:=Aa (show Gh d L p=([],0,E) from by
   have:DN d L p=E:=by unfold DN;rw[hE,if_pos h0]
   unfold Gh;rw[this,if_pos h0])
  have hb:(E !=0)=true:=by simpa using h0
  have cC:(E==0)=false:=by simpa using h0
  clear h0 hE aH;go_wp2_with fail
  exact bodyPost_ret (v:= .tuple #[.slice none 0 0,(0:Nat),E]) bc rfl ⟨Il HR.o (A7 _),aM.o.trans aG.o⟩
theorem Ro{b c:Bool}{e f:Int}(h:b=c)(k:e=f):Ending.returned (.tuple #[.bool b,e])= .returned (.tuple #[.bool c,f]):=by rw[h,k]
theorem Vy{d:Int}{L:List Lv}{p:List Int}(h:DN d L p≠0):Gh d L p=([],0,DN d L p):=by unfold Gh;rw[if_pos h]
theorem SQ{d:Int}{L:List Lv}{p:List Int}(h:DN d L p=0):∃(n:Nat) (f:Nat->Nat) (S:List (Nat->Nat)),d=n/\1<=n/\n<=64/\Be n f/\p=li n f/\(∀s∈S,Be n s)/\L=(DF n S).map (Fj n S)/\AF L=S.map (li n)/\Gh d L p=(li n (Ei n S (DF n S) f 0).1,(Ei n S (DF n S) f 0).2,0):=by
 have h0:=h;unfold DN at h;split at h
 .exact absurd h (by assumption)
 .split at h
  .exact absurd h (by assumption)
  .split at h
   .cases h
   .rename_i h1 h2 h3;have h1:Bf d L=0:=by simpa using h1
    have h2:BR p=0:=du;obtain⟨n,rfl,k1,k2,S,k3,k4,k5⟩:=IL h1;obtain⟨m,f,m1,m2,m3,m4,rfl⟩:=Ir h2;rw[Ch]at h3;have hm:m=n:=ac;subst hm;refine⟨m,f,S,rfl,k1,k2,m4,rfl,k3,k5,k4,?_⟩;unfold Gh;rw[h0,if_neg ae,k4,Ep k3,GO m4];rfl
open Classical in
noncomputable def Jo (d:Int) (L:List Lv) (p:List Int):Bool:=decide (DN d L p=0/\(Gh d L p).2.1=L.length/\(Gh d L p).1=li d.toNat Ek)
theorem Qj{n:Nat}{S:List (Nat->Nat)}{f:Nat->Nat}{L:List Lv}(hS:∀s∈S,Be n s)(hP:Be n f)(hL:L=Cd n S n)(he:DN n L (li n f)=0):Jo n L (li n f)=true↔Gn S f:=by
 obtain⟨n',f',S',h1,h2,h3,h4,h5,h6,h7,h8,h9⟩:=SQ he;have hn:n'=n:=ac;subst hn;have hf:=Wv hP h4 h5;subst hf;have aB:∀g,Gn S' g↔Gn S g:=fun g=>by
  have hs:=Ik n' S;have e:AF L=(B3 n' S (DF n' S)).map (li n'):=by rw[hL,EJ,G6]
  have e2:S'=B3 n' S (DF n' S):=by
   rw[<-Ep h6,<-h8,e,Ep (FR hS _)]
  rw[e2,DO hS hs];exact⟨fun h=>h.1,fun h=>⟨h,fun i hi=>ac⟩⟩
 rw[<-aB,<-Vx h6 hP];unfold Jo;rw[decide_eq_true_eq,h9];have aA:L.length=(DF n' S').length:=by rw[h7,List.length_map]
 constructor
 .rintro⟨_,k1,k2⟩;have k2:li n' (Ei n' S' (DF n' S') f 0).1=li n' Ek:=k2;have:=Wv (Pt h6 _ f 0 hP) (Fk n') k2;exact Prod.ext this (by rw[<-aA];exact k1)
 .intro h;rw[h];exact⟨he,aA.symm,rfl⟩
theorem zcI{P:Prop}(h:P:=by
 go_wp2_with fail
 go_ret2;exact⟨Ro HB.o.symm aC.o,aF.o.trans aE.o⟩):P:=h
theorem Has_any(w:World)(d:Int)(L:List Lv)(lv:Value)(hL:DX w lv L)(hg:(AF L).length<=1000)(p:List Int)(pv:Value)(hp:Al w pv p):
  Calls Tryz.prog 44 #[.agg #[d,lv],pv] w fun r w'=>r= .returned (.tuple #[.bool (Jo d L p),.int .i64 (DN d L p)])/\Ex w w':=by
 obtain⟨d0,d1,e0⟩:=BO w d lv;obtain⟨za,zc,rfl,z1,z2,z3⟩:=(hL.ex e0).open3;unfold maxLen at z2;have aN:=Aa (XT _ d L _ (hL.ex e0) hg p _ (hp.ex e0));obtain⟨pa,pc,rfl,_,_,_⟩:=hp.open;clear z3 hL hp;go_enter Tryz.func44,Tryz.ntmps44
 go_wp2_with fail
 obtain⟨q,hq⟩:=nA w.heap.size;rw[hq]at d0 d1
 try simp only[hq]
 clear hq;generalize w.alloc (.cells #[d,.slice za L.length zc] 43)=w1 at *;have aF:=Aa e0;clear e0;refine aN.o.mono ?_;rintro e w2⟨⟨v,rfl,hv⟩,aA⟩;have d1:=aA.cell d1;have aE:=Aa aA;by_cases he:DN d L p=0
 .obtain⟨n,f,S,rfl,hn1,hn2,hfP,rfl,hS,aL,aK,aB⟩:=SQ he;rw[aB]at hv ⊢;dsimp only at hv ⊢;obtain⟨g,aD⟩:=nA ((Ei n S (DF n S) f 0).1);obtain⟨k,hk⟩:=nA ((Ei n S (DF n S) f 0).2);rw[aD,hk]at aB;rw[aD]at hv;rw[hk];have HB:=Aa (show Jo n L (li n f)=decide (k=L.length/\li n g=li n Ek) from by
   unfold Jo;rw[aB,he];simp)
  have HV:=Aa hv;have aP:=Aa (fun w'=>ID w' n ac);obtain⟨va,vc,rfl,_,_,_⟩:=DU hv;have aC:=Aa he.symm;have D1:=Aa d1;have hli:(li n f).length=n:=Ch _ _;clear aB hv he aD aL aK hS aA;by_cases hkl:k=L.length
  .subst hkl;rw[show decide (L.length=L.length/\li n g=li n Ek)=decide (li n g=li n Ek) from decide_eq_decide.2 ⟨fun h=>h.2,fun h=>⟨rfl,h⟩⟩]at HB;go_wp2_with (first|(go_at_call 102;refine(aP.o _).mono ?_;rintro e w6⟨ig,rfl,aI,aG⟩;have aO:=Aa aI.li;have aJ:=Aa aG;clear aI aG)|(go_at_call 101;refine(Hb w6 _ _ _ _ (HV.o.ex aJ.o) aO.o).mono ?_;rintro e w7⟨rfl,n7,aH⟩;have aM:=Aa (aJ.o.trans (show Ex w6 w7 from by rw[aH];exact(Ex.refl w6).drewN n7));clear aH))
   go_ret2;exact⟨Ro HB.o.symm aC.o,aF.o.trans (aE.o.trans aM.o)⟩
  .rw[decide_eq_false (fun h=>hkl h.1)]at HB;have hb:((k:Int)==(L.length:Int))=false:=by simp;omega
   clear hkl;exact zcI
 .rw[Vy he]at hv ⊢;dsimp only at hv ⊢;have HB:=Aa (show Jo d L p=false from by
   unfold Jo;exact decide_eq_false fun h=>he h.1)
  obtain⟨E,hE⟩:=nA (DN d L p);rw[hE]at he ⊢;have aC:=Aa hE.symm;obtain⟨va,vc,rfl⟩:=WK hv;have hb:(E==0)=false:=by simpa using he
  clear he hv hE aA;exact zcI
def WV(A:Nat->Nat->Nat)(b x i:Nat):Bool:=fixB b (A i)&&(A i b==x)
def Uw(n m:Nat)(A:Nat->Nat->Nat)(b:Nat):List Nat:=(List.range n).filter fun x=>(List.range m).any (WV A b x)
def ZR(m:Nat)(A:Nat->Nat->Nat)(b x:Nat):Nat:=((List.range m).find? (WV A b x)).getD 0
def Zo(n m:Nat)(A:Nat->Nat->Nat)(b:Nat):Lv:=⟨b,CN (Uw n m A b),(Uw n m A b).map fun x=>li n (A (ZR m A b x))⟩
def chnA(n m:Nat)(A:Nat->Nat->Nat)(k:Nat):List Lv:=((List.range k).map (Zo n m A)).filter fun l=>decide (1<l.orb.length)
theorem IE{A:Nat->Nat->Nat}{b x i:Nat}:WV A b x i=true↔A5 b (A i)/\A i b=x:=by
 unfold WV;rw[Bool.and_eq_true,Xd,beq_iff_eq]
theorem XO{n m:Nat}{S:List (Nat->Nat)}{A:Nat->Nat->Nat}(h:O4 n m S A){b x:Nat}:(List.range m).any (WV A b x)=true↔∃f,Gn S f/\A5 b f/\f b=x:=by
 rw[List.any_eq_true];constructor
 .rintro⟨i,hi,e⟩;have:=IE.1 e;exact⟨A i,(h.all _).2 ⟨i,List.mem_range.1 hi,rfl⟩,this⟩
 .rintro⟨f,h1,h2,h3⟩;obtain⟨i,hi,rfl⟩:=(h.all f).1 h1;exact⟨i,List.mem_range.2 hi,IE.2 ⟨h2,h3⟩⟩
open Classical in
theorem Zb {n m:Nat} {S:List (Nat->Nat)} {A:Nat->Nat->Nat} (h:O4 n m S A) (b:Nat):Bp S b n=Uw n m A b:=by
 unfold Bp Uw;apply List.filter_congr;intro x _;rw[Bool.eq_iff_iff,decide_eq_true_eq,XO h]
theorem Xe{n m:Nat}{S:List (Nat->Nat)}{A:Nat->Nat->Nat}(h:O4 n m S A)(hS:∀s∈S,Be n s){b x i:Nat}(hi:i<m)(h1:A5 b (A i))(h2:A i b=x)(h3:∀j,j<i->¬(A5 b (A j)/\A j b=x)):Fi n S b x=A i:=
 Kf hS (h.least hi h1 h2 h3)
theorem R6{m:Nat}{p:Nat->Bool}(h:∃i,i<m/\p i=true):∃i,i<m/\p i=true/\(∀j,j<i->p j=false)/\(List.range m).find? p=some i:=by
 obtain⟨i0,aD,aB⟩:=h
 cases hf:(List.range m).find? p with
 | none=>exact absurd (List.find?_eq_none.1 hf i0 (List.mem_range.2 aD)) (by simp[aB])
 | some i=>
  have h1:=List.find?_some hf;have h2:=List.mem_range.1 (List.mem_of_find?_eq_some hf);refine⟨i,h2,h1,fun j hj=>?_,rfl⟩;rw[List.find?_eq_some_iff_append]at hf;obtain⟨_,as',bs,e,aA⟩:=hf;have hlen:as'.length=i:=by
   have h3:=congrArg (fun l=>l[as'.length]?) e;simp only[List.getElem?_append_right (Nat.le_refl _),Nat.sub_self,List.getElem?_cons_zero]at h3;have h4:=(List.getElem?_eq_some_iff.1 h3);obtain⟨h5,h6⟩:=h4;simpa using h6
  have aC:j∈as':=by
   have h3:=congrArg (fun l=>l[j]?) e;simp only[List.getElem?_append_left (show j<as'.length by omega)]at h3;rw[List.getElem?_eq_getElem aq]at h3;have h4:(List.range m)[j]'aq=j:=by simp
   rw[h4]at h3;exact List.mem_of_getElem? h3.symm
  have:=aA j aC;simpa using this
theorem ZQ{n m:Nat}{S:List (Nat->Nat)}{A:Nat->Nat->Nat}(h:O4 n m S A)(hS:∀s∈S,Be n s){b x:Nat}(hx:x∈Uw n m A b):Fi n S b x=A (ZR m A b x):=by
 unfold Uw at hx;have h1:=(List.mem_filter.1 hx).2;obtain⟨i0,aA,e0⟩:=List.any_eq_true.1 h1;obtain⟨i,hi,h2,h3,h4⟩:=R6 ⟨i0,List.mem_range.1 aA,e0⟩;have hf:ZR m A b x=i:=by unfold ZR;rw[h4];rfl
 rw[hf];have h5:=IE.1 h2;exact Xe h hS hi h5.1 h5.2 fun j hj k=>by
  have:=h3 j hj;rw[IE.2 k]at this;cases this
theorem Zn{n m:Nat}{S:List (Nat->Nat)}{A:Nat->Nat->Nat}(h:O4 n m S A)(hS:∀s∈S,Be n s)(b:Nat):Fj n S b=Zo n m A b:=by
 unfold Fj Zo Eb;rw[Zb h]
 congr 1
 exact List.map_congr_left fun x hx=>by rw[ZQ h hS hx]
theorem ZY{n m:Nat}{S:List (Nat->Nat)}{A:Nat->Nat->Nat}(h:O4 n m S A)(hS:∀s∈S,Be n s)(k:Nat):Cd n S k=chnA n m A k:=by
 unfold Cd chnA;rw[show Fj n S=Zo n m A from funext (Zn h hS)]
theorem Ol{l:List Int}(h:BR l=0):Be l.length (CL l):=by
 obtain⟨n,f,_,_,h1,h2,rfl⟩:=Ir h;rw[GO h2,h1];exact h2
theorem Od{l:List Int}(h:BR l=0):li l.length (CL l)=l:=by
 obtain⟨n,f,_,_,h1,h2,rfl⟩:=Ir h;rw[GO h2,h1]
theorem TA{n:Nat}{p q:List Int}(hp:BR p=0)(hq:BR q=0)(h1:p.length=n)(h2:q.length=n):CL (thL p q)=Aq (CL p) (CL q):=by
 have e1:=Od hp;have e2:=Od hq;have k1:=Ol hp;have k2:=Ol hq;rw[h1]at e1 k1;rw[h2]at e2 k2;have:thL p q=li n (Aq (CL p) (CL q)):=by
  conv=>lhs;rw[<-e1,<-e2]
  exact thL_li k1.lt
 rw[this,GO (k1.comp k2)]
def wordL(n:Nat)(gens:List (List Int))(w:List Nat):List Int:=w.foldl (fun p k=>thL p (gens.getD k [])) (unL n)
theorem Nf{n:Nat}{T gens:List (List Int)}(W:List (List Nat))(h1:∀r∈T,BR r=0/\r.length=n)(h2:∀r∈gens,BR r=0/\r.length=n)(hn:n<=64)(hn1:1<=n)(hu:unL n∈T)(hc:∀r∈T,∀s∈gens,thL r s∈T)(hw:T=W.map (wordL n gens))(aF:∀w∈W,∀k∈w,k<gens.length)(f:Nat->Nat):
  Gn (gens.map CL) f↔∃r∈T,CL r=f:=by
 have aC:CL (unL n)=Ek:=GO (Fk n);constructor
 .intro h
  induction h with
  | one=>exact⟨_,hu,aC⟩
  | step _ hs ih=>
   obtain⟨r,hr,e⟩:=ih;obtain⟨s,aB,e2⟩:=List.mem_map.1 hs;exact⟨thL r s,hc r hr s aB,by rw[TA (h1 r hr).1 (h2 s aB).1 (h1 r hr).2 (h2 s aB).2,e,e2]⟩
 .rintro⟨r,hr,rfl⟩;rw[hw]at hr;obtain⟨w,aG,rfl⟩:=List.mem_map.1 hr;have aE:∀(w:List Nat) (p:List Int),p∈T->Gn (gens.map CL) (CL p)->(∀k∈w,k<gens.length)->Gn (gens.map CL) (CL (w.foldl (fun p k=>thL p (gens.getD k [])) p)):=by
   intro w
   induction w with
   | nil=>exact fun p _ h _=>h
   | cons k w ih=>
    intro p hp hg hk;have aD:=hk k ag;have aA:gens.getD k []∈gens:=by
     rw[List.getD_eq_getElem?_getD,List.getElem?_eq_getElem aD];exact List.getElem_mem aD
    rw[List.foldl_cons];refine ih _ (hc p hp _ aA) ?_ fun j hj=>hk j (by simp[hj]);rw[TA (h1 p hp).1 (h2 _ aA).1 (h1 p hp).2 (h2 _ aA).2];exact hg.step (List.mem_map.2 ⟨_,aA,rfl⟩)
  exact aE w (unL n) hu (by rw[aC];exact .one) (aF w aG)
end Go.Proofs.YtehieobniamagaaGreat
