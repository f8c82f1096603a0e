/- Plain: a span of the search holds exactly the words of its rows' space. -/
import Derived.Laws.EntriesVeiled
import Derived.Test.YtehieobniamagaaGreatZc17
namespace Go.Proofs.YtehieobniamagaaGreat
open Go.RowKit
set_option linter.all false
set_option maxRecDepth 100000
set_option maxHeartbeats 8000000
def JD(p m N:Nat)(f:Nat->Int):Prop:=∀j,j<N->0<=f j/\f j<((p^m:Nat):Int)
section
variable {p m:Nat} {ml:List Int} {N:Nat}
theorem UD(hp:1<=p)(x:Int)(u r:Nat->Int):Lb p m ml x u r=Cn p m ml u (CI p m (Av (p^m) x)) r:=by
 funext j;unfold Lb Cn;rw[U6 hp]
theorem Zm(hp:2<=p){u r:Nat->Int}{pl:Nat}{x:Nat->Int}(hx:dt p m ml N r x=0):dt p m ml N (MG p m ml u pl r) x=dt p m ml N u x:=by
 unfold MG;split
 .rfl
 .rw[UD ac,Sj hp,hx,Be ac,Cg ac (QG hp _ _)]
theorem Wa(hp:2<=p){u r:Nat->Int}{pl:Nat}(hu:JD p m N u):JD p m N (MG p m ml u pl r):=by
 unfold MG;split
 .exact hu
 .intro j hj;unfold Lb;split
  .exact hu j hj
  .have:=G9 (m:=m) (show 1<=p by omega) (Av (p^m) (u j)) (CI p m (Al p m (lw ml) (Av (p^m) (u pl)) (Av (p^m) (r j))));omega
theorem Oc(hp:2<=p){a:Nat->Nat->Int}{pl:Nat->Nat}{v x:Nat->Int}:∀k,Cb p m ml N k a x->dt p m ml N (Od p m ml a pl v k) x=dt p m ml N v x
 | 0,_=>rfl
 | k+1,h=>by
  show dt p m ml N (MG p m ml (Od p m ml a pl v k) (pl k) (a k)) x=_
  rw[Zm hp (h k (by omega))];exact Oc hp k fun i hi=>h i (by omega)
theorem La(hp:2<=p){a:Nat->Nat->Int}{pl:Nat->Nat}{v:Nat->Int}(hv:JD p m N v):∀k,JD p m N (Od p m ml a pl v k)
 | 0=>hv
 | k+1=>Wa hp (La hp hv k)
theorem Iy(hp:2<=p)(hm:1<=m){n:Nat}{a:Nat->Nat->Int}{pl:Nat->Nat}{v:Nat->Int}(h:VB N a pl n):∀k,k<=n->∀j,j<k->Od p m ml a pl v k (pl j)=0
 | 0,_,j,hj=>by omega
 | k+1,hk,j,hj=>by
  show MG p m ml (Od p m ml a pl v k) (pl k) (a k) (pl j)=0
  unfold MG;split
  .rename_i h0;by_cases e:j=k
   .rw[e];exact h0
   .exact Iy hp hm h k (by omega) j (by omega)
  .unfold Lb;by_cases e:j=k
   .rw[e,h.one k (by omega),if_neg (by decide),FZ hp hm,Bz hp hm (Cc (Nat.pow_pos (by omega)) _),CR (by omega)];rfl
   .rw[h.zer k j (by omega) (by omega),if_pos rfl];exact Iy hp hm h k (by omega) j (by omega)
theorem Qs{pr:Nat->Bool}{n:Nat}:Cx pr n<0↔∀j,j<n->pr j=false:=by
 have h:=Eg pr n;constructor
 .intro h0;rw[decide_eq_false ac]at h;intro j hj
  cases e:pr j with
  | false=>rfl
  | true=>
   have:(List.range n).any pr=true:=List.any_eq_true.2 ⟨j,List.mem_range.2 hj,e⟩;rw[h]at this;cases this
 .intro ha;rw[BZ ha];decide
theorem Z8{pr:Nat->Bool}{n:Nat}(h:0<=Cx pr n):(Cx pr n).toNat<n/\pr (Cx pr n).toNat=true/\∀j,j<(Cx pr n).toNat->pr j=false:=by
 unfold Cx at h ⊢;split
 .rename_i i hi;rw[List.find?_range_eq_some]at hi;refine⟨by have:=List.mem_range.1 hi.2.1;simpa using this,by simpa using hi.1,fun j hj=>?_⟩;have:=hi.2.2 j (by simpa using hj);simpa using this
 .rename_i hn;rw[hn]at h;exact absurd h ae
theorem Tp{t:Nat}{v:Nat->Int}:MK t v<0↔∀j,j<t->v j=0:=by
 unfold MK;rw[Qs];exact⟨fun h j hj=>by simpa using h j hj,fun h j hj=>by simpa using h j hj⟩
theorem lzI_at{t:Nat}{v:Nat->Int}(h:0<=MK t v):(MK t v).toNat<t/\v (MK t v).toNat≠0:=by
 obtain⟨h1,h2,-⟩:=Z8 h;refine⟨h1,?_⟩;have h3:(v (MK t v).toNat !=0)=true:=h2;simpa using h3
structure QZ(p m:Nat)(ml:List Int)(N k:Nat)(rows:Nat->Nat->Int)(e:My):Prop where
 ech:VB N e.a e.pl e.n
 sol:∀x,Cb p m ml N e.n e.a x↔Cb p m ml N k rows x
theorem Cb.succ_iff{k:Nat}{rows:Nat->Nat->Int}{x:Nat->Int}:Cb p m ml N (k+1) rows x↔Cb p m ml N k rows x/\dt p m ml N (rows k) x=0:=
 ⟨fun h=>⟨fun i hi=>h i ac,h k ac⟩,fun h i hi=>by
  by_cases e:i=k
  .rw[e];exact h.2
  .exact h.1 i ac⟩
theorem Y6(hp:2<=p)(hm:1<=m)(hF:Hr p m (lw ml)){k:Nat}{rows:Nat->Nat->Int}{e:My}(h:QZ p m ml N k rows e)(hr:JD p m N (rows k)):QZ p m ml N (k+1) rows (Gz p m ml N e (rows k)):=by
 have aJ:0<p^m:=Nat.pow_pos ac;have aD:JD p m N (e.red p m ml (rows k)):=La hp hr _;have aF:∀x,Cb p m ml N e.n e.a x->dt p m ml N (e.red p m ml (rows k)) x=dt p m ml N (rows k) x:=fun x hx=>Oc hp _ hx;unfold Gz;split
 .rename_i hz;obtain⟨aC,aI⟩:=lzI_at hz;generalize hZ:(MK N (e.red p m ml (rows k))).toNat=z at aC aI;obtain⟨r1,r2⟩:=aD z aC;have hk0:((Av (p^m) (e.red p m ml (rows k) z):Nat):Int)=e.red p m ml (rows k) z:=GM r1 r2;have aL:1<=Av (p^m) (e.red p m ml (rows k) z):=by omega
  have aK:Av (p^m) (e.red p m ml (rows k) z)<p^m:=Cc aJ _;obtain⟨c,hc⟩:=nA (ivz p m ml (Av (p^m) (e.red p m ml (rows k) z)));have aG:Al p m (lw ml) c (Av (p^m) (e.red p m ml (rows k) z))=1:=by
   rw[<-hc];unfold ivz;rw[if_neg ac,A5];exact LB hp hm hF aL aK
  rw[hc];have aH:∀j,j<e.n->e.red p m ml (rows k) (e.pl j)=0:=fun j hj=>Iy hp hm h.ech _ (Nat.le_refl _) j hj;have aE:∀j,j<e.n->Ay e.pl e.n z j=e.pl j:=fun j hj=>Ae _ _ ac;have aB:∀j,j<e.n->Ay e.a e.n (BT p m ml c (e.red p m ml (rows k))) j=e.a j:=fun j hj=>Ae _ _ ac;refine⟨⟨fun i hi=>?_,fun i hi=>?_,fun i j hj hi=>?_⟩,fun x=>?_⟩
  .simp only at hi ⊢;by_cases ei:i=e.n
   .rw[ei,Ab];exact aC
   .rw[aE i ac];exact h.ech.lt i ac
  .simp only at hi ⊢;by_cases ei:i=e.n
   .rw[ei,Ab,Ab];show((Al p m (lw ml) c (Av (p^m) (e.red p m ml (rows k) z)):Nat):Int)=1
    rw[aG];rfl
   .rw[aE i ac,aB i ac];exact h.ech.one i ac
  .simp only at hi ⊢;rw[aE j ac];by_cases ei:i=e.n
   .rw[ei,Ab];show((Al p m (lw ml) c (Av (p^m) (e.red p m ml (rows k) (e.pl j))):Nat):Int)=0
    rw[aH j ac,CM,Be ac];rfl
   .rw[aB i ac];exact h.ech.zer i j hj ac
  .simp only;rw[Cb.succ_iff (k:=e.n),Cb.succ_iff (k:=k),Ab,XP hp];have e1:Cb p m ml N e.n (Ay e.a e.n (BT p m ml c (e.red p m ml (rows k)))) x↔Cb p m ml N e.n e.a x:=
    ⟨fun h i hi=>by rw[<-aB i hi];exact h i hi,fun h i hi=>by rw[aB i hi];exact h i hi⟩
   rw[e1];constructor
   .rintro⟨a1,a2⟩;refine⟨(h.sol x).1 a1,?_⟩;rw[<-aF x a1];apply Classical.byContradiction;intro hne;have hcl:c≠0:=fun h0=>by
     rw[h0,BY ac]at aG;cases aG
    have aM:c<p^m:=by
     apply Classical.byContradiction;intro aA;rw[<-hc]at aA;unfold ivz at aA;rw[if_neg ac]at aA;exact aA (Kk ac _)
    have:=hF.ne_zero hp hm (a:=c) (b:=dt p m ml N (e.red p m ml (rows k)) x) ac aM ac (QG hp _ _);omega
   .rintro⟨a1,a2⟩;have a3:=(h.sol x).2 a1;exact⟨a3,by rw[aF x a3,a2,Be ac]⟩
 .rename_i hz;have h0:=Tp.1 (Int.not_le.1 hz);refine⟨h.ech,fun x=>?_⟩;rw[Cb.succ_iff (k:=k),h.sol x];refine⟨fun a=>⟨a,?_⟩,fun a=>a.1⟩;rw[<-aF x ((h.sol x).2 a)];exact Hf hp h0
theorem Rj(hp:2<=p)(hm:1<=m)(hF:Hr p m (lw ml)){rows:Nat->Nat->Int}{K:Nat}(hr:∀i,i<K->JD p m N (rows i)):∀k,k<=K->QZ p m ml N k rows (Ht p m ml N rows k)
 | 0,_=>⟨⟨fun i hi=>absurd hi (Nat.not_lt_zero i),fun i hi=>absurd hi (Nat.not_lt_zero i),fun i j _ hi=>absurd hi (Nat.not_lt_zero i)⟩,fun x=>⟨fun _ i hi=>absurd hi (Nat.not_lt_zero i),fun _ i hi=>absurd hi (Nat.not_lt_zero i)⟩⟩
 | k+1,hk=>Y6 hp hm hF (Rj hp hm hF hr k (by omega)) (hr k (by omega))
theorem QZ.red_iff(hp:2<=p)(hm:1<=m){k:Nat}{rows:Nat->Nat->Int}{e:My}(h:QZ p m ml N k rows e){v:Nat->Int}(hv:JD p m N v):MK N (e.red p m ml v)<0↔Cl p m ml N k rows v:=by
 rw[Tp];have aA:∀x,Cb p m ml N e.n e.a x->dt p m ml N (e.red p m ml v) x=dt p m ml N v x:=fun x hx=>Oc hp _ hx;constructor
 .intro h0 x hx;rw[<-aA x ((h.sol x).2 hx)];exact Hf hp h0
 .intro hc j hj;have:=VB.zero (ml:=ml) hp hm h.ech (fun i hi=>Iy hp hm h.ech _ (Nat.le_refl _) i hi) (fun x hx=>by
   show dt p m ml N (e.red p m ml v) x=0
   rw[aA x hx];exact hc x ((h.sol x).1 hx)) hj
  obtain⟨r1,r2⟩:=La (ml:=ml) (a:=e.a) (pl:=e.pl) hp hv e.n j hj;have e2:=GM r1 r2;rw[this]at e2;exact e2.symm
theorem P9(hp:2<=p)(hm:1<=m){k n:Nat}{rows l:Nat->Nat->Int}{e:My}(h:QZ p m ml N k rows e)(hl:∀i,i<n->JD p m N (l i)):Jp p m ml N e l n<0↔∀i,i<n->Cl p m ml N k rows (l i):=by
 unfold Jp;rw[Qs];constructor
 .intro h0 i hi;have:=h0 i hi;rw[decide_eq_false_iff_not]at this;exact(h.red_iff hp hm (hl i hi)).1 ac
 .intro h0 i hi;rw[decide_eq_false_iff_not];have:=(h.red_iff hp hm (hl i hi)).2 (h0 i hi);omega
end
theorem boxRf(w:World)(ev:Value):(w.alloc (.cells #[ev] 94)).cell? (w.heap.size,0)=some ev:=ag
def flS(c d:AZ)(es:List Rf)(tl sl:List Int):Nat × Int:=flF c.p.toNat c.m.toNat c.ml c.rows d.rows c.n.toNat es (c.n.toNat-tl.length) 0 tl sl
def ckE(E:Int)(R:Nat × Int)(es:List Rf):Int:=if E≠0 then E else if R.2=0/\R.1<es.length then 13 else R.2
theorem Hs(w:World)(c d:AZ)(m1 m2 v1 v2:Value)(hc:c.at w m1 v1)(hd:d.at w m2 v2)(tl sl:List Int)(tv sv:Value)(ht:Aj w tv tl)(hs:Aj w sv sl)(es:List Rf)(ev:Value)(hr:Yj w ev es):
  Calls Tryz.prog 133 #[c.arg m1 v1,d.arg m2 v2,.agg #[tv,sv],.agg #[ev]] w fun r w'=>(∃e1 e2:Int,BK c.p c.m c.ml c.n c.rows e1/\(e1=0->BK d.p d.m d.ml d.n d.rows e2)/\r= .returned (.int .i64 (ckE (Gj e1 e2 (CN c.p c.m c.ml d.p d.m d.ml) c.n d.n tl sl (c.p.toNat^c.m.toNat)) (flS c d es tl sl) es)))/\Ex w w':=by
 obtain⟨c0,c1,c2,c3,c4⟩:=Du w c m1 v1;obtain⟨d0,d1,d2,d3,d4⟩:=Du (w.alloc (c.obj m1 v1)) d m2 v2;obtain⟨b0,b1,e3,aY⟩:=AX ((w.alloc (c.obj m1 v1)).alloc (d.obj m2 v2)) tv sv;have aI:=boxRf (((w.alloc (c.obj m1 v1)).alloc (d.obj m2 v2)).alloc (.cells #[tv,sv] 71)) ev;have aZ:(w.alloc (c.obj m1 v1)).heap.size=w.heap.size+1:=ag;have aO:((w.alloc (c.obj m1 v1)).alloc (d.obj m2 v2)).heap.size=w.heap.size+1+1:=ag;have e1:=AI w (c.obj m1 v1);have e2:=AI (w.alloc (c.obj m1 v1)) (d.obj m2 v2);have e4:=AI (((w.alloc (c.obj m1 v1)).alloc (d.obj m2 v2)).alloc (.cells #[tv,sv] 71)) (.cells #[ev] 94);rw[aY,aO]at aI;rw[aZ]at d0 d1 d2 d3 d4;rw[aO]at b0 b1;have aC:=e1.trans (e2.trans (e3.trans e4));replace c0:=(e2.trans (e3.trans e4)).cell c0;replace c1:=(e2.trans (e3.trans e4)).cell c1;replace c2:=(e2.trans (e3.trans e4)).cell c2;replace c3:=(e2.trans (e3.trans e4)).cell c3;replace c4:=(e2.trans (e3.trans e4)).cell c4;replace d0:=(e3.trans e4).cell d0;replace d1:=(e3.trans e4).cell d1;replace d2:=(e3.trans e4).cell d2;replace d3:=(e3.trans e4).cell d3;replace d4:=(e3.trans e4).cell d4;replace b0:=e4.cell b0;replace b1:=e4.cell b1;obtain⟨B,hB⟩:=nA w.heap.size;rw[hB]at c0 c1 c2 c3 c4 d0 d1 d2 d3 d4 b0 b1 aI;have aL:=Aa (Ja _ c d m1 m2 v1 v2 (hc.ex aC) (hd.ex aC) tl sl tv sv (ht.ex aC) (hs.ex aC));obtain⟨ta,tc,rfl,-,t2,-⟩:=ht.open;obtain⟨sa,sc,rfl,-,s2,-⟩:=hs.open;obtain⟨x1,y1,rfl,-,z1,-⟩:=hc.g.open;obtain⟨x2,y2,rfl,-,z2,-⟩:=hd.g.open;obtain⟨x3,y3,rfl,-,z3,-⟩:=hc.m.open;obtain⟨x4,y4,rfl,-,z4,-⟩:=hd.m.open;unfold maxLen at t2 s2 z1 z2 z3 z4;obtain⟨HX,HC,HD,HT,HS,HR,aS⟩:=OK aC hc hd ht hs hr aI;obtain⟨ra,rc,rfl,bJ,-,-⟩:=PC hr;unfold maxLen at bJ;have HWB:=Aa hB;clear hc hd ht hs hr e1 e2 e3 e4 aZ aO aY aC aI;unfold AZ.arg at aL ⊢;go_enter Tryz.func133,Tryz.ntmps133
 unfold AZ.obj at c0 c1 c2 c3 c4 d0 d1 d2 d3 d4 b0 b1 HX aS aL;go_upto_region 1 with fail
 try simp only[hB]
 clear hB;generalize (((w.alloc (.cells #[c.p,c.m,.slice x3 c.ml.length y3,c.n,.slice x1 c.rows.length y1] 39)).alloc (.cells #[d.p,d.m,.slice x4 d.ml.length y4,d.n,.slice x2 d.rows.length y2] 39)).alloc (.cells #[.slice ta tl.length tc,.slice sa sl.length sc] 71)).alloc (.cells #[.slice ra es.length rc] 94)=w1 at *;have B0:=Aa b0;have B1:=Aa b1;go_wp2_with fail
 refine aL.o.mono ?_;rintro e w3⟨ho,bA⟩;have aK:=Aa bA;obtain⟨e1,e2,bC,aF,ho⟩:=ho;have aM:=Aa bC;have bE:=Aa aF;clear c0 c1 c2 c3 c4 d0 d1 d2 d3 d4 bA bC aF aL b0 b1;obtain⟨E,hE⟩:=nA (Gj e1 e2 (CN c.p c.m c.ml d.p d.m d.ml) c.n d.n tl sl (c.p.toNat^c.m.toNat));rw[hE]at ho;have HE:=Aa hE;rcases ho with⟨h0,ptr,rfl⟩|⟨h0,w2,A,b,x0,pn,mn,nn,hp,hm,hnn,rfl,hx2,hg,hx01,hx02,hA,hx23,hpr,h11,hf11⟩
 .have hb0:(E !=0)=true:=by simpa using h0
  have H0:=Aa h0;clear h0 hE;go_wp2_with fail
  go_ret;refine⟨⟨e1,e2,aM.o,bE.o,?_⟩,(HX.o.trans aK.o).alloc _⟩;rw[HE.o];unfold ckE;rw[if_pos H0.o];rfl
 .subst h0;obtain⟨k1,k2,k3,k4,k5,k6,k7,k8,k9⟩:=Ri hE;subst k1;have aF:=bE.o rfl;subst k2;obtain⟨aX,aV⟩:=Ds aM.o;obtain⟨aW,aU⟩:=Ds aF;obtain⟨-,bI,bH⟩:=Eh aM.o;obtain⟨SB,aJ⟩:∃B,w3.heap.size=B:=⟨_,rfl⟩;have aA:=HX.o.trans hx2;have b0:=aK.o.cell B0.o;have b1:=aK.o.cell B1.o;have r0:=aK.o.cell aS.o;have HK:=Aa (show c.n=d.n/\tl.length=sl.length/\(tl.length:Int)<=c.n/\BD tl c.n=true from⟨k4,k5,k6,k7⟩);have aB:=Aa (show c.p=pn/\c.m=mn/\c.n=nn from⟨hp,hm,hnn⟩);clear aS hp hm hnn k3 k4 k5 k6 k7 k8 k9 hE;go_upto_region 7 with fail
  have f1:=AI w3 (.cells #[.pointer (some ⟨A,0,none⟩)] 186);have f2:=AI (w3.alloc (.cells #[.pointer (some ⟨A,0,none⟩)] 186)) (.cells #[(0:Int)] 3);have f3:=AI ((w3.alloc (.cells #[.pointer (some ⟨A,0,none⟩)] 186)).alloc (.cells #[(0:Int)] 3)) (.cells #[Ju (SB+1) (B+1+1+1) SB (SB+1+1)] 216);have aT:(w3.alloc (.cells #[.pointer (some ⟨A,0,none⟩)] 186)).cell? (SB,0)=some (.pointer (some (A,0))):=A6 _ _ _ aJ;have aH:(w3.alloc (.cells #[.pointer (some ⟨A,0,none⟩)] 186)).heap.size=SB+1:=by simp[aJ]
  have aR:((w3.alloc (.cells #[.pointer (some ⟨A,0,none⟩)] 186)).alloc (.cells #[(0:Int)] 3)).cell? (SB+1,0)=some (.int .i64 0):=A6 _ _ _ aH;have bD:((w3.alloc (.cells #[.pointer (some ⟨A,0,none⟩)] 186)).alloc (.cells #[(0:Int)] 3)).frozen? (SB+1,0)=false:=Gd _ _ _ aH;have bB:((w3.alloc (.cells #[.pointer (some ⟨A,0,none⟩)] 186)).alloc (.cells #[(0:Int)] 3)).heap.size=SB+1+1:=by simp[aJ]
  have aQ:(((w3.alloc (.cells #[.pointer (some ⟨A,0,none⟩)] 186)).alloc (.cells #[(0:Int)] 3)).alloc (.cells #[Ju (SB+1) (B+1+1+1) SB (SB+1+1)] 216)).cell? (SB+1+1,0)=some (Ju (SB+1) (B+1+1+1) SB (SB+1+1)):=A6 _ _ _ bB;have aD:=hx23.trans f1;have aG:=Aa (show CkE pn mn c.ml c.rows d.rows nn A b x0 (B+1+1+1) SB (.slice x1 c.rows.length y1) (.slice x2 d.rows.length y2) (.slice ra es.length rc) es (w3.alloc (.cells #[.pointer (some ⟨A,0,none⟩)] 186)) from
   { pr:=hpr.ex f1,gf:=hg.ex aD,m1:=(HC.o.g.ex aA).ex aD,m2:=(HD.o.g.ex aA).ex aD,x1:=hx01,x2:=hx02,n64:=by have:=aB.o.2.2;omega,r1:=fun r hr=>by have:=aV r hr;have:=aB.o.2.2;omega,r2:=fun r hr=>by have:=aU r hr;have:=aB.o.2.2;have:=HK.o.1;omega,k1:=aX,k2:=aW,rb:=f1.cell r0,sb:=aT,rs:=(HR.o.ex aA).ex aD })
  have bF:=Aa (show Gw (w3.alloc (.cells #[.pointer (some ⟨A,0,none⟩)] 186)) (SB+1) (SB+1+1) (Ju (SB+1) (B+1+1+1) SB (SB+1+1)) es.length 0 (((w3.alloc (.cells #[.pointer (some ⟨A,0,none⟩)] 186)).alloc (.cells #[(0:Int)] 3)).alloc (.cells #[Ju (SB+1) (B+1+1+1) SB (SB+1+1)] 216)) from
   { ex:=f2.trans f3,c:=f3.cell aR,f:=f3.frz aR bD,fb:=aQ,ne:=ac,lb:=by rw[aH];omega,le:=Nat.zero_le _ })
  have HP:=Aa (fun (v:Value) (l:List Int) (h:Aj w v l)=>show C7 (Uo (SB+1)) (((w3.alloc (.cells #[.pointer (some ⟨A,0,none⟩)] 186)).alloc (.cells #[(0:Int)] 3)).alloc (.cells #[Ju (SB+1) (B+1+1+1) SB (SB+1+1)] 216)) v l from by
   refine⟨h.ex (((aA.trans hx23).trans f1).trans (f2.trans f3)),fun hl X hX hd=>?_⟩;have h2:=h.ex (aA.trans hx23);obtain⟨a,cap,rfl,-,-,h5⟩:=h2.open;obtain⟨b',o,rfl,h6⟩:=h5 (List.length_pos_iff.2 hl);injection hX with hX;have hX:b'=X:=hX;have:=World.block_lt_of_cell? _ _ (h6 0 _ (AU (List.length_pos_iff.2 hl)));have hd:X=SB+1:=hd;simp only at this;omega)
  have b0:=(f1.trans (f2.trans f3)).cell b0;have b1:=(f1.trans (f2.trans f3)).cell b1;have r0:=(f1.trans (f2.trans f3)).cell r0;have aN:=Aa (R8 aG.o (nn-tl.length) 0 _ tl sl (.slice ta tl.length tc) (.slice sa sl.length sc) (by have:=HK.o.2.2.1;have:=aB.o.2.2;omega) HK.o.2.1.symm (by have:=HK.o.2.2.2;rw[aB.o.2.2]at this;exact this) (fun h=>absurd rfl h) bF.o (HP.o _ _ HT.o) (HP.o _ _ HS.o));have hR:flF pn mn c.ml c.rows d.rows nn es (nn-tl.length) 0 tl sl=flS c d es tl sl:=by
   unfold flS;rw[aB.o.1,aB.o.2.1,aB.o.2.2];rfl
  rw[hR]at aN;have fb1:=Aa aQ;unfold Ju at b0 b1 r0 aQ aN bF f3;have bK:=Aa (aA.trans aD);have bG:=aG.o.rb;clear aD aA aH bB aT aR bD f1 f2 HP hx23 hpr hg hx01 hx02 hA h11 hf11 hx2 aX aW aV aU bI bH hR;generalize ((w3.alloc (.cells #[.pointer (some ⟨A,0,none⟩)] 186)).alloc (.cells #[(0:Int)] 3)).alloc (.cells #[.func (.func 180) #[] #[.pointer (some ⟨SB+1,0,none⟩),.pointer (some ⟨B+1+1+1,0,none⟩),.pointer (some ⟨SB,0,none⟩),.pointer (some ⟨SB+1+1,0,none⟩)]] 216)=w6 at *;obtain⟨R,hR⟩:=nA (flS c d es tl sl);rw[hR]at aN;have bM:=Aa hR
  try simp only[aJ]
  clear hR;have aP:R.1<=es.length∨True:=Or.inr trivial;clear aP;go_wp2_with (go_at_call 180;refine aN.o.mono ?_;rintro e7 w7⟨rfl,aE,-⟩;have bL:=Aa aE;have a7:=aE.c;have r7:=aE.ex.cell bG;have hl7:=aE.le;clear aE)
  all_goals
   go_ret;refine⟨⟨0,0,aM.o,fun _=>aF,?_⟩,bK.o.trans bL.o.ex⟩;rw[HE.o,bM.o];unfold ckE
   simp_all
structure VA(w1 wr:World)(E:Nat)(n:Int)(M:List (List Int))(rv:Value)(vals:List Value):Prop where
 c0:wr.cell? (E,0)=some (.int .i64 n)
 c1:wr.cell? (E,1)=some rv
 f1:wr.frozen? (E,1)=false
 rows:BF wr (E+1) rv M vals
 lb:w1.heap.size<=E
 ex:Ex w1 wr
section
variable {w1 wr w':World} {E:Nat} {n:Int} {M:List (List Int)} {rv v' l:Value} {vals:List Value} {L:List Int}
theorem VA.later(h:VA w1 wr E n M rv vals)(hx:Ex wr w'):VA w1 w' E n M rv vals:=
 ⟨hx.cell h.c0,hx.cell h.c1,hx.frz h.c1 h.f1,h.rows.ex hx,h.lb,h.ex.trans hx⟩
theorem VA.at1(h:VA w1 wr E n M rv vals)(ha:Bt wr w' (E+1) 22 1 rv v' M.length vals [l]):w'.cell? (E,1)=some rv/\w'.frozen? (E,1)=false:=
 ⟨ha.cell h.c1 (fun e=>ER h.rows.cvo e.symm),ha.frz h.c1 h.f1 (fun e=>ER h.rows.cvo e.symm)⟩
theorem VA.app1(h:VA w1 wr E n M rv vals)(hl:wr.ownsRow (E+1) 3 1 l L.length (Ap L))(h1:AT l rv)(ha:Bt wr w' (E+1) 22 1 rv v' M.length vals [l]):
  VA w1 (w'.setCell (E,1) v') E n (M ++ [L]) v' (vals ++ [l]):=by
 have aA:some E≠rv.ownBlock:=fun e=>ER h.rows.cvo e.symm;have hm:=h.rows.app hl h1 ha;refine⟨?_,World.cell?_setCell_same _ _ _ (ha.cell h.c1 aA),?_,hm.setNe (a:=⟨E,1,none⟩) (by show E<E+1;omega) v',h.lb,(ha.ex h.ex (by have:=h.lb;omega)).setCell (p:=⟨E,1,none⟩) h.lb _⟩
 .exact za1
 .rw[Ax];exact ha.frz h.c1 h.f1 aA
end
theorem VA.new(w1:World)(n:Int):VA w1 (w1.alloc (.cells #[n,.slice none 0 0] 137)) w1.heap.size n [] (.slice none 0 0) [] where
 c0:=ag
 c1:=ag
 f1:=ag
 rows:=BF.nil _ _
 lb:=Nat.le_refl _
 ex:=(Ex.refl _).alloc _
def E3(p m:Nat)(ml pl sl:List Int)(fr N:Nat)(rows:List (List Int))(k:Nat):List (List Int):=(rows.take k).map fun x=>il N (LQ p m ml pl sl fr x N)
theorem Hd{p m:Nat}{ml pl sl:List Int}{fr N:Nat}{rows:List (List Int)}{k:Nat}(h:k<=rows.length):(E3 p m ml pl sl fr N rows k).length=k:=by
 unfold E3;simp;omega
theorem Xe{p m:Nat}{ml pl sl:List Int}{fr N:Nat}{rows:List (List Int)}{k:Nat}(h:k<rows.length):E3 p m ml pl sl fr N rows (k+1)=E3 p m ml pl sl fr N rows k ++ [il N (LQ p m ml pl sl fr (rows[k]'h) N)]:=by
 unfold E3;rw[List.take_add_one,List.getElem?_eq_getElem h,List.map_append];rfl
def imA(p m:Int)(ml pl sl:List Int)(fr n:Int)(rows:List (List Int)):List (List Int):=E3 p.toNat m.toNat ml pl sl fr.toNat n.toNat rows rows.length
def AppR(p m:Int)(ml:List Int)(n:Int)(rows:List (List Int))(pl sl:List Int)(fr:Int)(b0:Nat)(r:Ending)(w':World):Prop:=
 ∃e1:Int,BK p m ml n rows e1/\
  ((e1≠0/\r= .returned (.tuple #[.agg #[(0:Int),(0:Int),.slice none 0 0,(0:Int),.slice none 0 0],e1]))∨
  (e1=0/\CL p m ml n pl sl fr≠0/\r= .returned (.tuple #[.agg #[(0:Int),(0:Int),.slice none 0 0,(0:Int),.slice none 0 0],.int .i64 (CL p m ml n pl sl fr)]))∨
  (e1=0/\CL p m ml n pl sl fr=0/\CNewR p m ml n (imA p m ml pl sl fr n rows) b0 r w'))
theorem bf{P:Prop}(h:P:=by simp[results,Tryz.results39,go_sem,q0,q1,q2,q3,q4]):P:=h
theorem cj{P:Prop}(h:P:=by show B+1+1<base;omega):P:=h
theorem NV(w:World)(p m:Int)(ml:List Int)(mv:Value)(aX:Aj w mv ml)(n:Int)(rows:List (List Int))(v:Value)(hv:B9 w v rows)(pl sl:List Int)(pv sv:Value)(hp:Aj w pv pl)(hs:Aj w sv sl)(fr:Int):
  Calls Tryz.prog 39 #[.agg #[p,m,mv,n,v],.agg #[pv,sv,fr]] w fun r w'=>AppR p m ml n rows pl sl fr w.heap.size r w'/\Ex w w':=by
 obtain⟨c0,c1,c2,c3,c4,ea⟩:=EV w p m mv n v;obtain⟨b0,b1,b2,eb⟩:=Bh (w.alloc (.cells #[p,m,mv,n,v] 39)) pv sv fr;have bT:(w.alloc (.cells #[p,m,mv,n,v] 39)).heap.size=w.heap.size+1:=ag;have aL:((w.alloc (.cells #[p,m,mv,n,v] 39)).alloc (.cells #[pv,sv,fr] 26)).heap.size=w.heap.size+1+1:=ag;rw[bT]at b0 b1 b2;replace c0:=eb.cell c0;replace c1:=eb.cell c1;replace c2:=eb.cell c2;replace c3:=eb.cell c3;replace c4:=eb.cell c4;obtain⟨HX,HM,HV,HP,HS⟩:=Of (ea.trans eb) aX hv hp hs;obtain⟨va,vc,rfl,-,q1,v3⟩:=hv.open;obtain⟨ma,mc,rfl,-,q2,-⟩:=aX.open;obtain⟨pa,pc,rfl,-,q3,-⟩:=hp.open;obtain⟨sa,sc,rfl,-,q4,-⟩:=hs.open;unfold maxLen at q1 q2 q3 q4;have V3:=Aa v3;obtain⟨B,hB⟩:=nA w.heap.size;rw[hB]at c0 c1 c2 c3 c4 b0 b1 b2 aL;clear aX hv hp hs ea eb bT v3;go_enter Tryz.func39,Tryz.ntmps39
 go_upto_region 1 with fail
 try simp only[hB]
 have HB:=Aa hB;clear hB;generalize (w.alloc (.cells #[p,m,.slice ma ml.length mc,n,.slice va rows.length vc] 39)).alloc (.cells #[.slice pa pl.length pc,.slice sa sl.length sc,fr] 26)=wB at *;have bq:=BxC.new wB;rw[aL]at bq;have ec:Ex wB _:=AI wB (.cells #[(0:Int),(0:Int),.slice none 0 0,(0:Int),.slice none 0 0] 39);have bS:(wB.alloc (.cells #[(0:Int),(0:Int),.slice none 0 0,(0:Int),.slice none 0 0] 39)).heap.size=B+1+1+1:=by simp[aL]
 try simp only[aL]
 generalize wB.alloc (.cells #[(0:Int),(0:Int),.slice none 0 0,(0:Int),.slice none 0 0] 39)=wC at *;obtain⟨aA,BQ,aB,CSZ⟩:=Eq (fun w' (h:Ex wC w')=>(⟨h.cell (ec.cell c0),h.cell (ec.cell c1),h.cell (ec.cell c2),h.cell (ec.cell c3),h.cell (ec.cell c4),h.cell (ec.cell b0),h.cell (ec.cell b1),h.cell (ec.cell b2)⟩:_/\_/\_/\_/\_/\_/\_/\_)) bq (HX.o.trans ec) bS;have cC:=Aa (D9 wC p m ml _ (HM.o.ex aB.o) n rows _ (HV.o.ex aB.o));clear c0 c1 c2 c3 c4 b0 b1 b2 bq ec bS aL HX;obtain⟨c0,c1,c2,c3,c4,b0,b1,b2⟩:=aA.o wC (Ex.refl _);go_wp2_with fail
 refine cC.o.mono ?_;rintro e w2⟨⟨e1,rfl,bN⟩,aU⟩;clear c0 c1 c2 c3 c4 b0 b1 b2 cC;obtain⟨c0,c1,c2,c3,c4,b0,b1,b2⟩:=aA.o w2 aU;have aE:=Aa aU;have aJ:=Aa bN;clear aU bN;by_cases h1:e1=0
 .subst h1;have HF:=Aa (Eh aJ.o);have HR:=Aa (Ds aJ.o);have bA:=Aa (ND w2 p m ml _ (HM.o.ex (aB.o.trans aE.o)) n pl sl _ _ (HP.o.ex (aB.o.trans aE.o)) (HS.o.ex (aB.o.trans aE.o)) fr);obtain⟨E,hE⟩:=nA (CL p m ml n pl sl fr);rw[hE]at bA;have HE:=Aa hE;clear hE;go_wp2_with fail
  refine bA.o.mono ?_;rintro e w3⟨ho,aT⟩;clear c0 c1 c2 c3 c4 b0 b1 b2 bA;obtain⟨c0,c1,c2,c3,c4,b0,b1,b2⟩:=aA.o w3 (aE.o.trans aT);have aD:=Aa (aE.o.trans aT);clear aT aE;rcases ho with⟨rfl,b,pn,mn,x0,rfl,rfl,rfl,hg,x1,x2'⟩|⟨h0,ptr,rfl⟩
  .obtain⟨_,n1,n2,n3,n4,n5,n6,n7,_,_⟩:=Lr HE.o;obtain⟨fn,rfl⟩:∃fn:Nat,fr=fn:=⟨fr.toNat,ac⟩;obtain⟨N,rfl⟩:∃N:Nat,n=N:=⟨n.toNat,ac⟩;have HR2:=HR.o.1;have bL:∀r∈rows,r.length=N:=fun r hr=>by have:=HR.o.2 r hr;omega
   obtain⟨cO,bZ,cT,aR⟩:=Eq bL (show 1<=N/\N<=64/\ml.length<=1000 from⟨ac,ac,by have h:=hg.sh.len;have h8:=hg.sh.m8;rw[h];split <;> omega⟩) (fun (w1:World) (h1:Ex w3 w1) (x:List Int) (xv:Value) (hx:Aj w1 xv x) (cF:x.length=N)=>Vb w1 (hg.ex h1) N ac pl sl x _ _ xv (HP.o.ex ((aB.o.trans aD.o).trans h1)) (HS.o.ex ((aB.o.trans aD.o).trans h1)) hx fn ac ac ac cF n5) (show imA pn mn ml pl sl fn N rows=E3 pn mn ml pl sl fn N rows rows.length from by unfold imA;simp only[Int.toNat_natCast]);clear n1 n2 n3 n4 n5 n6 n7 bL x1 x2' hg HR;go_upto_region 8 with fail
   obtain⟨F,hF⟩:=nA w3.heap.size;have aV:=VA.new w3 (N:Int)
   try simp only[hF]
   rw[hF]at aV;have bY:=Aa aV;have HFW:=Aa hF;have ec:=AI w3 (.cells #[N,.slice none 0 0] 137);generalize w3.alloc (.cells #[N,.slice none 0 0] 137)=w4 at *;clear c0 c1 c2 c3 c4 b0 b1 b2 hF aV;obtain⟨c0,c1,c2,c3,c4,b0,b1,b2⟩:=aA.o w4 (aD.o.trans ec);have EC:=Aa ec;clear ec;go_wp2_with fail
   go_loopw [37] (fun i' wr=>∃(k:Nat) (rv:Value) (vals:List Value),k<=rows.length/\i'= .int .i64 k/\Hia (VA w3 wr F N (E3 pn mn ml pl sl fn N rows k) rv vals)) (fun i' _=>rows.length-(intOf i').toNat)
   case atStart=>exact⟨0,_,_,ac,rfl,bY⟩
   case round=>
    clear bY c0 c1 c2 c3 c4 b0 b1 b2;obtain⟨k,rv,vals,hk,rfl,BC⟩:=hrel;by_cases hkR:k<rows.length
    .obtain⟨rb,ro,rfl,bM⟩:=V3.o ac;obtain⟨uv,bK,aN⟩:=bM k _ (List.getElem?_eq_getElem hkR);have aP:=Aa BC.o.ex;have cu:=((aB.o.trans aD.o).trans aP.o).cell bK;have i1:(0:Int)<=(k:Int):=by omega
     have i2:(k:Int)<(rows.length:Int):=ac;obtain⟨x,hx⟩:=nA (rows[k]);have bU:=Aa (Xe (p:=pn) (m:=mn) (ml:=ml) (pl:=pl) (sl:=sl) (fr:=fn) (N:=N) hkR);have cJ:=Aa (show x.length=N from hx ▸ cO.o _ (List.getElem_mem hkR));rw[hx]at bU aN;have cL:=Aa (aN.ex ((aB.o.trans aD.o).trans aP.o));have aH:=Aa (Hd (p:=pn) (m:=mn) (ml:=ml) (pl:=pl) (sl:=sl) (fr:=fn) (N:=N) hk);have aG:=Aa BC.o;obtain⟨b0,b1,b2⟩:=(aA.o wr (aD.o.trans aP.o)).2.2.2.2.2;have t1:=BC.o.c1;have T1F:=Aa BC.o.f1;obtain⟨qa,qc,aW⟩:=Ad BC.o.rows.cvo;subst aW;rw[Hd ac]at t1;have bW:=Aa t1;obtain⟨ua,uc,rfl,-,u2,-⟩:=aN.open;unfold maxLen at u2;have bX:=Aa (fun (w1:World) (h1:Ex wr w1)=>cT.o w1 (aP.o.trans h1) x _ (cL.o.ex h1) cJ.o);clear bM bK aN hx BC;go_upto_region 11 with fail
     have aF:=Aa (show Ex wr wr.drew from(Ex.refl wr).drew)
     go_region_law
      ((first
              | (refine Cq br _ _ _ br (F+1) 22 (.slice none 0 0) 1 24 Tryz.underlying37 BG rfl ae (.slice qa k qc) k vals br (by have h:=Ai aG.o.rows.cvo ((aF.o.trans aI).trans (AI w5 (.cells #[.slice (some ⟨g5,0,none⟩) N N] 22)));rw[aH.o]at h;exact h) _ 1 [.slice (some ⟨g5,0,none⟩) N N] br (Sl.own (Fy w5 (.slice (some ⟨g5,0,none⟩) N N) 22)) aj ai ac (by have:=cN.o;simp;omega) ?_;intro v8 w8 aC bP bQ;have bC:=Aa (XI (by have h:=Ai aG.o.rows.cvo (aF.o.trans aI);rw[aH.o]at h;exact h) aC bP bQ);obtain⟨bE,cD⟩:=(aG.o.later (aF.o.trans aI)).at1 (by rw[aH.o];exact bC.o);rw[aH.o]at bE;obtain⟨va8,vc8,cI⟩:=Ad aC;subst cI)
              | (go_simp;refine(bX.o _ aF.o).mono ?_;rintro e w5⟨g5,rfl,aO,aI⟩;have t1:=aI.cell (show wr.drew.cell? (F,1)=some (.slice qa k qc) from bW.o);have cE:=(AI w5 (.cells #[.slice (some ⟨g5,0,none⟩) N N] 22)).cell t1;have cN:=Aa (show F+1<=w5.heap.size from by have h1:=aO.lt;have h2:=World.block_lt_of_cell? _ _ t1;exact h2);go_simp)))
     all_goals
      have aK:=aF.o.trans aI;have aM:=aG.o.later aK;have bO:w5.ownsRow (F+1) 3 1 (.slice (some ⟨g5,0,none⟩) N N) (il N (LQ pn mn ml pl sl fn x N)).length (Ap (il N (LQ pn mn ml pl sl fn x N))):=by
       rw[AJ,Cw];exact Bl aO (World.block_lt_of_cell? _ _ (aF.o.cell bW.o))
      have bR:∀v2 (e2:TypeId) (n2:Nat) bD,wr.ownsRow (F+1) e2 1 v2 n2 bD->AT (.slice (some ⟨g5,0,none⟩) N N) v2:=fun v2 e2 n2 bD h=>by
       right;show some g5≠_
       intro e;have h1:=(h.lt g5 e.symm).2;have h2:=aO.lt.1;have h3:=aF.o.size;omega
      have aZ:=Aa (aM.app1 bO (bR _ _ _ _ aG.o.rows.cvo) (by rw[aH.o];exact bC.o));rw[<-bU.o]at aZ;clear aM bO bR aK bE cD t1 cE bC aC bP bQ aO aI bX;go_wp2_with fail
      go_roundw
      case rel=>first|exact⟨k+1,_,_,ac,by go_num,aZ⟩|((repeat apply Exists.intro);exact⟨⟨k+1,_,_,ac,by go_num,aZ⟩,rfl⟩)
      case measure=>simp[intOf];omega
    .obtain rfl:k=rows.length:=by omega
     have aG:=Aa BC.o;obtain⟨c0,c1,c2,c3,c4,-,-,-⟩:=aA.o wr (aD.o.trans BC.o.ex);have t0:=BC.o.c0;have t1:=BC.o.c1;have aY:=Aa ((aB.o.trans aD.o).trans BC.o.ex);have bV:=Aa (aD.o.trans BC.o.ex);obtain⟨qa,qc,aW⟩:=Ad BC.o.rows.cvo;subst aW;have aH:=Aa (Hd (p:=pn) (m:=mn) (ml:=ml) (pl:=pl) (sl:=sl) (fr:=fn) (N:=N) (Nat.le_refl rows.length));have bB:=Aa (QK wr pn mn ml _ (HM.o.ex aY.o) bZ.o.2.2 N _ _ aG.o.rows.msl (fun _=>by have:=bZ.o.1;omega));rw[aH.o]at t1 bB;clear BC;go_wp2_with fail
     refine bB.o.mono ?_;rintro e w7⟨hc,aS⟩;obtain⟨q0,q1,q2,q3,q4,bJ,bI,bH,bG,bF⟩:=BQ.o.ex (bV.o.trans aS);have X7:=Aa (aY.o.trans aS);have hw:=HB.o;have cM:=Aa (show B+1+1<wr.heap.size from World.block_lt_of_cell? _ _ (BQ.o.ex bV.o).c0);clear aS bB;rcases hc with⟨hne,rfl⟩|⟨hne,pn',mn',N',piv,a',rv,v',e1,e2,e3,hfb,hmk,rfl,hel,hv',hrv,hb',g,blk,cap,base,hbase,rfl,hem,hp2,hr2⟩
     .have cA:=Aa hne;have HFE:=Aa aR.o;obtain⟨Z,hZ⟩:=nA (Lp pn mn ml N (E3 pn mn ml pl sl fn N rows rows.length));rw[hZ]at cA
      try rw[hZ]
      have HZ:=Aa hZ;clear hne hZ;go_wp2_with fail
      exact bodyPost_ret (v:= .tuple #[.agg #[(0:Int),(0:Int),.slice none 0 0,(0:Int),.slice none 0 0],Z]) bf rfl ⟨⟨0,aJ.o,.inr (.inr ⟨rfl,HE.o,.inl ⟨by rw[aR.o,HZ.o];exact cA.o,by rw[aR.o,HZ.o]⟩⟩)⟩,D6 X7.o ac _ _ _ _ _⟩
     .have cH:=cM.o;have cG:=aY.o.size;obtain⟨cB,cV,cU,cS⟩:=Eq (((((hem.low (A:=⟨B+1+1,0,none⟩) cj (.int .i64 pn)).low (A:=⟨B+1+1,1,none⟩) cj (.int .i64 mn)).low (A:=⟨B+1+1,2,none⟩) cj v').low (A:=⟨B+1+1,3,none⟩) cj (.int .i64 N)).low (A:=⟨B+1+1,4,none⟩) cj (.slice (some ⟨g,0,none⟩) piv.length piv.length)) (show ∀B',v'.ownBlock=some B'->B'≠B+1+1 from fun B' h=>by have:=hb' B' h;omega) (show ∀B',v'.ownBlock=some B'->w.heap.size<=B' from fun B' h=>by have:=hb' B' h;omega) (show w.heap.size<=base from ac);have aQ:=Aa (show Lp pn mn ml N (E3 pn mn ml pl sl fn N rows rows.length)=0/\FP pn mn ml/\BV (pn^mn) N (E3 pn mn ml pl sl fn N rows rows.length)=0/\Hk pn mn ml N (E3 pn mn ml pl sl fn N rows rows.length).length (An (E3 pn mn ml pl sl fn N rows rows.length)) a' piv from by
       obtain rfl:pn=pn':=ac;obtain rfl:mn=mn':=ac;obtain rfl:N=N':=ac;exact⟨hne,hfb,hmk,hel⟩)
      obtain rfl:N=N':=ac;obtain⟨cP,cQ,cR,cK,HEQ⟩:=Of hp2 hr2 (cB.o.msl hp2 hr2) hv' (show pn=pn'/\mn=mn' from⟨ac,ac⟩);obtain⟨xa,xc,rfl,-,-,-⟩:=hv'.open;clear hne hfb hmk hel hv' hrv hb' hbase hem hp2 hr2 cH cG e1 e2 e3;go_wp2_with fail
      exact bodyPost_ret (v:= .tuple #[.agg #[pn,mn,.slice xa ml.length xc,N,.slice (some ⟨g,0,none⟩) piv.length piv.length],(0:Int)]) bf rfl ⟨⟨0,aJ.o,.inr (.inr ⟨rfl,HE.o,by rw[aR.o];exact .inr ⟨aQ.o.1,pn,mn,N,piv,a',_,_,rfl,rfl,rfl,aQ.o.2.1,aQ.o.2.2.1,rfl,aQ.o.2.2.2,KU cK.o cV.o _ _ _ _ _,cR.o,cU.o,g,blk,cap,base,cS.o,rfl,cB.o,cP.o,cQ.o⟩⟩)⟩,D6 X7.o ac _ _ _ _ _⟩
  .have k1:(E==0)=false:=by simpa using h0
   obtain⟨q0,q1,q2,q3,q4,bJ,bI,bH,bG,bF⟩:=BQ.o.ex aD.o;have H0:=Aa h0;have hw:=HB.o;clear h0;go_wp2_with fail
   exact bodyPost_ret (v:= .tuple #[.agg #[(0:Int),(0:Int),.slice none 0 0,(0:Int),.slice none 0 0],E]) bf rfl ⟨⟨0,aJ.o,.inr (.inl ⟨rfl,by rw[HE.o];exact H0.o,by rw[HE.o]⟩)⟩,D6 (aB.o.trans aD.o) ac _ _ _ _ _⟩
 .have k1:(e1==0)=false:=by simpa using h1
  obtain⟨q0,q1,q2,q3,q4,bJ,bI,bH,bG,bF⟩:=BQ.o.ex aE.o;have H1:=Aa h1;have hw:=HB.o;clear h1;go_wp2_with fail
  exact bodyPost_ret (v:= .tuple #[.agg #[(0:Int),(0:Int),.slice none 0 0,(0:Int),.slice none 0 0],e1]) bf rfl ⟨⟨e1,aJ.o,.inl ⟨H1.o,rfl⟩⟩,D6 (aB.o.trans aE.o) ac _ _ _ _ _⟩
end Go.Proofs.YtehieobniamagaaGreat
