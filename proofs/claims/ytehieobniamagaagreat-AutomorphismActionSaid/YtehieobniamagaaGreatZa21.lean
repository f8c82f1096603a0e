/- Walk of equivalence.Find. -/
import Derived.Test.YtehieobniamagaaGreatZa20
namespace Go.Proofs.YtehieobniamagaaGreat
open Go.RowKit
set_option linter.all false
set_option maxRecDepth 100000
set_option maxHeartbeats 8000000
structure PG(w2:World)(A b n:Nat)(v1 v2:Value)(s:Nat × List Nd)(w:World):Prop where
 ex:Ex w2 w
 pr:Kh w A b n v1 v2
 c11:w.cell? ⟨A,11,none⟩=some (.int .i64 s.1)
 f11:w.frozen? ⟨A,11,none⟩=false
 l1:s.2.length<=s.1
 l2:s.1<=65536
 lb:w2.heap.size<=A
section
variable {w2 w w':World} {A b n:Nat} {v1 v2:Value} {s:Nat × List Nd}
theorem PG.later(h:PG w2 A b n v1 v2 s w)(hx:Ex w w'):PG w2 A b n v1 v2 s w':=
 ⟨h.ex.trans hx,h.pr.ex hx,hx.cell h.c11,hx.frz h.c11 h.f11,h.l1,h.l2,h.lb⟩
theorem PG.seen(h:PG w2 A b n v1 v2 s w)(hs:s.1<65536):PG w2 A b n v1 v2 (s.1+1,s.2) (w.setCell ⟨A,11,none⟩ (.int .i64 ((s.1:Int)+1))):=
 ⟨h.ex.setCell (p:=⟨A,11,none⟩) h.lb _,⟨by rw[Af ae];exact h.pr.c0,by rw[Af ae];exact h.pr.c4,by rw[Af ae];exact h.pr.c5,by rw[Af ae];exact h.pr.c10⟩,by
  rw[World.cell?_setCell_same _ _ _ h.c11];simp,by rw[Ar];exact h.f11,by have:=h.l1;show s.2.length<=s.1+1;omega,by show s.1+1<=65536;omega,h.lb⟩
theorem PG.other(h:PG w2 A b n v1 v2 s w){B j:Nat}(hB:B≠A)(hb:w2.heap.size<=B)(u:Value):PG w2 A b n v1 v2 s (w.setCell ⟨B,j,none⟩ u):=
 ⟨h.ex.setCell (p:=⟨B,j,none⟩) hb _,⟨by rw[Ah hB];exact h.pr.c0,by rw[Ah hB];exact h.pr.c4,by rw[Ah hB];exact h.pr.c5,by rw[Ah hB];exact h.pr.c10⟩,by rw[Ah hB];exact h.c11,by rw[Ar];exact h.f11,h.l1,h.l2,h.lb⟩
theorem PG.note(h:PG w2 A b n v1 v2 s w)(hl:s.2.length<s.1)(x:Nd):PG w2 A b n v1 v2 (s.1,s.2 ++ [x]) w:=
 ⟨h.ex,h.pr,h.c11,h.f11,by rw[List.length_append];show s.2.length+1<=s.1;omega,h.l2,h.lb⟩
end
theorem El{DM:World->Nat->Prop}{w:World}{B j:Nat}{u:Value}(h:DM w B)(hi:∀X,DM (w.setCell ⟨B,j,none⟩ u) X->DM w X):AC DM w (w.setCell ⟨B,j,none⟩ u):=
 ⟨ag,fun X hX hn=>⟨Below.heap_setCell w ⟨B,j,none⟩ u X (fun e=>hn (by rw[e];exact h)),fun hd=>hn (hi X hd)⟩⟩
def PW(A NB:Nat):World->Nat->Prop:=fun _ X=>X=A∨X=NB
def DJ(L:List Nd):Nd:=L.getLast?.getD ⟨[], [],0, []⟩
theorem Hl(L:List Nd)(x:Nd):DJ (L ++ [x])=x:=by unfold DJ;simp
structure PT(w2:World)(A NB b n:Nat)(v1 v2:Value)(s:Nat × List Nd)(w:World):Prop where
 sw:PG w2 A b n v1 v2 s w
 ne:NB≠A
 lb:w2.heap.size<=NB
 nb:∃tv sv,w.cell? ⟨NB,0,none⟩=some tv/\w.cell? ⟨NB,1,none⟩=some sv/\Co (PW A NB) w tv (DJ s.2).tl/\Co (PW A NB) w sv (DJ s.2).sc
 f0:w.frozen? ⟨NB,0,none⟩=false
 f1:w.frozen? ⟨NB,1,none⟩=false
 ll:(DJ s.2).tl.length<=64/\(DJ s.2).sc.length<=64
section
variable {w2 w w':World} {A NB b n:Nat} {v1 v2:Value} {s:Nat × List Nd}
theorem PT.stt:Se (PT w2 A NB b n v1 v2) (PW A NB) where
 ex:=fun s w w' h hx=>by
  obtain⟨tv,sv,h1,h2,h3,h4⟩:=h.nb;have hk:AC (PW A NB) w w':=⟨hx.size,fun B hB hn=>⟨hx.block B hB,hn⟩⟩;exact⟨h.sw.later hx,h.ne,h.lb,⟨tv,sv,hx.cell h1,hx.cell h2,h3.keep hk,h4.keep hk⟩,hx.frz h1 h.f0,hx.frz h2 h.f1,h.ll⟩
 lt:=fun s w B h hd=>by
  rcases hd with rfl|rfl
  .exact World.block_lt_of_cell? _ _ h.sw.c11
  .obtain⟨tv,sv,h1,-⟩:=h.nb;exact World.block_lt_of_cell? _ _ h1
 dx:=fun s w w' B h hx hd=>hd
theorem PT.seen(h:PT w2 A NB b n v1 v2 s w)(hs:s.1<65536):PT w2 A NB b n v1 v2 (s.1+1,s.2) (w.setCell ⟨A,11,none⟩ (.int .i64 ((s.1:Int)+1)))/\AC (PW A NB) w (w.setCell ⟨A,11,none⟩ (.int .i64 ((s.1:Int)+1))):=by
 have hk:AC (PW A NB) w (w.setCell ⟨A,11,none⟩ (.int .i64 ((s.1:Int)+1))):=El (.inl rfl) fun X h=>h;obtain⟨tv,sv,h1,h2,h3,h4⟩:=h.nb;exact⟨⟨h.sw.seen hs,h.ne,h.lb,⟨tv,sv,by rw[Ah (fun e=>h.ne e.symm)];exact h1,by rw[Ah (fun e=>h.ne e.symm)];exact h2,h3.keep hk,h4.keep hk⟩,by rw[Ar];exact h.f0,by rw[Ar];exact h.f1,h.ll⟩,hk⟩
theorem PT.set(h:PT w2 A NB b n v1 v2 s w)(hl:s.2.length<s.1){tl sl msg:List Int}{side:Int}{tv sv:Value}(ht:Co (PW A NB) w tv tl)(hs:Co (PW A NB) w sv sl)(aA:tl.length<=64)(aB:sl.length=tl.length):
  PT w2 A NB b n v1 v2 (s.1,s.2 ++ [⟨tl,sl,side,msg⟩]) ((w.setCell ⟨NB,0,none⟩ tv).setCell ⟨NB,1,none⟩ sv)/\AC (PW A NB) w ((w.setCell ⟨NB,0,none⟩ tv).setCell ⟨NB,1,none⟩ sv):=by
 have hk:AC (PW A NB) w ((w.setCell ⟨NB,0,none⟩ tv).setCell ⟨NB,1,none⟩ sv):=(El (.inr rfl) fun X h=>h).trans (El (.inr rfl) fun X h=>h);obtain⟨tv',sv',h1,h2,h3,h4⟩:=h.nb;refine⟨⟨((h.sw.other h.ne h.lb tv).other h.ne h.lb sv).note hl _,h.ne,h.lb,⟨tv,sv,?_,?_,?_,?_⟩,by rw[Ar,Ar];exact h.f0,by rw[Ar,Ar];exact h.f1,by show(DJ (s.2 ++ [_])).tl.length<=64/\_;rw[Hl];exact⟨aA,by rw[aB];exact aA⟩⟩,hk⟩
 .rw[Af ae];exact World.cell?_setCell_same _ _ _ h1
 .exact World.cell?_setCell_same _ _ _ (by rw[Af ae];exact h2)
 .show Co _ _ tv (DJ (s.2 ++ [_])).tl
  rw[Hl];exact ht.keep hk
 .show Co _ _ sv (DJ (s.2 ++ [_])).sc
  rw[Hl];exact hs.keep hk
theorem TV(h:PT w2 A NB b n v1 v2 s w)(hl:s.2.length<s.1){tl sl msg:List Int}{side:Int}{tv sv mv:Value}(ht:Co (PW A NB) w tv tl)(hs:Co (PW A NB) w sv sl)(aD:tl.length<=64)(aB:sl.length=tl.length):
  Calls Tryz.prog 172 #[.agg #[tv,sv],.int .i64 side,mv,.pointer (some ⟨NB,0,none⟩)] w fun r w'=>(∃t,r= .returned t)/\PT w2 A NB b n v1 v2 (s.1,s.2 ++ [⟨tl,sl,side,msg⟩]) w'/\AC (PW A NB) w w':=by
 obtain⟨b0,b1,e1,-⟩:=AH w tv sv;have h1:=PT.stt.ex _ _ _ h e1;have aA:=PT.stt.keeps h e1;obtain⟨h2,aC⟩:=h1.set hl (side:=side) (msg:=msg) (ht.keep aA) (hs.keep aA) aD aB;obtain⟨tv',sv',c0,c1,-,-⟩:=h1.nb;have f0:=h1.f0;have f1:=h1.f1;obtain⟨ta,tc,rfl,-,-,-⟩:=ht.1.open;obtain⟨sa,sc,rfl,-,-,-⟩:=hs.1.open;have H2:=Aa h2;have HK:=Aa (aA.trans aC);clear h ht hs h1 aA h2 aC e1 aB;go_enter Tryz.func172,Tryz.ntmps172
 go_wp2_with fail
 go_end0
 exact⟨⟨_,rfl⟩,H2.o,HK.o⟩
end
theorem V9{w2:World}{p m n A NB b x0:Nat}{ml:List Int}{l1 l2:List (List Int)}{v1 v2:Value}(hg:AP w2 b p m ml x0)(x1:1<=x0)(x2:x0<p^m)(h1:BT w2 v1 l1)(h2:BT w2 v2 l2)(hn:n<=64)(r1:∀r∈l1,r.length=n)(r2:∀r∈l2,r.length=n)(k1:l1.length<=256)(k2:l2.length<=256):
  Ys p m ml l1 l2 n A b x0 v1 v2 (PT w2 A NB b n v1 v2) (PW A NB) where
 stt:=PT.stt
 pr:=fun s w h=>h.sw.pr
 gf:=fun s w h=>hg.ex h.sw.ex
 m1:=fun s w h=>h1.ex h.sw.ex
 m2:=fun s w h=>h2.ex h.sw.ex
 c11:=fun s w h=>⟨h.sw.c11,h.sw.f11⟩
 le:=fun s w h=>⟨h.sw.l1,h.sw.l2⟩
 seen:=fun s w h hs=>h.seen hs
 x1:=x1
 x2:=x2
 n64:=hn
 r1:=r1
 r2:=r2
 k1:=k1
 k2:=k2
theorem CH{p m:Int}{ml:List Int}{n:Int}{rows:List (List Int)}(h:Ce p m ml n rows 0):rows.length<=256/\∀r∈rows,(r.length:Int)=n:=by
 rcases h with⟨_,h⟩|⟨_,h1,h2⟩|⟨h1,h2,h3⟩
 .cases h
 .exact absurd h2.symm h1
 .rcases h3 with⟨h3,h4⟩|⟨_,pn,mn,N,piv,a',_,_,e,_,hm,_⟩
  .exact absurd h4.symm h3
  .obtain⟨_,_,s3,s4⟩:=Gl hm;exact⟨s3,fun r hr=>by rw[e];exact(s4 r hr).1⟩
theorem OM{e1 e2:Int}{aA:Bool}{n n':Int}{tl sl:List Int}{q:Nat}(h:EY e1 e2 aA n n' tl sl q=0):e1=0/\e2=0/\aA=true/\n=n'/\tl.length=sl.length/\(tl.length:Int)<=n/\Bz tl n=true/\Dt tl=false/\DS q sl=0:=by
 unfold EY at h;split at h
 .rename_i h1;exact absurd h h1
 rename_i h1;split at h
 .rename_i h2;exact absurd h h2
 rename_i h2;split at h
 .cases h
 rename_i h3;split at h
 .cases h
 rename_i h4;split at h
 .rename_i h5;exact absurd h h5
 rename_i h5;have hi:EJ tl n=0:=ac;unfold EJ at hi;split at hi
 .cases hi
 rename_i h6;split at hi
 .cases hi
 rename_i h7;refine⟨ac,ac,?_,?_,ac,ac,by cases hr:Bz tl n <;> simp_all,by cases hr:Dt tl <;> simp_all,h⟩
 .cases hs:aA with
  | true=>rfl
  | false=>exact absurd (.inl hs) h3
 .by_cases e:n=n'
  .exact e
  .exact absurd (.inr e) h3
def FY(c d:AU)(tl sl:List Int):(Nat × List Nd) × Int:=Nf c.p.toNat c.m.toNat c.ml c.rows d.rows c.n.toNat (c.n.toNat-tl.length) (0, []) tl sl
def JH(E:Int)(R:(Nat × List Nd) × Int):Int:=if E≠0 then E else if R.2=18 then 0 else if R.2=0 then 11 else R.2
def Iu(E:Int)(R:(Nat × List Nd) × Int):Cw:=if E≠0 then⟨[], [],0⟩ else if R.2=18 then⟨(DJ R.1.2).tl,(DJ R.1.2).sc,0⟩ else⟨[], [],0⟩
def Zm(b:Nat)(M:Cw)(e:Int)(r:Ending)(w':World):Prop:=∃u v,r= .returned (.tuple #[.agg #[u,v,.int .i64 M.frob],.int .i64 e])/\Aj w' u M.perm/\Aj w' v M.scale/\(∀X,u.ownBlock=some X->b<=X)/\∀X,v.ownBlock=some X->b<=X
theorem zcr{P:Prop}(h:P:=by
 exact⟨_,_,rfl,AF _,AF _,fun X h=>(by cases h),fun X h=>by cases h⟩):P:=h
theorem zbQ{P:Prop}(h:P:=by
 rw[aB.o.1,aB.o.2];exact zcr):P:=h
theorem bi{P:Prop}(h:P:=by simp[results,Tryz.results122,go_sem,q0,q1,q2]):P:=h
theorem R7(w:World)(c d:AU)(m1 m2 v1 v2:Value)(hc:c.at w m1 v1)(hd:d.at w m2 v2)(tl sl:List Int)(tv sv:Value)(ht:Aj w tv tl)(hs:Aj w sv sl):
  Calls Tryz.prog 122 #[c.arg m1 v1,d.arg m2 v2,.agg #[tv,sv]] w fun r w'=>(∃e1 e2:Int,Ce c.p c.m c.ml c.n c.rows e1/\(e1=0->Ce d.p d.m d.ml d.n d.rows e2)/\Zm w.heap.size (Iu (EY e1 e2 (Cq c.p c.m c.ml d.p d.m d.ml) c.n d.n tl sl (c.p.toNat^c.m.toNat)) (FY c d tl sl)) (JH (EY e1 e2 (Cq c.p c.m c.ml d.p d.m d.ml) c.n d.n tl sl (c.p.toNat^c.m.toNat)) (FY c d tl sl)) r w')/\Ex w w':=by
 obtain⟨c0,c1,c2,c3,c4⟩:=Dp w c m1 v1;obtain⟨d0,d1,d2,d3,d4⟩:=Dp (w.alloc (c.obj m1 v1)) d m2 v2;obtain⟨b0,b1,e3,bT⟩:=AH ((w.alloc (c.obj m1 v1)).alloc (d.obj m2 v2)) tv sv;have aQ:=WA.new (((w.alloc (c.obj m1 v1)).alloc (d.obj m2 v2)).alloc (.cells #[tv,sv] 71));have bU:(w.alloc (c.obj m1 v1)).heap.size=w.heap.size+1:=ag;have bA:((w.alloc (c.obj m1 v1)).alloc (d.obj m2 v2)).heap.size=w.heap.size+1+1:=ag;have e1:=AE w (c.obj m1 v1);have e2:=AE (w.alloc (c.obj m1 v1)) (d.obj m2 v2);have e4:=AE (((w.alloc (c.obj m1 v1)).alloc (d.obj m2 v2)).alloc (.cells #[tv,sv] 71)) (.cells #[.slice none 0 0,.slice none 0 0,.int .i64 0] 26);rw[bT,bA]at aQ;rw[bU]at d0 d1 d2 d3 d4;rw[bA]at b0 b1;have aF:=e1.trans (e2.trans (e3.trans e4));replace c0:=(e2.trans (e3.trans e4)).cell c0;replace c1:=(e2.trans (e3.trans e4)).cell c1;replace c2:=(e2.trans (e3.trans e4)).cell c2;replace c3:=(e2.trans (e3.trans e4)).cell c3;replace c4:=(e2.trans (e3.trans e4)).cell c4;replace d0:=(e3.trans e4).cell d0;replace d1:=(e3.trans e4).cell d1;replace d2:=(e3.trans e4).cell d2;replace d3:=(e3.trans e4).cell d3;replace d4:=(e3.trans e4).cell d4;replace b0:=e4.cell b0;replace b1:=e4.cell b1;obtain⟨B,hB⟩:=nA w.heap.size;rw[hB]at c0 c1 c2 c3 c4 d0 d1 d2 d3 d4 b0 b1 aQ;have aS:=Aa (GZ _ c d m1 m2 v1 v2 (hc.ex aF) (hd.ex aF) tl sl tv sv (ht.ex aF) (hs.ex aF));obtain⟨ta,tc,rfl,-,t2,-⟩:=ht.open;obtain⟨sa,sc,rfl,-,s2,-⟩:=hs.open;obtain⟨x1,y1,rfl,-,z1,-⟩:=hc.g.open;obtain⟨x2,y2,rfl,-,z2,-⟩:=hd.g.open;obtain⟨x3,y3,rfl,-,z3,-⟩:=hc.m.open;obtain⟨x4,y4,rfl,-,z4,-⟩:=hd.m.open;unfold maxLen at t2 s2 z1 z2 z3 z4;obtain⟨HX,HC,HD,HT,HS,aU,aR⟩:=OK aF hc hd ht hs aQ hB;clear hc hd ht hs e1 e2 e3 e4 bU bA bT aF aQ;unfold AU.arg at aS ⊢;go_enter Tryz.func122,Tryz.ntmps122
 unfold AU.obj at c0 c1 c2 c3 c4 d0 d1 d2 d3 d4 b0 b1 HX aU aS;go_upto_region 1 with fail
 try simp only[hB]
 clear hB;generalize (((w.alloc (.cells #[.int .i64 c.p,.int .i64 c.m,.slice x3 c.ml.length y3,.int .i64 c.n,.slice x1 c.rows.length y1] 39)).alloc (.cells #[.int .i64 d.p,.int .i64 d.m,.slice x4 d.ml.length y4,.int .i64 d.n,.slice x2 d.rows.length y2] 39)).alloc (.cells #[.slice ta tl.length tc,.slice sa sl.length sc] 71)).alloc (.cells #[.slice none 0 0,.slice none 0 0,.int .i64 0] 26)=w1 at *;have B0:=Aa b0;have B1:=Aa b1;go_wp2_with fail
 refine aS.o.mono ?_;rintro e w3⟨ho,bW⟩;have cE:=Aa bW;obtain⟨e1,e2,bZ,aK,ho⟩:=ho;have aI:=Aa bZ;have aN:=Aa aK;clear c0 c1 c2 c3 c4 d0 d1 d2 d3 d4 bW bZ aK aS b0 b1;obtain⟨E,hE⟩:=nA (EY e1 e2 (Cq c.p c.m c.ml d.p d.m d.ml) c.n d.n tl sl (c.p.toNat^c.m.toNat));rw[hE]at ho;have HE:=Aa hE;rcases ho with⟨h0,ptr,rfl⟩|⟨h0,w2,A,b,x0,pn,mn,nn,hp,hm,hnn,rfl,hx2,hg,hx01,hx02,hA,hx23,hpr,h11,hf11⟩
 .have hb0:(E !=0)=true:=by simpa using h0
  obtain⟨q0,q1,q2,aZ,aY,aX⟩:=aU.o.ex cE.o;have H0:=Aa h0;clear h0 hE;go_wp2_with fail
  refine bodyPost_ret (v:= .tuple #[.agg #[.slice none 0 0,.slice none 0 0,.int .i64 0],.int .i64 E]) bi rfl ⟨⟨e1,e2,aI.o,aN.o,?_⟩,Bf (HX.o.trans cE.o) (by rw[aR.o];omega) _ _ _⟩;rw[HE.o];unfold Iu JH;rw[if_pos H0.o,if_pos H0.o];exact zcr
 .subst h0;obtain⟨k1,k2,k3,k4,k5,k6,k7,k8,k9⟩:=OM hE;subst k1;have aK:=aN.o rfl;subst k2;obtain⟨bS,bQ⟩:=CH aI.o;obtain⟨bR,bP⟩:=CH aK;obtain⟨-,cQ,cP⟩:=Eu aI.o;obtain⟨NB,aG⟩:∃B,w3.heap.size=B:=⟨_,rfl⟩;have bG:A<NB:=by rw[<-aG];exact World.block_lt_of_cell? _ _ h11
  have aA:=HX.o.trans hx2;have e5:=AE w3 (.cells #[.slice none 0 0,.slice none 0 0] 71);obtain⟨n0,n1,-,-⟩:=AH w3 (.slice none 0 0) (.slice none 0 0);have bO:(w3.alloc (.cells #[.slice none 0 0,.slice none 0 0] 71)).frozen? ⟨NB,0,none⟩=false:=by rw[<-aG];simp
  have bN:(w3.alloc (.cells #[.slice none 0 0,.slice none 0 0] 71)).frozen? ⟨NB,1,none⟩=false:=by rw[<-aG];simp
  rw[aG]at n0 n1;have aP:=Aa (V9 (p:=pn) (m:=mn) (n:=nn) (A:=A) (NB:=NB) hg hx01 hx02 (HC.o.g.ex aA) (HD.o.g.ex aA) ac (fun r hr=>by have:=bQ r hr;omega) (fun r hr=>by have:=bP r hr;omega) bS bR);have aC:PT w2 A NB b nn (.slice x1 c.rows.length y1) (.slice x2 d.rows.length y2) (0, []) (w3.alloc (.cells #[.slice none 0 0,.slice none 0 0] 71)):=
   ⟨⟨hx23.trans e5,hpr.ex e5,e5.cell h11,e5.frz h11 hf11,ag,ag,hA⟩,ac,ac,⟨_,_,n0,n1,⟨AF _,fun h=>absurd rfl h⟩,⟨AF _,fun h=>absurd rfl h⟩⟩,bO,bN,ae⟩
  have cZ:=Aa aC;have aJ:w1.heap.size<=w2.heap.size:=hx2.size;have bI:=Aa aJ;have aD:∀(v:Value) (l:List Int),Aj w v l->Co (PW A NB) (w3.alloc (.cells #[.slice none 0 0,.slice none 0 0] 71)) v l:=fun v l h=>by
   have h2:=h.ex aA;have hk:AC (fun _ X=>w2.heap.size<=X) w2 (w3.alloc (.cells #[.slice none 0 0,.slice none 0 0] 71)):=⟨(hx23.trans e5).size,fun X hX hn=>⟨(hx23.trans e5).block X hX,hn⟩⟩;refine⟨(h.ex aA).ex (hx23.trans e5),fun hl X hX hd=>?_⟩;obtain⟨a,cap,rfl,-,-,h5⟩:=h2.open;obtain⟨b',o,rfl,h6⟩:=h5 (List.length_pos_iff.2 hl);injection hX with hX;have hX:b'=X:=hX;subst hX;obtain⟨x,l',rfl⟩:=List.exists_cons_of_ne_nil hl;have hlt:b'<w2.heap.size:=World.block_lt_of_cell? _ _ (h6 0 x rfl);rcases hd with hd|hd <;> omega
  have aT:=Aa (OR aP.o (.pointer (some ⟨NB,0,none⟩)) (fun s w' tl' sl' tv' sv' side msg mv h hl cR cS hm' bE cV hml hne=>TV h hl cR cS cV bE) (nn-tl.length) (0, []) _ tl sl _ _ ac ac (by rw[<-hnn];exact k7) (fun h=>absurd rfl h) aC (aD _ _ HT.o) (aD _ _ HS.o));have hR:Nf pn mn c.ml c.rows d.rows nn (nn-tl.length) (0, []) tl sl=FY c d tl sl:=by
   unfold FY;rw[hp,hm,hnn];rfl
  rw[hR]at aT;have q:=aU.o.ex (hx2.trans (hx23.trans e5));have bM:=Aa (aU.o.ex hx2);have b0:=(hx2.trans (hx23.trans e5)).cell B0.o;have b1:=(hx2.trans (hx23.trans e5)).cell B1.o;have bH:=Aa aA;have cG:=Aa (show B+1+1+1<w2.heap.size from World.block_lt_of_cell? _ _ bM.o.c0);clear hp hm hnn hx2 hg hx01 hx02 hA hx23 hpr h11 hf11 k3 k4 k5 k6 k7 k8 k9 aK bS bQ bR bP cQ cP bG aA e5 n0 n1 bO bN aC aJ aD hR aP q hE;obtain⟨R,hR⟩:=nA (FY c d tl sl);rw[hR]at aT;have dA:=Aa hR;clear hR;go_wp2_with fail
  try simp only[aG]
  generalize w3.alloc (.cells #[.slice none 0 0,.slice none 0 0] 71)=w4 at *;clear aG;refine aT.o.mono ?_;rintro e w5⟨rfl,bF,cU⟩;have bJ:=Aa bF;have aE:=Aa bF.sw.ex;obtain⟨q0,q1,q2,aZ,aY,aX⟩:=bM.o.ex aE.o;have bK:=Aa (show ∀r w',Zm w.heap.size (Iu 0 R) (JH 0 R) r w'->Zm w.heap.size (Iu (EY 0 0 (Cq c.p c.m c.ml d.p d.m d.ml) c.n d.n tl sl (c.p.toNat^c.m.toNat)) (FY c d tl sl)) (JH (EY 0 0 (Cq c.p c.m c.ml d.p d.m d.ml) c.n d.n tl sl (c.p.toNat^c.m.toNat)) (FY c d tl sl)) r w' from fun r w' h=>by rw[HE.o,dA.o];exact h);clear bF cU b0 b1 aT cZ;obtain⟨E2,aL⟩:∃E,R.2=E:=⟨_,rfl⟩;have bL:=Aa aL;simp only[aL];by_cases h18:E2=18
  .subst h18;obtain⟨aV,aW,n0,n1,bY,bX⟩:=bJ.o.nb;have cT:=bJ.o.ll;obtain⟨cI,cH,aO,HQ⟩:=Eq (fun (w':World) (h:Ex w5 w')=>EV w' _ aV (bY.1.ex h) ac) (fun (w':World) (h:Ex w5 w')=>EV w' _ aW (bX.1.ex h) ac) (show ∀w',Ex w5 w'->w'.cell? ⟨NB,0,none⟩=some aV/\w'.cell? ⟨NB,1,none⟩=some aW from fun w' h=>⟨h.cell n0,h.cell n1⟩) (show ∀w',Ex w5 w'->WA w' (B+1+1+1) from fun w' h=>bM.o.ex (aE.o.trans h));have aB:=Aa (show Iu 0 R=⟨(DJ R.1.2).tl,(DJ R.1.2).sc,0⟩/\JH 0 R=0 from by
    unfold Iu JH;rw[bL.o];exact⟨rfl,rfl⟩)
   obtain⟨Lt,cC⟩:∃l,(DJ R.1.2).tl=l:=⟨_,rfl⟩;obtain⟨Ls,cD⟩:∃l,(DJ R.1.2).sc=l:=⟨_,rfl⟩;rw[cC]at cI aB;rw[cD]at cH aB;clear aL bY bX cT cC cD q0 q1 q2 aZ aY aX;go_wp2_with fail
   have G0:Ex w5 w5.drew:=(Ex.refl w5).drew;have aH:=Aa (show B+1+1+1≠NB from by have:=bJ.o.lb;have:=cG.o;omega)
   go_region_held3 (fun w'=>w'.cell? ⟨NB,0,none⟩=some aV/\w'.cell? ⟨NB,1,none⟩=some aW)
    (first|with_reducible exact aO.o _ G0|with_reducible exact aO.o _ X6.o|with_reducible exact aO.o _ X7.o|exact⟨by rw[Ah aH.o,Ah aH.o,Ah aH.o];exact(aO.o _ X7.o).1,by rw[Ah aH.o,Ah aH.o,Ah aH.o];exact(aO.o _ X7.o).2⟩)
    (first|(go_at_call 154;(with_reducible refine(cI.o _ G0).mono ?_);rintro e w6⟨u6,rfl,bD,cB,bV⟩;have cY:=Aa bD;have cK:=Aa cB;obtain⟨cO,cM,rfl,-,-,-⟩:=bD.open;have X6:=Aa (G0.trans bV);clear bV bD cB)|(go_at_call 154;(with_reducible refine(cH.o _ X6.o).mono ?_);rintro e w7⟨u7,rfl,bC,cA,bB⟩;have cX:=Aa bC;have cJ:=Aa cA;obtain⟨cN,cL,rfl,-,-,-⟩:=bC.open;have cW:=Aa bB;have X7:=Aa (X6.o.trans bB);obtain⟨q0,q1,q2,aZ,aY,aX⟩:=HQ.o _ X7.o;clear bB bC cA))
   have cF:=Aa (show B+1+1+1<w5.heap.size from by have:=aE.o.size;have:=cG.o;omega);have aM:=Aa X6.o.size;go_wp2_with fail
   refine bodyPost_ret (v:= .tuple #[.agg #[.slice cO Lt.length cM,.slice cN Ls.length cL,.int .i64 0],.int .i64 0]) bi rfl ⟨⟨0,0,aI.o,fun _=>aN.o trivial,bK.o _ _ ?_⟩,Bf ((bH.o.trans aE.o).trans X7.o) (by rw[aR.o];omega) _ _ _⟩;rw[aB.o.1,aB.o.2];have hw5:w.heap.size<=w5.heap.size:=Nat.le_trans (HX.o.trans (Ex.refl _)).size (Nat.le_trans bI.o aE.o.size);refine⟨_,_,rfl,Di (cY.o.ex cW.o) (fun X hX e=>?_) _ _ _,Di cX.o (fun X hX e=>?_) _ _ _,fun X hX=>?_,fun X hX=>?_⟩
   .have:=cK.o X hX;have h1:w5.drew.heap.size=w5.heap.size:=rfl;have:=cF.o;omega
   .have:=cJ.o X hX;have:=cF.o;have:=aM.o;omega
   .have:=cK.o X hX;have h1:w5.drew.heap.size=w5.heap.size:=rfl;omega
   .have:=cJ.o X hX;have h1:w5.drew.heap.size=w5.heap.size:=rfl;have:=aM.o;omega
  .have k18:(E2==18)=false:=by simpa using h18
   by_cases h0:E2=0
   .subst h0;have aB:=Aa (show Iu 0 R=⟨[], [],0⟩/\JH 0 R=11 from by
     unfold Iu JH;rw[bL.o];exact⟨rfl,rfl⟩)
    clear aL h18;go_wp2_with fail
    refine bodyPost_ret (v:= .tuple #[.agg #[.slice none 0 0,.slice none 0 0,.int .i64 0],.int .i64 11]) bi rfl ⟨⟨0,0,aI.o,fun _=>aN.o trivial,bK.o _ _ ?_⟩,Bf (bH.o.trans aE.o) (by rw[aR.o];omega) _ _ _⟩;exact zbQ
   .have k0:(E2==0)=false:=by simpa using h0
    have aB:=Aa (show Iu 0 R=⟨[], [],0⟩/\JH 0 R=E2 from by
     unfold Iu JH;rw[bL.o];simp[h18,h0])
    clear aL h18 h0;go_wp2_with fail
    refine bodyPost_ret (v:= .tuple #[.agg #[.slice none 0 0,.slice none 0 0,.int .i64 0],.int .i64 E2]) bi rfl ⟨⟨0,0,aI.o,fun _=>aN.o trivial,bK.o _ _ ?_⟩,Bf (bH.o.trans aE.o) (by rw[aR.o];omega) _ _ _⟩;exact zbQ
structure Rf where
 tp:Int
 sc:Int
 side:Int
 msg:List Int
def Rf.cells(e:Rf)(mv:Value):List Value:= [.int .i64 e.tp,.int .i64 e.sc,.int .i64 e.side,mv]
def KC:List Rf->List Value->List Value
 | e :: es,v :: vs=>e.cells v++KC es vs
 | _,_=> []
theorem LF:∀(es:List Rf) (vs:List Value),vs.length=es.length->(KC es vs).length=es.length*4
 | [], [],_=>rfl
 | [],v :: vs,h=>by simp at h
 | e :: es, [],h=>by simp at h
 | e :: es,v :: vs,h=>by
  have:=LF es vs ay;show(e.cells v++KC es vs).length=_
  rw[List.length_append,this];simp[Rf.cells];omega
theorem Nl:∀(es:List Rf) (vs:List Value) (e:Rf) (v:Value),vs.length=es.length->KC (es ++ [e]) (vs ++ [v])=KC es vs++e.cells v
 | [], [],e,v,_=>by simp[KC]
 | [],u :: vs,e,v,h=>by simp at h
 | x :: es, [],e,v,h=>by simp at h
 | x :: es,u :: vs,e,v,h=>by
  show x.cells u++KC (es ++ [e]) (vs ++ [v])=x.cells u++KC es vs++e.cells v
  rw[Nl es vs e v (by simpa using h),List.append_assoc]
def YD(x:Nd):Rf:=⟨x.tl.getD (x.tl.length-1) 0,x.sc.getD (x.sc.length-1) 0,x.side,x.msg⟩
def FU:List Nd->List Rf
 | []=> []
 | x :: t=>⟨0,0,x.side,x.msg⟩ :: t.map YD
theorem Eg(L:List Nd):(FU L).length=L.length:=by cases L <;> simp[FU]
theorem KB(L:List Nd)(x:Nd):FU (L ++ [x])=FU L ++ [if L= [] then⟨0,0,x.side,x.msg⟩ else YD x]:=by
 cases L with
 | nil=>simp[FU]
 | cons y t=>simp[FU]
def OH(w:World)(v:Value)(es:List Rf):Prop:=∃mvs:List Value,mvs.length=es.length/\Sl w v es.length 4 (KC es mvs)/\∀(i:Nat) (e:Rf) (mv:Value),es[i]?=some e->mvs[i]?=some mv->Aj w mv e.msg
theorem OH.ex{w w':World}{v:Value}{es:List Rf}(h:OH w v es)(hx:Ex w w'):OH w' v es:=by
 obtain⟨m,h1,h2,h3⟩:=h;exact⟨m,h1,h2.ex hx,fun i e mv a b=>(h3 i e mv a b).ex hx⟩
theorem OH.nil(w:World):OH w (.slice none 0 0) []:=⟨[],rfl,Sl.nil w 4,fun i e mv h=>by simp at h⟩
theorem Po:(Tryz.prog.info? 176).map (fun i=>(i.zero,i.size,i.bytes))=some (some (.agg #[.int .i64 0,.int .i64 0,.int .i64 0,.slice none 0 0]),4,48):=ah
def Ow(A NB:Nat)(RB:Nat->Prop):World->Nat->Prop:=fun w X=>X=A∨X=NB∨RB X∨∃ev,w.cell? ⟨NB,0,none⟩=some ev/\ev.ownBlock=some X
structure IY(w2:World)(A NB:Nat)(RB:Nat->Prop)(b n:Nat)(v1 v2:Value)(s:Nat × List Nd)(w:World):Prop where
 sw:PG w2 A b n v1 v2 s w
 ne:A<NB
 rb:∀X,RB X->X<w2.heap.size
 en:∃ev mvs,w.cell? ⟨NB,0,none⟩=some ev/\w.ownsRow (NB+1) 176 4 ev s.2.length (KC (FU s.2) mvs)/\mvs.length=s.2.length/\∀(i:Nat) (e:Rf) (mv:Value),(FU s.2)[i]?=some e->mvs[i]?=some mv->Co (Ow A NB RB) w mv e.msg
 f0:w.frozen? ⟨NB,0,none⟩=false
section
variable {w2 w w':World} {A NB b n:Nat} {RB:Nat->Prop} {v1 v2:Value} {s:Nat × List Nd}
theorem IY.dm(h:IY w2 A NB RB b n v1 v2 s w)(hx:Ex w w'){X:Nat}(hd:Ow A NB RB w' X):Ow A NB RB w X:=by
 rcases hd with hd|hd|hd|⟨ev,h1,h2⟩
 .exact .inl hd
 .exact .inr (.inl hd)
 .exact .inr (.inr (.inl hd))
 .obtain⟨ev',m,h3,-⟩:=h.en;rw[hx.cell h3]at h1;injection h1 with h1;subst h1;exact .inr (.inr (.inr ⟨_,h3,h2⟩))
theorem IY.keeps(h:IY w2 A NB RB b n v1 v2 s w)(hx:Ex w w'):AC (Ow A NB RB) w w':=
 ⟨hx.size,fun B hB hn=>⟨hx.block B hB,fun hd=>hn (h.dm hx hd)⟩⟩
theorem IY.stt:Se (IY w2 A NB RB b n v1 v2) (Ow A NB RB) where
 ex:=fun s w w' h hx=>by
  obtain⟨ev,mvs,h1,h2,h3,h4⟩:=h.en;exact⟨h.sw.later hx,h.ne,h.rb,⟨ev,mvs,hx.cell h1,Ai h2 hx,h3,fun i e mv a b=>(h4 i e mv a b).keep (h.keeps hx)⟩,hx.frz h1 h.f0⟩
 lt:=fun s w B h hd=>by
  obtain⟨ev,mvs,h1,h2,-⟩:=h.en;rcases hd with rfl|rfl|hd|⟨ev',h3,h4⟩
  .exact World.block_lt_of_cell? _ _ h.sw.c11
  .exact World.block_lt_of_cell? _ _ h1
  .exact Nat.lt_of_lt_of_le (h.rb B hd) h.sw.ex.size
  .rw[h1]at h3;injection h3 with h3;subst h3;exact(h2.lt B h4).2
 dx:=fun s w w' B h hx hd=>h.dm hx hd
theorem IY.seen(h:IY w2 A NB RB b n v1 v2 s w)(hs:s.1<65536):IY w2 A NB RB b n v1 v2 (s.1+1,s.2) (w.setCell ⟨A,11,none⟩ (.int .i64 ((s.1:Int)+1)))/\AC (Ow A NB RB) w (w.setCell ⟨A,11,none⟩ (.int .i64 ((s.1:Int)+1))):=by
 have aC:A≠NB:=by have:=h.ne;omega
 have aA:∀u:Value,(w.setCell ⟨A,11,none⟩ u).cell? ⟨NB,0,none⟩=w.cell? ⟨NB,0,none⟩:=fun u=>Ah aC;have hk:AC (Ow A NB RB) w (w.setCell ⟨A,11,none⟩ (.int .i64 ((s.1:Int)+1))):=El (.inl rfl) fun X hd=>by
  rcases hd with hd|hd|hd|⟨ev,h1,h2⟩
  .exact .inl hd
  .exact .inr (.inl hd)
  .exact .inr (.inr (.inl hd))
  .rw[aA]at h1;exact .inr (.inr (.inr ⟨ev,h1,h2⟩))
 obtain⟨ev,aB,h1,h2,h3,h4⟩:=h.en;refine⟨⟨h.sw.seen hs,h.ne,h.rb,⟨ev,aB,by rw[aA];exact h1,Ac (a:=⟨A,11,none⟩) h2 (fun e=>?_) _,h3,fun i e mv a b=>(h4 i e mv a b).keep hk⟩,by rw[Ar];exact h.f0⟩,hk⟩;have:=(h2.lt A e).1;have:=h.ne;omega
theorem IY.app(h:IY w2 A NB RB b n v1 v2 s w)(hl:s.2.length<s.1){ev:Value}{x:Nd}{mv v':Value}{aC:List Value}(hc:w.cell? ⟨NB,0,none⟩=some ev)(h2:w.ownsRow (NB+1) 176 4 ev s.2.length (KC (FU s.2) aC))(h3:aC.length=s.2.length)(h4:∀(i:Nat) (e:Rf) (mv:Value),(FU s.2)[i]?=some e->aC[i]?=some mv->Co (Ow A NB RB) w mv e.msg)(hm:Co (Ow A NB RB) w mv x.msg)
  (ha:AZ w w' (NB+1) 176 4 ev v' s.2.length (KC (FU s.2) aC) ((if s.2= [] then(⟨0,0,x.side,x.msg⟩:Rf) else YD x).cells mv)) (hb:w2.heap.size<=A):
  IY w2 A NB RB b n v1 v2 (s.1,s.2 ++ [x]) (w'.setCell ⟨NB,0,none⟩ v')/\AC (Ow A NB RB) w (w'.setCell ⟨NB,0,none⟩ v'):=by
 have aF:some NB≠ev.ownBlock:=fun e=>by have:=(h2.lt NB e.symm).1;omega
 have aD:some A≠ev.ownBlock:=fun e=>by have:=(h2.lt A e.symm).1;have:=h.ne;omega
 have aG:=ha.cell hc aF;have hlt:NB<w.heap.size:=World.block_lt_of_cell? _ _ hc;have aE:v'.ownBlock≠some NB:=fun e=>by
  rcases ha.at_ with h5|h5
  .rw[h5]at e;exact aF e.symm
  .rw[h5]at e;injection e with e;omega
 have aA:AC (Ow A NB RB) w (w'.setCell ⟨NB,0,none⟩ v'):=by
  obtain⟨o,hg⟩:=ha.gr;refine⟨by rw[Cv];exact Nat.le_of_lt ha.grow,fun B hB hn=>⟨?_,?_⟩⟩
  .have aJ:B≠NB:=fun e=>hn (.inr (.inl e));have h5:(w'.setCell ⟨NB,0,none⟩ v').heap[B]?=w'.heap[B]?:=Below.heap_setCell w' ⟨NB,0,none⟩ v' B aJ;rw[h5,hg.block B aq (fun e=>hn (.inr (.inr (.inr ⟨ev,hc,e.symm⟩))))];show(w.heap.push o)[B]?=_
   exact Array.getElem?_push_lt hB ▸ (by simp[hB])
  .rintro (hd|hd|hd|⟨ev2,h5,h6⟩)
   .exact hn (.inl hd)
   .exact hn (.inr (.inl hd))
   .exact hn (.inr (.inr (.inl hd)))
   .rw[World.cell?_setCell_same _ _ _ aG]at h5;injection h5 with h5;subst h5;rcases ha.at_ with h7|h7
    .rw[h7]at h6;exact hn (.inr (.inr (.inr ⟨ev,hc,h6⟩)))
    .rw[h7]at h6;injection h6 with h6;omega
 refine⟨⟨?_,h.ne,h.rb,⟨v',aC ++ [mv],World.cell?_setCell_same _ _ _ aG,?_,by simp[h3],fun i e u hi hu=>?_⟩,by rw[Ar];exact ha.frz hc h.f0 aF⟩,aA⟩
 .have aH:Ex w2 w':=ha.ex h.sw.ex (by have:=h.ne;omega);have aI:PG w2 A b n v1 v2 s w':=⟨aH,⟨ha.cell h.sw.pr.c0 aD,ha.cell h.sw.pr.c4 aD,ha.cell h.sw.pr.c5 aD,ha.cell h.sw.pr.c10 aD⟩,ha.cell h.sw.c11 aD,ha.frz h.sw.c11 h.sw.f11 aD,h.sw.l1,h.sw.l2,h.sw.lb⟩;exact(aI.other (by have:=h.ne;omega) (by have:=h.ne;omega) v').note hl x
 .have h5:=Ac (a:=⟨NB,0,none⟩) ha.own aE v';show(w'.setCell ⟨NB,0,none⟩ v').ownsRow _ _ _ _ (s.2 ++ [x]).length (KC (FU (s.2 ++ [x])) (aC ++ [mv]))
  rw[List.length_append,KB,Nl _ _ _ _ (by rw[h3,Eg])];exact h5
 .have aB:(FU (s.2 ++ [x]))[i]?=some e:=hi;rw[KB]at aB;by_cases hil:i<s.2.length
  .rw[List.getElem?_append_left (by rw[Eg];exact hil)]at aB;rw[List.getElem?_append_left (by rw[h3];exact hil)]at hu;exact(h4 i e u aB hu).keep aA
  .rw[List.getElem?_append_right (by rw[Eg];omega)]at aB;rw[List.getElem?_append_right (by rw[h3];omega)]at hu;rw[Eg]at aB;rw[h3]at hu;have h0:i-s.2.length=0:=by
    have:=(List.getElem?_eq_some_iff.1 aB).1;simp at this;omega
   rw[h0]at aB hu;simp at aB hu;subst hu;have:e.msg=x.msg:=by rw[<-aB];split <;> rfl
   rw[this];exact hm.keep aA
theorem SP(h:IY w2 A NB RB b n v1 v2 s w)(hl:s.2.length<s.1){tl sl msg:List Int}{side:Int}{tv sv mv:Value}(ht:Co (Ow A NB RB) w tv tl)(hs:Co (Ow A NB RB) w sv sl)(hm:Co (Ow A NB RB) w mv msg)(h64:tl.length<=64)(bA:sl.length=tl.length)(aC:s.2≠ []->tl≠ []):
  Calls Tryz.prog 143 #[.agg #[tv,sv],.int .i64 side,mv,.pointer (some ⟨NB,0,none⟩)] w fun r w'=>(∃t,r= .returned t)/\IY w2 A NB RB b n v1 v2 (s.1,s.2 ++ [⟨tl,sl,side,msg⟩]) w'/\AC (Ow A NB RB) w w':=by
 obtain⟨b0,b1,e1,aE⟩:=AH w tv sv;have e2:=AE (w.alloc (.cells #[tv,sv] 71)) (.cells #[.int .i64 0,.int .i64 0,.int .i64 side,mv] 176);have x0:((w.alloc (.cells #[tv,sv] 71)).alloc (.cells #[.int .i64 0,.int .i64 0,.int .i64 side,mv] 176)).cell? ⟨w.heap.size+1,0,none⟩=some (.int .i64 0):=b9;have x1:((w.alloc (.cells #[tv,sv] 71)).alloc (.cells #[.int .i64 0,.int .i64 0,.int .i64 side,mv] 176)).cell? ⟨w.heap.size+1,1,none⟩=some (.int .i64 0):=b9;have x2:((w.alloc (.cells #[tv,sv] 71)).alloc (.cells #[.int .i64 0,.int .i64 0,.int .i64 side,mv] 176)).cell? ⟨w.heap.size+1,2,none⟩=some (.int .i64 side):=b9;have x3:((w.alloc (.cells #[tv,sv] 71)).alloc (.cells #[.int .i64 0,.int .i64 0,.int .i64 side,mv] 176)).cell? ⟨w.heap.size+1,3,none⟩=some mv:=b9;have aO:((w.alloc (.cells #[tv,sv] 71)).alloc (.cells #[.int .i64 0,.int .i64 0,.int .i64 side,mv] 176)).frozen? ⟨w.heap.size+1,0,none⟩=false:=b9;have aN:((w.alloc (.cells #[tv,sv] 71)).alloc (.cells #[.int .i64 0,.int .i64 0,.int .i64 side,mv] 176)).frozen? ⟨w.heap.size+1,1,none⟩=false:=b9;replace b0:=e2.cell b0;replace b1:=e2.cell b1;have hx:=e1.trans e2;obtain⟨ev,mvs,c0,ho,bG,-⟩:=(IY.stt.ex _ _ _ h hx).en;obtain⟨ea,ec,rfl⟩:=Ab ho;have aV:w.cell? ⟨NB,0,none⟩=some (.slice ea s.2.length ec):=by
  obtain⟨bB,_,h1,_⟩:=h.en;rw[hx.cell h1]at c0;rw[h1];exact c0
 obtain⟨ta,tc,rfl,-,t2,t3⟩:=ht.1.open;obtain⟨sa,sc,rfl,-,s2,s3⟩:=hs.1.open;obtain⟨ma,mc,rfl,-,m2,-⟩:=hm.1.open;unfold maxLen at t2 s2 m2;have aU:NB<w.heap.size:=World.block_lt_of_cell? _ _ aV;obtain⟨HH,HT,HS,HM,HX,bE,bN,bD,T3,S3,bK⟩:=Ha1 h ht hs hm hx aV h.sw.l2 h.sw.lb t3 s3 bA;obtain⟨B,hB⟩:=nA w.heap.size;rw[hB]at b0 b1 x0 x1 x2 x3 aO aN aU;have aI:=Aa hB;have HOO:=Aa ho;have aX:=Aa hl;obtain⟨N,hN⟩:=nA s.2.length;have HN:=Aa hN;rw[hN]at c0 bE;clear h ht hs hm hx e1 e2 aE aV t3 s3 bA ho bG hl;go_enter Tryz.func143,Tryz.ntmps143
 go_upto_region 2 with fail
 try simp only[hB]
 clear hB hN;generalize (w.alloc (.cells #[.slice ta tl.length tc,.slice sa sl.length sc] 71)).alloc (.cells #[.int .i64 0,.int .i64 0,.int .i64 side,.slice ma msg.length mc] 176)=w3 at *;have aW:=Aa (IY.stt.ex _ _ _ HH.o HX.o);have bF:NB+1<=w3.heap.size:=by have:=HX.o.size;have:=aI.o;omega
 have bI:=Aa bF;have hN16:N<=65536:=by have:=bN.o;have:=aX.o;have:=HN.o;omega
 by_cases h0:N=0
 .subst h0;have bL:=Aa (List.length_eq_zero_iff.1 HN.o);obtain⟨bB,aP,g1,g2,g3,g4⟩:=aW.o.en;rw[c0]at g1;injection g1 with g1;subst g1;have G2:=Aa g2;have G3:=Aa g3;have G4:=Aa g4;rw[HN.o]at g2;have aJ:=Aa g2;have f0:=aW.o.f0;have hdm:((0:Nat):Int)=0:=rfl;clear g2 g3 g4;go_wp2_with (at_builtin;refine Ak _ rfl _ _ 92 rfl (NB+1) 176 (.agg #[.int .i64 0,.int .i64 0,.int .i64 0,.slice none 0 0]) 4 48 Tryz.underlying92 Po rfl ae _ 0 _ rfl aJ.o [.int .i64 0,.int .i64 0,.int .i64 side,.slice ma msg.length mc] 176 _ rfl ag rfl aj ai ac bI.o ?_)
  intro v6 w6 aA;have HAP:=Aa aA;have aC:some NB≠Value.ownBlock (.slice ea 0 ec):=fun e=>by have:=(aJ.o.lt NB e.symm).1;omega
  have c6:=aA.cell c0 aC;have f6:=aA.frz c0 f0 aC;have aB:=Aa (aW.o.app (x:=⟨tl,sl,side,msg⟩) (mv:= .slice ma msg.length mc) (v':=v6) (ev:= .slice ea 0 ec) aX.o c0 G2.o G3.o G4.o (HM.o.keep (IY.keeps HH.o HX.o)) (by rw[HN.o,if_pos bL.o];exact aA) bD.o);obtain⟨va,vc,hv⟩:=Ab aA.own;subst hv;clear aA c0 f0 aC b0 b1 x0 x1 x2 x3 aO aN;go_wp2_with fail
  go_end0
  exact⟨⟨_,rfl⟩,aB.o.1,(IY.keeps HH.o HX.o).trans aB.o.2⟩
 .have aG:s.2≠ []:=fun e=>h0 (by rw[<-HN.o,e];rfl);have bH:=Aa (aC aG);have bJ:=Aa aG;have hk:0<tl.length:=List.length_pos_iff.2 bH.o;obtain⟨k,aM⟩:∃k,tl.length=k+1:=⟨tl.length-1,ac⟩;have aT:sl.length=k+1:=by rw[bK.o,aM]
  obtain⟨tb,aD,rfl,aQ⟩:=T3.o hk;obtain⟨sb,so,rfl,aS⟩:=S3.o ac;obtain⟨X,hX⟩:∃x,tl.getD k 0=x:=⟨_,rfl⟩;obtain⟨Y,hY⟩:∃x,sl.getD k 0=x:=⟨_,rfl⟩;have hTB:tb<B:=by have:=World.block_lt_of_cell? _ _ (aQ k _ (Aw (l:=tl) (i:=k) ac));have h2:=aI.o;simp only at this;omega
  have hSB:sb<B:=by have:=World.block_lt_of_cell? _ _ (aS k _ (Aw (l:=sl) (i:=k) ac));have h2:=aI.o;simp only at this;omega
  have cX:=HX.o.cell (aQ k X (by rw[<-hX];exact Aw ac));have cY:=HX.o.cell (aS k Y (by rw[<-hY];exact Aw ac));have bM:=Aa (show YD ⟨tl,sl,side,msg⟩=⟨X,Y,side,msg⟩ from by
   unfold YD;simp only[aM,aT,Nat.add_sub_cancel];rw[hX,hY])
  rw[aM]at b0;rw[aT]at b1;have i1:(0:Int)<=(k:Int):=ac;have i2:(k:Int)<((k+1:Nat):Int):=ac;have i4:(k:Int)<(k:Int)+1:=ac;have bP:=Aa (show wrap64 (k:Int)=(k:Int) from Zc ac ac);have bO:=Aa (show IntKind.i64.wrap (k:Int)=(k:Int) from IntWalk.i64_in _ ac);have hb0:decide ((N:Int) > 0)=true:=aq;have hb0':decide ((0:Int)<(N:Int))=true:=aq;have hb0'':decide (0<N)=true:=aq;clear hX hY aQ aS hk aC aG aM aT t2 s2;have aZ:=Aa (show w3.cell? ⟨B,0,none⟩=some (.slice (some ⟨tb,aD,none⟩) (k+1) tc)/\w3.cell? ⟨B,1,none⟩=some (.slice (some ⟨sb,so,none⟩) (k+1) sc)/\w3.cell? ⟨tb,aD+k,none⟩=some (.int .i64 X)/\w3.cell? ⟨sb,so+k,none⟩=some (.int .i64 Y) from⟨b0,b1,cX,cY⟩);have HTS:=Aa (show tb≠B+1/\sb≠B+1/\NB≠B+1 from⟨ac,ac,ac⟩);go_wp2_with fail
  have aY:=Aa (fun (w':World) (j:Nat) (u:Value) (h:w'.cell? ⟨B,0,none⟩=some (.slice (some ⟨tb,aD,none⟩) (k+1) tc)/\w'.cell? ⟨B,1,none⟩=some (.slice (some ⟨sb,so,none⟩) (k+1) sc)/\w'.cell? ⟨tb,aD+k,none⟩=some (.int .i64 X)/\w'.cell? ⟨sb,so+k,none⟩=some (.int .i64 Y))=>(⟨by rw[Ah (show B+1≠B by omega)];exact h.1,by rw[Ah (show B+1≠B by omega)];exact h.2.1,by rw[Ah (show B+1≠tb by omega)];exact h.2.2.1,by rw[Ah (show B+1≠sb by omega)];exact h.2.2.2⟩:(w'.setCell ⟨B+1,j,none⟩ u).cell? ⟨B,0,none⟩=some (.slice (some ⟨tb,aD,none⟩) (k+1) tc)/\(w'.setCell ⟨B+1,j,none⟩ u).cell? ⟨B,1,none⟩=some (.slice (some ⟨sb,so,none⟩) (k+1) sc)/\(w'.setCell ⟨B+1,j,none⟩ u).cell? ⟨tb,aD+k,none⟩=some (.int .i64 X)/\(w'.setCell ⟨B+1,j,none⟩ u).cell? ⟨sb,so+k,none⟩=some (.int .i64 Y)));have i6:=bP.o;have i7:=bO.o
  go_region_held3 (fun w'=>w'.cell? ⟨B,0,none⟩=some (.slice (some ⟨tb,aD,none⟩) (k+1) tc)/\w'.cell? ⟨B,1,none⟩=some (.slice (some ⟨sb,so,none⟩) (k+1) sc)/\w'.cell? ⟨tb,aD+k,none⟩=some (.int .i64 X)/\w'.cell? ⟨sb,so+k,none⟩=some (.int .i64 Y))
   (first|exact aZ.o|exact aY.o _ _ _ aZ.o|exact aY.o _ _ _ (aY.o _ _ _ aZ.o)) (fail)
  clear i6 i7;obtain⟨w5,aF⟩:=nA (((w3.setCell ⟨B+1,0,none⟩ (.int .i64 X)).setCell ⟨B+1,1,none⟩ (.int .i64 Y)).drew);have aK:Ex w w5:=by
   rw[<-aF];exact((HX.o.setCell (p:=⟨B+1,0,none⟩) (by show w.heap.size<=B+1;have:=aI.o;omega) _).setCell (p:=⟨B+1,1,none⟩) (by show w.heap.size<=B+1;have:=aI.o;omega) _).drew
  have z0:w5.cell? ⟨B+1,0,none⟩=some (.int .i64 X):=by
   rw[<-aF];show World.cell? ((w3.setCell _ _).setCell _ _) _=_;rw[Af ae];exact World.cell?_setCell_same _ _ _ x0
  have z1:w5.cell? ⟨B+1,1,none⟩=some (.int .i64 Y):=by
   rw[<-aF];show World.cell? ((w3.setCell _ _).setCell _ _) _=_;exact World.cell?_setCell_same _ _ _ (by rw[Af ae];exact x1)
  have z2:w5.cell? ⟨B+1,2,none⟩=some (.int .i64 side):=by
   rw[<-aF];show World.cell? ((w3.setCell _ _).setCell _ _) _=_;rw[Af ae,Af ae];exact x2
  have z3:w5.cell? ⟨B+1,3,none⟩=some (.slice ma msg.length mc):=by
   rw[<-aF];show World.cell? ((w3.setCell _ _).setCell _ _) _=_;rw[Af ae,Af ae];exact x3
  have aH:=Aa (IY.stt.ex _ _ _ HH.o aK);have bC:=Aa aK;have c5:=aK.cell bE.o;obtain⟨bB,aP,g1,g2,g3,g4⟩:=aH.o.en;rw[c5]at g1;injection g1 with g1;subst g1;have G2:=Aa g2;have G3:=Aa g3;have G4:=Aa g4;rw[HN.o]at g2;have aJ:=Aa g2;have f5:=aH.o.f0;have aR:NB+1<=w5.heap.size:=by have:=aK.size;have:=aI.o;omega
  have aL:=Aa aR;clear g2 g3 g4 c0 x0 x1 x2 x3 aO aN b0 b1 cX cY aK;go_wp2_with (first|(simp only[aF];clear aF;at_builtin;refine Ak _ rfl _ _ 92 rfl (NB+1) 176 (.agg #[.int .i64 0,.int .i64 0,.int .i64 0,.slice none 0 0]) 4 48 Tryz.underlying92 Po rfl ae _ N _ rfl aJ.o [.int .i64 X,.int .i64 Y,.int .i64 side,.slice ma msg.length mc] 176 _ rfl ag rfl aj ai ac aL.o ?_)|(at_builtin;refine Ak _ rfl _ _ 92 rfl (NB+1) 176 (.agg #[.int .i64 0,.int .i64 0,.int .i64 0,.slice none 0 0]) 4 48 Tryz.underlying92 Po rfl ae _ N _ rfl aJ.o [.int .i64 X,.int .i64 Y,.int .i64 side,.slice ma msg.length mc] 176 _ rfl ag rfl aj ai ac aL.o ?_))
  intro v6 w6 aA;have aC:some NB≠Value.ownBlock (.slice ea N ec):=fun e=>by have:=(aJ.o.lt NB e.symm).1;omega
  have c6:=aA.cell c5 aC;have f6:=aA.frz c5 f5 aC;have aB:=Aa (aH.o.app (x:=⟨tl,sl,side,msg⟩) (mv:= .slice ma msg.length mc) (v':=v6) (ev:= .slice ea N ec) aX.o c5 G2.o G3.o G4.o (HM.o.keep (IY.keeps HH.o bC.o)) (by rw[HN.o,if_neg bJ.o,bM.o];exact aA) bD.o);obtain⟨va,vc,hv⟩:=Ab aA.own;subst hv;clear aA c5 f5 aC z0 z1 z2 z3;go_wp2_with fail
  go_end0
  exact⟨⟨_,rfl⟩,aB.o.1,(IY.keeps HH.o bC.o).trans aB.o.2⟩
end
structure Yu(w:World)(b:Nat):Prop where
 c0:w.cell? ⟨b,0,none⟩=some (.slice none 0 0)
 f0:w.frozen? ⟨b,0,none⟩=false
theorem Yu.new(w:World):Yu (w.alloc (.cells #[.slice none 0 0] 94)) w.heap.size:=⟨ag,ag⟩
theorem Yu.ex{w w':World}{b:Nat}(h:Yu w b)(hx:Ex w w'):Yu w' b:=⟨hx.cell h.c0,hx.frz h.c0 h.f0⟩
def Ou(FB:Nat->Prop)(w:World)(v:Value)(es:List Rf):Prop:=∃mvs:List Value,mvs.length=es.length/\Sl w v es.length 4 (KC es mvs)/\(∀(i:Nat) (e:Rf) (mv:Value),es[i]?=some e->mvs[i]?=some mv->Aj w mv e.msg/\(e.msg≠ []->∀X,mv.ownBlock=some X->¬FB X))/\∀X,v.ownBlock=some X->¬FB X
theorem Ou.nil(FB:Nat->Prop)(w:World):Ou FB w (.slice none 0 0) []:=⟨[],rfl,Sl.nil w 4,fun i e mv h=>by simp at h,fun X h=>by cases h⟩
def Zk(FB:Nat->Prop)(es:List Rf)(e:Int)(r:Ending)(w':World):Prop:=∃ev,r= .returned (.tuple #[.agg #[ev],.int .i64 e])/\Ou FB w' ev es
def He(E:Int)(R:(Nat × List Nd) × Int):Int:=if E≠0 then E else if R.2=0 then 0 else if R.2=18 then 11 else R.2
def Hd(E:Int)(R:(Nat × List Nd) × Int):List Rf:=if E≠0 then [] else if R.2=0 then FU R.1.2 else []
theorem Vi{w2:World}{p m n A NB b x0:Nat}{RB:Nat->Prop}{ml:List Int}{l1 l2:List (List Int)}{v1 v2:Value}(hg:AP w2 b p m ml x0)(x1:1<=x0)(x2:x0<p^m)(h1:BT w2 v1 l1)(h2:BT w2 v2 l2)(hn:n<=64)(r1:∀r∈l1,r.length=n)(r2:∀r∈l2,r.length=n)(k1:l1.length<=256)(k2:l2.length<=256):
  Ys p m ml l1 l2 n A b x0 v1 v2 (IY w2 A NB RB b n v1 v2) (Ow A NB RB) where
 stt:=IY.stt
 pr:=fun s w h=>h.sw.pr
 gf:=fun s w h=>hg.ex h.sw.ex
 m1:=fun s w h=>h1.ex h.sw.ex
 m2:=fun s w h=>h2.ex h.sw.ex
 c11:=fun s w h=>⟨h.sw.c11,h.sw.f11⟩
 le:=fun s w h=>⟨h.sw.l1,h.sw.l2⟩
 seen:=fun s w h hs=>h.seen hs
 x1:=x1
 x2:=x2
 n64:=hn
 r1:=r1
 r2:=r2
 k1:=k1
 k2:=k2
theorem bt{P:Prop}(h:P:=by simp[results,Tryz.results83,go_sem,q0]):P:=h
theorem bu{P:Prop}(h:P:=by rw[aG.o];show B<=B+1+1+1;omega):P:=h
theorem Ot(w:World)(c d:AU)(m1 m2 v1 v2:Value)(hc:c.at w m1 v1)(hd:d.at w m2 v2)(tl sl:List Int)(tv sv:Value)(ht:Aj w tv tl)(hs:Aj w sv sl)(FB:Nat->Prop)(bP:∀X,FB X->X<w.heap.size)(bM:tl≠ []->∀X,tv.ownBlock=some X->¬FB X)(bN:sl≠ []->∀X,sv.ownBlock=some X->¬FB X):
  Calls Tryz.prog 83 #[c.arg m1 v1,d.arg m2 v2,.agg #[tv,sv]] w fun r w'=>(∃e1 e2:Int,Ce c.p c.m c.ml c.n c.rows e1/\(e1=0->Ce d.p d.m d.ml d.n d.rows e2)/\Zk FB (Hd (EY e1 e2 (Cq c.p c.m c.ml d.p d.m d.ml) c.n d.n tl sl (c.p.toNat^c.m.toNat)) (FY c d tl sl)) (He (EY e1 e2 (Cq c.p c.m c.ml d.p d.m d.ml) c.n d.n tl sl (c.p.toNat^c.m.toNat)) (FY c d tl sl)) r w')/\Ex w w':=by
 have cG:=Aa bP;have cE:=Aa bM;have cF:=Aa bN;clear bP bM bN;obtain⟨c0,c1,c2,c3,c4⟩:=Dp w c m1 v1;obtain⟨d0,d1,d2,d3,d4⟩:=Dp (w.alloc (c.obj m1 v1)) d m2 v2;obtain⟨b0,b1,e3,bI⟩:=AH ((w.alloc (c.obj m1 v1)).alloc (d.obj m2 v2)) tv sv;have aR:=Yu.new (((w.alloc (c.obj m1 v1)).alloc (d.obj m2 v2)).alloc (.cells #[tv,sv] 71));have bJ:(w.alloc (c.obj m1 v1)).heap.size=w.heap.size+1:=ag;have aV:((w.alloc (c.obj m1 v1)).alloc (d.obj m2 v2)).heap.size=w.heap.size+1+1:=ag;have e1:=AE w (c.obj m1 v1);have e2:=AE (w.alloc (c.obj m1 v1)) (d.obj m2 v2);have e4:=AE (((w.alloc (c.obj m1 v1)).alloc (d.obj m2 v2)).alloc (.cells #[tv,sv] 71)) (.cells #[.slice none 0 0] 94);rw[bI,aV]at aR;rw[bJ]at d0 d1 d2 d3 d4;rw[aV]at b0 b1;have aF:=e1.trans (e2.trans (e3.trans e4));replace c0:=(e2.trans (e3.trans e4)).cell c0;replace c1:=(e2.trans (e3.trans e4)).cell c1;replace c2:=(e2.trans (e3.trans e4)).cell c2;replace c3:=(e2.trans (e3.trans e4)).cell c3;replace c4:=(e2.trans (e3.trans e4)).cell c4;replace d0:=(e3.trans e4).cell d0;replace d1:=(e3.trans e4).cell d1;replace d2:=(e3.trans e4).cell d2;replace d3:=(e3.trans e4).cell d3;replace d4:=(e3.trans e4).cell d4;replace b0:=e4.cell b0;replace b1:=e4.cell b1;obtain⟨B,hB⟩:=nA w.heap.size;rw[hB]at c0 c1 c2 c3 c4 d0 d1 d2 d3 d4 b0 b1 aR;have aT:=Aa (GZ _ c d m1 m2 v1 v2 (hc.ex aF) (hd.ex aF) tl sl tv sv (ht.ex aF) (hs.ex aF));obtain⟨ta,tc,rfl,-,t2,-⟩:=ht.open;obtain⟨sa,sc,rfl,-,s2,-⟩:=hs.open;obtain⟨x1,y1,rfl,-,z1,-⟩:=hc.g.open;obtain⟨x2,y2,rfl,-,z2,-⟩:=hd.g.open;obtain⟨x3,y3,rfl,-,z3,-⟩:=hc.m.open;obtain⟨x4,y4,rfl,-,z4,-⟩:=hd.m.open;unfold maxLen at t2 s2 z1 z2 z3 z4;obtain⟨HX,HC,HD,HT,HS,aQ,aG⟩:=OK aF hc hd ht hs aR hB;clear hc hd ht hs e1 e2 e3 e4 bJ aV bI aF aR;unfold AU.arg at aT ⊢;go_enter Tryz.func83,Tryz.ntmps83
 unfold AU.obj at c0 c1 c2 c3 c4 d0 d1 d2 d3 d4 b0 b1 HX aQ aT;go_upto_region 1 with fail
 try simp only[hB]
 clear hB;generalize (((w.alloc (.cells #[.int .i64 c.p,.int .i64 c.m,.slice x3 c.ml.length y3,.int .i64 c.n,.slice x1 c.rows.length y1] 39)).alloc (.cells #[.int .i64 d.p,.int .i64 d.m,.slice x4 d.ml.length y4,.int .i64 d.n,.slice x2 d.rows.length y2] 39)).alloc (.cells #[.slice ta tl.length tc,.slice sa sl.length sc] 71)).alloc (.cells #[.slice none 0 0] 94)=w1 at *;have B0:=Aa b0;have B1:=Aa b1;go_wp2_with fail
 refine aT.o.mono ?_;rintro e w3⟨ho,bK⟩;have bQ:=Aa bK;obtain⟨e1,e2,bL,aJ,ho⟩:=ho;have aH:=Aa bL;have aO:=Aa aJ;clear c0 c1 c2 c3 c4 d0 d1 d2 d3 d4 bK bL aJ aT b0 b1;obtain⟨E,hE⟩:=nA (EY e1 e2 (Cq c.p c.m c.ml d.p d.m d.ml) c.n d.n tl sl (c.p.toNat^c.m.toNat));rw[hE]at ho;have HE:=Aa hE;rcases ho with⟨h0,ptr,rfl⟩|⟨h0,w2,A,b,x0,pn,mn,nn,hp,hm,hnn,rfl,hx2,hg,hx01,hx02,hA,hx23,hpr,h11,hf11⟩
 .have hb0:(E !=0)=true:=by simpa using h0
  obtain⟨q0,bS⟩:=aQ.o.ex bQ.o;have H0:=Aa h0;clear h0 hE;go_wp2_with fail
  refine bodyPost_ret (v:= .tuple #[.agg #[.slice none 0 0],.int .i64 E]) bt rfl ⟨⟨e1,e2,aH.o,aO.o,?_⟩,(HX.o.trans bQ.o).setCell (p:=⟨B+1+1+1,0,none⟩) bu _⟩;rw[HE.o];unfold Hd He;rw[if_pos H0.o,if_pos H0.o];exact⟨_,rfl,Ou.nil _ _⟩
 .subst h0;obtain⟨k1,k2,k3,k4,k5,k6,k7,k8,k9⟩:=OM hE;subst k1;have aJ:=aO.o rfl;subst k2;obtain⟨bH,bF⟩:=CH aH.o;obtain⟨bG,bE⟩:=CH aJ;obtain⟨-,bV,bU⟩:=Eu aH.o;obtain⟨NB,aL⟩:∃B,w3.heap.size=B:=⟨_,rfl⟩;have aN:A<NB:=by rw[<-aL];exact World.block_lt_of_cell? _ _ h11
  have aA:=HX.o.trans hx2;have e5:=AE w3 (.cells #[.slice none 0 0] 94);have n0:(w3.alloc (.cells #[.slice none 0 0] 94)).cell? ⟨NB,0,none⟩=some (.slice none 0 0):=dn;have bD:(w3.alloc (.cells #[.slice none 0 0] 94)).frozen? ⟨NB,0,none⟩=false:=dn;have aP:=Aa (Vi (p:=pn) (m:=mn) (n:=nn) (A:=A) (NB:=NB) (RB:=fun X=>X=B+1+1+1∨FB X) hg hx01 hx02 (HC.o.g.ex aA) (HD.o.g.ex aA) ac (fun r hr=>by have:=bF r hr;omega) (fun r hr=>by have:=bE r hr;omega) bH bG);have aK:B+1+1+1<w2.heap.size:=World.block_lt_of_cell? _ _ (aQ.o.ex hx2).c0;have bO:∀X,(X=B+1+1+1∨FB X)->X<w2.heap.size:=fun X h=>by
   rcases h with rfl|h
   .exact aK
   .have:=cG.o X h;have:=aG.o;omega
  have aC:IY w2 A NB (fun X=>X=B+1+1+1∨FB X) b nn (.slice x1 c.rows.length y1) (.slice x2 d.rows.length y2) (0, []) (w3.alloc (.cells #[.slice none 0 0] 94)):=
   ⟨⟨hx23.trans e5,hpr.ex e5,e5.cell h11,e5.frz h11 hf11,ag,ag,hA⟩,aN,bO,⟨_, [],n0,World.ownsRow_nil _ _ _ _,rfl,fun i e mv h=>by simp[FU]at h⟩,bD⟩
  have cC:=Aa aC;have aW:w1.heap.size<=w2.heap.size:=hx2.size;have aI:∀(v:Value) (l:List Int) (_:True),Aj w v l->∀X,0<l.length->v.ownBlock=some X->X<B:=fun v l _ h X hl hX=>by
   obtain⟨a,cap,rfl,-,-,h5⟩:=h.open;obtain⟨b',o,rfl,h6⟩:=h5 hl;injection hX with hX;have hX:b'=X:=hX;subst hX;have:=World.block_lt_of_cell? _ _ (h6 0 _ (Aw hl));have h2:=aG.o;simp only at this;omega
  have aD:∀(v:Value) (l:List Int),Aj w v l->(l≠ []->∀X,v.ownBlock=some X->¬FB X)->Co (Ow A NB (fun X=>X=B+1+1+1∨FB X)) (w3.alloc (.cells #[.slice none 0 0] 94)) v l:=fun v l h cA=>by
   have h2:=h.ex aA;have hk:AC (fun _ X=>w2.heap.size<=X) w2 (w3.alloc (.cells #[.slice none 0 0] 94)):=⟨(hx23.trans e5).size,fun X hX hn=>⟨(hx23.trans e5).block X hX,hn⟩⟩;refine⟨(h.ex aA).ex (hx23.trans e5),fun hl X hX hd=>?_⟩;obtain⟨a,cap,rfl,-,-,h5⟩:=h2.open;obtain⟨b',o,rfl,h6⟩:=h5 (List.length_pos_iff.2 hl);injection hX with hX;have hX:b'=X:=hX;subst hX;obtain⟨x,l',rfl⟩:=List.exists_cons_of_ne_nil hl;have hlt:b'<w2.heap.size:=World.block_lt_of_cell? _ _ (h6 0 x rfl);rcases hd with hd|hd|hd|⟨ev,he1,he2⟩
   .omega
   .omega
   .rcases hd with hd|hd
    .have:=aI _ _ trivial h;have:=this b' (List.length_pos_iff.2 hl) rfl;omega
    .exact cA hl b' rfl hd
   .rw[n0]at he1;injection he1 with he1;subst he1;cases he2
  have aU:=Aa (OQ aP.o (.pointer (some ⟨NB,0,none⟩)) (fun s w' tl' sl' tv' sv' side msg mv h hl bW bX bY aX cB hml aZ=>SP h hl bW bX bY cB aX aZ) (nn-tl.length) (0, []) _ tl sl _ _ ac ac (by rw[<-hnn];exact k7) (fun h=>absurd rfl h) aC (aD _ _ HT.o cE.o) (aD _ _ HS.o cF.o));have hR:Nf pn mn c.ml c.rows d.rows nn (nn-tl.length) (0, []) tl sl=FY c d tl sl:=by
   unfold FY;rw[hp,hm,hnn];rfl
  rw[hR]at aU;have q:=aQ.o.ex (hx2.trans (hx23.trans e5));have bR:=Aa (aQ.o.ex hx2);have b0:=(hx2.trans (hx23.trans e5)).cell B0.o;have b1:=(hx2.trans (hx23.trans e5)).cell B1.o;have bA:=Aa aA;have HS2:=Aa (show B+1+1+1<w2.heap.size from World.block_lt_of_cell? _ _ bR.o.c0);clear bO aK aI hp hm hnn hx2 hg hx01 hx02 hA hx23 hpr h11 hf11 k3 k4 k5 k6 k7 k8 k9 aJ bH bF bG bE bV bU aN aA e5 n0 bD aC aW aD hR aP q hE;obtain⟨R,hR⟩:=nA (FY c d tl sl);rw[hR]at aU;have cD:=Aa hR;clear hR;go_wp2_with fail
  try simp only[aL]
  generalize w3.alloc (.cells #[.slice none 0 0] 94)=w4 at *;clear aL;refine aU.o.mono ?_;rintro e w5⟨rfl,aY,bZ⟩;have aE:=Aa aY;have aS:=Aa aY.sw.ex;obtain⟨q0,bS⟩:=bR.o.ex aS.o;have bB:=Aa (show ∀r w',Zk FB (Hd 0 R) (He 0 R) r w'->Zk FB (Hd (EY 0 0 (Cq c.p c.m c.ml d.p d.m d.ml) c.n d.n tl sl (c.p.toNat^c.m.toNat)) (FY c d tl sl)) (He (EY 0 0 (Cq c.p c.m c.ml d.p d.m d.ml) c.n d.n tl sl (c.p.toNat^c.m.toNat)) (FY c d tl sl)) r w' from fun r w' h=>by rw[HE.o,cD.o];exact h);clear aY bZ b0 b1 aU cC;obtain⟨E2,aM⟩:∃E,R.2=E:=⟨_,rfl⟩;have bC:=Aa aM;simp only[aM];by_cases h0:E2=0
  .subst h0;obtain⟨ev,bT,n0,n1,n2,n3⟩:=aE.o.en;obtain⟨ea,ec,rfl⟩:=Ab n1;have N1:=Aa n1;have N2:=Aa n2;have N3:=Aa n3;have aB:=Aa (show Hd 0 R=FU R.1.2/\He 0 R=0 from by
    unfold Hd He;rw[bC.o];exact⟨rfl,rfl⟩)
   clear aM n1 n2 n3;go_wp2_with fail
   refine bodyPost_ret (v:= .tuple #[.agg #[.slice ea R.1.2.length ec],.int .i64 0]) bt rfl ⟨⟨0,0,aH.o,fun _=>aO.o trivial,bB.o _ _ ?_⟩,(bA.o.trans aS.o).setCell (p:=⟨B+1+1+1,0,none⟩) bu _⟩;rw[aB.o.1,aB.o.2];refine⟨_,rfl,bT,by rw[Eg];exact N2.o,?_,fun i e mv h1 h2=>⟨?_,fun aZ X hX hF=>(N3.o i e mv h1 h2).2 aZ X hX (.inr (.inr (.inl (.inr hF))))⟩,fun X hX hF=>?_⟩
   .rw[Eg];exact Sl.own (Ac (a:=⟨B+1+1+1,0,none⟩) N1.o (fun e=>by have:=(N1.o.lt _ e).1;have:=aE.o.ne;have:=aE.o.rb (B+1+1+1) (.inl rfl);have:=aE.o.sw.lb;simp only at *;omega) _)
   .have hp:=N3.o i e mv h1 h2
    cases hm:e.msg with
    | nil=>
     rw[hm]at hp;obtain⟨g1,a,cap,g2,g3,g4,g5⟩:=hp.1;exact⟨g1,a,cap,g2,g3,g4,fun hn=>absurd hn ag⟩
    | cons y l=>
     rw[hm]at hp;exact Sl.other hp.1 (fun X hX e2=>hp.2 ag X hX (.inr (.inr (.inl (.inl e2))))) _
   .have h1:=(N1.o.lt X hX).1;have h2:=aE.o.rb X (.inr hF);have h3:=aE.o.ne;have h4:=aE.o.sw.lb;omega
  .have k0:(E2==0)=false:=by simpa using h0
   by_cases h18:E2=18
   .subst h18;have aB:=Aa (show Hd 0 R= []/\He 0 R=11 from by
     unfold Hd He;rw[bC.o];exact⟨rfl,rfl⟩)
    clear aM h0;go_wp2_with fail
    refine bodyPost_ret (v:= .tuple #[.agg #[.slice none 0 0],.int .i64 11]) bt rfl ⟨⟨0,0,aH.o,fun _=>aO.o trivial,bB.o _ _ ?_⟩,(bA.o.trans aS.o).setCell (p:=⟨B+1+1+1,0,none⟩) bu _⟩;rw[aB.o.1,aB.o.2];exact⟨_,rfl,Ou.nil _ _⟩
   .have k18:(E2==18)=false:=by simpa using h18
    have aB:=Aa (show Hd 0 R= []/\He 0 R=E2 from by
     unfold Hd He;rw[bC.o];simp[h18,h0])
    clear aM h18 h0;go_wp2_with fail
    refine bodyPost_ret (v:= .tuple #[.agg #[.slice none 0 0],.int .i64 E2]) bt rfl ⟨⟨0,0,aH.o,fun _=>aO.o trivial,bB.o _ _ ?_⟩,(bA.o.trans aS.o).setCell (p:=⟨B+1+1+1,0,none⟩) bu _⟩;rw[aB.o.1,aB.o.2];exact⟨_,rfl,Ou.nil _ _⟩
end Go.Proofs.YtehieobniamagaaGreat
