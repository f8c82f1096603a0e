/- Walk of equivalence.Find. -/
import Derived.Test.YtehieobniamagaaGreatZd14
namespace Go.Proofs.YtehieobniamagaaGreat
open Go.RowKit
set_option linter.all false
set_option maxRecDepth 100000
set_option maxHeartbeats 8000000
structure RK(w2:World)(A b n:Nat)(v1 v2:Value)(s:Nat × List Nd)(w:World):Prop where
 ex:Ex w2 w
 pr:LK w A b n v1 v2
 c11:w.cell? ⟨A,11,none⟩=some (.int .i64 s.1)
 f11:w.frozen? ⟨A,11,none⟩=false
 l1:s.2.length<=s.1
 l2:s.1<=65536
 lb:w2.heap.size<=A
section
variable {w2 w w':World} {A b n:Nat} {v1 v2:Value} {s:Nat × List Nd}
theorem RK.later(h:RK w2 A b n v1 v2 s w)(hx:Ex w w'):RK w2 A b n v1 v2 s w':=
 ⟨h.ex.trans hx,h.pr.ex hx,hx.cell h.c11,hx.frz h.c11 h.f11,h.l1,h.l2,h.lb⟩
theorem RK.seen(h:RK w2 A b n v1 v2 s w)(hs:s.1<65536):RK w2 A b n v1 v2 (s.1+1,s.2) (w.setCell ⟨A,11,none⟩ (.int .i64 ((s.1:Int)+1))):=
 ⟨h.ex.setCell (p:=⟨A,11,none⟩) h.lb _,⟨by rw[Af ae];exact h.pr.c0,by rw[Af ae];exact h.pr.c4,by rw[Af ae];exact h.pr.c5,by rw[Af ae];exact h.pr.c10⟩,by
  rw[World.cell?_setCell_same _ _ _ h.c11];simp,by rw[Ay];exact h.f11,by have:=h.l1;show s.2.length<=s.1+1;omega,by show s.1+1<=65536;omega,h.lb⟩
theorem RK.other(h:RK w2 A b n v1 v2 s w){B j:Nat}(hB:B≠A)(hb:w2.heap.size<=B)(u:Value):RK w2 A b n v1 v2 s (w.setCell ⟨B,j,none⟩ u):=
 ⟨h.ex.setCell (p:=⟨B,j,none⟩) hb _,⟨by rw[Ag hB];exact h.pr.c0,by rw[Ag hB];exact h.pr.c4,by rw[Ag hB];exact h.pr.c5,by rw[Ag hB];exact h.pr.c10⟩,by rw[Ag hB];exact h.c11,by rw[Ay];exact h.f11,h.l1,h.l2,h.lb⟩
theorem RK.note(h:RK w2 A b n v1 v2 s w)(hl:s.2.length<s.1)(x:Nd):RK w2 A b n v1 v2 (s.1,s.2 ++ [x]) w:=
 ⟨h.ex,h.pr,h.c11,h.f11,by rw[List.length_append];show s.2.length+1<=s.1;omega,h.l2,h.lb⟩
end
theorem Fm{DM:World->Nat->Prop}{w:World}{B j:Nat}{u:Value}(h:DM w B)(hi:∀X,DM (w.setCell ⟨B,j,none⟩ u) X->DM w X):AO DM w (w.setCell ⟨B,j,none⟩ u):=
 ⟨ag,fun X hX hn=>⟨Below.heap_setCell w ⟨B,j,none⟩ u X (fun e=>hn (by rw[e];exact h)),fun hd=>hn (hi X hd)⟩⟩
def RV(A NB:Nat):World->Nat->Prop:=fun _ X=>X=A∨X=NB
def Cm(L:List Nd):Nd:=L.getLast?.getD ⟨[], [],0, []⟩
theorem Fl(L:List Nd)(x:Nd):Cm (L ++ [x])=x:=by unfold Cm;simp
structure RT(w2:World)(A NB b n:Nat)(v1 v2:Value)(s:Nat × List Nd)(w:World):Prop where
 sw:RK w2 A b n v1 v2 s w
 ne:NB≠A
 lb:w2.heap.size<=NB
 nb:∃tv sv,w.cell? ⟨NB,0,none⟩=some tv/\w.cell? ⟨NB,1,none⟩=some sv/\CO (RV A NB) w tv (Cm s.2).tl/\CO (RV A NB) w sv (Cm s.2).sc
 f0:w.frozen? ⟨NB,0,none⟩=false
 f1:w.frozen? ⟨NB,1,none⟩=false
 ll:(Cm s.2).tl.length<=64/\(Cm s.2).sc.length<=64
section
variable {w2 w w':World} {A NB b n:Nat} {v1 v2:Value} {s:Nat × List Nd}
theorem RT.stt:UB (RT w2 A NB b n v1 v2) (RV A NB) where
 ex:=fun s w w' h hx=>by
  obtain⟨tv,sv,h1,h2,h3,h4⟩:=h.nb;have hk:AO (RV A NB) w w':=⟨hx.size,fun B hB hn=>⟨hx.block B hB,hn⟩⟩;exact⟨h.sw.later hx,h.ne,h.lb,⟨tv,sv,hx.cell h1,hx.cell h2,h3.keep hk,h4.keep hk⟩,hx.frz h1 h.f0,hx.frz h2 h.f1,h.ll⟩
 lt:=fun s w B h hd=>by
  rcases hd with rfl|rfl
  .exact World.block_lt_of_cell? _ _ h.sw.c11
  .obtain⟨tv,sv,h1,-⟩:=h.nb;exact World.block_lt_of_cell? _ _ h1
 dx:=fun s w w' B h hx hd=>hd
theorem RT.seen(h:RT w2 A NB b n v1 v2 s w)(hs:s.1<65536):RT w2 A NB b n v1 v2 (s.1+1,s.2) (w.setCell ⟨A,11,none⟩ (.int .i64 ((s.1:Int)+1)))/\AO (RV A NB) w (w.setCell ⟨A,11,none⟩ (.int .i64 ((s.1:Int)+1))):=by
 have hk:AO (RV A NB) w (w.setCell ⟨A,11,none⟩ (.int .i64 ((s.1:Int)+1))):=Fm (.inl rfl) fun X h=>h;obtain⟨tv,sv,h1,h2,h3,h4⟩:=h.nb;exact⟨⟨h.sw.seen hs,h.ne,h.lb,⟨tv,sv,by rw[Ag (fun e=>h.ne e.symm)];exact h1,by rw[Ag (fun e=>h.ne e.symm)];exact h2,h3.keep hk,h4.keep hk⟩,by rw[Ay];exact h.f0,by rw[Ay];exact h.f1,h.ll⟩,hk⟩
theorem RT.set(h:RT w2 A NB b n v1 v2 s w)(hl:s.2.length<s.1){tl sl msg:List Int}{side:Int}{tv sv:Value}(ht:CO (RV A NB) w tv tl)(hs:CO (RV A NB) w sv sl)(aA:tl.length<=64)(aB:sl.length=tl.length):
  RT w2 A NB b n v1 v2 (s.1,s.2 ++ [⟨tl,sl,side,msg⟩]) ((w.setCell ⟨NB,0,none⟩ tv).setCell ⟨NB,1,none⟩ sv)/\AO (RV A NB) w ((w.setCell ⟨NB,0,none⟩ tv).setCell ⟨NB,1,none⟩ sv):=by
 have hk:AO (RV A NB) w ((w.setCell ⟨NB,0,none⟩ tv).setCell ⟨NB,1,none⟩ sv):=(Fm (.inr rfl) fun X h=>h).trans (Fm (.inr rfl) fun X h=>h);obtain⟨tv',sv',h1,h2,h3,h4⟩:=h.nb;refine⟨⟨((h.sw.other h.ne h.lb tv).other h.ne h.lb sv).note hl _,h.ne,h.lb,⟨tv,sv,?_,?_,?_,?_⟩,by rw[Ay,Ay];exact h.f0,by rw[Ay,Ay];exact h.f1,by show(Cm (s.2 ++ [_])).tl.length<=64/\_;rw[Fl];exact⟨aA,by rw[aB];exact aA⟩⟩,hk⟩
 .rw[Af ae];exact World.cell?_setCell_same _ _ _ h1
 .exact World.cell?_setCell_same _ _ _ (by rw[Af ae];exact h2)
 .show CO _ _ tv (Cm (s.2 ++ [_])).tl
  rw[Fl];exact ht.keep hk
 .show CO _ _ sv (Cm (s.2 ++ [_])).sc
  rw[Fl];exact hs.keep hk
theorem We(h:RT w2 A NB b n v1 v2 s w)(hl:s.2.length<s.1){tl sl msg:List Int}{side:Int}{tv sv mv:Value}(ht:CO (RV A NB) w tv tl)(hs:CO (RV A NB) w sv sl)(aD:tl.length<=64)(aB:sl.length=tl.length):
  Calls Tryz.prog 172 #[.agg #[tv,sv],.int .i64 side,mv,.pointer (some ⟨NB,0,none⟩)] w fun r w'=>(∃t,r= .returned t)/\RT w2 A NB b n v1 v2 (s.1,s.2 ++ [⟨tl,sl,side,msg⟩]) w'/\AO (RV A NB) w w':=by
 obtain⟨b0,b1,e1,-⟩:=AT w tv sv;have h1:=RT.stt.ex _ _ _ h e1;have aA:=RT.stt.keeps h e1;obtain⟨h2,aC⟩:=h1.set hl (side:=side) (msg:=msg) (ht.keep aA) (hs.keep aA) aD aB;obtain⟨tv',sv',c0,c1,-,-⟩:=h1.nb;have f0:=h1.f0;have f1:=h1.f1;obtain⟨ta,tc,rfl,-,-,-⟩:=ht.1.open;obtain⟨sa,sc,rfl,-,-,-⟩:=hs.1.open;have H2:=Aa h2;have HK:=Aa (aA.trans aC);clear h ht hs h1 aA h2 aC e1 aB;go_enter Tryz.func172,Tryz.ntmps172
 go_wp2_with fail
 go_end0
 exact⟨⟨_,rfl⟩,H2.o,HK.o⟩
end
theorem YR{w2:World}{p m n A NB b x0:Nat}{ml:List Int}{l1 l2:List (List Int)}{v1 v2:Value}(hg:A9 w2 b p m ml x0)(x1:1<=x0)(x2:x0<p^m)(h1:BO w2 v1 l1)(h2:BO w2 v2 l2)(hn:n<=64)(r1:∀r∈l1,r.length=n)(r2:∀r∈l2,r.length=n)(k1:l1.length<=256)(k2:l2.length<=256):
  SrE p m ml l1 l2 n A b x0 v1 v2 (RT w2 A NB b n v1 v2) (RV A NB) where
 stt:=RT.stt
 pr:=fun s w h=>h.sw.pr
 gf:=fun s w h=>hg.ex h.sw.ex
 m1:=fun s w h=>h1.ex h.sw.ex
 m2:=fun s w h=>h2.ex h.sw.ex
 c11:=fun s w h=>⟨h.sw.c11,h.sw.f11⟩
 le:=fun s w h=>⟨h.sw.l1,h.sw.l2⟩
 seen:=fun s w h hs=>h.seen hs
 x1:=x1
 x2:=x2
 n64:=hn
 r1:=r1
 r2:=r2
 k1:=k1
 k2:=k2
theorem Dk{p m:Int}{ml:List Int}{n:Int}{rows:List (List Int)}(h:BN p m ml n rows 0):rows.length<=256/\∀r∈rows,(r.length:Int)=n:=by
 rcases h with⟨_,h⟩|⟨_,h1,h2⟩|⟨h1,h2,h3⟩
 .cases h
 .exact absurd h2.symm h1
 .rcases h3 with⟨h3,h4⟩|⟨_,pn,mn,N,piv,a',_,_,e,_,hm,_⟩
  .exact absurd h4.symm h3
  .obtain⟨_,_,s3,s4⟩:=DJ hm;exact⟨s3,fun r hr=>by rw[e];exact(s4 r hr).1⟩
theorem QH{e1 e2:Int}{aA:Bool}{n n':Int}{tl sl:List Int}{q:Nat}(h:FR e1 e2 aA n n' tl sl q=0):e1=0/\e2=0/\aA=true/\n=n'/\tl.length=sl.length/\(tl.length:Int)<=n/\BU tl n=true/\Ib tl=false/\H4 q sl=0:=by
 unfold FR at h;split at h
 .rename_i h1;exact absurd h h1
 rename_i h1;split at h
 .rename_i h2;exact absurd h h2
 rename_i h2;split at h
 .cases h
 rename_i h3;split at h
 .cases h
 rename_i h4;split at h
 .rename_i h5;exact absurd h h5
 rename_i h5;have hi:FE tl n=0:=ac;unfold FE at hi;split at hi
 .cases hi
 rename_i h6;split at hi
 .cases hi
 rename_i h7;refine⟨ac,ac,?_,?_,ac,ac,by cases hr:BU tl n <;> simp_all,by cases hr:Ib tl <;> simp_all,h⟩
 .cases hs:aA with
  | true=>rfl
  | false=>exact absurd (.inl hs) h3
 .by_cases e:n=n'
  .exact e
  .exact absurd (.inr e) h3
def Gj(c d:AU)(tl sl:List Int):(Nat × List Nd) × Int:=Lq c.p.toNat c.m.toNat c.ml c.rows d.rows c.n.toNat (c.n.toNat-tl.length) (0, []) tl sl
def Ju(E:Int)(R:(Nat × List Nd) × Int):Int:=if E≠0 then E else if R.2=18 then 0 else if R.2=0 then 11 else R.2
def IT(E:Int)(R:(Nat × List Nd) × Int):CL:=if E≠0 then⟨[], [],0⟩ else if R.2=18 then⟨(Cm R.1.2).tl,(Cm R.1.2).sc,0⟩ else⟨[], [],0⟩
def MoF(b:Nat)(M:CL)(e:Int)(r:Ending)(w':World):Prop:=∃u v,r= .returned (.tuple #[.agg #[u,v,.int .i64 M.frob],.int .i64 e])/\Am w' u M.perm/\Am w' v M.scale/\(∀X,u.ownBlock=some X->b<=X)/\∀X,v.ownBlock=some X->b<=X
theorem zcF{P:Prop}(h:P:=by
 exact⟨_,_,rfl,Bj _,Bj _,fun X h=>(by cases h),fun X h=>by cases h⟩):P:=h
theorem zbX{P:Prop}(h:P:=by
 rw[aB.o.1,aB.o.2];exact zcF):P:=h
theorem bj{P:Prop}(h:P:=by simp[results,Tryz.results122,go_sem,q0,q1,q2]):P:=h
theorem Uv(w:World)(c d:AU)(m1 m2 v1 v2:Value)(hc:c.at w m1 v1)(hd:d.at w m2 v2)(tl sl:List Int)(tv sv:Value)(ht:Am w tv tl)(hs:Am w sv sl):
  Calls Tryz.prog 122 #[c.arg m1 v1,d.arg m2 v2,.agg #[tv,sv]] w fun r w'=>(∃e1 e2:Int,BN c.p c.m c.ml c.n c.rows e1/\(e1=0->BN d.p d.m d.ml d.n d.rows e2)/\MoF w.heap.size (IT (FR e1 e2 (CR c.p c.m c.ml d.p d.m d.ml) c.n d.n tl sl (c.p.toNat^c.m.toNat)) (Gj c d tl sl)) (Ju (FR e1 e2 (CR c.p c.m c.ml d.p d.m d.ml) c.n d.n tl sl (c.p.toNat^c.m.toNat)) (Gj c d tl sl)) r w')/\Ex w w':=by
 obtain⟨c0,c1,c2,c3,c4⟩:=C6 w c m1 v1;obtain⟨d0,d1,d2,d3,d4⟩:=C6 (w.alloc (c.obj m1 v1)) d m2 v2;obtain⟨b0,b1,e3,bT⟩:=AT ((w.alloc (c.obj m1 v1)).alloc (d.obj m2 v2)) tv sv;have aQ:=ZL.new (((w.alloc (c.obj m1 v1)).alloc (d.obj m2 v2)).alloc (.cells #[tv,sv] 71));have bU:(w.alloc (c.obj m1 v1)).heap.size=w.heap.size+1:=ag;have bA:((w.alloc (c.obj m1 v1)).alloc (d.obj m2 v2)).heap.size=w.heap.size+1+1:=ag;have e1:=AJ w (c.obj m1 v1);have e2:=AJ (w.alloc (c.obj m1 v1)) (d.obj m2 v2);have e4:=AJ (((w.alloc (c.obj m1 v1)).alloc (d.obj m2 v2)).alloc (.cells #[tv,sv] 71)) (.cells #[.slice none 0 0,.slice none 0 0,.int .i64 0] 26);rw[bT,bA]at aQ;rw[bU]at d0 d1 d2 d3 d4;rw[bA]at b0 b1;have aF:=e1.trans (e2.trans (e3.trans e4));replace c0:=(e2.trans (e3.trans e4)).cell c0;replace c1:=(e2.trans (e3.trans e4)).cell c1;replace c2:=(e2.trans (e3.trans e4)).cell c2;replace c3:=(e2.trans (e3.trans e4)).cell c3;replace c4:=(e2.trans (e3.trans e4)).cell c4;replace d0:=(e3.trans e4).cell d0;replace d1:=(e3.trans e4).cell d1;replace d2:=(e3.trans e4).cell d2;replace d3:=(e3.trans e4).cell d3;replace d4:=(e3.trans e4).cell d4;replace b0:=e4.cell b0;replace b1:=e4.cell b1;obtain⟨B,hB⟩:=nA w.heap.size;rw[hB]at c0 c1 c2 c3 c4 d0 d1 d2 d3 d4 b0 b1 aQ;have aS:=Aa (It _ c d m1 m2 v1 v2 (hc.ex aF) (hd.ex aF) tl sl tv sv (ht.ex aF) (hs.ex aF));obtain⟨ta,tc,rfl,-,t2,-⟩:=ht.open;obtain⟨sa,sc,rfl,-,s2,-⟩:=hs.open;obtain⟨x1,y1,rfl,-,z1,-⟩:=hc.g.open;obtain⟨x2,y2,rfl,-,z2,-⟩:=hd.g.open;obtain⟨x3,y3,rfl,-,z3,-⟩:=hc.m.open;obtain⟨x4,y4,rfl,-,z4,-⟩:=hd.m.open;unfold maxLen at t2 s2 z1 z2 z3 z4;obtain⟨HX,HC,HD,HT,HS,aU,aR⟩:=OK aF hc hd ht hs aQ hB;clear hc hd ht hs e1 e2 e3 e4 bU bA bT aF aQ;unfold AU.arg at aS ⊢;go_enter Tryz.func122,Tryz.ntmps122
 unfold AU.obj at c0 c1 c2 c3 c4 d0 d1 d2 d3 d4 b0 b1 HX aU aS;go_upto_region 1 with fail
 try simp only[hB]
 clear hB;generalize (((w.alloc (.cells #[.int .i64 c.p,.int .i64 c.m,.slice x3 c.ml.length y3,.int .i64 c.n,.slice x1 c.rows.length y1] 39)).alloc (.cells #[.int .i64 d.p,.int .i64 d.m,.slice x4 d.ml.length y4,.int .i64 d.n,.slice x2 d.rows.length y2] 39)).alloc (.cells #[.slice ta tl.length tc,.slice sa sl.length sc] 71)).alloc (.cells #[.slice none 0 0,.slice none 0 0,.int .i64 0] 26)=w1 at *;have B0:=Aa b0;have B1:=Aa b1;go_wp2_with fail
 refine aS.o.mono ?_;rintro e w3⟨ho,bW⟩;have cE:=Aa bW;obtain⟨e1,e2,bZ,aK,ho⟩:=ho;have aI:=Aa bZ;have aN:=Aa aK;clear c0 c1 c2 c3 c4 d0 d1 d2 d3 d4 bW bZ aK aS b0 b1;obtain⟨E,hE⟩:=nA (FR e1 e2 (CR c.p c.m c.ml d.p d.m d.ml) c.n d.n tl sl (c.p.toNat^c.m.toNat));rw[hE]at ho;have HE:=Aa hE;rcases ho with⟨h0,ptr,rfl⟩|⟨h0,w2,A,b,x0,pn,mn,nn,hp,hm,hnn,rfl,hx2,hg,hx01,hx02,hA,hx23,hpr,h11,hf11⟩
 .have hb0:(E !=0)=true:=by simpa using h0
  obtain⟨q0,q1,q2,aZ,aY,aX⟩:=aU.o.ex cE.o;have H0:=Aa h0;clear h0 hE;go_wp2_with fail
  refine bodyPost_ret (v:= .tuple #[.agg #[.slice none 0 0,.slice none 0 0,.int .i64 0],.int .i64 E]) bj rfl ⟨⟨e1,e2,aI.o,aN.o,?_⟩,Ce (HX.o.trans cE.o) (by rw[aR.o];omega) _ _ _⟩;rw[HE.o];unfold IT Ju;rw[if_pos H0.o,if_pos H0.o];exact zcF
 .subst h0;obtain⟨k1,k2,k3,k4,k5,k6,k7,k8,k9⟩:=QH hE;subst k1;have aK:=aN.o rfl;subst k2;obtain⟨bS,bQ⟩:=Dk aI.o;obtain⟨bR,bP⟩:=Dk aK;obtain⟨-,cQ,cP⟩:=Du aI.o;obtain⟨NB,aG⟩:∃B,w3.heap.size=B:=⟨_,rfl⟩;have bG:A<NB:=by rw[<-aG];exact World.block_lt_of_cell? _ _ h11
  have aA:=HX.o.trans hx2;have e5:=AJ w3 (.cells #[.slice none 0 0,.slice none 0 0] 71);obtain⟨n0,n1,-,-⟩:=AT w3 (.slice none 0 0) (.slice none 0 0);have bO:(w3.alloc (.cells #[.slice none 0 0,.slice none 0 0] 71)).frozen? ⟨NB,0,none⟩=false:=by rw[<-aG];simp
  have bN:(w3.alloc (.cells #[.slice none 0 0,.slice none 0 0] 71)).frozen? ⟨NB,1,none⟩=false:=by rw[<-aG];simp
  rw[aG]at n0 n1;have aP:=Aa (YR (p:=pn) (m:=mn) (n:=nn) (A:=A) (NB:=NB) hg hx01 hx02 (HC.o.g.ex aA) (HD.o.g.ex aA) ac (fun r hr=>by have:=bQ r hr;omega) (fun r hr=>by have:=bP r hr;omega) bS bR);have aC:RT w2 A NB b nn (.slice x1 c.rows.length y1) (.slice x2 d.rows.length y2) (0, []) (w3.alloc (.cells #[.slice none 0 0,.slice none 0 0] 71)):=
   ⟨⟨hx23.trans e5,hpr.ex e5,e5.cell h11,e5.frz h11 hf11,ag,ag,hA⟩,ac,ac,⟨_,_,n0,n1,⟨Bj _,fun h=>absurd rfl h⟩,⟨Bj _,fun h=>absurd rfl h⟩⟩,bO,bN,ae⟩
  have cZ:=Aa aC;have aJ:w1.heap.size<=w2.heap.size:=hx2.size;have bI:=Aa aJ;have aD:∀(v:Value) (l:List Int),Am w v l->CO (RV A NB) (w3.alloc (.cells #[.slice none 0 0,.slice none 0 0] 71)) v l:=fun v l h=>by
   have h2:=h.ex aA;have hk:AO (fun _ X=>w2.heap.size<=X) w2 (w3.alloc (.cells #[.slice none 0 0,.slice none 0 0] 71)):=⟨(hx23.trans e5).size,fun X hX hn=>⟨(hx23.trans e5).block X hX,hn⟩⟩;refine⟨(h.ex aA).ex (hx23.trans e5),fun hl X hX hd=>?_⟩;obtain⟨a,cap,rfl,-,-,h5⟩:=h2.open;obtain⟨b',o,rfl,h6⟩:=h5 (List.length_pos_iff.2 hl);injection hX with hX;have hX:b'=X:=hX;subst hX;obtain⟨x,l',rfl⟩:=List.exists_cons_of_ne_nil hl;have hlt:b'<w2.heap.size:=World.block_lt_of_cell? _ _ (h6 0 x rfl);rcases hd with hd|hd <;> omega
  have aT:=Aa (QN aP.o (.pointer (some ⟨NB,0,none⟩)) (fun s w' tl' sl' tv' sv' side msg mv h hl cR cS hm' bE cV hml hne=>We h hl cR cS cV bE) (nn-tl.length) (0, []) _ tl sl _ _ ac ac (by rw[<-hnn];exact k7) (fun h=>absurd rfl h) aC (aD _ _ HT.o) (aD _ _ HS.o));have hR:Lq pn mn c.ml c.rows d.rows nn (nn-tl.length) (0, []) tl sl=Gj c d tl sl:=by
   unfold Gj;rw[hp,hm,hnn];rfl
  rw[hR]at aT;have q:=aU.o.ex (hx2.trans (hx23.trans e5));have bM:=Aa (aU.o.ex hx2);have b0:=(hx2.trans (hx23.trans e5)).cell B0.o;have b1:=(hx2.trans (hx23.trans e5)).cell B1.o;have bH:=Aa aA;have cG:=Aa (show B+1+1+1<w2.heap.size from World.block_lt_of_cell? _ _ bM.o.c0);clear hp hm hnn hx2 hg hx01 hx02 hA hx23 hpr h11 hf11 k3 k4 k5 k6 k7 k8 k9 aK bS bQ bR bP cQ cP bG aA e5 n0 n1 bO bN aC aJ aD hR aP q hE;obtain⟨R,hR⟩:=nA (Gj c d tl sl);rw[hR]at aT;have dA:=Aa hR;clear hR;go_wp2_with fail
  try simp only[aG]
  generalize w3.alloc (.cells #[.slice none 0 0,.slice none 0 0] 71)=w4 at *;clear aG;refine aT.o.mono ?_;rintro e w5⟨rfl,bF,cU⟩;have bJ:=Aa bF;have aE:=Aa bF.sw.ex;obtain⟨q0,q1,q2,aZ,aY,aX⟩:=bM.o.ex aE.o;have bK:=Aa (show ∀r w',MoF w.heap.size (IT 0 R) (Ju 0 R) r w'->MoF w.heap.size (IT (FR 0 0 (CR c.p c.m c.ml d.p d.m d.ml) c.n d.n tl sl (c.p.toNat^c.m.toNat)) (Gj c d tl sl)) (Ju (FR 0 0 (CR c.p c.m c.ml d.p d.m d.ml) c.n d.n tl sl (c.p.toNat^c.m.toNat)) (Gj c d tl sl)) r w' from fun r w' h=>by rw[HE.o,dA.o];exact h);clear bF cU b0 b1 aT cZ;obtain⟨E2,aL⟩:∃E,R.2=E:=⟨_,rfl⟩;have bL:=Aa aL;simp only[aL];by_cases h18:E2=18
  .subst h18;obtain⟨aV,aW,n0,n1,bY,bX⟩:=bJ.o.nb;have cT:=bJ.o.ll;obtain⟨cI,cH,aO,HQ⟩:=Eq (fun (w':World) (h:Ex w5 w')=>FQ w' _ aV (bY.1.ex h) ac) (fun (w':World) (h:Ex w5 w')=>FQ w' _ aW (bX.1.ex h) ac) (show ∀w',Ex w5 w'->w'.cell? ⟨NB,0,none⟩=some aV/\w'.cell? ⟨NB,1,none⟩=some aW from fun w' h=>⟨h.cell n0,h.cell n1⟩) (show ∀w',Ex w5 w'->ZL w' (B+1+1+1) from fun w' h=>bM.o.ex (aE.o.trans h));have aB:=Aa (show IT 0 R=⟨(Cm R.1.2).tl,(Cm R.1.2).sc,0⟩/\Ju 0 R=0 from by
    unfold IT Ju;rw[bL.o];exact⟨rfl,rfl⟩)
   obtain⟨Lt,cC⟩:∃l,(Cm R.1.2).tl=l:=⟨_,rfl⟩;obtain⟨Ls,cD⟩:∃l,(Cm R.1.2).sc=l:=⟨_,rfl⟩;rw[cC]at cI aB;rw[cD]at cH aB;clear aL bY bX cT cC cD q0 q1 q2 aZ aY aX;go_wp2_with fail
   have G0:Ex w5 w5.drew:=(Ex.refl w5).drew;have aH:=Aa (show B+1+1+1≠NB from by have:=bJ.o.lb;have:=cG.o;omega)
   go_region_held3 (fun w'=>w'.cell? ⟨NB,0,none⟩=some aV/\w'.cell? ⟨NB,1,none⟩=some aW)
    (first|with_reducible exact aO.o _ G0|with_reducible exact aO.o _ X6.o|with_reducible exact aO.o _ X7.o|exact⟨by rw[Ag aH.o,Ag aH.o,Ag aH.o];exact(aO.o _ X7.o).1,by rw[Ag aH.o,Ag aH.o,Ag aH.o];exact(aO.o _ X7.o).2⟩)
    (first|(go_at_call 154;(with_reducible refine(cI.o _ G0).mono ?_);rintro e w6⟨u6,rfl,bD,cB,bV⟩;have cY:=Aa bD;have cK:=Aa cB;obtain⟨cO,cM,rfl,-,-,-⟩:=bD.open;have X6:=Aa (G0.trans bV);clear bV bD cB)|(go_at_call 154;(with_reducible refine(cH.o _ X6.o).mono ?_);rintro e w7⟨u7,rfl,bC,cA,bB⟩;have cX:=Aa bC;have cJ:=Aa cA;obtain⟨cN,cL,rfl,-,-,-⟩:=bC.open;have cW:=Aa bB;have X7:=Aa (X6.o.trans bB);obtain⟨q0,q1,q2,aZ,aY,aX⟩:=HQ.o _ X7.o;clear bB bC cA))
   have cF:=Aa (show B+1+1+1<w5.heap.size from by have:=aE.o.size;have:=cG.o;omega);have aM:=Aa X6.o.size;go_wp2_with fail
   refine bodyPost_ret (v:= .tuple #[.agg #[.slice cO Lt.length cM,.slice cN Ls.length cL,.int .i64 0],.int .i64 0]) bj rfl ⟨⟨0,0,aI.o,fun _=>aN.o trivial,bK.o _ _ ?_⟩,Ce ((bH.o.trans aE.o).trans X7.o) (by rw[aR.o];omega) _ _ _⟩;rw[aB.o.1,aB.o.2];have hw5:w.heap.size<=w5.heap.size:=Nat.le_trans (HX.o.trans (Ex.refl _)).size (Nat.le_trans bI.o aE.o.size);refine⟨_,_,rfl,Fd (cY.o.ex cW.o) (fun X hX e=>?_) _ _ _,Fd cX.o (fun X hX e=>?_) _ _ _,fun X hX=>?_,fun X hX=>?_⟩
   .have:=cK.o X hX;have h1:w5.drew.heap.size=w5.heap.size:=rfl;have:=cF.o;omega
   .have:=cJ.o X hX;have:=cF.o;have:=aM.o;omega
   .have:=cK.o X hX;have h1:w5.drew.heap.size=w5.heap.size:=rfl;omega
   .have:=cJ.o X hX;have h1:w5.drew.heap.size=w5.heap.size:=rfl;have:=aM.o;omega
  .have k18:(E2==18)=false:=by simpa using h18
   by_cases h0:E2=0
   .subst h0;have aB:=Aa (show IT 0 R=⟨[], [],0⟩/\Ju 0 R=11 from by
     unfold IT Ju;rw[bL.o];exact⟨rfl,rfl⟩)
    clear aL h18;go_wp2_with fail
    refine bodyPost_ret (v:= .tuple #[.agg #[.slice none 0 0,.slice none 0 0,.int .i64 0],.int .i64 11]) bj rfl ⟨⟨0,0,aI.o,fun _=>aN.o trivial,bK.o _ _ ?_⟩,Ce (bH.o.trans aE.o) (by rw[aR.o];omega) _ _ _⟩;exact zbX
   .have k0:(E2==0)=false:=by simpa using h0
    have aB:=Aa (show IT 0 R=⟨[], [],0⟩/\Ju 0 R=E2 from by
     unfold IT Ju;rw[bL.o];simp[h18,h0])
    clear aL h18 h0;go_wp2_with fail
    refine bodyPost_ret (v:= .tuple #[.agg #[.slice none 0 0,.slice none 0 0,.int .i64 0],.int .i64 E2]) bj rfl ⟨⟨0,0,aI.o,fun _=>aN.o trivial,bK.o _ _ ?_⟩,Ce (bH.o.trans aE.o) (by rw[aR.o];omega) _ _ _⟩;exact zbX
structure Rf where
 tp:Int
 sc:Int
 side:Int
 msg:List Int
def Rf.cells(e:Rf)(mv:Value):List Value:= [.int .i64 e.tp,.int .i64 e.sc,.int .i64 e.side,mv]
def Mi:List Rf->List Value->List Value
 | e :: es,v :: vs=>e.cells v++Mi es vs
 | _,_=> []
theorem Nk:∀(es:List Rf) (vs:List Value),vs.length=es.length->(Mi es vs).length=es.length*4
 | [], [],_=>rfl
 | [],v :: vs,h=>by simp at h
 | e :: es, [],h=>by simp at h
 | e :: es,v :: vs,h=>by
  have:=Nk es vs az;show(e.cells v++Mi es vs).length=_
  rw[List.length_append,this];simp[Rf.cells];omega
theorem O6:∀(es:List Rf) (vs:List Value) (e:Rf) (v:Value),vs.length=es.length->Mi (es ++ [e]) (vs ++ [v])=Mi es vs++e.cells v
 | [], [],e,v,_=>by simp[Mi]
 | [],u :: vs,e,v,h=>by simp at h
 | x :: es, [],e,v,h=>by simp at h
 | x :: es,u :: vs,e,v,h=>by
  show x.cells u++Mi (es ++ [e]) (vs ++ [v])=x.cells u++Mi es vs++e.cells v
  rw[O6 es vs e v (by simpa using h),List.append_assoc]
def ndR(x:Nd):Rf:=⟨x.tl.getD (x.tl.length-1) 0,x.sc.getD (x.sc.length-1) 0,x.side,x.msg⟩
def GG:List Nd->List Rf
 | []=> []
 | x :: t=>⟨0,0,x.side,x.msg⟩ :: t.map ndR
theorem Fe(L:List Nd):(GG L).length=L.length:=by cases L <;> simp[GG]
theorem Mh(L:List Nd)(x:Nd):GG (L ++ [x])=GG L ++ [if L= [] then⟨0,0,x.side,x.msg⟩ else ndR x]:=by
 cases L with
 | nil=>simp[GG]
 | cons y t=>simp[GG]
def Qz(w:World)(v:Value)(es:List Rf):Prop:=∃mvs:List Value,mvs.length=es.length/\Sl w v es.length 4 (Mi es mvs)/\∀(i:Nat) (e:Rf) (mv:Value),es[i]?=some e->mvs[i]?=some mv->Am w mv e.msg
theorem Qz.ex{w w':World}{v:Value}{es:List Rf}(h:Qz w v es)(hx:Ex w w'):Qz w' v es:=by
 obtain⟨m,h1,h2,h3⟩:=h;exact⟨m,h1,h2.ex hx,fun i e mv a b=>(h3 i e mv a b).ex hx⟩
theorem Qz.nil(w:World):Qz w (.slice none 0 0) []:=⟨[],rfl,Sl.nil w 4,fun i e mv h=>by simp at h⟩
theorem Rj:(Tryz.prog.info? 176).map (fun i=>(i.zero,i.size,i.bytes))=some (some (.agg #[.int .i64 0,.int .i64 0,.int .i64 0,.slice none 0 0]),4,48):=ah
def Qw(A NB:Nat)(RB:Nat->Prop):World->Nat->Prop:=fun w X=>X=A∨X=NB∨RB X∨∃ev,w.cell? ⟨NB,0,none⟩=some ev/\ev.ownBlock=some X
structure JP(w2:World)(A NB:Nat)(RB:Nat->Prop)(b n:Nat)(v1 v2:Value)(s:Nat × List Nd)(w:World):Prop where
 sw:RK w2 A b n v1 v2 s w
 ne:A<NB
 rb:∀X,RB X->X<w2.heap.size
 en:∃ev mvs,w.cell? ⟨NB,0,none⟩=some ev/\w.ownsRow (NB+1) 176 4 ev s.2.length (Mi (GG s.2) mvs)/\mvs.length=s.2.length/\∀(i:Nat) (e:Rf) (mv:Value),(GG s.2)[i]?=some e->mvs[i]?=some mv->CO (Qw A NB RB) w mv e.msg
 f0:w.frozen? ⟨NB,0,none⟩=false
section
variable {w2 w w':World} {A NB b n:Nat} {RB:Nat->Prop} {v1 v2:Value} {s:Nat × List Nd}
theorem JP.dm(h:JP w2 A NB RB b n v1 v2 s w)(hx:Ex w w'){X:Nat}(hd:Qw A NB RB w' X):Qw A NB RB w X:=by
 rcases hd with hd|hd|hd|⟨ev,h1,h2⟩
 .exact .inl hd
 .exact .inr (.inl hd)
 .exact .inr (.inr (.inl hd))
 .obtain⟨ev',m,h3,-⟩:=h.en;rw[hx.cell h3]at h1;injection h1 with h1;subst h1;exact .inr (.inr (.inr ⟨_,h3,h2⟩))
theorem JP.keeps(h:JP w2 A NB RB b n v1 v2 s w)(hx:Ex w w'):AO (Qw A NB RB) w w':=
 ⟨hx.size,fun B hB hn=>⟨hx.block B hB,fun hd=>hn (h.dm hx hd)⟩⟩
theorem JP.stt:UB (JP w2 A NB RB b n v1 v2) (Qw A NB RB) where
 ex:=fun s w w' h hx=>by
  obtain⟨ev,mvs,h1,h2,h3,h4⟩:=h.en;exact⟨h.sw.later hx,h.ne,h.rb,⟨ev,mvs,hx.cell h1,Aj h2 hx,h3,fun i e mv a b=>(h4 i e mv a b).keep (h.keeps hx)⟩,hx.frz h1 h.f0⟩
 lt:=fun s w B h hd=>by
  obtain⟨ev,mvs,h1,h2,-⟩:=h.en;rcases hd with rfl|rfl|hd|⟨ev',h3,h4⟩
  .exact World.block_lt_of_cell? _ _ h.sw.c11
  .exact World.block_lt_of_cell? _ _ h1
  .exact Nat.lt_of_lt_of_le (h.rb B hd) h.sw.ex.size
  .rw[h1]at h3;injection h3 with h3;subst h3;exact(h2.lt B h4).2
 dx:=fun s w w' B h hx hd=>h.dm hx hd
theorem JP.seen(h:JP w2 A NB RB b n v1 v2 s w)(hs:s.1<65536):JP w2 A NB RB b n v1 v2 (s.1+1,s.2) (w.setCell ⟨A,11,none⟩ (.int .i64 ((s.1:Int)+1)))/\AO (Qw A NB RB) w (w.setCell ⟨A,11,none⟩ (.int .i64 ((s.1:Int)+1))):=by
 have aC:A≠NB:=by have:=h.ne;omega
 have aA:∀u:Value,(w.setCell ⟨A,11,none⟩ u).cell? ⟨NB,0,none⟩=w.cell? ⟨NB,0,none⟩:=fun u=>Ag aC;have hk:AO (Qw A NB RB) w (w.setCell ⟨A,11,none⟩ (.int .i64 ((s.1:Int)+1))):=Fm (.inl rfl) fun X hd=>by
  rcases hd with hd|hd|hd|⟨ev,h1,h2⟩
  .exact .inl hd
  .exact .inr (.inl hd)
  .exact .inr (.inr (.inl hd))
  .rw[aA]at h1;exact .inr (.inr (.inr ⟨ev,h1,h2⟩))
 obtain⟨ev,aB,h1,h2,h3,h4⟩:=h.en;refine⟨⟨h.sw.seen hs,h.ne,h.rb,⟨ev,aB,by rw[aA];exact h1,Ac (a:=⟨A,11,none⟩) h2 (fun e=>?_) _,h3,fun i e mv a b=>(h4 i e mv a b).keep hk⟩,by rw[Ay];exact h.f0⟩,hk⟩;have:=(h2.lt A e).1;have:=h.ne;omega
theorem JP.app(h:JP w2 A NB RB b n v1 v2 s w)(hl:s.2.length<s.1){ev:Value}{x:Nd}{mv v':Value}{aC:List Value}(hc:w.cell? ⟨NB,0,none⟩=some ev)(h2:w.ownsRow (NB+1) 176 4 ev s.2.length (Mi (GG s.2) aC))(h3:aC.length=s.2.length)(h4:∀(i:Nat) (e:Rf) (mv:Value),(GG s.2)[i]?=some e->aC[i]?=some mv->CO (Qw A NB RB) w mv e.msg)(hm:CO (Qw A NB RB) w mv x.msg)
  (ha:Bn w w' (NB+1) 176 4 ev v' s.2.length (Mi (GG s.2) aC) ((if s.2= [] then(⟨0,0,x.side,x.msg⟩:Rf) else ndR x).cells mv)) (hb:w2.heap.size<=A):
  JP w2 A NB RB b n v1 v2 (s.1,s.2 ++ [x]) (w'.setCell ⟨NB,0,none⟩ v')/\AO (Qw A NB RB) w (w'.setCell ⟨NB,0,none⟩ v'):=by
 have aF:some NB≠ev.ownBlock:=fun e=>by have:=(h2.lt NB e.symm).1;omega
 have aD:some A≠ev.ownBlock:=fun e=>by have:=(h2.lt A e.symm).1;have:=h.ne;omega
 have aG:=ha.cell hc aF;have hlt:NB<w.heap.size:=World.block_lt_of_cell? _ _ hc;have aE:v'.ownBlock≠some NB:=fun e=>by
  rcases ha.at_ with h5|h5
  .rw[h5]at e;exact aF e.symm
  .rw[h5]at e;injection e with e;omega
 have aA:AO (Qw A NB RB) w (w'.setCell ⟨NB,0,none⟩ v'):=by
  obtain⟨o,hg⟩:=ha.gr;refine⟨by rw[CY];exact Nat.le_of_lt ha.grow,fun B hB hn=>⟨?_,?_⟩⟩
  .have aJ:B≠NB:=fun e=>hn (.inr (.inl e));have h5:(w'.setCell ⟨NB,0,none⟩ v').heap[B]?=w'.heap[B]?:=Below.heap_setCell w' ⟨NB,0,none⟩ v' B aJ;rw[h5,hg.block B aq (fun e=>hn (.inr (.inr (.inr ⟨ev,hc,e.symm⟩))))];show(w.heap.push o)[B]?=_
   exact Array.getElem?_push_lt hB ▸ (by simp[hB])
  .rintro (hd|hd|hd|⟨ev2,h5,h6⟩)
   .exact hn (.inl hd)
   .exact hn (.inr (.inl hd))
   .exact hn (.inr (.inr (.inl hd)))
   .rw[World.cell?_setCell_same _ _ _ aG]at h5;injection h5 with h5;subst h5;rcases ha.at_ with h7|h7
    .rw[h7]at h6;exact hn (.inr (.inr (.inr ⟨ev,hc,h6⟩)))
    .rw[h7]at h6;injection h6 with h6;omega
 refine⟨⟨?_,h.ne,h.rb,⟨v',aC ++ [mv],World.cell?_setCell_same _ _ _ aG,?_,by simp[h3],fun i e u hi hu=>?_⟩,by rw[Ay];exact ha.frz hc h.f0 aF⟩,aA⟩
 .have aH:Ex w2 w':=ha.ex h.sw.ex (by have:=h.ne;omega);have aI:RK w2 A b n v1 v2 s w':=⟨aH,⟨ha.cell h.sw.pr.c0 aD,ha.cell h.sw.pr.c4 aD,ha.cell h.sw.pr.c5 aD,ha.cell h.sw.pr.c10 aD⟩,ha.cell h.sw.c11 aD,ha.frz h.sw.c11 h.sw.f11 aD,h.sw.l1,h.sw.l2,h.sw.lb⟩;exact(aI.other (by have:=h.ne;omega) (by have:=h.ne;omega) v').note hl x
 .have h5:=Ac (a:=⟨NB,0,none⟩) ha.own aE v';show(w'.setCell ⟨NB,0,none⟩ v').ownsRow _ _ _ _ (s.2 ++ [x]).length (Mi (GG (s.2 ++ [x])) (aC ++ [mv]))
  rw[List.length_append,Mh,O6 _ _ _ _ (by rw[h3,Fe])];exact h5
 .have aB:(GG (s.2 ++ [x]))[i]?=some e:=hi;rw[Mh]at aB;by_cases hil:i<s.2.length
  .rw[List.getElem?_append_left (by rw[Fe];exact hil)]at aB;rw[List.getElem?_append_left (by rw[h3];exact hil)]at hu;exact(h4 i e u aB hu).keep aA
  .rw[List.getElem?_append_right (by rw[Fe];omega)]at aB;rw[List.getElem?_append_right (by rw[h3];omega)]at hu;rw[Fe]at aB;rw[h3]at hu;have h0:i-s.2.length=0:=by
    have:=(List.getElem?_eq_some_iff.1 aB).1;simp at this;omega
   rw[h0]at aB hu;simp at aB hu;subst hu;have:e.msg=x.msg:=by rw[<-aB];split <;> rfl
   rw[this];exact hm.keep aA
theorem U6(h:JP w2 A NB RB b n v1 v2 s w)(hl:s.2.length<s.1){tl sl msg:List Int}{side:Int}{tv sv mv:Value}(ht:CO (Qw A NB RB) w tv tl)(hs:CO (Qw A NB RB) w sv sl)(hm:CO (Qw A NB RB) w mv msg)(h64:tl.length<=64)(bA:sl.length=tl.length)(aC:s.2≠ []->tl≠ []):
  Calls Tryz.prog 143 #[.agg #[tv,sv],.int .i64 side,mv,.pointer (some ⟨NB,0,none⟩)] w fun r w'=>(∃t,r= .returned t)/\JP w2 A NB RB b n v1 v2 (s.1,s.2 ++ [⟨tl,sl,side,msg⟩]) w'/\AO (Qw A NB RB) w w':=by
 obtain⟨b0,b1,e1,aE⟩:=AT w tv sv;have e2:=AJ (w.alloc (.cells #[tv,sv] 71)) (.cells #[.int .i64 0,.int .i64 0,.int .i64 side,mv] 176);have x0:((w.alloc (.cells #[tv,sv] 71)).alloc (.cells #[.int .i64 0,.int .i64 0,.int .i64 side,mv] 176)).cell? ⟨w.heap.size+1,0,none⟩=some (.int .i64 0):=cd;have x1:((w.alloc (.cells #[tv,sv] 71)).alloc (.cells #[.int .i64 0,.int .i64 0,.int .i64 side,mv] 176)).cell? ⟨w.heap.size+1,1,none⟩=some (.int .i64 0):=cd;have x2:((w.alloc (.cells #[tv,sv] 71)).alloc (.cells #[.int .i64 0,.int .i64 0,.int .i64 side,mv] 176)).cell? ⟨w.heap.size+1,2,none⟩=some (.int .i64 side):=cd;have x3:((w.alloc (.cells #[tv,sv] 71)).alloc (.cells #[.int .i64 0,.int .i64 0,.int .i64 side,mv] 176)).cell? ⟨w.heap.size+1,3,none⟩=some mv:=cd;have aO:((w.alloc (.cells #[tv,sv] 71)).alloc (.cells #[.int .i64 0,.int .i64 0,.int .i64 side,mv] 176)).frozen? ⟨w.heap.size+1,0,none⟩=false:=cd;have aN:((w.alloc (.cells #[tv,sv] 71)).alloc (.cells #[.int .i64 0,.int .i64 0,.int .i64 side,mv] 176)).frozen? ⟨w.heap.size+1,1,none⟩=false:=cd;replace b0:=e2.cell b0;replace b1:=e2.cell b1;have hx:=e1.trans e2;obtain⟨ev,mvs,c0,ho,bG,-⟩:=(JP.stt.ex _ _ _ h hx).en;obtain⟨ea,ec,rfl⟩:=Ad ho;have aV:w.cell? ⟨NB,0,none⟩=some (.slice ea s.2.length ec):=by
  obtain⟨bB,_,h1,_⟩:=h.en;rw[hx.cell h1]at c0;rw[h1];exact c0
 obtain⟨ta,tc,rfl,-,t2,t3⟩:=ht.1.open;obtain⟨sa,sc,rfl,-,s2,s3⟩:=hs.1.open;obtain⟨ma,mc,rfl,-,m2,-⟩:=hm.1.open;unfold maxLen at t2 s2 m2;have aU:NB<w.heap.size:=World.block_lt_of_cell? _ _ aV;obtain⟨HH,HT,HS,HM,HX,bE,bN,bD,T3,S3,bK⟩:=Ha0 h ht hs hm hx aV h.sw.l2 h.sw.lb t3 s3 bA;obtain⟨B,hB⟩:=nA w.heap.size;rw[hB]at b0 b1 x0 x1 x2 x3 aO aN aU;have aI:=Aa hB;have HOO:=Aa ho;have aX:=Aa hl;obtain⟨N,hN⟩:=nA s.2.length;have HN:=Aa hN;rw[hN]at c0 bE;clear h ht hs hm hx e1 e2 aE aV t3 s3 bA ho bG hl;go_enter Tryz.func143,Tryz.ntmps143
 go_upto_region 2 with fail
 try simp only[hB]
 clear hB hN;generalize (w.alloc (.cells #[.slice ta tl.length tc,.slice sa sl.length sc] 71)).alloc (.cells #[.int .i64 0,.int .i64 0,.int .i64 side,.slice ma msg.length mc] 176)=w3 at *;have aW:=Aa (JP.stt.ex _ _ _ HH.o HX.o);have bF:NB+1<=w3.heap.size:=by have:=HX.o.size;have:=aI.o;omega
 have bI:=Aa bF;have hN16:N<=65536:=by have:=bN.o;have:=aX.o;have:=HN.o;omega
 by_cases h0:N=0
 .subst h0;have bL:=Aa (List.length_eq_zero_iff.1 HN.o);obtain⟨bB,aP,g1,g2,g3,g4⟩:=aW.o.en;rw[c0]at g1;injection g1 with g1;subst g1;have G2:=Aa g2;have G3:=Aa g3;have G4:=Aa g4;rw[HN.o]at g2;have aJ:=Aa g2;have f0:=aW.o.f0;have hdm:((0:Nat):Int)=0:=rfl;clear g2 g3 g4;go_wp2_with (at_builtin;refine Al _ rfl _ _ 92 rfl (NB+1) 176 (.agg #[.int .i64 0,.int .i64 0,.int .i64 0,.slice none 0 0]) 4 48 Tryz.underlying92 Rj rfl ae _ 0 _ rfl aJ.o [.int .i64 0,.int .i64 0,.int .i64 side,.slice ma msg.length mc] 176 _ rfl ag rfl aj ai ac bI.o ?_)
  intro v6 w6 aA;have HAP:=Aa aA;have aC:some NB≠Value.ownBlock (.slice ea 0 ec):=fun e=>by have:=(aJ.o.lt NB e.symm).1;omega
  have c6:=aA.cell c0 aC;have f6:=aA.frz c0 f0 aC;have aB:=Aa (aW.o.app (x:=⟨tl,sl,side,msg⟩) (mv:= .slice ma msg.length mc) (v':=v6) (ev:= .slice ea 0 ec) aX.o c0 G2.o G3.o G4.o (HM.o.keep (JP.keeps HH.o HX.o)) (by rw[HN.o,if_pos bL.o];exact aA) bD.o);obtain⟨va,vc,hv⟩:=Ad aA.own;subst hv;clear aA c0 f0 aC b0 b1 x0 x1 x2 x3 aO aN;go_wp2_with fail
  go_end0
  exact⟨⟨_,rfl⟩,aB.o.1,(JP.keeps HH.o HX.o).trans aB.o.2⟩
 .have aG:s.2≠ []:=fun e=>h0 (by rw[<-HN.o,e];rfl);have bH:=Aa (aC aG);have bJ:=Aa aG;have hk:0<tl.length:=List.length_pos_iff.2 bH.o;obtain⟨k,aM⟩:∃k,tl.length=k+1:=⟨tl.length-1,ac⟩;have aT:sl.length=k+1:=by rw[bK.o,aM]
  obtain⟨tb,aD,rfl,aQ⟩:=T3.o hk;obtain⟨sb,so,rfl,aS⟩:=S3.o ac;obtain⟨X,hX⟩:∃x,tl.getD k 0=x:=⟨_,rfl⟩;obtain⟨Y,hY⟩:∃x,sl.getD k 0=x:=⟨_,rfl⟩;have hTB:tb<B:=by have:=World.block_lt_of_cell? _ _ (aQ k _ (Bc (l:=tl) (i:=k) ac));have h2:=aI.o;simp only at this;omega
  have hSB:sb<B:=by have:=World.block_lt_of_cell? _ _ (aS k _ (Bc (l:=sl) (i:=k) ac));have h2:=aI.o;simp only at this;omega
  have cX:=HX.o.cell (aQ k X (by rw[<-hX];exact Bc ac));have cY:=HX.o.cell (aS k Y (by rw[<-hY];exact Bc ac));have bM:=Aa (show ndR ⟨tl,sl,side,msg⟩=⟨X,Y,side,msg⟩ from by
   unfold ndR;simp only[aM,aT,Nat.add_sub_cancel];rw[hX,hY])
  rw[aM]at b0;rw[aT]at b1;have i1:(0:Int)<=(k:Int):=ac;have i2:(k:Int)<((k+1:Nat):Int):=ac;have i4:(k:Int)<(k:Int)+1:=ac;have bP:=Aa (show wrap64 (k:Int)=(k:Int) from w64 ac ac);have bO:=Aa (show IntKind.i64.wrap (k:Int)=(k:Int) from IntWalk.i64_in _ ac);have hb0:decide ((N:Int) > 0)=true:=aq;have hb0':decide ((0:Int)<(N:Int))=true:=aq;have hb0'':decide (0<N)=true:=aq;clear hX hY aQ aS hk aC aG aM aT t2 s2;have aZ:=Aa (show w3.cell? ⟨B,0,none⟩=some (.slice (some ⟨tb,aD,none⟩) (k+1) tc)/\w3.cell? ⟨B,1,none⟩=some (.slice (some ⟨sb,so,none⟩) (k+1) sc)/\w3.cell? ⟨tb,aD+k,none⟩=some (.int .i64 X)/\w3.cell? ⟨sb,so+k,none⟩=some (.int .i64 Y) from⟨b0,b1,cX,cY⟩);have HTS:=Aa (show tb≠B+1/\sb≠B+1/\NB≠B+1 from⟨ac,ac,ac⟩);go_wp2_with fail
  have aY:=Aa (fun (w':World) (j:Nat) (u:Value) (h:w'.cell? ⟨B,0,none⟩=some (.slice (some ⟨tb,aD,none⟩) (k+1) tc)/\w'.cell? ⟨B,1,none⟩=some (.slice (some ⟨sb,so,none⟩) (k+1) sc)/\w'.cell? ⟨tb,aD+k,none⟩=some (.int .i64 X)/\w'.cell? ⟨sb,so+k,none⟩=some (.int .i64 Y))=>(⟨by rw[Ag (show B+1≠B by omega)];exact h.1,by rw[Ag (show B+1≠B by omega)];exact h.2.1,by rw[Ag (show B+1≠tb by omega)];exact h.2.2.1,by rw[Ag (show B+1≠sb by omega)];exact h.2.2.2⟩:(w'.setCell ⟨B+1,j,none⟩ u).cell? ⟨B,0,none⟩=some (.slice (some ⟨tb,aD,none⟩) (k+1) tc)/\(w'.setCell ⟨B+1,j,none⟩ u).cell? ⟨B,1,none⟩=some (.slice (some ⟨sb,so,none⟩) (k+1) sc)/\(w'.setCell ⟨B+1,j,none⟩ u).cell? ⟨tb,aD+k,none⟩=some (.int .i64 X)/\(w'.setCell ⟨B+1,j,none⟩ u).cell? ⟨sb,so+k,none⟩=some (.int .i64 Y)));have i6:=bP.o;have i7:=bO.o
  go_region_held3 (fun w'=>w'.cell? ⟨B,0,none⟩=some (.slice (some ⟨tb,aD,none⟩) (k+1) tc)/\w'.cell? ⟨B,1,none⟩=some (.slice (some ⟨sb,so,none⟩) (k+1) sc)/\w'.cell? ⟨tb,aD+k,none⟩=some (.int .i64 X)/\w'.cell? ⟨sb,so+k,none⟩=some (.int .i64 Y))
   (first|exact aZ.o|exact aY.o _ _ _ aZ.o|exact aY.o _ _ _ (aY.o _ _ _ aZ.o)) (fail)
  clear i6 i7;obtain⟨w5,aF⟩:=nA (((w3.setCell ⟨B+1,0,none⟩ (.int .i64 X)).setCell ⟨B+1,1,none⟩ (.int .i64 Y)).drew);have aK:Ex w w5:=by
   rw[<-aF];exact((HX.o.setCell (p:=⟨B+1,0,none⟩) (by show w.heap.size<=B+1;have:=aI.o;omega) _).setCell (p:=⟨B+1,1,none⟩) (by show w.heap.size<=B+1;have:=aI.o;omega) _).drew
  have z0:w5.cell? ⟨B+1,0,none⟩=some (.int .i64 X):=by
   rw[<-aF];show World.cell? ((w3.setCell _ _).setCell _ _) _=_;rw[Af ae];exact World.cell?_setCell_same _ _ _ x0
  have z1:w5.cell? ⟨B+1,1,none⟩=some (.int .i64 Y):=by
   rw[<-aF];show World.cell? ((w3.setCell _ _).setCell _ _) _=_;exact World.cell?_setCell_same _ _ _ (by rw[Af ae];exact x1)
  have z2:w5.cell? ⟨B+1,2,none⟩=some (.int .i64 side):=by
   rw[<-aF];show World.cell? ((w3.setCell _ _).setCell _ _) _=_;rw[Af ae,Af ae];exact x2
  have z3:w5.cell? ⟨B+1,3,none⟩=some (.slice ma msg.length mc):=by
   rw[<-aF];show World.cell? ((w3.setCell _ _).setCell _ _) _=_;rw[Af ae,Af ae];exact x3
  have aH:=Aa (JP.stt.ex _ _ _ HH.o aK);have bC:=Aa aK;have c5:=aK.cell bE.o;obtain⟨bB,aP,g1,g2,g3,g4⟩:=aH.o.en;rw[c5]at g1;injection g1 with g1;subst g1;have G2:=Aa g2;have G3:=Aa g3;have G4:=Aa g4;rw[HN.o]at g2;have aJ:=Aa g2;have f5:=aH.o.f0;have aR:NB+1<=w5.heap.size:=by have:=aK.size;have:=aI.o;omega
  have aL:=Aa aR;clear g2 g3 g4 c0 x0 x1 x2 x3 aO aN b0 b1 cX cY aK;go_wp2_with (first|(simp only[aF];clear aF;at_builtin;refine Al _ rfl _ _ 92 rfl (NB+1) 176 (.agg #[.int .i64 0,.int .i64 0,.int .i64 0,.slice none 0 0]) 4 48 Tryz.underlying92 Rj rfl ae _ N _ rfl aJ.o [.int .i64 X,.int .i64 Y,.int .i64 side,.slice ma msg.length mc] 176 _ rfl ag rfl aj ai ac aL.o ?_)|(at_builtin;refine Al _ rfl _ _ 92 rfl (NB+1) 176 (.agg #[.int .i64 0,.int .i64 0,.int .i64 0,.slice none 0 0]) 4 48 Tryz.underlying92 Rj rfl ae _ N _ rfl aJ.o [.int .i64 X,.int .i64 Y,.int .i64 side,.slice ma msg.length mc] 176 _ rfl ag rfl aj ai ac aL.o ?_))
  intro v6 w6 aA;have aC:some NB≠Value.ownBlock (.slice ea N ec):=fun e=>by have:=(aJ.o.lt NB e.symm).1;omega
  have c6:=aA.cell c5 aC;have f6:=aA.frz c5 f5 aC;have aB:=Aa (aH.o.app (x:=⟨tl,sl,side,msg⟩) (mv:= .slice ma msg.length mc) (v':=v6) (ev:= .slice ea N ec) aX.o c5 G2.o G3.o G4.o (HM.o.keep (JP.keeps HH.o bC.o)) (by rw[HN.o,if_neg bJ.o,bM.o];exact aA) bD.o);obtain⟨va,vc,hv⟩:=Ad aA.own;subst hv;clear aA c5 f5 aC z0 z1 z2 z3;go_wp2_with fail
  go_end0
  exact⟨⟨_,rfl⟩,aB.o.1,(JP.keeps HH.o bC.o).trans aB.o.2⟩
end
structure BxR(w:World)(b:Nat):Prop where
 c0:w.cell? ⟨b,0,none⟩=some (.slice none 0 0)
 f0:w.frozen? ⟨b,0,none⟩=false
theorem BxR.new(w:World):BxR (w.alloc (.cells #[.slice none 0 0] 94)) w.heap.size:=⟨ag,ag⟩
theorem BxR.ex{w w':World}{b:Nat}(h:BxR w b)(hx:Ex w w'):BxR w' b:=⟨hx.cell h.c0,hx.frz h.c0 h.f0⟩
def Qs(FB:Nat->Prop)(w:World)(v:Value)(es:List Rf):Prop:=∃mvs:List Value,mvs.length=es.length/\Sl w v es.length 4 (Mi es mvs)/\(∀(i:Nat) (e:Rf) (mv:Value),es[i]?=some e->mvs[i]?=some mv->Am w mv e.msg/\(e.msg≠ []->∀X,mv.ownBlock=some X->¬FB X))/\∀X,v.ownBlock=some X->¬FB X
theorem Qs.nil(FB:Nat->Prop)(w:World):Qs FB w (.slice none 0 0) []:=⟨[],rfl,Sl.nil w 4,fun i e mv h=>by simp at h,fun X h=>by cases h⟩
def RfF(FB:Nat->Prop)(es:List Rf)(e:Int)(r:Ending)(w':World):Prop:=∃ev,r= .returned (.tuple #[.agg #[ev],.int .i64 e])/\Qs FB w' ev es
def ID(E:Int)(R:(Nat × List Nd) × Int):Int:=if E≠0 then E else if R.2=0 then 0 else if R.2=18 then 11 else R.2
def IC(E:Int)(R:(Nat × List Nd) × Int):List Rf:=if E≠0 then [] else if R.2=0 then GG R.1.2 else []
theorem XN{w2:World}{p m n A NB b x0:Nat}{RB:Nat->Prop}{ml:List Int}{l1 l2:List (List Int)}{v1 v2:Value}(hg:A9 w2 b p m ml x0)(x1:1<=x0)(x2:x0<p^m)(h1:BO w2 v1 l1)(h2:BO w2 v2 l2)(hn:n<=64)(r1:∀r∈l1,r.length=n)(r2:∀r∈l2,r.length=n)(k1:l1.length<=256)(k2:l2.length<=256):
  SrE p m ml l1 l2 n A b x0 v1 v2 (JP w2 A NB RB b n v1 v2) (Qw A NB RB) where
 stt:=JP.stt
 pr:=fun s w h=>h.sw.pr
 gf:=fun s w h=>hg.ex h.sw.ex
 m1:=fun s w h=>h1.ex h.sw.ex
 m2:=fun s w h=>h2.ex h.sw.ex
 c11:=fun s w h=>⟨h.sw.c11,h.sw.f11⟩
 le:=fun s w h=>⟨h.sw.l1,h.sw.l2⟩
 seen:=fun s w h hs=>h.seen hs
 x1:=x1
 x2:=x2
 n64:=hn
 r1:=r1
 r2:=r2
 k1:=k1
 k2:=k2
theorem bw{P:Prop}(h:P:=by simp[results,Tryz.results83,go_sem,q0]):P:=h
theorem bz{P:Prop}(h:P:=by rw[aG.o];show B<=B+1+1+1;omega):P:=h
theorem Qr(w:World)(c d:AU)(m1 m2 v1 v2:Value)(hc:c.at w m1 v1)(hd:d.at w m2 v2)(tl sl:List Int)(tv sv:Value)(ht:Am w tv tl)(hs:Am w sv sl)(FB:Nat->Prop)(bP:∀X,FB X->X<w.heap.size)(bM:tl≠ []->∀X,tv.ownBlock=some X->¬FB X)(bN:sl≠ []->∀X,sv.ownBlock=some X->¬FB X):
  Calls Tryz.prog 83 #[c.arg m1 v1,d.arg m2 v2,.agg #[tv,sv]] w fun r w'=>(∃e1 e2:Int,BN c.p c.m c.ml c.n c.rows e1/\(e1=0->BN d.p d.m d.ml d.n d.rows e2)/\RfF FB (IC (FR e1 e2 (CR c.p c.m c.ml d.p d.m d.ml) c.n d.n tl sl (c.p.toNat^c.m.toNat)) (Gj c d tl sl)) (ID (FR e1 e2 (CR c.p c.m c.ml d.p d.m d.ml) c.n d.n tl sl (c.p.toNat^c.m.toNat)) (Gj c d tl sl)) r w')/\Ex w w':=by
 have cG:=Aa bP;have cE:=Aa bM;have cF:=Aa bN;clear bP bM bN;obtain⟨c0,c1,c2,c3,c4⟩:=C6 w c m1 v1;obtain⟨d0,d1,d2,d3,d4⟩:=C6 (w.alloc (c.obj m1 v1)) d m2 v2;obtain⟨b0,b1,e3,bI⟩:=AT ((w.alloc (c.obj m1 v1)).alloc (d.obj m2 v2)) tv sv;have aR:=BxR.new (((w.alloc (c.obj m1 v1)).alloc (d.obj m2 v2)).alloc (.cells #[tv,sv] 71));have bJ:(w.alloc (c.obj m1 v1)).heap.size=w.heap.size+1:=ag;have aV:((w.alloc (c.obj m1 v1)).alloc (d.obj m2 v2)).heap.size=w.heap.size+1+1:=ag;have e1:=AJ w (c.obj m1 v1);have e2:=AJ (w.alloc (c.obj m1 v1)) (d.obj m2 v2);have e4:=AJ (((w.alloc (c.obj m1 v1)).alloc (d.obj m2 v2)).alloc (.cells #[tv,sv] 71)) (.cells #[.slice none 0 0] 94);rw[bI,aV]at aR;rw[bJ]at d0 d1 d2 d3 d4;rw[aV]at b0 b1;have aF:=e1.trans (e2.trans (e3.trans e4));replace c0:=(e2.trans (e3.trans e4)).cell c0;replace c1:=(e2.trans (e3.trans e4)).cell c1;replace c2:=(e2.trans (e3.trans e4)).cell c2;replace c3:=(e2.trans (e3.trans e4)).cell c3;replace c4:=(e2.trans (e3.trans e4)).cell c4;replace d0:=(e3.trans e4).cell d0;replace d1:=(e3.trans e4).cell d1;replace d2:=(e3.trans e4).cell d2;replace d3:=(e3.trans e4).cell d3;replace d4:=(e3.trans e4).cell d4;replace b0:=e4.cell b0;replace b1:=e4.cell b1;obtain⟨B,hB⟩:=nA w.heap.size;rw[hB]at c0 c1 c2 c3 c4 d0 d1 d2 d3 d4 b0 b1 aR;have aT:=Aa (It _ c d m1 m2 v1 v2 (hc.ex aF) (hd.ex aF) tl sl tv sv (ht.ex aF) (hs.ex aF));obtain⟨ta,tc,rfl,-,t2,-⟩:=ht.open;obtain⟨sa,sc,rfl,-,s2,-⟩:=hs.open;obtain⟨x1,y1,rfl,-,z1,-⟩:=hc.g.open;obtain⟨x2,y2,rfl,-,z2,-⟩:=hd.g.open;obtain⟨x3,y3,rfl,-,z3,-⟩:=hc.m.open;obtain⟨x4,y4,rfl,-,z4,-⟩:=hd.m.open;unfold maxLen at t2 s2 z1 z2 z3 z4;obtain⟨HX,HC,HD,HT,HS,aQ,aG⟩:=OK aF hc hd ht hs aR hB;clear hc hd ht hs e1 e2 e3 e4 bJ aV bI aF aR;unfold AU.arg at aT ⊢;go_enter Tryz.func83,Tryz.ntmps83
 unfold AU.obj at c0 c1 c2 c3 c4 d0 d1 d2 d3 d4 b0 b1 HX aQ aT;go_upto_region 1 with fail
 try simp only[hB]
 clear hB;generalize (((w.alloc (.cells #[.int .i64 c.p,.int .i64 c.m,.slice x3 c.ml.length y3,.int .i64 c.n,.slice x1 c.rows.length y1] 39)).alloc (.cells #[.int .i64 d.p,.int .i64 d.m,.slice x4 d.ml.length y4,.int .i64 d.n,.slice x2 d.rows.length y2] 39)).alloc (.cells #[.slice ta tl.length tc,.slice sa sl.length sc] 71)).alloc (.cells #[.slice none 0 0] 94)=w1 at *;have B0:=Aa b0;have B1:=Aa b1;go_wp2_with fail
 refine aT.o.mono ?_;rintro e w3⟨ho,bK⟩;have bQ:=Aa bK;obtain⟨e1,e2,bL,aJ,ho⟩:=ho;have aH:=Aa bL;have aO:=Aa aJ;clear c0 c1 c2 c3 c4 d0 d1 d2 d3 d4 bK bL aJ aT b0 b1;obtain⟨E,hE⟩:=nA (FR e1 e2 (CR c.p c.m c.ml d.p d.m d.ml) c.n d.n tl sl (c.p.toNat^c.m.toNat));rw[hE]at ho;have HE:=Aa hE;rcases ho with⟨h0,ptr,rfl⟩|⟨h0,w2,A,b,x0,pn,mn,nn,hp,hm,hnn,rfl,hx2,hg,hx01,hx02,hA,hx23,hpr,h11,hf11⟩
 .have hb0:(E !=0)=true:=by simpa using h0
  obtain⟨q0,bS⟩:=aQ.o.ex bQ.o;have H0:=Aa h0;clear h0 hE;go_wp2_with fail
  refine bodyPost_ret (v:= .tuple #[.agg #[.slice none 0 0],.int .i64 E]) bw rfl ⟨⟨e1,e2,aH.o,aO.o,?_⟩,(HX.o.trans bQ.o).setCell (p:=⟨B+1+1+1,0,none⟩) bz _⟩;rw[HE.o];unfold IC ID;rw[if_pos H0.o,if_pos H0.o];exact⟨_,rfl,Qs.nil _ _⟩
 .subst h0;obtain⟨k1,k2,k3,k4,k5,k6,k7,k8,k9⟩:=QH hE;subst k1;have aJ:=aO.o rfl;subst k2;obtain⟨bH,bF⟩:=Dk aH.o;obtain⟨bG,bE⟩:=Dk aJ;obtain⟨-,bV,bU⟩:=Du aH.o;obtain⟨NB,aL⟩:∃B,w3.heap.size=B:=⟨_,rfl⟩;have aN:A<NB:=by rw[<-aL];exact World.block_lt_of_cell? _ _ h11
  have aA:=HX.o.trans hx2;have e5:=AJ w3 (.cells #[.slice none 0 0] 94);have n0:(w3.alloc (.cells #[.slice none 0 0] 94)).cell? ⟨NB,0,none⟩=some (.slice none 0 0):=dn;have bD:(w3.alloc (.cells #[.slice none 0 0] 94)).frozen? ⟨NB,0,none⟩=false:=dn;have aP:=Aa (XN (p:=pn) (m:=mn) (n:=nn) (A:=A) (NB:=NB) (RB:=fun X=>X=B+1+1+1∨FB X) hg hx01 hx02 (HC.o.g.ex aA) (HD.o.g.ex aA) ac (fun r hr=>by have:=bF r hr;omega) (fun r hr=>by have:=bE r hr;omega) bH bG);have aK:B+1+1+1<w2.heap.size:=World.block_lt_of_cell? _ _ (aQ.o.ex hx2).c0;have bO:∀X,(X=B+1+1+1∨FB X)->X<w2.heap.size:=fun X h=>by
   rcases h with rfl|h
   .exact aK
   .have:=cG.o X h;have:=aG.o;omega
  have aC:JP w2 A NB (fun X=>X=B+1+1+1∨FB X) b nn (.slice x1 c.rows.length y1) (.slice x2 d.rows.length y2) (0, []) (w3.alloc (.cells #[.slice none 0 0] 94)):=
   ⟨⟨hx23.trans e5,hpr.ex e5,e5.cell h11,e5.frz h11 hf11,ag,ag,hA⟩,aN,bO,⟨_, [],n0,World.ownsRow_nil _ _ _ _,rfl,fun i e mv h=>by simp[GG]at h⟩,bD⟩
  have cC:=Aa aC;have aW:w1.heap.size<=w2.heap.size:=hx2.size;have aI:∀(v:Value) (l:List Int) (_:True),Am w v l->∀X,0<l.length->v.ownBlock=some X->X<B:=fun v l _ h X hl hX=>by
   obtain⟨a,cap,rfl,-,-,h5⟩:=h.open;obtain⟨b',o,rfl,h6⟩:=h5 hl;injection hX with hX;have hX:b'=X:=hX;subst hX;have:=World.block_lt_of_cell? _ _ (h6 0 _ (Bc hl));have h2:=aG.o;simp only at this;omega
  have aD:∀(v:Value) (l:List Int),Am w v l->(l≠ []->∀X,v.ownBlock=some X->¬FB X)->CO (Qw A NB (fun X=>X=B+1+1+1∨FB X)) (w3.alloc (.cells #[.slice none 0 0] 94)) v l:=fun v l h cA=>by
   have h2:=h.ex aA;have hk:AO (fun _ X=>w2.heap.size<=X) w2 (w3.alloc (.cells #[.slice none 0 0] 94)):=⟨(hx23.trans e5).size,fun X hX hn=>⟨(hx23.trans e5).block X hX,hn⟩⟩;refine⟨(h.ex aA).ex (hx23.trans e5),fun hl X hX hd=>?_⟩;obtain⟨a,cap,rfl,-,-,h5⟩:=h2.open;obtain⟨b',o,rfl,h6⟩:=h5 (List.length_pos_iff.2 hl);injection hX with hX;have hX:b'=X:=hX;subst hX;obtain⟨x,l',rfl⟩:=List.exists_cons_of_ne_nil hl;have hlt:b'<w2.heap.size:=World.block_lt_of_cell? _ _ (h6 0 x rfl);rcases hd with hd|hd|hd|⟨ev,he1,he2⟩
   .omega
   .omega
   .rcases hd with hd|hd
    .have:=aI _ _ trivial h;have:=this b' (List.length_pos_iff.2 hl) rfl;omega
    .exact cA hl b' rfl hd
   .rw[n0]at he1;injection he1 with he1;subst he1;cases he2
  have aU:=Aa (QM aP.o (.pointer (some ⟨NB,0,none⟩)) (fun s w' tl' sl' tv' sv' side msg mv h hl bW bX bY aX cB hml aZ=>U6 h hl bW bX bY cB aX aZ) (nn-tl.length) (0, []) _ tl sl _ _ ac ac (by rw[<-hnn];exact k7) (fun h=>absurd rfl h) aC (aD _ _ HT.o cE.o) (aD _ _ HS.o cF.o));have hR:Lq pn mn c.ml c.rows d.rows nn (nn-tl.length) (0, []) tl sl=Gj c d tl sl:=by
   unfold Gj;rw[hp,hm,hnn];rfl
  rw[hR]at aU;have q:=aQ.o.ex (hx2.trans (hx23.trans e5));have bR:=Aa (aQ.o.ex hx2);have b0:=(hx2.trans (hx23.trans e5)).cell B0.o;have b1:=(hx2.trans (hx23.trans e5)).cell B1.o;have bA:=Aa aA;have HS2:=Aa (show B+1+1+1<w2.heap.size from World.block_lt_of_cell? _ _ bR.o.c0);clear bO aK aI hp hm hnn hx2 hg hx01 hx02 hA hx23 hpr h11 hf11 k3 k4 k5 k6 k7 k8 k9 aJ bH bF bG bE bV bU aN aA e5 n0 bD aC aW aD hR aP q hE;obtain⟨R,hR⟩:=nA (Gj c d tl sl);rw[hR]at aU;have cD:=Aa hR;clear hR;go_wp2_with fail
  try simp only[aL]
  generalize w3.alloc (.cells #[.slice none 0 0] 94)=w4 at *;clear aL;refine aU.o.mono ?_;rintro e w5⟨rfl,aY,bZ⟩;have aE:=Aa aY;have aS:=Aa aY.sw.ex;obtain⟨q0,bS⟩:=bR.o.ex aS.o;have bB:=Aa (show ∀r w',RfF FB (IC 0 R) (ID 0 R) r w'->RfF FB (IC (FR 0 0 (CR c.p c.m c.ml d.p d.m d.ml) c.n d.n tl sl (c.p.toNat^c.m.toNat)) (Gj c d tl sl)) (ID (FR 0 0 (CR c.p c.m c.ml d.p d.m d.ml) c.n d.n tl sl (c.p.toNat^c.m.toNat)) (Gj c d tl sl)) r w' from fun r w' h=>by rw[HE.o,cD.o];exact h);clear aY bZ b0 b1 aU cC;obtain⟨E2,aM⟩:∃E,R.2=E:=⟨_,rfl⟩;have bC:=Aa aM;simp only[aM];by_cases h0:E2=0
  .subst h0;obtain⟨ev,bT,n0,n1,n2,n3⟩:=aE.o.en;obtain⟨ea,ec,rfl⟩:=Ad n1;have N1:=Aa n1;have N2:=Aa n2;have N3:=Aa n3;have aB:=Aa (show IC 0 R=GG R.1.2/\ID 0 R=0 from by
    unfold IC ID;rw[bC.o];exact⟨rfl,rfl⟩)
   clear aM n1 n2 n3;go_wp2_with fail
   refine bodyPost_ret (v:= .tuple #[.agg #[.slice ea R.1.2.length ec],.int .i64 0]) bw rfl ⟨⟨0,0,aH.o,fun _=>aO.o trivial,bB.o _ _ ?_⟩,(bA.o.trans aS.o).setCell (p:=⟨B+1+1+1,0,none⟩) bz _⟩;rw[aB.o.1,aB.o.2];refine⟨_,rfl,bT,by rw[Fe];exact N2.o,?_,fun i e mv h1 h2=>⟨?_,fun aZ X hX hF=>(N3.o i e mv h1 h2).2 aZ X hX (.inr (.inr (.inl (.inr hF))))⟩,fun X hX hF=>?_⟩
   .rw[Fe];exact Sl.own (Ac (a:=⟨B+1+1+1,0,none⟩) N1.o (fun e=>by have:=(N1.o.lt _ e).1;have:=aE.o.ne;have:=aE.o.rb (B+1+1+1) (.inl rfl);have:=aE.o.sw.lb;simp only at *;omega) _)
   .have hp:=N3.o i e mv h1 h2
    cases hm:e.msg with
    | nil=>
     rw[hm]at hp;obtain⟨g1,a,cap,g2,g3,g4,g5⟩:=hp.1;exact⟨g1,a,cap,g2,g3,g4,fun hn=>absurd hn ag⟩
    | cons y l=>
     rw[hm]at hp;exact Sl.other hp.1 (fun X hX e2=>hp.2 ag X hX (.inr (.inr (.inl (.inl e2))))) _
   .have h1:=(N1.o.lt X hX).1;have h2:=aE.o.rb X (.inr hF);have h3:=aE.o.ne;have h4:=aE.o.sw.lb;omega
  .have k0:(E2==0)=false:=by simpa using h0
   by_cases h18:E2=18
   .subst h18;have aB:=Aa (show IC 0 R= []/\ID 0 R=11 from by
     unfold IC ID;rw[bC.o];exact⟨rfl,rfl⟩)
    clear aM h0;go_wp2_with fail
    refine bodyPost_ret (v:= .tuple #[.agg #[.slice none 0 0],.int .i64 11]) bw rfl ⟨⟨0,0,aH.o,fun _=>aO.o trivial,bB.o _ _ ?_⟩,(bA.o.trans aS.o).setCell (p:=⟨B+1+1+1,0,none⟩) bz _⟩;rw[aB.o.1,aB.o.2];exact⟨_,rfl,Qs.nil _ _⟩
   .have k18:(E2==18)=false:=by simpa using h18
    have aB:=Aa (show IC 0 R= []/\ID 0 R=E2 from by
     unfold IC ID;rw[bC.o];simp[h18,h0])
    clear aM h18 h0;go_wp2_with fail
    refine bodyPost_ret (v:= .tuple #[.agg #[.slice none 0 0],.int .i64 E2]) bw rfl ⟨⟨0,0,aH.o,fun _=>aO.o trivial,bB.o _ _ ?_⟩,(bA.o.trans aS.o).setCell (p:=⟨B+1+1+1,0,none⟩) bz _⟩;rw[aB.o.1,aB.o.2];exact⟨_,rfl,Qs.nil _ _⟩
def RF(p m:Nat)(ml:List Int)(v:List Int)(a:Int)(u:List Int)(k:Nat):Int:=
 if u.getD k 0=0 then v.getD k 0 else((AI p m (Au (p^m) (v.getD k 0)) (Au (p^m) ((Ai p m (lw ml) (Au (p^m) a) (Au (p^m) (u.getD k 0)):Nat):Int)):Nat):Int)
theorem zaC{P:Prop}(h:P:=by
 subst e;rw[Ab];show _=Value.int .i64 (if j<j+1 then RF p m ml v a u j else 0);rw[if_pos (by omega),aB.o]):P:=h
theorem QW(p m:Nat)(ml:List Int)(mv:Value)(w:World)(hf:GD p m ml)(aS:Am w mv ml)(v u:List Int)(vv uv:Value)(hv:Am w vv v)(hu:Am w uv u)(a:Int)(hl:v.length<=u.length)(hl1:v.length<=1000):
  Calls Tryz.prog 245 #[.agg #[.int .i64 p,.int .i64 m,mv],vv,.int .i64 a,uv] w fun r w'=>
   ∃g,r= .returned (.slice (some ⟨g,0,none⟩) v.length v.length)/\AG w' w.heap.size 3 g v.length (iv (RF p m ml v a u))/\Ex w w':=by
 have HF:=Aa hf;have aU:=Aa aS;obtain⟨va,vc,rfl,v1,v2,v3⟩:=hv.open;obtain⟨ua,uc,rfl,u1,u2,u3⟩:=hu.open;have V3:=Aa v3;have U3:=Aa u3;unfold maxLen at v2 u2;clear hf aS hv hu v3 u3;obtain⟨f0,f1,f2,e0,aH⟩:=AC w p m mv;obtain⟨xb,aD⟩:=nA w.heap.size;have HXB:=Aa aD;rw[aD]at f0 f1 f2 aH ⊢;go_enter Tryz.func245,Tryz.ntmps245
 go_wp2_with (at_make;refine Aq _ rfl _ _ 22 rfl 3 (.int .i64 0) 8 Tryz.underlying22 AA rfl _ v.length rfl rfl rfl ac ai ?_)
 intro w3 aA hx3
 try simp only[aD]at aA hx3 ⊢
 try simp only[aD]
 generalize w.alloc (.cells #[.int .i64 p,.int .i64 m,mv] 24)=wA at *
 try simp only[aH]at aA ⊢
 obtain⟨aT,HO,EX,E0,F0,F1,F2⟩:=OK aH (show AG w3 (xb+1) 3 (xb+1) v.length (iv fun j=>if j<0 then RF p m ml v a u j else 0) from aA.icongr (fun j _=>ag)) hx3 e0 f0 f1 f2;clear aA hx3 e0 f0 f1 f2 aH aD;go_wp2_with fail
 go_loopw [10] (fun k' wr=>∃k:Nat,k<=v.length/\k'= .int .i64 k/\Hia (AG wr (xb+1) 3 (xb+1) v.length (iv fun j=>if j<k then RF p m ml v a u j else 0))/\Hia (Ex wA wr)) (fun k' _=>v.length-(intOf k').toNat)
 case atStart=>exact⟨0,ac,rfl,HO,EX⟩
 case round=>
  clear HO EX;obtain⟨k,hk,rfl,aA,hx⟩:=hrel;by_cases hlt:k<v.length
  .obtain⟨y,hy⟩:∃y,v[k]?=some y:=⟨_,List.getElem?_eq_getElem hlt⟩;obtain⟨z,hz⟩:∃z,u[k]?=some z:=⟨_,List.getElem?_eq_getElem ac⟩;have aP:v.getD k 0=y:=by rw[List.getD_eq_getElem?_getD,hy];rfl
   have aO:u.getD k 0=z:=by rw[List.getD_eq_getElem?_getD,hz];rfl
   obtain⟨vb,vo,rfl,aQ⟩:=V3.o ac;obtain⟨ub,uo,rfl,aR⟩:=U3.o ac;have hku:k<u.length:=br;have D0:=Aa (aQ k y hy);have D1:=Aa (aR k z hz);have aE:=Aa (fun (t:Int) (ht:t=RF p m ml v a u k)=>(aA.o.set k (.int .i64 t)));have i1:(0:Int)<=(k:Int):=ac;have i2:(k:Int)<(v.length:Int):=ac;have i3:(k:Int)<(u.length:Int):=ac;have c1:=(E0.o.trans hx.o).cell D0.o;have c2:=aA.o.cell hlt;have c3:=aA.o.frz k;have aC:=Aa (aA.o.set k (.int .i64 y));have aI:=Aa (aA.o.exSet (a:=wA) (by have:=aT.o;omega) hx.o k (.int .i64 y));have c4:=(E0.o.trans aI.o).cell D1.o;have aB:=Aa (show RF p m ml v a u k=if z=0 then y else((AI p m (Au (p^m) y) (Au (p^m) ((Ai p m (lw ml) (Au (p^m) a) (Au (p^m) z):Nat):Int)):Nat):Int) from by unfold RF;rw[aP,aO]);clear aA hx aQ aR hy hz aP aO aE;by_cases hz0:z=0
   .have hb:(z !=0)=false:=by simp[hz0]
    rw[if_pos hz0]at aB;clear hz0;go_wp2_with fail
    go_roundw
    case rel=>exact⟨k+1,ac,by go_num,Aa (aC.o.congr fun j hj=>by
     by_cases e:j=k
     .exact zaC
     .rw[Ae _ _ e];show Value.int .i64 (if j<k then RF p m ml v a u j else 0)=Value.int .i64 (if j<k+1 then RF p m ml v a u j else 0)
      by_cases h:j<k
      .exact za2
      .rw[if_neg h,if_neg ac]),aI⟩
    case measure=>simp[intOf];omega
   .have hb:(z !=0)=true:=by simpa using hz0
    rw[if_neg hz0]at aB;clear hz0;go_wp2_with fail
    generalize wr.setCell ⟨xb+1,k,none⟩ (.int .i64 y)=W at *;obtain⟨K1,aM⟩:∃K,Ai p m (lw ml) (Au (p^m) a) (Au (p^m) z)=K:=⟨_,rfl⟩;have aF:Hia (∀w',Ex wA w'->Calls Tryz.prog 114 #[.agg #[.int .i64 p,.int .i64 m,mv],.int .i64 a,.int .i64 z] w' fun r w''=>r= .returned (.int .i64 (K1:Nat))/\Ex w' w''):=by
     rw[<-aM];exact Aa (fun w' h0=>Kd w' HF.o (aU.o.ex (E0.o.trans h0)) a z)
    rw[aM]at aB;obtain⟨K2,aL⟩:∃K,AI p m (Au (p^m) y) (Au (p^m) (K1:Nat))=K:=⟨_,rfl⟩;have aG:Hia (∀w',Ex wA w'->Calls Tryz.prog 266 #[.agg #[.int .i64 p,.int .i64 m,mv],.int .i64 y,.int .i64 (K1:Nat)] w' fun r w''=>r= .returned (.int .i64 (K2:Nat))/\Ex w' w''):=by
     rw[<-aL];exact Aa (fun w' h0=>Vg w' HF.o (aU.o.ex (E0.o.trans h0)) y (K1:Nat))
    rw[aL]at aB;clear aM aL;have cX:=aC.o.cell hlt;have fX:=aC.o.frz k;have D2:=Aa (E0.o.cell D0.o);have D3:=Aa (E0.o.cell D1.o);have X0:Ex W W.drew:=(Ex.refl W).drew;have G0:Ex wA W.drew:=aI.o.trans X0;clear c1 c2 c3 c4;rw[Ab]at cX;have HLEN:=Aa hl
    go_region_held3 (fun w'=>w'.cell? ⟨xb,0,none⟩=some (.int .i64 p)/\w'.cell? ⟨xb,1,none⟩=some (.int .i64 m)/\w'.cell? ⟨xb,2,none⟩=some mv/\w'.cell? ⟨vb,vo+k,none⟩=some (.int .i64 y)/\w'.cell? ⟨ub,uo+k,none⟩=some (.int .i64 z))
     (first|with_reducible exact⟨G0.cell F0.o,G0.cell F1.o,G0.cell F2.o,G0.cell D2.o,G0.cell D3.o⟩|with_reducible exact⟨G1.cell F0.o,G1.cell F1.o,G1.cell F2.o,G1.cell D2.o,G1.cell D3.o⟩|with_reducible exact⟨G2.cell F0.o,G2.cell F1.o,G2.cell F2.o,G2.cell D2.o,G2.cell D3.o⟩|with_reducible exact⟨ES.cell F0.o,ES.cell F1.o,ES.cell F2.o,ES.cell D2.o,ES.cell D3.o⟩)
     ((first
            | (go_at_call 114;(with_reducible refine(aF.o _ G0).mono ?_);rintro e wx1⟨rfl,aK⟩;have X1:=X0.trans aK;have G1:=G0.trans aK)
            | (go_at_call 266;(with_reducible refine(aG.o _ G1).mono ?_);rintro e wx2⟨rfl,aJ⟩;have X2:=X1.trans aJ;have G2:=G1.trans aJ;have aW:=X2.cell cX;have aV:=X2.frz cX fX;have ES:=(aC.o.ex X2).exSet (by have:=aT.o;omega) G2 k (.int .i64 (K2:Nat)))))
    have aN:=Aa ((aC.o.ex X2).set k (.int .i64 (K2:Nat)));have aX:=Aa ES;clear cX fX aW aV ES G0 G1 G2 X0 X1 X2 aK aJ aF aG aC aI;go_wp2_with fail
    go_roundw
    case rel=>exact⟨k+1,ac,by go_num,Aa (aN.o.congr fun j hj=>by
     by_cases e:j=k
     .exact zaC
     .rw[Ae _ _ e,Ae _ _ e];show Value.int .i64 (if j<k then RF p m ml v a u j else 0)=Value.int .i64 (if j<k+1 then RF p m ml v a u j else 0)
      by_cases h:j<k
      .exact za2
      .rw[if_neg h,if_neg ac]),aX⟩
    case measure=>simp[intOf];omega
  .obtain rfl:k=v.length:=by omega
   have aN:=Aa (aA.o.icongr (h:=RF p m ml v a u) fun j hj=>by rw[if_pos hj]);clear aA;go_wp2_with fail
   go_ret;exact⟨_,rfl,aN.o.mono ac,E0.o.trans hx.o⟩
theorem dp{P:Prop}(h:P:=by rw[List.getD_eq_getElem?_getD,AH hj];rfl):P:=h
theorem WJ{p m:Nat}(hp:1<=p){ml:List Int}{N:Nat}{f g:Nat->Int}{a:Int}{j:Nat}(hj:j<N):RF p m ml (il N f) a (il N g) j=BT p m ml f (Au (p^m) a) g j:=by
 unfold RF BT;have e1:(il N f).getD j 0=f j:=dp;have e2:(il N g).getD j 0=g j:=dp;rw[e1,e2];split
 .rfl
 .rw[Ax (AR hp _ _)]
theorem TL(w:World)(rows:List (List Int))(v:Value)(hv:BO w v rows)(hR:rows.length<=1000)(hN:∀r∈rows,r.length<=1000):
  Calls Tryz.prog 242 #[v] w fun r w'=>∃cv vals,r= .returned cv/\Bv w' w.heap.size cv rows vals/\Ex w w':=by
 obtain⟨va,vc,rfl,v1,v2,v3⟩:=hv.open;unfold maxLen at v2;have V3:=Aa v3;have HN:=Aa hN;clear hv v3 hN;go_enter Tryz.func242,Tryz.ntmps242
 go_wp2_with fail
 go_loopw [3,4] (fun cv i' wr=>∃(i:Nat) (M:List (List Int)) (vals:List Value),i<=rows.length/\i'= .int .i64 i/\Hia (M=rows.take i)/\Hia (Bv wr w.heap.size cv M vals)/\Hia (Ex w wr)) (fun _ i' _=>rows.length-(intOf i').toNat)
 case atStart=>exact⟨0, [], [],ac,rfl,Aa rfl,Aa (Bv.nil _ _),Aa (Ex.refl _)⟩
 case round=>
  obtain⟨i,M,vals,hi,rfl,hM,hm,hx⟩:=hrel;obtain⟨ca,cc,aN⟩:=Ad hm.o.cvo;subst aN;have aL:=Aa (show M.length=i from by rw[hM.o];simp;omega);by_cases hlt:i<rows.length
  .obtain⟨zb,zo,rfl,aF⟩:=V3.o ac;obtain⟨uv,aG,aD⟩:=aF i _ (List.getElem?_eq_getElem hlt);have cu:=hx.o.cell aG;have hru:=HN.o _ (List.getElem_mem hlt);have aK:=Aa (show M ++ [rows[i]]=rows.take (i+1) from by rw[hM.o,List.take_add_one,List.getElem?_eq_getElem hlt];rfl);have i1:(0:Int)<=(i:Int):=by omega
   have i2:(i:Int)<(rows.length:Int):=ac;generalize rows[i]=r at *;have aQ:=Aa (aD.ex hx.o);obtain⟨ua,uc,rfl,-,u2,-⟩:=aD.open;unfold maxLen at u2;have HM:=Aa hm.o;have HX:=Aa hx.o;have aR:=Aa hx.o.size;have aP:=fun o=>((Ex.refl wr).alloc o).cell cu;have aS:=Aa (show ∀u∈Ao r,u.oneCell'=true from fun u hu=>by
    unfold Ao at hu;obtain⟨x,_,rfl⟩:=List.mem_map.1 hu;simp[Value.oneCell'])
   clear aF aG aD hm hx;go_wp2_with (first
        | (at_builtin;refine Be _ rfl _ _ 22 rfl wr.heap.size 3 (.int .i64 0) 1 8 Tryz.underlying22 AA rfl ae _ 0 [] rfl (Bp wr 3) (.slice ua r.length uc) r.length (Ao r) rfl (aQ.o.ex ((Ex.refl wr).alloc _)) aS.o ai ac ag ?_
           intro v2 w5 aA aH aO;rw[Nat.zero_add,List.nil_append]at aA;have aJ:=Aa (show Ex wr w5 from Ex.grown ((Ex.refl wr).alloc _) (Bp wr 3) (Nat.le_refl _) aH);have aE:=Aa (HM.o.ex aJ.o);have aI:=Aa (HX.o.trans aJ.o);have HL:=Aa (show w5.ownsRow w.heap.size 3 1 v2 r.length (Ao r) from by
             exact A5 aA aR.o)
           have aM:=Aa (show AQ v2 (.slice ca M.length cc) from by
             cases e:v2.ownBlock with
             | none=>exact .inl e
             | some B=>
               right;rw[e];intro e2;have h1:=(HM.o.cvo.lt B e2.symm).2;have h2:=(aA.lt B e).1;omega)
           obtain⟨xa,xc,aC⟩:=Ad aA;subst aC;clear HM aA aH aO cu aP)
        | (at_builtin;refine Al _ rfl _ _ 37 rfl w.heap.size 22 (.slice none 0 0) 1 24 Tryz.underlying37 BH rfl ae _ M.length _ rfl aE.o.cvo [.slice xa r.length xc] 22 _ rfl ag rfl aj (by have:=aL.o;unfold maxLen;omega) (by have:=aL.o;omega) aI.o.size ?_))
   intro v2 w6 aB;have HO:=Aa (aE.o.app HL.o aM.o aB);have HE:=Aa (aB.ex aI.o (Nat.le_refl _));obtain⟨va2,vc2,aC⟩:=Ad aB.own;subst aC;clear aB HL aM aE;go_wp2_with fail
   go_roundw
   case rel=>first|exact⟨i+1,_,_,ac,by go_num,aK,HO,HE⟩|((repeat apply Exists.intro);exact⟨⟨i+1,_,_,ac,by go_num,aK,HO,HE⟩,rfl⟩)
   case measure=>simp[intOf];omega
  .obtain rfl:i=rows.length:=by omega
   have HM:=Aa (show Bv wr w.heap.size (.slice ca M.length cc) rows vals from by have h:=hM.o;rw[List.take_length]at h;have:=hm.o;rw[h]at this ⊢;exact this);have HX:=Aa hx.o;clear hm hx;go_wp2_with fail
   go_ret;exact⟨_,_,rfl,HM.o,HX.o⟩
theorem Vb(w:World)(p m:Nat)(ml:List Int)(mv:Value)(hf:GD p m ml)(aJ:Am w mv ml)(c:Int)(N:Nat)(hN:N<=1000)(f:Nat->Int)(vv:Value)(hv:Am w vv (il N f)):
  Calls Tryz.prog 243 #[.agg #[.int .i64 p,.int .i64 m,mv],.int .i64 c,vv] w fun r w'=>∃g,r= .returned (.slice (some ⟨g,0,none⟩) N N)/\AG w' w.heap.size 3 g N (iv (BR p m ml (Au (p^m) c) f))/\Ex w w':=by
 obtain⟨a0,a1,a2,ea,aF⟩:=AC w p m mv;obtain⟨va,vc,aL,v1,v2,v3⟩:=hv.open;rw[AF]at aL v1 v3;subst aL;unfold maxLen at v2;have V3:=Aa v3;have aT:=Aa (fun (w':World) (h:Ex w w') (y:Int)=>Kd w' hf (aJ.ex h) c y);have aI:=Aa ea;obtain⟨ma,mc,rfl,-,-,-⟩:=aJ.open;clear hf aJ hv v3 ea;go_enter Tryz.func243,Tryz.ntmps243
 go_wp2_with (at_make;refine Aq _ rfl _ _ 22 rfl 3 (.int .i64 0) 8 Tryz.underlying22 AA rfl _ N rfl rfl rfl ac ai ?_)
 obtain⟨B,hB⟩:=nA w.heap.size;rw[hB]at a0 a1 a2 aF
 try simp only[hB]
 have aV:=Aa hB;clear hB;generalize w.alloc (.cells #[.int .i64 p,.int .i64 m,.slice ma ml.length mc] 24)=w1 at *;intro w3 aA hx3
 try simp only[aF]at aA ⊢
 obtain⟨g,aD⟩:=nA (B+1);have aO:=Aa (show AG w3 g 3 g N (iv fun j=>if j<0 then BR p m ml (Au (p^m) c) f j else 0) from by rw[<-aD];exact aA.icongr (fun j _=>ag))
 try simp only[aD]
 obtain⟨aS,aQ,A0,A1,A2⟩:=Of hx3 (show w1.heap.size=g from by rw[<-aD,<-aF]) a0 a1 a2;clear aA hx3 a0 a1 a2 aD aF;go_wp2_with fail
 go_loopw [8] (fun i' wr=>∃(i:Nat),i<=N/\i'= .int .i64 i/\Hia (AG wr g 3 g N (iv fun j=>if j<i then BR p m ml (Au (p^m) c) f j else 0))/\Hia (Ex w1 wr)) (fun i' _=>N-(intOf i').toNat)
 case atStart=>exact⟨0,ac,rfl,aO,aS⟩
 case round=>
  clear aO;obtain⟨i,hi,rfl,aA,aE⟩:=hrel;by_cases hin:i<N
  .obtain⟨vb,vo,rfl,aM⟩:=V3.o ac;have aR:=Aa (aI.o.trans aE.o);have CV:=Aa (aM i _ (AH hin f));obtain⟨z,hz⟩:=nA (f i);rw[hz]at CV;have i1:(0:Int)<=(i:Int):=by omega
   have i2:(i:Int)<(N:Int):=ac;have aP:=Aa (fun (w5:World) (h5:Ex wr w5)=>aT.o w5 (aR.o.trans h5) z);obtain⟨u,hu⟩:=nA (Ai p m (lw ml) (Au (p^m) c) (Au (p^m) z));rw[hu]at aP;have aG:=Aa aA.o;have aH:=Aa aE.o;have aU:=Aa hin;have aN:=Aa (fun (w5:World) (h5:Ex wr w5)=>show AG (w5.setCell ⟨g,i,none⟩ (.int .i64 (u:Int))) g 3 g N (iv fun j=>if j<i+1 then BR p m ml (Au (p^m) c) f j else 0) from by
    refine((aG.o.ex h5).set i (.int .i64 (u:Int))).congr fun j hj=>?_;by_cases e:j=i
    .subst e;rw[Ab];show Value.int .i64 (u:Int)= .int .i64 (if j<j+1 then BR p m ml (Au (p^m) c) f j else 0)
     rw[if_pos ac];unfold BR;rw[hz,hu]
    .rw[Ae _ _ e];show Value.int .i64 (if j<i then BR p m ml (Au (p^m) c) f j else 0)= .int .i64 (if j<i+1 then BR p m ml (Au (p^m) c) f j else 0)
     by_cases h:j<i
     .exact za2
     .rw[if_neg h,if_neg ac])
   have aB:=Aa (fun (w5:World) (h5:Ex wr w5)=>(aG.o.ex h5).exSet (a:=w1) (Nat.le_of_eq aQ.o) (aH.o.trans h5) i (.int .i64 (u:Int)));have aC:=Aa (fun (w5:World) (h5:Ex wr w5)=>(⟨(aH.o.trans h5).cell A0.o,(aH.o.trans h5).cell A1.o,(aH.o.trans h5).cell A2.o,(aR.o.trans h5).cell CV.o⟩:w5.cell? ⟨B,0,none⟩=some (.int .i64 (p:Int))/\w5.cell? ⟨B,1,none⟩=some (.int .i64 (m:Int))/\w5.cell? ⟨B,2,none⟩=some (.slice ma ml.length mc)/\w5.cell? ⟨vb,vo+i,none⟩=some (.int .i64 z)));have aK:=Aa (fun (w5:World) (h5:Ex wr w5)=>(⟨(aB.o w5 h5).cell A0.o,(aB.o w5 h5).cell A1.o,(aB.o w5 h5).cell A2.o,(aI.o.trans (aB.o w5 h5)).cell CV.o⟩:(w5.setCell ⟨g,i,none⟩ (.int .i64 (u:Int))).cell? ⟨B,0,none⟩=some (.int .i64 (p:Int))/\(w5.setCell ⟨g,i,none⟩ (.int .i64 (u:Int))).cell? ⟨B,1,none⟩=some (.int .i64 (m:Int))/\(w5.setCell ⟨g,i,none⟩ (.int .i64 (u:Int))).cell? ⟨B,2,none⟩=some (.slice ma ml.length mc)/\(w5.setCell ⟨g,i,none⟩ (.int .i64 (u:Int))).cell? ⟨vb,vo+i,none⟩=some (.int .i64 z)));clear aM hz hu aA aE;go_wp2_with fail
   have G0:Ex wr wr.drew:=(Ex.refl wr).drew
   go_region_held3 (fun w'=>w'.cell? ⟨B,0,none⟩=some (.int .i64 (p:Int))/\w'.cell? ⟨B,1,none⟩=some (.int .i64 (m:Int))/\w'.cell? ⟨B,2,none⟩=some (.slice ma ml.length mc)/\w'.cell? ⟨vb,vo+i,none⟩=some (.int .i64 z))
    (first|with_reducible exact aC.o _ G0|with_reducible exact aC.o _ X6|with_reducible exact aK.o _ X6)
    ((go_at_call 114;(with_reducible refine(aP.o _ G0).mono ?_);rintro e w6⟨rfl,h6⟩;have X6:=G0.trans h6;clear h6;have co6:=(aG.o.ex X6).cell aU.o;have cf6:=(aG.o.ex X6).frz i))
   go_wp2_with fail
   go_roundw
   case rel=>first|exact⟨i+1,ac,by go_num,Aa (aN.o _ X6),Aa (aB.o _ X6)⟩|((repeat apply Exists.intro);exact⟨⟨i+1,ac,by go_num,Aa (aN.o _ X6),Aa (aB.o _ X6)⟩,rfl⟩)
   case measure=>simp[intOf];omega
  .obtain rfl:i=N:=by omega
   have HO:=Aa (show AG wr g 3 g i (iv (BR p m ml (Au (p^m) c) f)) from aA.o.icongr fun j hj=>by rw[if_pos hj]);go_wp2_with fail
   go_ret;exact⟨g,rfl,HO.o.mono (by have:=aQ.o;have:=aV.o;have:=aI.o.size;omega),aI.o.trans aE.o⟩
end Go.Proofs.YtehieobniamagaaGreat
