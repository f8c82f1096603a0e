/- Walk of equivalence.Find. -/
import Derived.Test.YtehieobniamagaaGreatZi19
namespace Go.Proofs.YtehieobniamagaaGreat
open Go.World renaming cell?_setCell_same→φ,block_lt_of_cell?→η,cell?→ζc
open List renaming length_append→ν,length_pos_iff→γy,exists_cons_of_ne_nil→ηv,getElem?_append_left→ο,getElem?_append_right→τ
open Go.RowKit
set_option linter.all false
set_option maxRecDepth 100000
set_option maxHeartbeats 8000000
structure SH(w2:World)(A b n:Nat)(v1 v2:Value)(s:Nat × List Nd)(w:World):Prop where
 ex:Ex w2 w
 pr:Mw w A b n v1 v2
 c11:w.cell? (A,11)=some (.int .i64 s.1)
 f11:w.frozen? (A,11)=false
 l1:s.2.length<=s.1
 l2:s.1<=65536
 lb:w2.heap.size<=A
section
variable {w2 w w':World} {A b n:Nat} {v1 v2:Value} {s:Nat × List Nd}
theorem SH.later(h:SH w2 A b n v1 v2 s w)(hx:Ex w w'):SH w2 A b n v1 v2 s w':=
 ⟨h.ex.trans hx,h.pr.ex hx,hx.cell h.c11,hx.frz h.c11 h.f11,h.l1,h.l2,h.lb⟩
theorem SH.seen(h:SH w2 A b n v1 v2 s w)(hs:s.1<65536):SH w2 A b n v1 v2 (s.1+1,s.2) (w.setCell (A,11) (.int .i64 ((s.1:Int)+1))):=
 ⟨h.ex.setCell (p:=⟨A,11,none⟩) h.lb _,⟨by rw[Af ae];exact h.pr.c0,by rw[Af ae];exact h.pr.c4,by rw[Af ae];exact h.pr.c5,by rw[Af ae];exact h.pr.c10⟩,by
  rw[φ _ _ _ h.c11];simp,by rw[AC];exact h.f11,by have:=h.l1;show s.2.length<=s.1+1;omega,by show s.1+1<=65536;omega,h.lb⟩
theorem SH.other(h:SH w2 A b n v1 v2 s w){B j:Nat}(hB:B≠A)(hb:w2.heap.size<=B)(u:Value):SH w2 A b n v1 v2 s (w.setCell (B,j) u):=
 ⟨h.ex.setCell (p:=⟨B,j,none⟩) hb _,⟨by rw[Ah hB];exact h.pr.c0,by rw[Ah hB];exact h.pr.c4,by rw[Ah hB];exact h.pr.c5,by rw[Ah hB];exact h.pr.c10⟩,by rw[Ah hB];exact h.c11,by rw[AC];exact h.f11,h.l1,h.l2,h.lb⟩
theorem SH.note(h:SH w2 A b n v1 v2 s w)(hl:s.2.length<s.1)(x:Nd):SH w2 A b n v1 v2 (s.1,s.2 ++ [x]) w:=
 ⟨h.ex,h.pr,h.c11,h.f11,by rw[ν];show s.2.length+1<=s.1;omega,h.l2,h.lb⟩
end
theorem Fs{DM:World->Nat->Prop}{w:World}{B j:Nat}{u:Value}(h:DM w B)(hi:∀X,DM (w.setCell (B,j) u) X->DM w X):AR DM w (w.setCell (B,j) u):=
 ⟨ag,fun X hX hn=>⟨Below.heap_setCell w ⟨B,j,none⟩ u X (fun e=>hn (by rw[e];exact h)),fun hd=>hn (hi X hd)⟩⟩
def SX(A NB:Nat):World->Nat->Prop:=fun _ X=>X=A∨X=NB
def Cs(L:List Nd):Nd:=L.getLast?.getD ⟨[], [],0, []⟩
theorem Fr(L:List Nd)(x:Nd):Cs (L ++ [x])=x:=by unfold Cs;simp
structure SV(w2:World)(A NB b n:Nat)(v1 v2:Value)(s:Nat × List Nd)(w:World):Prop where
 sw:SH w2 A b n v1 v2 s w
 ne:NB≠A
 lb:w2.heap.size<=NB
 nb:∃tv sv,w.cell? (NB,0)=some tv/\w.cell? (NB,1)=some sv/\Da (SX A NB) w tv (Cs s.2).tl/\Da (SX A NB) w sv (Cs s.2).sc
 f0:w.frozen? (NB,0)=false
 f1:w.frozen? (NB,1)=false
 ll:(Cs s.2).tl.length<=64/\(Cs s.2).sc.length<=64
section
variable {w2 w w':World} {A NB b n:Nat} {v1 v2:Value} {s:Nat × List Nd}
theorem SV.stt:VO (SV w2 A NB b n v1 v2) (SX A NB) where
 ex:=fun s w w' h hx=>by
  obtain⟨tv,sv,h1,h2,h3,h4⟩:=h.nb;have hk:AR (SX A NB) w w':=⟨hx.size,fun B hB hn=>⟨hx.block B hB,hn⟩⟩;exact⟨h.sw.later hx,h.ne,h.lb,⟨tv,sv,hx.cell h1,hx.cell h2,h3.keep hk,h4.keep hk⟩,hx.frz h1 h.f0,hx.frz h2 h.f1,h.ll⟩
 lt:=fun s w B h hd=>by
  rcases hd with rfl|rfl
  .exact η _ _ h.sw.c11
  .obtain⟨tv,sv,h1,-⟩:=h.nb;exact η _ _ h1
 dx:=fun s w w' B h hx hd=>hd
theorem SV.seen(h:SV w2 A NB b n v1 v2 s w)(hs:s.1<65536):SV w2 A NB b n v1 v2 (s.1+1,s.2) (w.setCell (A,11) (.int .i64 ((s.1:Int)+1)))/\AR (SX A NB) w (w.setCell (A,11) (.int .i64 ((s.1:Int)+1))):=by
 have hk:AR (SX A NB) w (w.setCell (A,11) (.int .i64 ((s.1:Int)+1))):=Fs (.inl rfl) fun X h=>h;obtain⟨tv,sv,h1,h2,h3,h4⟩:=h.nb;exact⟨⟨h.sw.seen hs,h.ne,h.lb,⟨tv,sv,by rw[Ah (fun e=>h.ne e.symm)];exact h1,by rw[Ah (fun e=>h.ne e.symm)];exact h2,h3.keep hk,h4.keep hk⟩,by rw[AC];exact h.f0,by rw[AC];exact h.f1,h.ll⟩,hk⟩
theorem SV.set(h:SV w2 A NB b n v1 v2 s w)(hl:s.2.length<s.1){tl sl msg:List Int}{side:Int}{tv sv:Value}(ht:Da (SX A NB) w tv tl)(hs:Da (SX A NB) w sv sl)(aA:tl.length<=64)(aB:sl.length=tl.length):
  SV w2 A NB b n v1 v2 (s.1,s.2 ++ [⟨tl,sl,side,msg⟩]) ((w.setCell (NB,0) tv).setCell (NB,1) sv)/\AR (SX A NB) w ((w.setCell (NB,0) tv).setCell (NB,1) sv):=by
 have hk:AR (SX A NB) w ((w.setCell (NB,0) tv).setCell (NB,1) sv):=(Fs (.inr rfl) fun X h=>h).trans (Fs (.inr rfl) fun X h=>h);obtain⟨tv',sv',h1,h2,h3,h4⟩:=h.nb;refine⟨⟨((h.sw.other h.ne h.lb tv).other h.ne h.lb sv).note hl _,h.ne,h.lb,⟨tv,sv,?_,?_,?_,?_⟩,by rw[AC,AC];exact h.f0,by rw[AC,AC];exact h.f1,by show(Cs (s.2 ++ [_])).tl.length<=64/\_;rw[Fr];exact⟨aA,by rw[aB];exact aA⟩⟩,hk⟩
 .rw[Af ae];exact φ _ _ _ h1
 .exact φ _ _ _ (by rw[Af ae];exact h2)
 .show Da _ _ tv (Cs (s.2 ++ [_])).tl
  rw[Fr];exact ht.keep hk
 .show Da _ _ sv (Cs (s.2 ++ [_])).sc
  rw[Fr];exact hs.keep hk
theorem XG(h:SV w2 A NB b n v1 v2 s w)(hl:s.2.length<s.1){tl sl msg:List Int}{side:Int}{tv sv mv:Value}(ht:Da (SX A NB) w tv tl)(hs:Da (SX A NB) w sv sl)(aD:tl.length<=64)(aB:sl.length=tl.length):
  Calls Tryz.prog 172 #[.agg #[tv,sv],side,mv,(NB,0)] w fun r w'=>(∃t,r= .returned t)/\SV w2 A NB b n v1 v2 (s.1,s.2 ++ [⟨tl,sl,side,msg⟩]) w'/\AR (SX A NB) w w':=by
 obtain⟨b0,b1,e1,-⟩:=AQ w tv sv;have h1:=SV.stt.ex _ _ _ h e1;have aA:=SV.stt.keeps h e1;obtain⟨h2,aC⟩:=h1.set hl (side:=side) (msg:=msg) (ht.keep aA) (hs.keep aA) aD aB;obtain⟨tv',sv',c0,c1,-,-⟩:=h1.nb;have f0:=h1.f0;have f1:=h1.f1;obtain⟨ta,tc,rfl,-,-,-⟩:=ht.1.open;obtain⟨sa,sc,rfl,-,-,-⟩:=hs.1.open;have H2:=Aa h2;have HK:=Aa (aA.trans aC);clear h ht hs h1 aA h2 aC e1 aB;go_enter Tryz.func172,Tryz.ntmps172
 go_wp2_with fail
 go_end0
 exact⟨⟨_,rfl⟩,H2.o,HK.o⟩
end
theorem fnd_env{w2:World}{p m n A NB b x0:Nat}{ml:List Int}{l1 l2:List (List Int)}{v1 v2:Value}(hg:Bh w2 b p m ml x0)(x1:1<=x0)(x2:x0<p^m)(h1:B6 w2 v1 l1)(h2:B6 w2 v2 l2)(hn:n<=64)(r1:∀r∈l1,r.length=n)(r2:∀r∈l2,r.length=n)(k1:l1.length<=256)(k2:l2.length<=256):
  SrE p m ml l1 l2 n A b x0 v1 v2 (SV w2 A NB b n v1 v2) (SX A NB) where
 stt:=SV.stt
 pr:=fun s w h=>h.sw.pr
 gf:=fun s w h=>hg.ex h.sw.ex
 m1:=fun s w h=>h1.ex h.sw.ex
 m2:=fun s w h=>h2.ex h.sw.ex
 c11:=fun s w h=>⟨h.sw.c11,h.sw.f11⟩
 le:=fun s w h=>⟨h.sw.l1,h.sw.l2⟩
 seen:=fun s w h hs=>h.seen hs
 x1:=x1
 x2:=x2
 n64:=hn
 r1:=r1
 r2:=r2
 k1:=k1
 k2:=k2
theorem C6{p m:Int}{ml:List Int}{n:Int}{rows:List (List Int)}(h:Bw p m ml n rows 0):rows.length<=256/\∀r∈rows,(r.length:Int)=n:=by
 rcases h with⟨_,h⟩|⟨_,h1,h2⟩|⟨h1,h2,h3⟩
 .cases h
 .exact absurd h2.symm h1
 .rcases h3 with⟨h3,h4⟩|⟨_,pn,mn,N,piv,a',_,_,e,_,hm,_⟩
  .exact absurd h4.symm h3
  .obtain⟨_,_,s3,s4⟩:=ED hm;exact⟨s3,fun r hr=>by rw[e];exact(s4 r hr).1⟩
theorem Rn{e1 e2:Int}{aA:Bool}{n n':Int}{tl sl:List Int}{q:Nat}(h:F5 e1 e2 aA n n' tl sl q=0):e1=0/\e2=0/\aA=true/\n=n'/\tl.length=sl.length/\(tl.length:Int)<=n/\BW tl n=true/\G8 tl=false/\Iz q sl=0:=by
 unfold F5 at h;split at h
 .rename_i h1;exact absurd h h1
 rename_i h1;split at h
 .rename_i h2;exact absurd h h2
 rename_i h2;split at h
 .cases h
 rename_i h3;split at h
 .cases h
 rename_i h4;split at h
 .rename_i h5;exact absurd h h5
 rename_i h5;have hi:FP tl n=0:=ac;unfold FP at hi;split at hi
 .cases hi
 rename_i h6;split at hi
 .cases hi
 rename_i h7;refine⟨ac,ac,?_,?_,ac,ac,by cases hr:BW tl n <;> simp_all,by cases hr:G8 tl <;> simp_all,h⟩
 .cases hs:aA with
  | true=>rfl
  | false=>exact absurd (.inl hs) h3
 .by_cases e:n=n'
  .exact e
  .exact absurd (.inr e) h3
def Gw(c d:AX)(tl sl:List Int):(Nat × List Nd) × Int:=Mj c.p.toNat c.m.toNat c.ml c.rows d.rows c.n.toNat (c.n.toNat-tl.length) (0, []) tl sl
def JW(E:Int)(R:(Nat × List Nd) × Int):Int:=if E≠0 then E else if R.2=18 then 0 else if R.2=0 then 11 else R.2
def Jk(E:Int)(R:(Nat × List Nd) × Int):C7:=if E≠0 then⟨[], [],0⟩ else if R.2=18 then⟨(Cs R.1.2).tl,(Cs R.1.2).sc,0⟩ else⟨[], [],0⟩
def MoF(b:Nat)(M:C7)(e:Int)(r:Ending)(w':World):Prop:=∃u v,r= .returned (.tuple #[.agg #[u,v,M.frob],e])/\Ak w' u M.perm/\Ak w' v M.scale/\(∀X,u.ownBlock=some X->b<=X)/\∀X,v.ownBlock=some X->b<=X
theorem zcV{P:Prop}(h:P:=by
 exact⟨_,_,rfl,Bd _,Bd _,fun X h=>(by cases h),fun X h=>by cases h⟩):P:=h
theorem zcc{P:Prop}(h:P:=by
 rw[aB.o.1,aB.o.2];exact zcV):P:=h
theorem bm{P:Prop}(h:P:=by simp[results,Tryz.results122,go_sem,q0,q1,q2]):P:=h
theorem VH(w:World)(c d:AX)(m1 m2 v1 v2:Value)(hc:c.at w m1 v1)(hd:d.at w m2 v2)(tl sl:List Int)(tv sv:Value)(ht:Ak w tv tl)(hs:Ak w sv sl):
  Calls Tryz.prog 122 #[c.arg m1 v1,d.arg m2 v2,.agg #[tv,sv]] w fun r w'=>(∃e1 e2:Int,Bw c.p c.m c.ml c.n c.rows e1/\(e1=0->Bw d.p d.m d.ml d.n d.rows e2)/\MoF w.heap.size (Jk (F5 e1 e2 (CE c.p c.m c.ml d.p d.m d.ml) c.n d.n tl sl (c.p.toNat^c.m.toNat)) (Gw c d tl sl)) (JW (F5 e1 e2 (CE c.p c.m c.ml d.p d.m d.ml) c.n d.n tl sl (c.p.toNat^c.m.toNat)) (Gw c d tl sl)) r w')/\Ex w w':=by
 obtain⟨c0,c1,c2,c3,c4⟩:=C8 w c m1 v1;obtain⟨d0,d1,d2,d3,d4⟩:=C8 (w.alloc (c.obj m1 v1)) d m2 v2;obtain⟨b0,b1,e3,bT⟩:=AQ ((w.alloc (c.obj m1 v1)).alloc (d.obj m2 v2)) tv sv;have aQ:=BxM.new (((w.alloc (c.obj m1 v1)).alloc (d.obj m2 v2)).alloc (.cells #[tv,sv] 71));have bU:(w.alloc (c.obj m1 v1)).heap.size=w.heap.size+1:=ag;have bA:((w.alloc (c.obj m1 v1)).alloc (d.obj m2 v2)).heap.size=w.heap.size+1+1:=ag;have e1:=AF w (c.obj m1 v1);have e2:=AF (w.alloc (c.obj m1 v1)) (d.obj m2 v2);have e4:=AF (((w.alloc (c.obj m1 v1)).alloc (d.obj m2 v2)).alloc (.cells #[tv,sv] 71)) (.cells #[(),(),Ω] 26);rw[bT,bA]at aQ;rw[bU]at d0 d1 d2 d3 d4;rw[bA]at b0 b1;have aF:=e1.trans (e2.trans (e3.trans e4));replace c0:=(e2.trans (e3.trans e4)).cell c0;replace c1:=(e2.trans (e3.trans e4)).cell c1;replace c2:=(e2.trans (e3.trans e4)).cell c2;replace c3:=(e2.trans (e3.trans e4)).cell c3;replace c4:=(e2.trans (e3.trans e4)).cell c4;replace d0:=(e3.trans e4).cell d0;replace d1:=(e3.trans e4).cell d1;replace d2:=(e3.trans e4).cell d2;replace d3:=(e3.trans e4).cell d3;replace d4:=(e3.trans e4).cell d4;replace b0:=e4.cell b0;replace b1:=e4.cell b1;obtain⟨B,hB⟩:=nA w.heap.size;rw[hB]at c0 c1 c2 c3 c4 d0 d1 d2 d3 d4 b0 b1 aQ;have aS:=Aa (IU _ c d m1 m2 v1 v2 (hc.ex aF) (hd.ex aF) tl sl tv sv (ht.ex aF) (hs.ex aF));obtain⟨ta,tc,rfl,-,t2,-⟩:=ht.open;obtain⟨sa,sc,rfl,-,s2,-⟩:=hs.open;obtain⟨x1,y1,rfl,-,z1,-⟩:=hc.g.open;obtain⟨x2,y2,rfl,-,z2,-⟩:=hd.g.open;obtain⟨x3,y3,rfl,-,z3,-⟩:=hc.m.open;obtain⟨x4,y4,rfl,-,z4,-⟩:=hd.m.open;unfold maxLen at t2 s2 z1 z2 z3 z4;obtain⟨HX,HC,HD,HT,HS,aU,aR⟩:=To aF hc hd ht hs aQ hB;clear hc hd ht hs e1 e2 e3 e4 bU bA bT aF aQ;unfold AX.arg at aS ⊢;go_enter Tryz.func122,Tryz.ntmps122
 unfold AX.obj at c0 c1 c2 c3 c4 d0 d1 d2 d3 d4 b0 b1 HX aU aS;go_upto_region 1 with fail
 try simp only[hB]
 clear hB;generalize (((w.alloc (.cells #[c.p,c.m,(x3,c.ml.length,y3),c.n,(x1,c.rows.length,y1)] 39)).alloc (.cells #[d.p,d.m,(x4,d.ml.length,y4),d.n,(x2,d.rows.length,y2)] 39)).alloc (.cells #[(ta,tl.length,tc),(sa,sl.length,sc)] 71)).alloc (.cells #[(),(),Ω] 26)=w1 at *;have B0:=Aa b0;have B1:=Aa b1;go_wp2_with fail
 refine aS.o.mono ?_;rintro e w3⟨ho,bW⟩;have cE:=Aa bW;obtain⟨e1,e2,bZ,aK,ho⟩:=ho;have aI:=Aa bZ;have aN:=Aa aK;clear c0 c1 c2 c3 c4 d0 d1 d2 d3 d4 bW bZ aK aS b0 b1;obtain⟨E,hE⟩:=nA (F5 e1 e2 (CE c.p c.m c.ml d.p d.m d.ml) c.n d.n tl sl (c.p.toNat^c.m.toNat));rw[hE]at ho;have HE:=Aa hE;rcases ho with⟨h0,ptr,rfl⟩|⟨h0,w2,A,b,x0,pn,mn,nn,hp,hm,hnn,rfl,hx2,hg,hx01,hx02,hA,hx23,hpr,h11,hf11⟩
 .have hb0:(E !=0)=true:=by simpa using h0
  obtain⟨q0,q1,q2,aZ,aY,aX⟩:=aU.o.ex cE.o;have H0:=Aa h0;clear h0 hE;go_wp2_with fail
  refine bodyPost_ret (v:= .tuple #[.agg #[(),(),Ω],.int .i64 E]) bm rfl ⟨⟨e1,e2,aI.o,aN.o,?_⟩,Co (HX.o.trans cE.o) (by rw[aR.o];omega) _ _ _⟩;rw[HE.o];unfold Jk JW;rw[if_pos H0.o,if_pos H0.o];exact zcV
 .subst h0;obtain⟨k1,k2,k3,k4,k5,k6,k7,k8,k9⟩:=Rn hE;subst k1;have aK:=aN.o rfl;subst k2;obtain⟨bS,bQ⟩:=C6 aI.o;obtain⟨bR,bP⟩:=C6 aK;obtain⟨-,cQ,cP⟩:=DH aI.o;obtain⟨NB,aG⟩:∃B,w3.heap.size=B:=⟨_,rfl⟩;have bG:A<NB:=by rw[<-aG];exact η _ _ h11
  have aA:=HX.o.trans hx2;have e5:=AF w3 (.cells #[(),()] 71);obtain⟨n0,n1,-,-⟩:=AQ w3 (.slice none 0 0) (.slice none 0 0);have bO:(w3.alloc (.cells #[(),()] 71)).frozen? (NB,0)=false:=by rw[<-aG];simp
  have bN:(w3.alloc (.cells #[(),()] 71)).frozen? (NB,1)=false:=by rw[<-aG];simp
  rw[aG]at n0 n1;have aP:=Aa (fnd_env (p:=pn) (m:=mn) (n:=nn) (A:=A) (NB:=NB) hg hx01 hx02 (HC.o.g.ex aA) (HD.o.g.ex aA) ac (fun r hr=>by have:=bQ r hr;omega) (fun r hr=>by have:=bP r hr;omega) bS bR);have aC:SV w2 A NB b nn (.slice x1 c.rows.length y1) (.slice x2 d.rows.length y2) (0, []) (w3.alloc (.cells #[(),()] 71)):=
   ⟨⟨hx23.trans e5,hpr.ex e5,e5.cell h11,e5.frz h11 hf11,ag,ag,hA⟩,ac,ac,⟨_,_,n0,n1,⟨Bd _,fun h=>absurd rfl h⟩,⟨Bd _,fun h=>absurd rfl h⟩⟩,bO,bN,ae⟩
  have cZ:=Aa aC;have aJ:w1.heap.size<=w2.heap.size:=hx2.size;have bI:=Aa aJ;have aD:∀(v:Value) (l:List Int),Ak w v l->Da (SX A NB) (w3.alloc (.cells #[(),()] 71)) v l:=fun v l h=>by
   have h2:=h.ex aA;have hk:AR (fun _ X=>w2.heap.size<=X) w2 (w3.alloc (.cells #[(),()] 71)):=⟨(hx23.trans e5).size,fun X hX hn=>⟨(hx23.trans e5).block X hX,hn⟩⟩;refine⟨(h.ex aA).ex (hx23.trans e5),fun hl X hX hd=>?_⟩;obtain⟨a,cap,rfl,-,-,h5⟩:=h2.open;obtain⟨b',o,rfl,h6⟩:=h5 (γy.2 hl);injection hX with hX;have hX:b'=X:=hX;subst hX;obtain⟨x,l',rfl⟩:=ηv hl;have hlt:b'<w2.heap.size:=η _ _ (h6 0 x rfl);rcases hd with hd|hd <;> omega
  have aT:=Aa (Rs aP.o (.pointer (some ⟨NB,0,none⟩)) (fun s w' tl' sl' tv' sv' side msg mv h hl cR cS hm' bE cV hml hne=>XG h hl cR cS cV bE) (nn-tl.length) (0, []) _ tl sl _ _ ac ac (by rw[<-hnn];exact k7) (fun h=>absurd rfl h) aC (aD _ _ HT.o) (aD _ _ HS.o));have hR:Mj pn mn c.ml c.rows d.rows nn (nn-tl.length) (0, []) tl sl=Gw c d tl sl:=by
   unfold Gw;rw[hp,hm,hnn];rfl
  rw[hR]at aT;have q:=aU.o.ex (hx2.trans (hx23.trans e5));have bM:=Aa (aU.o.ex hx2);have b0:=(hx2.trans (hx23.trans e5)).cell B0.o;have b1:=(hx2.trans (hx23.trans e5)).cell B1.o;have bH:=Aa aA;have cG:Hia (B+1+1+1<w2.heap.size):=Aa (η _ _ bM.o.c0);clear hp hm hnn hx2 hg hx01 hx02 hA hx23 hpr h11 hf11 k3 k4 k5 k6 k7 k8 k9 aK bS bQ bR bP cQ cP bG aA e5 n0 n1 bO bN aC aJ aD hR aP q hE;obtain⟨R,hR⟩:=nA (Gw c d tl sl);rw[hR]at aT;have dA:=Aa hR;clear hR;go_wp2_with fail
  try simp only[aG]
  generalize w3.alloc (.cells #[(),()] 71)=w4 at *;clear aG;refine aT.o.mono ?_;rintro e w5⟨rfl,bF,cU⟩;have bJ:=Aa bF;have aE:=Aa bF.sw.ex;obtain⟨q0,q1,q2,aZ,aY,aX⟩:=bM.o.ex aE.o;have bK:Hia (∀r w',MoF w.heap.size (Jk 0 R) (JW 0 R) r w'->MoF w.heap.size (Jk (F5 0 0 (CE c.p c.m c.ml d.p d.m d.ml) c.n d.n tl sl (c.p.toNat^c.m.toNat)) (Gw c d tl sl)) (JW (F5 0 0 (CE c.p c.m c.ml d.p d.m d.ml) c.n d.n tl sl (c.p.toNat^c.m.toNat)) (Gw c d tl sl)) r w'):=Aa (fun r w' h=>by rw[HE.o,dA.o];exact h);clear bF cU b0 b1 aT cZ;obtain⟨E2,aL⟩:∃E,R.2=E:=⟨_,rfl⟩;have bL:=Aa aL;simp only[aL];by_cases h18:E2=18
  .subst h18;obtain⟨aV,aW,n0,n1,bY,bX⟩:=bJ.o.nb;have cT:=bJ.o.ll;obtain⟨cI,cH,aO,HQ⟩:=Of (fun (w':World) (h:Ex w5 w')=>FZ w' _ aV (bY.1.ex h) ac) (fun (w':World) (h:Ex w5 w')=>FZ w' _ aW (bX.1.ex h) ac) (show ∀w',Ex w5 w'->w'.cell? (NB,0)=some aV/\w'.cell? (NB,1)=some aW from fun w' h=>⟨h.cell n0,h.cell n1⟩) (show ∀w',Ex w5 w'->BxM w' (B+1+1+1) from fun w' h=>bM.o.ex (aE.o.trans h));have aB:Hia (Jk 0 R=⟨(Cs R.1.2).tl,(Cs R.1.2).sc,0⟩/\JW 0 R=0):=Aa (by
    unfold Jk JW;rw[bL.o];exact⟨rfl,rfl⟩)
   obtain⟨Lt,cC⟩:∃l,(Cs R.1.2).tl=l:=⟨_,rfl⟩;obtain⟨Ls,cD⟩:∃l,(Cs R.1.2).sc=l:=⟨_,rfl⟩;rw[cC]at cI aB;rw[cD]at cH aB;clear aL bY bX cT cC cD q0 q1 q2 aZ aY aX;go_wp2_with fail
   have G0:Ex w5 w5.drew:=(Ex.refl w5).drew;have aH:Hia (B+1+1+1≠NB):=Aa (by have:=bJ.o.lb;have:=cG.o;omega)
   go_region_held3 (fun w'=>w'.cell? (NB,0)=some aV/\w'.cell? (NB,1)=some aW)
    (first|with_reducible exact aO.o _ G0|with_reducible exact aO.o _ X6.o|with_reducible exact aO.o _ X7.o|exact⟨by rw[Ah aH.o,Ah aH.o,Ah aH.o];exact(aO.o _ X7.o).1,by rw[Ah aH.o,Ah aH.o,Ah aH.o];exact(aO.o _ X7.o).2⟩)
    (first|(go_at_call 154;(with_reducible refine(cI.o _ G0).mono ?_);rintro e w6⟨u6,rfl,bD,cB,bV⟩;have cY:=Aa bD;have cK:=Aa cB;obtain⟨cO,cM,rfl,-,-,-⟩:=bD.open;have X6:=Aa (G0.trans bV);clear bV bD cB)|(go_at_call 154;(with_reducible refine(cH.o _ X6.o).mono ?_);rintro e w7⟨u7,rfl,bC,cA,bB⟩;have cX:=Aa bC;have cJ:=Aa cA;obtain⟨cN,cL,rfl,-,-,-⟩:=bC.open;have cW:=Aa bB;have X7:=Aa (X6.o.trans bB);obtain⟨q0,q1,q2,aZ,aY,aX⟩:=HQ.o _ X7.o;clear bB bC cA))
   have cF:Hia (B+1+1+1<w5.heap.size):=Aa (by have:=aE.o.size;have:=cG.o;omega);have aM:=Aa X6.o.size;go_wp2_with fail
   refine bodyPost_ret (v:= .tuple #[.agg #[(cO,Lt.length,cM),(cN,Ls.length,cL),Ω],Ω]) bm rfl ⟨⟨0,0,aI.o,fun _=>aN.o trivial,bK.o _ _ ?_⟩,Co ((bH.o.trans aE.o).trans X7.o) (by rw[aR.o];omega) _ _ _⟩;rw[aB.o.1,aB.o.2];have hw5:w.heap.size<=w5.heap.size:=Nat.le_trans (HX.o.trans (Ex.refl _)).size (Nat.le_trans bI.o aE.o.size);refine⟨_,_,rfl,Fj (cY.o.ex cW.o) (fun X hX e=>?_) _ _ _,Fj cX.o (fun X hX e=>?_) _ _ _,fun X hX=>?_,fun X hX=>?_⟩
   .have:=cK.o X hX;have h1:w5.drew.heap.size=w5.heap.size:=rfl;have:=cF.o;omega
   .have:=cJ.o X hX;have:=cF.o;have:=aM.o;omega
   .have:=cK.o X hX;have h1:w5.drew.heap.size=w5.heap.size:=rfl;omega
   .have:=cJ.o X hX;have h1:w5.drew.heap.size=w5.heap.size:=rfl;have:=aM.o;omega
  .have k18:(E2==18)=false:=by simpa using h18
   by_cases h0:E2=0
   .subst h0;have aB:Hia (Jk 0 R=⟨[], [],0⟩/\JW 0 R=11):=Aa (by
     unfold Jk JW;rw[bL.o];exact⟨rfl,rfl⟩)
    clear aL h18;go_wp2_with fail
    refine bodyPost_ret (v:= .tuple #[.agg #[(),(),Ω],(11:Int)]) bm rfl ⟨⟨0,0,aI.o,fun _=>aN.o trivial,bK.o _ _ ?_⟩,Co (bH.o.trans aE.o) (by rw[aR.o];omega) _ _ _⟩;exact zcc
   .have k0:(E2==0)=false:=by simpa using h0
    have aB:Hia (Jk 0 R=⟨[], [],0⟩/\JW 0 R=E2):=Aa (by
     unfold Jk JW;rw[bL.o];simp[h18,h0])
    clear aL h18 h0;go_wp2_with fail
    refine bodyPost_ret (v:= .tuple #[.agg #[(),(),Ω],E2]) bm rfl ⟨⟨0,0,aI.o,fun _=>aN.o trivial,bK.o _ _ ?_⟩,Co (bH.o.trans aE.o) (by rw[aR.o];omega) _ _ _⟩;exact zcc
structure Rf where
 tp:Int
 sc:Int
 side:Int
 msg:List Int
def Rf.cells(e:Rf)(mv:Value):List Value:= [.int .i64 e.tp,.int .i64 e.sc,.int .i64 e.side,mv]
def PM:List Rf->List Value->List Value
 | e :: es,v :: vs=>e.cells v++PM es vs
 | _,_=> []
theorem Tg:∀(es:List Rf) (vs:List Value),vs.length=es.length->(PM es vs).length=es.length*4
 | [], [],_=>rfl
 | [],v :: vs,h=>by simp at h
 | e :: es, [],h=>by simp at h
 | e :: es,v :: vs,h=>by
  have:=Tg es vs ay;show(e.cells v++PM es vs).length=_
  rw[ν,this];simp[Rf.cells];omega
theorem PI:∀(es:List Rf) (vs:List Value) (e:Rf) (v:Value),vs.length=es.length->PM (es ++ [e]) (vs ++ [v])=PM es vs++e.cells v
 | [], [],e,v,_=>by simp[PM]
 | [],u :: vs,e,v,h=>by simp at h
 | x :: es, [],e,v,h=>by simp at h
 | x :: es,u :: vs,e,v,h=>by
  show x.cells u++PM (es ++ [e]) (vs ++ [v])=x.cells u++PM es vs++e.cells v
  rw[PI es vs e v (by simpa using h),List.append_assoc]
def ndR(x:Nd):Rf:=⟨x.tl.getD (x.tl.length-1) 0,x.sc.getD (x.sc.length-1) 0,x.side,x.msg⟩
def G5:List Nd->List Rf
 | []=> []
 | x :: t=>⟨0,0,x.side,x.msg⟩ :: t.map ndR
theorem Fk(L:List Nd):(G5 L).length=L.length:=by cases L <;> simp[G5]
theorem MZ(L:List Nd)(x:Nd):G5 (L ++ [x])=G5 L ++ [if L= [] then⟨0,0,x.side,x.msg⟩ else ndR x]:=by
 cases L with
 | nil=>simp[G5]
 | cons y t=>simp[G5]
def Yt(w:World)(v:Value)(es:List Rf):Prop:=∃mvs:List Value,mvs.length=es.length/\Sl w v es.length 4 (PM es mvs)/\∀(i:Nat) (e:Rf) (mv:Value),es[i]?=some e->mvs[i]?=some mv->Ak w mv e.msg
theorem Yt.ex{w w':World}{v:Value}{es:List Rf}(h:Yt w v es)(hx:Ex w w'):Yt w' v es:=by
 obtain⟨m,h1,h2,h3⟩:=h;exact⟨m,h1,h2.ex hx,fun i e mv a b=>(h3 i e mv a b).ex hx⟩
theorem R9:(Tryz.prog.info? 176).map (fun i=>(i.zero,i.size,i.bytes))=some (some (.agg #[Ω,Ω,Ω,()]),4,48):=ah
def Rg(A NB:Nat)(RB:Nat->Prop):World->Nat->Prop:=fun w X=>X=A∨X=NB∨RB X∨∃ev,w.cell? (NB,0)=some ev/\ev.ownBlock=some X
structure Kl(w2:World)(A NB:Nat)(RB:Nat->Prop)(b n:Nat)(v1 v2:Value)(s:Nat × List Nd)(w:World):Prop where
 sw:SH w2 A b n v1 v2 s w
 ne:A<NB
 rb:∀X,RB X->X<w2.heap.size
 en:∃ev mvs,w.cell? (NB,0)=some ev/\w.ownsRow (NB+1) 176 4 ev s.2.length (PM (G5 s.2) mvs)/\mvs.length=s.2.length/\∀(i:Nat) (e:Rf) (mv:Value),(G5 s.2)[i]?=some e->mvs[i]?=some mv->Da (Rg A NB RB) w mv e.msg
 f0:w.frozen? (NB,0)=false
section
variable {w2 w w':World} {A NB b n:Nat} {RB:Nat->Prop} {v1 v2:Value} {s:Nat × List Nd}
theorem Kl.dm(h:Kl w2 A NB RB b n v1 v2 s w)(hx:Ex w w'){X:Nat}(hd:Rg A NB RB w' X):Rg A NB RB w X:=by
 rcases hd with hd|hd|hd|⟨ev,h1,h2⟩
 .exact .inl hd
 .exact .inr (.inl hd)
 .exact .inr (.inr (.inl hd))
 .obtain⟨ev',m,h3,-⟩:=h.en;rw[hx.cell h3]at h1;injection h1 with h1;subst h1;exact .inr (.inr (.inr ⟨_,h3,h2⟩))
theorem Kl.keeps(h:Kl w2 A NB RB b n v1 v2 s w)(hx:Ex w w'):AR (Rg A NB RB) w w':=
 ⟨hx.size,fun B hB hn=>⟨hx.block B hB,fun hd=>hn (h.dm hx hd)⟩⟩
theorem Kl.stt:VO (Kl w2 A NB RB b n v1 v2) (Rg A NB RB) where
 ex:=fun s w w' h hx=>by
  obtain⟨ev,mvs,h1,h2,h3,h4⟩:=h.en;exact⟨h.sw.later hx,h.ne,h.rb,⟨ev,mvs,hx.cell h1,Ag h2 hx,h3,fun i e mv a b=>(h4 i e mv a b).keep (h.keeps hx)⟩,hx.frz h1 h.f0⟩
 lt:=fun s w B h hd=>by
  obtain⟨ev,mvs,h1,h2,-⟩:=h.en;rcases hd with rfl|rfl|hd|⟨ev',h3,h4⟩
  .exact η _ _ h.sw.c11
  .exact η _ _ h1
  .exact Nat.lt_of_lt_of_le (h.rb B hd) h.sw.ex.size
  .rw[h1]at h3;injection h3 with h3;subst h3;exact(h2.lt B h4).2
 dx:=fun s w w' B h hx hd=>h.dm hx hd
theorem Kl.seen(h:Kl w2 A NB RB b n v1 v2 s w)(hs:s.1<65536):Kl w2 A NB RB b n v1 v2 (s.1+1,s.2) (w.setCell (A,11) (.int .i64 ((s.1:Int)+1)))/\AR (Rg A NB RB) w (w.setCell (A,11) (.int .i64 ((s.1:Int)+1))):=by
 have aB:A≠NB:=by have:=h.ne;omega
 have aA:∀u:Value,(w.setCell (A,11) u).cell? (NB,0)=w.cell? (NB,0):=fun u=>Ah aB;have hk:AR (Rg A NB RB) w (w.setCell (A,11) (.int .i64 ((s.1:Int)+1))):=Fs (.inl rfl) fun X hd=>by
  rcases hd with hd|hd|hd|⟨ev,h1,h2⟩
  .exact .inl hd
  .exact .inr (.inl hd)
  .exact .inr (.inr (.inl hd))
  .rw[aA]at h1;exact .inr (.inr (.inr ⟨ev,h1,h2⟩))
 obtain⟨ev,mvs,h1,h2,h3,h4⟩:=h.en;refine⟨⟨h.sw.seen hs,h.ne,h.rb,⟨ev,mvs,by rw[aA];exact h1,Ae (a:=⟨A,11,none⟩) h2 (fun e=>?_) _,h3,fun i e mv a b=>(h4 i e mv a b).keep hk⟩,by rw[AC];exact h.f0⟩,hk⟩;have:=(h2.lt A e).1;have:=h.ne;omega
theorem Kl.app(h:Kl w2 A NB RB b n v1 v2 s w)(hl:s.2.length<s.1){ev:Value}{x:Nd}{mv v':Value}{mvs:List Value}(hc:w.cell? (NB,0)=some ev)(h2:w.ownsRow (NB+1) 176 4 ev s.2.length (PM (G5 s.2) mvs))(h3:mvs.length=s.2.length)(h4:∀(i:Nat) (e:Rf) (mv:Value),(G5 s.2)[i]?=some e->mvs[i]?=some mv->Da (Rg A NB RB) w mv e.msg)(hm:Da (Rg A NB RB) w mv x.msg)
  (ha:Bz w w' (NB+1) 176 4 ev v' s.2.length (PM (G5 s.2) mvs) ((if s.2= [] then(⟨0,0,x.side,x.msg⟩:Rf) else ndR x).cells mv)) (hb:w2.heap.size<=A):
  Kl w2 A NB RB b n v1 v2 (s.1,s.2 ++ [x]) (w'.setCell (NB,0) v')/\AR (Rg A NB RB) w (w'.setCell (NB,0) v'):=by
 have aE:some NB≠ev.ownBlock:=fun e=>by have:=(h2.lt NB e.symm).1;omega
 have aC:some A≠ev.ownBlock:=fun e=>by have:=(h2.lt A e.symm).1;have:=h.ne;omega
 have aF:=ha.cell hc aE;have hlt:NB<w.heap.size:=η _ _ hc;have aD:v'.ownBlock≠some NB:=fun e=>by
  rcases ha.at_ with h5|h5
  .rw[h5]at e;exact aE e.symm
  .rw[h5]at e;injection e with e;omega
 have aA:AR (Rg A NB RB) w (w'.setCell (NB,0) v'):=by
  obtain⟨o,hg⟩:=ha.gr;refine⟨by rw[Df];exact Nat.le_of_lt ha.grow,fun B hB hn=>⟨?_,?_⟩⟩
  .have aI:B≠NB:=fun e=>hn (.inr (.inl e));have h5:(w'.setCell (NB,0) v').heap[B]?=w'.heap[B]?:=Below.heap_setCell w' ⟨NB,0,none⟩ v' B aI;rw[h5,hg.block B aq (fun e=>hn (.inr (.inr (.inr ⟨ev,hc,e.symm⟩))))];show(w.heap.push o)[B]?=_
   exact Array.getElem?_push_lt hB ▸ (by simp[hB])
  .rintro (hd|hd|hd|⟨ev2,h5,h6⟩)
   .exact hn (.inl hd)
   .exact hn (.inr (.inl hd))
   .exact hn (.inr (.inr (.inl hd)))
   .rw[φ _ _ _ aF]at h5;injection h5 with h5;subst h5;rcases ha.at_ with h7|h7
    .rw[h7]at h6;exact hn (.inr (.inr (.inr ⟨ev,hc,h6⟩)))
    .rw[h7]at h6;injection h6 with h6;omega
 refine⟨⟨?_,h.ne,h.rb,⟨v',mvs ++ [mv],φ _ _ _ aF,?_,by simp[h3],fun i e u hi hu=>?_⟩,by rw[AC];exact ha.frz hc h.f0 aE⟩,aA⟩
 .have aG:Ex w2 w':=ha.ex h.sw.ex (by have:=h.ne;omega);have aH:SH w2 A b n v1 v2 s w':=⟨aG,⟨ha.cell h.sw.pr.c0 aC,ha.cell h.sw.pr.c4 aC,ha.cell h.sw.pr.c5 aC,ha.cell h.sw.pr.c10 aC⟩,ha.cell h.sw.c11 aC,ha.frz h.sw.c11 h.sw.f11 aC,h.sw.l1,h.sw.l2,h.sw.lb⟩;exact(aH.other (by have:=h.ne;omega) (by have:=h.ne;omega) v').note hl x
 .have h5:=Ae (a:=⟨NB,0,none⟩) ha.own aD v';show(w'.setCell (NB,0) v').ownsRow _ _ _ _ (s.2 ++ [x]).length (PM (G5 (s.2 ++ [x])) (mvs ++ [mv]))
  rw[ν,MZ,PI _ _ _ _ (by rw[h3,Fk])];exact h5
 .have aB:(G5 (s.2 ++ [x]))[i]?=some e:=hi;rw[MZ]at aB;by_cases hil:i<s.2.length
  .rw[ο (by rw[Fk];exact hil)]at aB;rw[ο (by rw[h3];exact hil)]at hu;exact(h4 i e u aB hu).keep aA
  .rw[τ (by rw[Fk];omega)]at aB;rw[τ (by rw[h3];omega)]at hu;rw[Fk]at aB;rw[h3]at hu;have h0:i-s.2.length=0:=by
    have:=(List.getElem?_eq_some_iff.1 aB).1;simp at this;omega
   rw[h0]at aB hu;simp at aB hu;subst hu;have:e.msg=x.msg:=by rw[<-aB];split <;> rfl
   rw[this];exact hm.keep aA
theorem Wq(h:Kl w2 A NB RB b n v1 v2 s w)(hl:s.2.length<s.1){tl sl msg:List Int}{side:Int}{tv sv mv:Value}(ht:Da (Rg A NB RB) w tv tl)(hs:Da (Rg A NB RB) w sv sl)(hm:Da (Rg A NB RB) w mv msg)(h64:tl.length<=64)(bA:sl.length=tl.length)(aC:s.2≠ []->tl≠ []):
  Calls Tryz.prog 143 #[.agg #[tv,sv],side,mv,(NB,0)] w fun r w'=>(∃t,r= .returned t)/\Kl w2 A NB RB b n v1 v2 (s.1,s.2 ++ [⟨tl,sl,side,msg⟩]) w'/\AR (Rg A NB RB) w w':=by
 obtain⟨b0,b1,e1,aE⟩:=AQ w tv sv;have e2:=AF (w.alloc (.cells #[tv,sv] 71)) (.cells #[Ω,Ω,side,mv] 176);have x0:((w.alloc (.cells #[tv,sv] 71)).alloc (.cells #[Ω,Ω,side,mv] 176)).cell? (w.heap.size+1,0)=some (.int .i64 0):=cq;have x1:((w.alloc (.cells #[tv,sv] 71)).alloc (.cells #[Ω,Ω,side,mv] 176)).cell? (w.heap.size+1,1)=some (.int .i64 0):=cq;have x2:((w.alloc (.cells #[tv,sv] 71)).alloc (.cells #[Ω,Ω,side,mv] 176)).cell? (w.heap.size+1,2)=some (.int .i64 side):=cq;have x3:((w.alloc (.cells #[tv,sv] 71)).alloc (.cells #[Ω,Ω,side,mv] 176)).cell? (w.heap.size+1,3)=some mv:=cq;have aO:((w.alloc (.cells #[tv,sv] 71)).alloc (.cells #[Ω,Ω,side,mv] 176)).frozen? (w.heap.size+1,0)=false:=cq;have aN:((w.alloc (.cells #[tv,sv] 71)).alloc (.cells #[Ω,Ω,side,mv] 176)).frozen? (w.heap.size+1,1)=false:=cq;replace b0:=e2.cell b0;replace b1:=e2.cell b1;have hx:=e1.trans e2;obtain⟨ev,mvs,c0,ho,bG,-⟩:=(Kl.stt.ex _ _ _ h hx).en;obtain⟨ea,ec,rfl⟩:=Ad ho;have aV:w.cell? (NB,0)=some (.slice ea s.2.length ec):=by
  obtain⟨bB,_,h1,_⟩:=h.en;rw[hx.cell h1]at c0;rw[h1];exact c0
 obtain⟨ta,tc,rfl,-,t2,t3⟩:=ht.1.open;obtain⟨sa,sc,rfl,-,s2,s3⟩:=hs.1.open;obtain⟨ma,mc,rfl,-,m2,-⟩:=hm.1.open;unfold maxLen at t2 s2 m2;have aU:NB<w.heap.size:=η _ _ aV;obtain⟨HH,HT,HS,HM,HX,bE,bN,bD,T3,S3,bK⟩:=Ha1 h ht hs hm hx aV h.sw.l2 h.sw.lb t3 s3 bA;obtain⟨B,hB⟩:=nA w.heap.size;rw[hB]at b0 b1 x0 x1 x2 x3 aO aN aU;have aI:=Aa hB;have HOO:=Aa ho;have aX:=Aa hl;obtain⟨N,hN⟩:=nA s.2.length;have HN:=Aa hN;rw[hN]at c0 bE;clear h ht hs hm hx e1 e2 aE aV t3 s3 bA ho bG hl;go_enter Tryz.func143,Tryz.ntmps143
 go_upto_region 2 with fail
 try simp only[hB]
 clear hB hN;generalize (w.alloc (.cells #[(ta,tl.length,tc),(sa,sl.length,sc)] 71)).alloc (.cells #[Ω,Ω,side,(ma,msg.length,mc)] 176)=w3 at *;have aW:=Aa (Kl.stt.ex _ _ _ HH.o HX.o);have bF:NB+1<=w3.heap.size:=by have:=HX.o.size;have:=aI.o;omega
 have bI:=Aa bF;have hN16:N<=65536:=by have:=bN.o;have:=aX.o;have:=HN.o;omega
 by_cases h0:N=0
 .subst h0;have bL:=Aa (List.length_eq_zero_iff.1 HN.o);obtain⟨bB,aP,g1,g2,g3,g4⟩:=aW.o.en;rw[c0]at g1;injection g1 with g1;subst g1;have G2:=Aa g2;have G3:=Aa g3;have G4:=Aa g4;rw[HN.o]at g2;have aJ:=Aa g2;have f0:=aW.o.f0;have hdm:((0:Nat):Int)=0:=rfl;clear g2 g3 g4;go_wp2_with (at_builtin;refine Al _ rfl _ _ 92 rfl (NB+1) 176 (.agg #[Ω,Ω,Ω,()]) 4 48 Tryz.underlying92 R9 rfl ae _ 0 _ rfl aJ.o [.int .i64 0,.int .i64 0,.int .i64 side,.slice ma msg.length mc] 176 _ rfl ag rfl aj ai ac bI.o ?_)
  intro v6 w6 aA;have HAP:=Aa aA;have aC:some NB≠Value.ownBlock (.slice ea 0 ec):=fun e=>by have:=(aJ.o.lt NB e.symm).1;omega
  have c6:=aA.cell c0 aC;have f6:=aA.frz c0 f0 aC;have aB:=Aa (aW.o.app (x:=⟨tl,sl,side,msg⟩) (mv:= .slice ma msg.length mc) (v':=v6) (ev:= .slice ea 0 ec) aX.o c0 G2.o G3.o G4.o (HM.o.keep (Kl.keeps HH.o HX.o)) (by rw[HN.o,if_pos bL.o];exact aA) bD.o);obtain⟨va,vc,hv⟩:=Ad aA.own;subst hv;clear aA c0 f0 aC b0 b1 x0 x1 x2 x3 aO aN;go_wp2_with fail
  go_end0
  exact⟨⟨_,rfl⟩,aB.o.1,(Kl.keeps HH.o HX.o).trans aB.o.2⟩
 .have aG:s.2≠ []:=fun e=>h0 (by rw[<-HN.o,e];rfl);have bH:=Aa (aC aG);have bJ:=Aa aG;have hk:0<tl.length:=γy.2 bH.o;obtain⟨k,aM⟩:∃k,tl.length=k+1:=⟨tl.length-1,ac⟩;have aT:sl.length=k+1:=by rw[bK.o,aM]
  obtain⟨tb,aD,rfl,aQ⟩:=T3.o hk;obtain⟨sb,so,rfl,aS⟩:=S3.o ac;obtain⟨X,hX⟩:∃x,tl.getD k 0=x:=⟨_,rfl⟩;obtain⟨Y,hY⟩:∃x,sl.getD k 0=x:=⟨_,rfl⟩;have hTB:tb<B:=by have:=η _ _ (aQ k _ (AZ (l:=tl) (i:=k) ac));have h2:=aI.o;simp only at this;omega
  have hSB:sb<B:=by have:=η _ _ (aS k _ (AZ (l:=sl) (i:=k) ac));have h2:=aI.o;simp only at this;omega
  have cX:=HX.o.cell (aQ k X (by rw[<-hX];exact AZ ac));have cY:=HX.o.cell (aS k Y (by rw[<-hY];exact AZ ac));have bM:Hia (ndR ⟨tl,sl,side,msg⟩=⟨X,Y,side,msg⟩):=Aa (by
   unfold ndR;simp only[aM,aT,Nat.add_sub_cancel];rw[hX,hY])
  rw[aM]at b0;rw[aT]at b1;have i1:(0:Int)<=(k:Int):=ac;have i2:(k:Int)<((k+1:Nat):Int):=ac;have i4:(k:Int)<(k:Int)+1:=ac;have bP:Hia (wrap64 (k:Int)=(k:Int)):=Aa (w64 ac ac);have bO:Hia (IntKind.i64.wrap (k:Int)=(k:Int)):=Aa (IntWalk.i64_in _ ac);have hb0:decide ((N:Int) > 0)=true:=aq;have hb0':decide ((0:Int)<(N:Int))=true:=aq;have hb0'':decide (0<N)=true:=aq;clear hX hY aQ aS hk aC aG aM aT t2 s2;have aZ:=Aa (show w3.cell? (B,0)=some (.slice (some (tb,aD)) (k+1) tc)/\w3.cell? (B,1)=some (.slice (some (sb,so)) (k+1) sc)/\w3.cell? (tb,aD+k)=some (.int .i64 X)/\w3.cell? (sb,so+k)=some (.int .i64 Y) from⟨b0,b1,cX,cY⟩);have HTS:=Aa (show tb≠B+1/\sb≠B+1/\NB≠B+1 from⟨ac,ac,ac⟩);go_wp2_with fail
  have aY:=Aa (fun (w':World) (j:Nat) (u:Value) (h:w'.cell? (B,0)=some (.slice (some (tb,aD)) (k+1) tc)/\w'.cell? (B,1)=some (.slice (some (sb,so)) (k+1) sc)/\w'.cell? (tb,aD+k)=some (.int .i64 X)/\w'.cell? (sb,so+k)=some (.int .i64 Y))=>(⟨by rw[Ah (show B+1≠B by omega)];exact h.1,by rw[Ah (show B+1≠B by omega)];exact h.2.1,by rw[Ah (show B+1≠tb by omega)];exact h.2.2.1,by rw[Ah (show B+1≠sb by omega)];exact h.2.2.2⟩:(w'.setCell (B+1,j) u).cell? (B,0)=some (.slice (some (tb,aD)) (k+1) tc)/\(w'.setCell (B+1,j) u).cell? (B,1)=some (.slice (some (sb,so)) (k+1) sc)/\(w'.setCell (B+1,j) u).cell? (tb,aD+k)=some (.int .i64 X)/\(w'.setCell (B+1,j) u).cell? (sb,so+k)=some (.int .i64 Y)));have i6:=bP.o;have i7:=bO.o
  go_region_held3 (fun w'=>w'.cell? (B,0)=some (.slice (some (tb,aD)) (k+1) tc)/\w'.cell? (B,1)=some (.slice (some (sb,so)) (k+1) sc)/\w'.cell? (tb,aD+k)=some (.int .i64 X)/\w'.cell? (sb,so+k)=some (.int .i64 Y))
   (first|exact aZ.o|exact aY.o _ _ _ aZ.o|exact aY.o _ _ _ (aY.o _ _ _ aZ.o)) (fail)
  clear i6 i7;obtain⟨w5,aF⟩:=nA (((w3.setCell (B+1,0) (.int .i64 X)).setCell (B+1,1) (.int .i64 Y)).drew);have aK:Ex w w5:=by
   rw[<-aF];exact((HX.o.setCell (p:=⟨B+1,0,none⟩) (by show w.heap.size<=B+1;have:=aI.o;omega) _).setCell (p:=⟨B+1,1,none⟩) (by show w.heap.size<=B+1;have:=aI.o;omega) _).drew
  have z0:w5.cell? (B+1,0)=some (.int .i64 X):=by
   rw[<-aF];show ζc ((w3.setCell _ _).setCell _ _) _=_;rw[Af ae];exact φ _ _ _ x0
  have z1:w5.cell? (B+1,1)=some (.int .i64 Y):=by
   rw[<-aF];show ζc ((w3.setCell _ _).setCell _ _) _=_;exact φ _ _ _ (by rw[Af ae];exact x1)
  have z2:w5.cell? (B+1,2)=some (.int .i64 side):=by
   rw[<-aF];show ζc ((w3.setCell _ _).setCell _ _) _=_;rw[Af ae,Af ae];exact x2
  have z3:w5.cell? (B+1,3)=some (.slice ma msg.length mc):=by
   rw[<-aF];show ζc ((w3.setCell _ _).setCell _ _) _=_;rw[Af ae,Af ae];exact x3
  have aH:=Aa (Kl.stt.ex _ _ _ HH.o aK);have bC:=Aa aK;have c5:=aK.cell bE.o;obtain⟨bB,aP,g1,g2,g3,g4⟩:=aH.o.en;rw[c5]at g1;injection g1 with g1;subst g1;have G2:=Aa g2;have G3:=Aa g3;have G4:=Aa g4;rw[HN.o]at g2;have aJ:=Aa g2;have f5:=aH.o.f0;have aR:NB+1<=w5.heap.size:=by have:=aK.size;have:=aI.o;omega
  have aL:=Aa aR;clear g2 g3 g4 c0 x0 x1 x2 x3 aO aN b0 b1 cX cY aK;go_wp2_with (first|(simp only[aF];clear aF;at_builtin;refine Al _ rfl _ _ 92 rfl (NB+1) 176 (.agg #[Ω,Ω,Ω,()]) 4 48 Tryz.underlying92 R9 rfl ae _ N _ rfl aJ.o [.int .i64 X,.int .i64 Y,.int .i64 side,.slice ma msg.length mc] 176 _ rfl ag rfl aj ai ac aL.o ?_)|(at_builtin;refine Al _ rfl _ _ 92 rfl (NB+1) 176 (.agg #[Ω,Ω,Ω,()]) 4 48 Tryz.underlying92 R9 rfl ae _ N _ rfl aJ.o [.int .i64 X,.int .i64 Y,.int .i64 side,.slice ma msg.length mc] 176 _ rfl ag rfl aj ai ac aL.o ?_))
  intro v6 w6 aA;have aC:some NB≠Value.ownBlock (.slice ea N ec):=fun e=>by have:=(aJ.o.lt NB e.symm).1;omega
  have c6:=aA.cell c5 aC;have f6:=aA.frz c5 f5 aC;have aB:=Aa (aH.o.app (x:=⟨tl,sl,side,msg⟩) (mv:= .slice ma msg.length mc) (v':=v6) (ev:= .slice ea N ec) aX.o c5 G2.o G3.o G4.o (HM.o.keep (Kl.keeps HH.o bC.o)) (by rw[HN.o,if_neg bJ.o,bM.o];exact aA) bD.o);obtain⟨va,vc,hv⟩:=Ad aA.own;subst hv;clear aA c5 f5 aC z0 z1 z2 z3;go_wp2_with fail
  go_end0
  exact⟨⟨_,rfl⟩,aB.o.1,(Kl.keeps HH.o bC.o).trans aB.o.2⟩
end
structure BxR(w:World)(b:Nat):Prop where
 c0:w.cell? (b,0)=some (.slice none 0 0)
 f0:w.frozen? (b,0)=false
theorem BxR.new(w:World):BxR (w.alloc (.cells #[()] 94)) w.heap.size:=⟨ag,ag⟩
theorem BxR.ex{w w':World}{b:Nat}(h:BxR w b)(hx:Ex w w'):BxR w' b:=⟨hx.cell h.c0,hx.frz h.c0 h.f0⟩
def Rd(FB:Nat->Prop)(w:World)(v:Value)(es:List Rf):Prop:=∃mvs:List Value,mvs.length=es.length/\Sl w v es.length 4 (PM es mvs)/\(∀(i:Nat) (e:Rf) (mv:Value),es[i]?=some e->mvs[i]?=some mv->Ak w mv e.msg/\(e.msg≠ []->∀X,mv.ownBlock=some X->¬FB X))/\∀X,v.ownBlock=some X->¬FB X
theorem Rd.nil(FB:Nat->Prop)(w:World):Rd FB w (.slice none 0 0) []:=⟨[],rfl,Sl.nil w 4,fun i e mv h=>by simp at h,fun X h=>by cases h⟩
def RfF(FB:Nat->Prop)(es:List Rf)(e:Int)(r:Ending)(w':World):Prop:=∃ev,r= .returned (.tuple #[.agg #[ev],e])/\Rd FB w' ev es
def I5(E:Int)(R:(Nat × List Nd) × Int):Int:=if E≠0 then E else if R.2=0 then 0 else if R.2=18 then 11 else R.2
def I4(E:Int)(R:(Nat × List Nd) × Int):List Rf:=if E≠0 then [] else if R.2=0 then G5 R.1.2 else []
theorem Zq{w2:World}{p m n A NB b x0:Nat}{RB:Nat->Prop}{ml:List Int}{l1 l2:List (List Int)}{v1 v2:Value}(hg:Bh w2 b p m ml x0)(x1:1<=x0)(x2:x0<p^m)(h1:B6 w2 v1 l1)(h2:B6 w2 v2 l2)(hn:n<=64)(r1:∀r∈l1,r.length=n)(r2:∀r∈l2,r.length=n)(k1:l1.length<=256)(k2:l2.length<=256):
  SrE p m ml l1 l2 n A b x0 v1 v2 (Kl w2 A NB RB b n v1 v2) (Rg A NB RB) where
 stt:=Kl.stt
 pr:=fun s w h=>h.sw.pr
 gf:=fun s w h=>hg.ex h.sw.ex
 m1:=fun s w h=>h1.ex h.sw.ex
 m2:=fun s w h=>h2.ex h.sw.ex
 c11:=fun s w h=>⟨h.sw.c11,h.sw.f11⟩
 le:=fun s w h=>⟨h.sw.l1,h.sw.l2⟩
 seen:=fun s w h hs=>h.seen hs
 x1:=x1
 x2:=x2
 n64:=hn
 r1:=r1
 r2:=r2
 k1:=k1
 k2:=k2
theorem b8{P:Prop}(h:P:=by simp[results,Tryz.results83,go_sem,q0]):P:=h
theorem b9{P:Prop}(h:P:=by rw[aG.o];show B<=B+1+1+1;omega):P:=h
theorem Rc(w:World)(c d:AX)(m1 m2 v1 v2:Value)(hc:c.at w m1 v1)(hd:d.at w m2 v2)(tl sl:List Int)(tv sv:Value)(ht:Ak w tv tl)(hs:Ak w sv sl)(FB:Nat->Prop)(bP:∀X,FB X->X<w.heap.size)(bM:tl≠ []->∀X,tv.ownBlock=some X->¬FB X)(bN:sl≠ []->∀X,sv.ownBlock=some X->¬FB X):
  Calls Tryz.prog 83 #[c.arg m1 v1,d.arg m2 v2,.agg #[tv,sv]] w fun r w'=>(∃e1 e2:Int,Bw c.p c.m c.ml c.n c.rows e1/\(e1=0->Bw d.p d.m d.ml d.n d.rows e2)/\RfF FB (I4 (F5 e1 e2 (CE c.p c.m c.ml d.p d.m d.ml) c.n d.n tl sl (c.p.toNat^c.m.toNat)) (Gw c d tl sl)) (I5 (F5 e1 e2 (CE c.p c.m c.ml d.p d.m d.ml) c.n d.n tl sl (c.p.toNat^c.m.toNat)) (Gw c d tl sl)) r w')/\Ex w w':=by
 have cF:=Aa bP;have cD:=Aa bM;have cE:=Aa bN;clear bP bM bN;obtain⟨c0,c1,c2,c3,c4⟩:=C8 w c m1 v1;obtain⟨d0,d1,d2,d3,d4⟩:=C8 (w.alloc (c.obj m1 v1)) d m2 v2;obtain⟨b0,b1,e3,bI⟩:=AQ ((w.alloc (c.obj m1 v1)).alloc (d.obj m2 v2)) tv sv;have aR:=BxR.new (((w.alloc (c.obj m1 v1)).alloc (d.obj m2 v2)).alloc (.cells #[tv,sv] 71));have bJ:(w.alloc (c.obj m1 v1)).heap.size=w.heap.size+1:=ag;have aV:((w.alloc (c.obj m1 v1)).alloc (d.obj m2 v2)).heap.size=w.heap.size+1+1:=ag;have e1:=AF w (c.obj m1 v1);have e2:=AF (w.alloc (c.obj m1 v1)) (d.obj m2 v2);have e4:=AF (((w.alloc (c.obj m1 v1)).alloc (d.obj m2 v2)).alloc (.cells #[tv,sv] 71)) (.cells #[()] 94);rw[bI,aV]at aR;rw[bJ]at d0 d1 d2 d3 d4;rw[aV]at b0 b1;have aF:=e1.trans (e2.trans (e3.trans e4));replace c0:=(e2.trans (e3.trans e4)).cell c0;replace c1:=(e2.trans (e3.trans e4)).cell c1;replace c2:=(e2.trans (e3.trans e4)).cell c2;replace c3:=(e2.trans (e3.trans e4)).cell c3;replace c4:=(e2.trans (e3.trans e4)).cell c4;replace d0:=(e3.trans e4).cell d0;replace d1:=(e3.trans e4).cell d1;replace d2:=(e3.trans e4).cell d2;replace d3:=(e3.trans e4).cell d3;replace d4:=(e3.trans e4).cell d4;replace b0:=e4.cell b0;replace b1:=e4.cell b1;obtain⟨B,hB⟩:=nA w.heap.size;rw[hB]at c0 c1 c2 c3 c4 d0 d1 d2 d3 d4 b0 b1 aR;have aT:=Aa (IU _ c d m1 m2 v1 v2 (hc.ex aF) (hd.ex aF) tl sl tv sv (ht.ex aF) (hs.ex aF));obtain⟨ta,tc,rfl,-,t2,-⟩:=ht.open;obtain⟨sa,sc,rfl,-,s2,-⟩:=hs.open;obtain⟨x1,y1,rfl,-,z1,-⟩:=hc.g.open;obtain⟨x2,y2,rfl,-,z2,-⟩:=hd.g.open;obtain⟨x3,y3,rfl,-,z3,-⟩:=hc.m.open;obtain⟨x4,y4,rfl,-,z4,-⟩:=hd.m.open;unfold maxLen at t2 s2 z1 z2 z3 z4;obtain⟨HX,HC,HD,HT,HS,aQ,aG⟩:=To aF hc hd ht hs aR hB;clear hc hd ht hs e1 e2 e3 e4 bJ aV bI aF aR;unfold AX.arg at aT ⊢;go_enter Tryz.func83,Tryz.ntmps83
 unfold AX.obj at c0 c1 c2 c3 c4 d0 d1 d2 d3 d4 b0 b1 HX aQ aT;go_upto_region 1 with fail
 try simp only[hB]
 clear hB;generalize (((w.alloc (.cells #[c.p,c.m,(x3,c.ml.length,y3),c.n,(x1,c.rows.length,y1)] 39)).alloc (.cells #[d.p,d.m,(x4,d.ml.length,y4),d.n,(x2,d.rows.length,y2)] 39)).alloc (.cells #[(ta,tl.length,tc),(sa,sl.length,sc)] 71)).alloc (.cells #[()] 94)=w1 at *;have B0:=Aa b0;have B1:=Aa b1;go_wp2_with fail
 refine aT.o.mono ?_;rintro e w3⟨ho,bK⟩;have bQ:=Aa bK;obtain⟨e1,e2,bL,aJ,ho⟩:=ho;have aH:=Aa bL;have aO:=Aa aJ;clear c0 c1 c2 c3 c4 d0 d1 d2 d3 d4 bK bL aJ aT b0 b1;obtain⟨E,hE⟩:=nA (F5 e1 e2 (CE c.p c.m c.ml d.p d.m d.ml) c.n d.n tl sl (c.p.toNat^c.m.toNat));rw[hE]at ho;have HE:=Aa hE;rcases ho with⟨h0,ptr,rfl⟩|⟨h0,w2,A,b,x0,pn,mn,nn,hp,hm,hnn,rfl,hx2,hg,hx01,hx02,hA,hx23,hpr,h11,hf11⟩
 .have hb0:(E !=0)=true:=by simpa using h0
  obtain⟨q0,bS⟩:=aQ.o.ex bQ.o;have H0:=Aa h0;clear h0 hE;go_wp2_with fail
  refine bodyPost_ret (v:= .tuple #[.agg #[()],.int .i64 E]) b8 rfl ⟨⟨e1,e2,aH.o,aO.o,?_⟩,(HX.o.trans bQ.o).setCell (p:=⟨B+1+1+1,0,none⟩) b9 _⟩;rw[HE.o];unfold I4 I5;rw[if_pos H0.o,if_pos H0.o];exact⟨_,rfl,Rd.nil _ _⟩
 .subst h0;obtain⟨k1,k2,k3,k4,k5,k6,k7,k8,k9⟩:=Rn hE;subst k1;have aJ:=aO.o rfl;subst k2;obtain⟨bH,bF⟩:=C6 aH.o;obtain⟨bG,bE⟩:=C6 aJ;obtain⟨-,bU,bT⟩:=DH aH.o;obtain⟨NB,aL⟩:∃B,w3.heap.size=B:=⟨_,rfl⟩;have aN:A<NB:=by rw[<-aL];exact η _ _ h11
  have aA:=HX.o.trans hx2;have e5:=AF w3 (.cells #[()] 94);have n0:(w3.alloc (.cells #[()] 94)).cell? (NB,0)=some (.slice none 0 0):=dy;have bD:(w3.alloc (.cells #[()] 94)).frozen? (NB,0)=false:=dy;have aP:=Aa (Zq (p:=pn) (m:=mn) (n:=nn) (A:=A) (NB:=NB) (RB:=fun X=>X=B+1+1+1∨FB X) hg hx01 hx02 (HC.o.g.ex aA) (HD.o.g.ex aA) ac (fun r hr=>by have:=bF r hr;omega) (fun r hr=>by have:=bE r hr;omega) bH bG);have aK:B+1+1+1<w2.heap.size:=η _ _ (aQ.o.ex hx2).c0;have bO:∀X,(X=B+1+1+1∨FB X)->X<w2.heap.size:=fun X h=>by
   rcases h with rfl|h
   .exact aK
   .have:=cF.o X h;have:=aG.o;omega
  have aC:Kl w2 A NB (fun X=>X=B+1+1+1∨FB X) b nn (.slice x1 c.rows.length y1) (.slice x2 d.rows.length y2) (0, []) (w3.alloc (.cells #[()] 94)):=
   ⟨⟨hx23.trans e5,hpr.ex e5,e5.cell h11,e5.frz h11 hf11,ag,ag,hA⟩,aN,bO,⟨_, [],n0,World.ownsRow_nil _ _ _ _,rfl,fun i e mv h=>by simp[G5]at h⟩,bD⟩
  have cB:=Aa aC;have aW:w1.heap.size<=w2.heap.size:=hx2.size;have aI:∀(v:Value) (l:List Int) (_:True),Ak w v l->∀X,0<l.length->v.ownBlock=some X->X<B:=fun v l _ h X hl hX=>by
   obtain⟨a,cap,rfl,-,-,h5⟩:=h.open;obtain⟨b',o,rfl,h6⟩:=h5 hl;injection hX with hX;have hX:b'=X:=hX;subst hX;have:=η _ _ (h6 0 _ (AZ hl));have h2:=aG.o;simp only at this;omega
  have aD:∀(v:Value) (l:List Int),Ak w v l->(l≠ []->∀X,v.ownBlock=some X->¬FB X)->Da (Rg A NB (fun X=>X=B+1+1+1∨FB X)) (w3.alloc (.cells #[()] 94)) v l:=fun v l h bZ=>by
   have h2:=h.ex aA;have hk:AR (fun _ X=>w2.heap.size<=X) w2 (w3.alloc (.cells #[()] 94)):=⟨(hx23.trans e5).size,fun X hX hn=>⟨(hx23.trans e5).block X hX,hn⟩⟩;refine⟨(h.ex aA).ex (hx23.trans e5),fun hl X hX hd=>?_⟩;obtain⟨a,cap,rfl,-,-,h5⟩:=h2.open;obtain⟨b',o,rfl,h6⟩:=h5 (γy.2 hl);injection hX with hX;have hX:b'=X:=hX;subst hX;obtain⟨x,l',rfl⟩:=ηv hl;have hlt:b'<w2.heap.size:=η _ _ (h6 0 x rfl);rcases hd with hd|hd|hd|⟨ev,he1,he2⟩
   .omega
   .omega
   .rcases hd with hd|hd
    .have:=aI _ _ trivial h;have:=this b' (γy.2 hl) rfl;omega
    .exact bZ hl b' rfl hd
   .rw[n0]at he1;injection he1 with he1;subst he1;cases he2
  have aU:=Aa (Rr aP.o (.pointer (some ⟨NB,0,none⟩)) (fun s w' tl' sl' tv' sv' side msg mv h hl bV bW bX aX cA hml aZ=>Wq h hl bV bW bX cA aX aZ) (nn-tl.length) (0, []) _ tl sl _ _ ac ac (by rw[<-hnn];exact k7) (fun h=>absurd rfl h) aC (aD _ _ HT.o cD.o) (aD _ _ HS.o cE.o));have hR:Mj pn mn c.ml c.rows d.rows nn (nn-tl.length) (0, []) tl sl=Gw c d tl sl:=by
   unfold Gw;rw[hp,hm,hnn];rfl
  rw[hR]at aU;have q:=aQ.o.ex (hx2.trans (hx23.trans e5));have bR:=Aa (aQ.o.ex hx2);have b0:=(hx2.trans (hx23.trans e5)).cell B0.o;have b1:=(hx2.trans (hx23.trans e5)).cell B1.o;have bA:=Aa aA;have HS2:Hia (B+1+1+1<w2.heap.size):=Aa (η _ _ bR.o.c0);clear bO aK aI hp hm hnn hx2 hg hx01 hx02 hA hx23 hpr h11 hf11 k3 k4 k5 k6 k7 k8 k9 aJ bH bF bG bE bU bT aN aA e5 n0 bD aC aW aD hR aP q hE;obtain⟨R,hR⟩:=nA (Gw c d tl sl);rw[hR]at aU;have cC:=Aa hR;clear hR;go_wp2_with fail
  try simp only[aL]
  generalize w3.alloc (.cells #[()] 94)=w4 at *;clear aL;refine aU.o.mono ?_;rintro e w5⟨rfl,aY,bY⟩;have aE:=Aa aY;have aS:=Aa aY.sw.ex;obtain⟨q0,bS⟩:=bR.o.ex aS.o;have bB:Hia (∀r w',RfF FB (I4 0 R) (I5 0 R) r w'->RfF FB (I4 (F5 0 0 (CE c.p c.m c.ml d.p d.m d.ml) c.n d.n tl sl (c.p.toNat^c.m.toNat)) (Gw c d tl sl)) (I5 (F5 0 0 (CE c.p c.m c.ml d.p d.m d.ml) c.n d.n tl sl (c.p.toNat^c.m.toNat)) (Gw c d tl sl)) r w'):=Aa (fun r w' h=>by rw[HE.o,cC.o];exact h);clear aY bY b0 b1 aU cB;obtain⟨E2,aM⟩:∃E,R.2=E:=⟨_,rfl⟩;have bC:=Aa aM;simp only[aM];by_cases h0:E2=0
  .subst h0;obtain⟨ev,mvs,n0,n1,n2,n3⟩:=aE.o.en;obtain⟨ea,ec,rfl⟩:=Ad n1;have N1:=Aa n1;have N2:=Aa n2;have N3:=Aa n3;have aB:Hia (I4 0 R=G5 R.1.2/\I5 0 R=0):=Aa (by
    unfold I4 I5;rw[bC.o];exact⟨rfl,rfl⟩)
   clear aM n1 n2 n3;go_wp2_with fail
   refine bodyPost_ret (v:= .tuple #[.agg #[.slice ea R.1.2.length ec],Ω]) b8 rfl ⟨⟨0,0,aH.o,fun _=>aO.o trivial,bB.o _ _ ?_⟩,(bA.o.trans aS.o).setCell (p:=⟨B+1+1+1,0,none⟩) b9 _⟩;rw[aB.o.1,aB.o.2];refine⟨_,rfl,mvs,by rw[Fk];exact N2.o,?_,fun i e mv h1 h2=>⟨?_,fun aZ X hX hF=>(N3.o i e mv h1 h2).2 aZ X hX (.inr (.inr (.inl (.inr hF))))⟩,fun X hX hF=>?_⟩
   .rw[Fk];exact Sl.own (Ae (a:=⟨B+1+1+1,0,none⟩) N1.o (fun e=>by have:=(N1.o.lt _ e).1;have:=aE.o.ne;have:=aE.o.rb (B+1+1+1) (.inl rfl);have:=aE.o.sw.lb;simp only at *;omega) _)
   .have hp:=N3.o i e mv h1 h2
    cases hm:e.msg with
    | nil=>
     rw[hm]at hp;obtain⟨g1,a,cap,g2,g3,g4,g5⟩:=hp.1;exact⟨g1,a,cap,g2,g3,g4,fun hn=>absurd hn ag⟩
    | cons y l=>
     rw[hm]at hp;exact Sl.other hp.1 (fun X hX e2=>hp.2 ag X hX (.inr (.inr (.inl (.inl e2))))) _
   .have h1:=(N1.o.lt X hX).1;have h2:=aE.o.rb X (.inr hF);have h3:=aE.o.ne;have h4:=aE.o.sw.lb;omega
  .have k0:(E2==0)=false:=by simpa using h0
   by_cases h18:E2=18
   .subst h18;have aB:Hia (I4 0 R= []/\I5 0 R=11):=Aa (by
     unfold I4 I5;rw[bC.o];exact⟨rfl,rfl⟩)
    clear aM h0;go_wp2_with fail
    refine bodyPost_ret (v:= .tuple #[.agg #[()],(11:Int)]) b8 rfl ⟨⟨0,0,aH.o,fun _=>aO.o trivial,bB.o _ _ ?_⟩,(bA.o.trans aS.o).setCell (p:=⟨B+1+1+1,0,none⟩) b9 _⟩;rw[aB.o.1,aB.o.2];exact⟨_,rfl,Rd.nil _ _⟩
   .have k18:(E2==18)=false:=by simpa using h18
    have aB:Hia (I4 0 R= []/\I5 0 R=E2):=Aa (by
     unfold I4 I5;rw[bC.o];simp[h18,h0])
    clear aM h18 h0;go_wp2_with fail
    refine bodyPost_ret (v:= .tuple #[.agg #[()],E2]) b8 rfl ⟨⟨0,0,aH.o,fun _=>aO.o trivial,bB.o _ _ ?_⟩,(bA.o.trans aS.o).setCell (p:=⟨B+1+1+1,0,none⟩) b9 _⟩;rw[aB.o.1,aB.o.2];exact⟨_,rfl,Rd.nil _ _⟩
end Go.Proofs.YtehieobniamagaaGreat
