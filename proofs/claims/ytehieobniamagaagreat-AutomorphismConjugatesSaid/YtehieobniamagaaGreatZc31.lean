/- Walk of awake of chapter 32 (printed by gen_awake33.py). -/
import Derived.Test.YtehieobniamagaaGreatZc30
namespace Go.Proofs.YtehieobniamagaaGreat
open Go.RowKit
set_option linter.all false
set_option maxRecDepth 100000
set_option maxHeartbeats 16000000
def wL:World->List Obj->World
 | w, []=>w
 | w,o :: l=>wL (w.alloc o) l
theorem NX:∀(l:List Obj) {w W:World} {B:Nat},wL w l=W->w.heap.size=B->Ex w W/\∀(j:Nat) (o:Obj),l[j]?=some o->W.heap[B+j]?=some o
 | [],w,W,B,h,hB=>⟨h ▸ Ex.refl w,fun j o hj=>by simp at hj⟩
 | o :: l,w,W,B,h,hB=>by
  obtain⟨h1,h2⟩:=NX l (w:=w.alloc o) h (B:=B+1) (by simp[hB]);refine⟨(AI w o).trans h1,fun j o' hj=>?_⟩
  cases j with
  | zero=>simp at hj;subst hj;exact Ko h1 (D7 hB)
  | succ j=>have:=h2 j o' (by simpa using hj);rwa[show B+(j+1)=B+1+j from ac]
theorem Ud{W:World}{b:Nat}{t:TypeId}{xs:List Value}(h:W.heap[b]?=some (.cells xs.toArray t)){j:Nat}{u:Value}(hu:xs[j]?=some u):W.cell? (b,j)=some u:=by
 unfold World.cell?;simp[h];simpa using hu
theorem Jz{W:World}{b:Nat}{t:TypeId}{xs:List Value}(h:W.heap[b]?=some (.cells xs.toArray t)):GY W b xs:=fun i v a=>Ud h a
theorem Ip{w:World}{B:Nat}(cs:Array Value)(t:TypeId)(hB:w.heap.size=B):GY (w.alloc (.cells cs t)) B cs.toList:=Jz (t:=t) (D7 hB)
theorem VP{W:World}{b:Nat}{t:TypeId}(xs:List Value){n size:Nat}(h:W.heap[b]?=some (.cells xs.toArray t))(hx:xs.length=n*size)(hn:n<=1000):Sl W (.slice (some (b,0)) n n) n size xs:=
 ⟨hx,some ⟨b,0,none⟩,n,rfl,Nat.le_refl _,by unfold maxLen;omega,fun _=>⟨b,0,rfl,fun j u hu=>by rw[Nat.zero_add];exact Ud h hu⟩⟩
theorem Ij{W:World}{b:Nat}{t:TypeId}(l:List Int)(h:W.heap[b]?=some (.cells (Ap l).toArray t))(hl:l.length<=1000:=by decide):Aj W (.slice (some ⟨b,0,none⟩) l.length l.length) l:=VP _ h (by simp[Ap]) hl
theorem RP{W:World}{b:Nat}{t:TypeId}(rows:List (List Int)){us:List Value}(h:W.heap[b]?=some (.cells us.toArray t))(hr:∀(i:Nat) (r:List Int) (u:Value),rows[i]?=some r->us[i]?=some u->Aj W u r)(hu:us.length=rows.length:=by rfl)(hl:rows.length<=1000:=by decide):B9 W (.slice (some ⟨b,0,none⟩) rows.length rows.length) rows:=
 ⟨us,VP _ h ac hl,hr⟩
theorem lsl_of{W:World}{b:Nat}{t:TypeId}(l1:Lv){u1 r1:Value}(h:W.heap[b]?=some (.cells #[l1.pt,u1,r1] t))(h1:Aj W u1 l1.orb)(h2:B9 W r1 l1.reps):EH W (.slice (some (b,0)) 1 1) [l1]:=
 ⟨[(u1,r1)],rfl,VP _ h rfl ae,fun i l o a b=>by
  match i,a,b with
  | 0,a,b=>simp at a b;subst a b;exact⟨h1,h2⟩
  | i+1,a,b=>simp at a⟩
theorem GY.o2{w:World}{b:Nat}{x y:Value}(h:GY w b [x,y]):w.cell? (b,0)=some x/\w.cell? (b,1)=some y:=⟨h 0 _ rfl,h 1 _ rfl⟩
theorem GY.o3{w:World}{b:Nat}{x y z:Value}(h:GY w b [x,y,z]):w.cell? (b,0)=some x/\w.cell? (b,1)=some y/\w.cell? (b,2)=some z:=⟨h 0 _ rfl,h 1 _ rfl,h 2 _ rfl⟩
theorem GY.o5{w:World}{b:Nat}{x y z u v:Value}(h:GY w b [x,y,z,u,v]):w.cell? (b,0)=some x/\w.cell? (b,1)=some y/\w.cell? (b,2)=some z/\w.cell? (b,3)=some u/\w.cell? (b,4)=some v:=⟨h 0 _ rfl,h 1 _ rfl,h 2 _ rfl,h 3 _ rfl,h 4 _ rfl⟩
def Per(w:World)(P:World->Prop):Prop:=∀w',Ex w w'->P w'
theorem JA{w w':World}{P:World->Prop}(h:Hia (Per w P))(hx:Ex w w'):Hia (Per w' P):=fun v hv=>h v (hx.trans hv)
theorem RL{w:World}{P Q:World->Prop}(h:Hia (Per w P))(hq:∀v,Ex w v->Q v):Hia (Per w fun v=>Q v/\P v):=fun v hv=>⟨hq v hv,h v hv⟩
theorem Ky{w w':World}{P Q:World->Prop}(h:Hia (Per w P))(hx:Ex w w')(hq:∀v,Ex w' v->Q v):Hia (Per w' fun v=>Q v/\P v):=RL (JA h hx) hq
theorem at_{w:World}{P:World->Prop}(h:Hia (Per w P)):P w:=h w (Ex.refl w)
theorem Vr(w:World):Calls Tryz.prog 13 #[] w fun r w'=>r= .returned (.bool true)/\Ex w w':=by
 have A:Hia (Per w fun v=>Ex w v):=fun v h=>h;go_enter Tryz.func13,Tryz.ntmps13
 go_upto_region 5 with fail
 generalize hW:World.alloc _ _=W;obtain⟨B,hB⟩:=nA w.heap.size;simp only[hB,Nat.add_assoc,Nat.reduceAdd]at hW ⊢;obtain⟨ew,H⟩:=NX [_,_,_,_,_,_,_,_,_,_] hW hB;clear hW hB;have i1:=Ij [1,1,0] (H 1 _ rfl);have i2:=RP [[1,1,0]] (H 2 _ rfl) (rows1 i1);have i4:=Ij [1,2] (H 4 _ rfl);have i5:=RP [[1,2]] (H 5 _ rfl) (rows1 i4);have i7:=Ij [1,0] (H 7 _ rfl);have i8:=Ij [2,1] (H 8 _ rfl);replace A:=JA A ew;replace A:=RL A fun _ h=>i2.ex h;replace A:=RL A fun _ h=>i5.ex h;replace A:=RL A fun _ h=>i7.ex h;replace A:=RL A fun _ h=>i8.ex h;replace A:=RL A fun _ h=>(Jz (b:=B) (H 0 _ rfl)).ex h;replace A:=RL A fun _ h=>(Jz (H 3 _ rfl)).ex h;replace A:=RL A fun _ h=>(Jz (H 6 _ rfl)).ex h;replace A:=RL A fun _ h=>(Jz (H 9 _ rfl)).ex h;clear ew H i1 i2 i4 i5 i7 i8;obtain⟨aS,aR,aQ⟩:=(at_ A).2.2.2.1.o3;obtain⟨aN,aM,aL⟩:=(at_ A).1.o3;go_wp2_with fail
 refine(k_pts _ _ _ (at_ A).2.2.2.2.2.1 (at_ A).2.2.2.2.1).mono ?_;rintro e w1⟨pa,pc,rfl,hp,bV⟩;clear aS aR aQ aN aM aL;replace A:=Ky A bV fun _ h=>hp.ex h;clear bV hp;obtain⟨aS,aR,aQ⟩:=(at_ A).2.2.2.2.1.o3;go_wp2_with fail
 refine(ZL _ _ (Kn _ [3,2,0,1] _ _ rfl rfl rfl ae)).mono ?_;rintro e w2⟨ma,mc,sa,sc,rfl,hm,hs,aX⟩;replace aX:=(AI _ _).trans aX;clear aS aR aQ;replace A:=Ky A aX fun _ h=>hm.ex h;replace A:=RL A fun _ h=>hs.ex h;clear aX hm hs;obtain⟨C1,bB⟩:∃B,w2.heap.size=B:=⟨_,rfl⟩;replace A:=Ky A (AI _ _) fun _ h=>(Ip #[.slice ma 2 mc,.slice sa 2 sc,(0:Int)] 26 bB).ex h;go_upto_region 7 with fail
 try simp only[bB]
 clear bB;generalize World.alloc _ _=v2 at *;obtain⟨aE,aD,aC,aB,aA⟩:=(at_ A).2.2.2.2.2.2.1.o5;go_wp2_with fail
 refine(k_grp _ _ (at_ A).2.2.2.2.2.2.2.2.2.2.2.1).mono ?_;rintro e w3⟨ga,gc,rfl,hg,bU⟩;clear aE aD aC aB aA;replace A:=Ky A bU fun _ h=>hg.ex h;clear bU hg;obtain⟨C2,bA⟩:∃B,w3.heap.size=B:=⟨_,rfl⟩;replace A:=Ky A (AI _ _) fun _ h=>(Ip #[(3:Int),.slice ga 1 gc] 43 bA).ex h;go_upto_region 8 with fail
 try simp only[bA]
 clear bA;generalize World.alloc _ _=v3 at *;obtain⟨aE,aD,aC,aB,aA⟩:=(at_ A).2.2.2.2.2.2.2.2.1.o5;go_wp2_with fail
 refine(k_pos _ _ (at_ A).2.2.2.2.2.2.2.2.2.2.2.2.2.1).mono ?_;rintro e w4⟨oa,oc,rfl,ho,bT⟩;clear aE aD aC aB aA;replace A:=Ky A bT fun _ h=>ho.ex h;clear bT ho;obtain⟨aE,aD,aC,aB,aA⟩:=(at_ A).2.2.2.2.2.2.2.2.2.1.o5;go_wp2_with fail
 refine(k_cer _ _ (at_ A).2.2.2.2.2.2.2.2.2.2.2.2.2.2.1).mono ?_;rintro e w5⟨ya,yc,yb,yd,rfl,hy,hz,bS⟩;clear aE aD aC aB aA;replace A:=Ky A bS fun _ h=>hy.ex h;replace A:=RL A fun _ h=>hz.ex h;clear bS hy hz;obtain⟨C3,aZ⟩:∃B,w5.heap.size=B:=⟨_,rfl⟩;replace A:=Ky A (AI _ _) fun _ h=>(Ip #[(3:Int),.slice ya 1 yc,.slice yb 2 yd] 53 aZ).ex h;go_upto_region 10 with fail
 try simp only[aZ]
 clear aZ;generalize World.alloc _ _=v5 at *;obtain⟨aE,aD,aC,aB,aA⟩:=(at_ A).2.2.2.2.2.2.2.2.2.2.2.2.1.o5;obtain⟨aK,aJ,aI⟩:=(at_ A).1.o3;go_wp2_with fail
 refine(ZM _ _ _ _ (at_ A).2.2.2.2.2.2.2.2.2.2.2.2.2.2.2.2.2.1 (at_ A).2.2.1 (at_ A).2.1).mono ?_;rintro e w6⟨na,nn,nc,rfl,hn,bR⟩;clear aE aD aC aB aA aK aJ aI;replace A:=Ky A bR fun _ h=>hn.ex h;clear bR hn;obtain⟨bN,bM,bL,bK,bJ⟩:=(at_ A).2.2.2.2.2.2.2.2.2.2.2.2.1.o5;go_wp2_with fail
 refine(k_grpT _ _ (at_ A).2.2.2.2.2.2.2.2.2.2.2.2.2.2.2.2.2.1).mono ?_;rintro e w7⟨ta,tc,rfl,ht,bQ⟩;clear bN bM bL bK bJ;replace A:=Ky A bQ fun _ h=>ht.ex h;clear bQ ht;obtain⟨C4,aY⟩:∃B,w7.heap.size=B:=⟨_,rfl⟩;replace A:=Ky A (AI _ _) fun _ h=>(Ip #[(4:Int),.slice ta 1 tc] 43 aY).ex h;go_upto_region 12 with fail
 try simp only[aY]
 clear aY;generalize World.alloc _ _=v7 at *;obtain⟨bD,bC⟩:=(at_ A).1.o2;go_wp2_with fail
 refine(k_sizT _ _ (at_ A).2.1).mono ?_;rintro e w8⟨ua,un,uc,rfl,hu,bP⟩;clear bD bC;replace A:=Ky A bP fun _ h=>hu.ex h;clear bP hu;go_upto_region 16 with fail
 generalize hV:World.alloc _ _=V;obtain⟨D,hD⟩:∃B,w8.heap.size=B:=⟨_,rfl⟩;simp only[hD,Nat.add_assoc,Nat.reduceAdd]at hV ⊢;obtain⟨ew,H⟩:=NX [_,_,_,_,_,_] hV hD;clear hV hD;have i0:=Ij (b:=D) [0,1] (H 0 _ rfl);have i1:=Ij [0,1,2] (H 1 _ rfl);have i2:=Ij [1,0,2] (H 2 _ rfl);have i3:=RP [[0,1,2], [1,0,2]] (H 3 _ rfl) (rows2 i1 i2);have i4:EH V _ cL:=lsl_of ⟨0, [0,1], [[0,1,2], [1,0,2]]⟩ (H 4 _ rfl) i0 i3;replace A:=JA A ew;replace A:=RL A fun _ h=>i4.ex h;replace A:=RL A fun _ h=>(Jz (H 5 _ rfl)).ex h;clear ew H i0 i1 i2 i3 i4;go_wp2_with fail
 refine(k_ints _ _ _ [3,2,0,1] ((at_ A).2.2.2.2.2.2.2.2.2.2.2.2.2.2.2.1.ex (AI _ _)) (Kn _ [3,2,0,1] _ _ rfl rfl rfl ae)).mono ?_;rintro e w9⟨rfl,aW⟩;replace aW:=(AI _ _).trans aW;replace A:=JA A aW;clear aW;obtain⟨bG,bF,bE⟩:=(at_ A).2.2.2.2.2.2.2.2.2.2.2.2.1.o3;obtain⟨aN,aM,aL⟩:=(at_ A).2.2.2.2.2.2.2.2.2.2.2.2.2.2.2.2.1.o3;go_wp2_with fail
 refine(k_map _ [1,0] [2,1] _ _ _ _ (at_ A).2.2.2.2.2.2.2.2.2.2.2.2.2.2.1 (at_ A).2.2.2.2.2.2.2.2.2.2.2.2.2.1 (at_ A).2.2.2.2.2.2.2.2.2.2.2.2.2.2.2.2.2.2.2.2.2.1 (at_ A).2.2.2.2.2.2.2.2.2.2.2.2.2.2.2.2.2.2.2.2.1).mono ?_;rintro e w10⟨rfl,aV⟩;clear bG bF bE aN aM aL;replace A:=JA A aV;clear aV;obtain⟨bI,bH⟩:=(at_ A).2.2.2.2.2.2.2.2.2.2.1.o2;obtain⟨aP,aO⟩:=(at_ A).1.o2;go_wp2_with fail
 refine(Ql _ _ _ (at_ A).2.2.2.2.2.2.2.2.2.2.2.1 (at_ A).2.1).mono ?_;rintro e w11⟨rfl,aU⟩;clear bI bH aP aO;replace A:=JA A aU;clear aU;go_wp2_with fail
 have hz:=(Kn w11 [0,1] #[(0:Int),(1:Int)] 3 rfl rfl rfl ae).ex (AI _ (.cells #[(2:Int)] 3));have bO:=Kn (w11.alloc (.cells #[(0:Int),(1:Int)] 3)) [2] #[(2:Int)] 3 rfl (B:=w11.heap.size+1) ag rfl ae;have bW:((w11.alloc (.cells #[(0:Int),(1:Int)] 3)).alloc (.cells #[(2:Int)] 3)).heap.size=w11.heap.size+1+1:=by simp
 refine(k_rows _ _ _ [[0,1], [2]] ((at_ A).2.2.2.2.2.2.2.2.2.1.ex (((AI _ _).trans (AI _ _)).trans (AI _ _))) (Ti _ [[0,1], [2]] [.slice (some ⟨w11.heap.size,0,none⟩) 2 2,.slice (some ⟨w11.heap.size+1,0,none⟩) 1 1] _ _ rfl rfl (rows2 hz bO) bW rfl ae)).mono ?_;rintro e w12⟨rfl,aH⟩;replace aH:=(((AI _ _).trans (AI _ _)).trans (AI _ _)).trans aH;replace A:=JA A aH;clear aH;clear hz bO bW;go_wp2_with fail
 refine(W0 _ 2 ac _ _ ((at_ A).2.2.2.2.2.1.ex (AI _ _)) (Te _ 2 ac ac)).mono ?_;rintro e w13⟨rfl,aG⟩;replace aG:=(AI _ _).trans aG;replace A:=JA A aG;clear aG;go_wp2_with fail
 refine(W0 _ 4 ac _ _ ((at_ A).2.2.1.ex (AI _ _)) (Te _ 4 ac ac)).mono ?_;rintro e w14⟨rfl,aF⟩;replace aF:=(AI _ _).trans aF;replace A:=JA A aF;clear aF;obtain⟨aK,aJ,aI⟩:=(at_ A).2.2.2.2.2.2.1.o3;obtain⟨aP,aO⟩:=(at_ A).1.o2;go_wp2_with fail
 refine(Ql _ _ _ (at_ A).2.2.2.2.2.2.2.2.1 (at_ A).2.1).mono ?_;rintro e w15⟨rfl,aT⟩;clear aK aJ aI aP aO;replace A:=JA A aT;clear aT;obtain⟨RX,ro,rfl,r0,r1,r2,r3⟩:=esl_eX (at_ A).2.2.2.2.2.2.2.1;obtain⟨aK,aJ,aI⟩:=(at_ A).2.2.2.2.2.2.1.o3;go_wp2_with fail
 go_ret;exact⟨rfl,(at_ A).2.2.2.2.2.2.2.2.2.2.2.2.2.2.2.2.2.2.2.2.2.2.2.2⟩
theorem zch{P:Prop}(h:P:=by
 obtain⟨c0,c1,c2,c3,c4,b0,b1,b2⟩:=aA.o _ hx;exact zdj):P:=h
theorem zaF{P:Prop}(h:P:=by
 have e2:=T 2 _ rfl;exact zch):P:=h
theorem zaY{P:Prop}(h:P:=by
 have e2:=T 2 _ rfl;exact zdj):P:=h
theorem zcm{P:Prop}(h:P:=by
 obtain⟨n,f,h1,h2,h3⟩:=aE;obtain⟨a,c,h,_⟩:=NL.open h3;exact⟨a,n,c,h⟩):P:=h
theorem zdi{P:Prop}(h:P:=by
 rintro e w3⟨rfl,aC⟩;exact hK _ aC):P:=h
theorem EZ(w:World)(c:AZ)(m1 v1:Value)(hc:c.at w m1 v1)(pv sv:Value)(pl sl:List Int)(fr:Int)(hp:Aj w pv pl)(hs:Aj w sv sl):
  Calls Tryz.prog 12 #[c.arg m1 v1,.agg #[pv,sv,fr]] w fun r w'=>r= .returned (.bool true)/\Ex w w':=by
 obtain⟨c0,c1,c2,c3,c4⟩:=Du w c m1 v1;obtain⟨b0,b1,b2,e2⟩:=Bh (w.alloc (c.obj m1 v1)) pv sv fr;have bX:(w.alloc (c.obj m1 v1)).heap.size=w.heap.size+1:=ag;have e1:=AI w (c.obj m1 v1);rw[bX]at b0 b1 b2;replace c0:=e2.cell c0;replace c1:=e2.cell c1;replace c2:=e2.cell c2;replace c3:=e2.cell c3;replace c4:=e2.cell c4;have HX:=Aa (e1.trans e2);have dM:=Aa (fun w'=>Vr w');have aI:=Aa (fun (w':World) (h:Ex w w')=>Oe w' c m1 v1 (hc.ex h) 8 ac);obtain⟨E1,cL,cP⟩:=codO_ex hc;obtain⟨bT,eB,dB,cZ,dZ,dW,eC⟩:=OK cL cP (fun (w':World) (h:Ex w w')=>PT w' c.p c.m c.ml m1 (hc.ex h).m c.n pl sl pv sv (hp.ex h) (hs.ex h) fr) (fun w'=>DR c.p c.m m1 w') (fun (w':World) (h:Ex w w')=>Fh w' c m1 v1 (hc.ex h)) (fun (w':World) (h:Ex w w')=>Mt w' c.p c.m c.ml m1 (hc.ex h).m pl sl pv sv (hp.ex h) (hs.ex h) fr) (fun (w':World) (h:Ex w w')=>NV w' c.p c.m c.ml m1 (hc.ex h).m c.n c.rows v1 (hc.ex h).g pl sl pv sv (hp.ex h) (hs.ex h) fr);obtain⟨pa,pc,rfl,p1,p2,-⟩:=hp.open;obtain⟨sa,sc,rfl,s1,s2,-⟩:=hs.open;obtain⟨x1,y1,rfl,-,z1,-⟩:=hc.g.open;obtain⟨x3,y3,rfl,-,z3,-⟩:=hc.m.open;unfold maxLen at p2 s2 z1 z3;obtain⟨p,m,ml,n,rows⟩:=c;obtain⟨B,hB⟩:=nA w.heap.size;rw[hB]at c0 c1 c2 c3 c4 b0 b1 b2;dsimp only[AZ.arg,AZ.obj]at *;obtain⟨E2,bK⟩:∃E,CL p m ml n pl sl fr=E:=⟨_,rfl⟩;rw[bK]at dB;have eA:=Aa bK;obtain⟨SB,bA⟩:∃b,smB ⟨p,m,ml,n,rows⟩ 8=b:=⟨_,rfl⟩;rw[bA]at aI;have cY:=Aa (show SB=true->Smp ⟨p,m,ml,n,rows⟩ 8 from fun h=>(SV.1 (bA.trans h)).2);obtain⟨Q,hQ⟩:=nA (CG p m);rw[hQ]at cZ;have HQ:=Aa hQ;clear hc hp hs e1 e2 bX bK bA hQ cL cP p1 s1;go_enter Tryz.func12,Tryz.ntmps12
 go_upto_region 1 with fail
 try simp only[hB]
 clear hB;generalize (w.alloc (.cells #[p,m,.slice x3 ml.length y3,n,.slice x1 rows.length y1] 39)).alloc (.cells #[.slice pa pl.length pc,.slice sa sl.length sc,fr] 26)=w1 at *;have aA:=Aa (fun w' (h:Ex w1 w')=>(⟨h.cell c0,h.cell c1,h.cell c2,h.cell c3,h.cell c4,h.cell b0,h.cell b1,h.cell b2⟩:_/\_/\_/\_/\_/\_/\_/\_));have cV:∀w',Ex w1 w'->Calls Tryz.prog 13 #[] w' fun r w''=>r= .returned (.bool true)/\Ex w1 w'':=fun w' h=>(dM.o w').mono fun r w'' ⟨h1,h2⟩=>⟨h1,h.trans h2⟩;have eD:=Aa cV;clear cV c0 c1 c2 c3 c4 b0 b1 b2;obtain⟨DD,HD⟩:=Ki (n*(Q-1));obtain⟨j1,dK⟩:=Ki (!SB);obtain⟨j2,dJ⟩:=Ki (E1 !=0);obtain⟨l2,dF⟩:=Ki (j1||j2);obtain⟨j3,dI⟩:=Ki (E2 !=0);obtain⟨l3,dE⟩:=Ki (l2||j3);obtain⟨j4,dH⟩:=Ki (fr !=0);obtain⟨l4,dD⟩:=Ki (l3||j4);obtain⟨j5,dG⟩:=Ki (decide ((64:Int)<DD));obtain⟨l5,dC⟩:=Ki (l4||j5);have bV:=Aa (show l4=false->SB=true/\E1=0/\E2=0/\fr=0 from fun h=>by
  rw[<-dD.o,<-dE.o,<-dF.o,<-dH.o,<-dI.o,<-dJ.o,<-dK.o]at h;simp only[Bool.or_eq_false_iff,Bool.not_eq_false',bne_eq_false_iff_eq]at h;obtain⟨⟨⟨h1,h2⟩,h3⟩,h4⟩:=h;exact⟨h1,h2,h3,h4⟩)
 have bQ:=Aa (show l4=false->∃(pn mn N q D:Nat),p=pn/\m=mn/\n=N/\pn^mn=q/\2<=q/\q<=256/\Q=q/\N*(q-1)=D/\DD=D/\D<=20000/\1<=N/\N<=64 from fun h=>by
  obtain⟨-,k2,-,-⟩:=bV.o h;have ho:=bT.o;rw[k2]at ho;obtain⟨pn,mn,N,rfl,rfl,rfl,hf,hI,cT,bC,hr,hro⟩:=IU ho;have aW:=HQ.o;rw[P4 hf]at aW;have cJ:2<=pn^mn:=Nat.le_trans hf.p2 (Nat.le_self_pow (by have:=hf.m1;omega) pn);have dR:=hf.q;refine⟨pn,mn,N,_,_,rfl,rfl,rfl,rfl,cJ,dR,aW.symm,rfl,?_,Nat.le_trans (Nat.mul_le_mul bC (show pn^mn-1<=255 by omega)) ac,cT,bC⟩;rw[<-HD.o,<-aW,Int.natCast_mul,Int.natCast_sub ac];rfl)
 have HW:=Aa (show l4=false->IntKind.i64.wrap (Q-1)=Q-1/\IntKind.i64.wrap (n*(Q-1))=DD from fun h=>by
  obtain⟨pn,mn,N,q,D,-,-,-,-,k1,k2,k3,-,k5,k6,-⟩:=bQ.o h;rw[HD.o];exact⟨IntWalk.i64_in _ ac,IntWalk.i64_in _ ac⟩)
 refine BR (fun k=>([.bool true,.bool false,.bool false,.agg #[p,m,.slice x3 ml.length y3,n,.slice x1 rows.length y1],.bool SB,.bool j1,.bool j1,.bool j1,bif j1 then undef else .agg #[p,m,.slice x3 ml.length y3,n,.slice x1 rows.length y1],bif j1 then undef else .int .i64 E1,bif j1 then undef else .bool j2,.bool l2,.bool l2,bif l2 then undef else .pointer (some ⟨B,0,none⟩),bif l2 then undef else .agg #[p,m,.slice x3 ml.length y3],bif l2 then undef else .pointer (some ⟨B,3,none⟩),bif l2 then undef else .int .i64 n,bif l2 then undef else .agg #[.slice pa pl.length pc,.slice sa sl.length sc,fr],bif l2 then undef else .int .i64 E2,bif l2 then undef else .bool j3,.bool l3,.bool l3,bif l3 then undef else .pointer (some ⟨B+1,2,none⟩),bif l3 then undef else .int .i64 fr,bif l3 then undef else .bool j4,.bool l4,.bool l4,bif l4 then undef else .pointer (some ⟨B,3,none⟩),bif l4 then undef else .int .i64 n,bif l4 then undef else .pointer (some ⟨B,0,none⟩),bif l4 then undef else .agg #[p,m,.slice x3 ml.length y3],bif l4 then undef else .int .i64 Q,bif l4 then undef else .int .i64 (Q-1),bif l4 then undef else .int .i64 DD,bif l4 then undef else .bool j5,.bool l5]:List Value).getD k undef) ah ah ah ?_ ?_
 .simp only[AG];refine⟨?_,?_,?_,?_,?_,?_,?_,?_,?_,?_,?_,?_,?_,?_,?_,?_,?_,?_,?_,?_,?_,?_,?_,?_,?_,?_,?_,?_,?_,?_,?_,?_,?_,?_,?_,?_,trivial⟩
  all_goals first|refine Bu.go rfl fun a w T hx K hK=>?_|(refine Bu.gd j1 ?_;rintro rfl a w T hx K hK)|(refine Bu.gd l2 ?_;rintro rfl a w T hx K hK)|(refine Bu.gd l3 ?_;rintro rfl a w T hx K hK)|(refine Bu.gd l4 ?_;rintro rfl a w T hx K hK)
  .clear T;go_simp;refine(dM.o _).mono ?_;exact zdi
  .have e21:=T 21 _ rfl;exact zdj
  .have e22:=T 22 _ rfl;exact zdj
  .exact zaF
  .have e24:=T 24 _ rfl;clear T;go_simp;refine(aI.o _ (HX.o.trans hx)).mono ?_;exact zdi
  .have e25:=T 25 _ rfl;have y:=dK.o;exact zdj
  .have e23:=T 23 _ rfl;have e26:=T 26 _ rfl;exact zdj
  .have e27:=T 27 _ rfl;exact zdj
  .exact zaF
  .have e29:=T 29 _ rfl;clear T;go_simp;refine(eB.o _ (HX.o.trans hx)).mono ?_;exact zdi
  .have e30:=T 30 _ rfl;have y:=dJ.o;exact zdj
  .have e28:=T 28 _ rfl;have e31:=T 31 _ rfl;obtain rfl:=dF.o;cases j1
   .exact za3
   .exact za3
  .have e32:=T 32 _ rfl;exact zdj
  .exact zaY
  .have e34:=T 34 _ rfl;exact zch
  .exact zaY
  .have e36:=T 36 _ rfl;exact zch
  .have e3:=T 3 _ rfl;exact zch
  .have e35:=T 35 _ rfl;have e37:=T 37 _ rfl;have e38:=T 38 _ rfl;clear T;go_simp;refine(dB.o _ (HX.o.trans hx)).mono ?_;exact zdi
  .have e39:=T 39 _ rfl;have y:=dI.o;exact zdj
  .have e33:=T 33 _ rfl;have e40:=T 40 _ rfl;obtain rfl:=dE.o;cases l2
   .exact za3
   .exact za3
  .have e41:=T 41 _ rfl;exact zdj
  .have e3:=T 3 _ rfl;exact zdj
  .have e43:=T 43 _ rfl;exact zch
  .have e44:=T 44 _ rfl;have y:=dH.o;exact zdj
  .have e42:=T 42 _ rfl;have e45:=T 45 _ rfl;obtain rfl:=dD.o;cases l3
   .exact za3
   .exact za3
  .have e46:=T 46 _ rfl;exact zdj
  .exact zaY
  .have e48:=T 48 _ rfl;exact zch
  .exact zaY
  .have e50:=T 50 _ rfl;exact zch
  .have e51:=T 51 _ rfl;clear T;go_simp;refine(cZ.o _).mono ?_;exact zdi
  .have e52:=T 52 _ rfl;obtain⟨W1,W2⟩:=HW.o rfl;exact zdj
  .have e49:=T 49 _ rfl;have e53:=T 53 _ rfl;obtain⟨W1,W2⟩:=HW.o rfl;exact zdj
  .have e54:=T 54 _ rfl;have y:=dG.o;exact zdj
  .have e47:=T 47 _ rfl;have e55:=T 55 _ rfl;obtain rfl:=dC.o;cases l4
   .exact za3
   .exact za3
 .intro wa cB;generalize hPK:Cm _ _ _ _=PK;rw[Oh hPK 21 57 ah];clear hPK PK;simp only[List.take_succ_cons,List.take_zero,List.drop_succ_cons,List.drop_zero,List.cons_append,List.nil_append];have bO:=Aa cB;clear cB
  cases l5 with
  | true=>
   go_wp2_with fail
   refine(eD.o _ bO.o).mono ?_;rintro e w99⟨rfl,aL⟩;have bP:=Aa aL;clear aL;go_wp2_with fail
   go_ret;exact⟨rfl,HX.o.trans bP.o⟩
  | false=>
   obtain⟨aX,cM⟩:=or_no dC;obtain⟨cI,rfl,rfl,rfl⟩:=bV.o aX;obtain⟨pn,mn,N,q,D,rfl,rfl,rfl,hq,hq1,cJ,rfl,hD,rfl,dS,cT,bC⟩:=bQ.o aX;have cX:=Aa (cY.o cI);obtain⟨cH,cK,aY⟩:=con_pre (pl:=pl) (sl:=sl) bT.o eA.o cX.o ac (by
    rw[hq];have h:=dG.o;rw[cM]at h;have:=of_decide_eq_false h;omega)
   have bW:=Aa (show N*(pn^mn-1)=D from by rw[hq,hD]);rw[bW.o]at aY;have bR:=Aa cH;have bS:=Aa cK;have dL:=Aa aY;clear cH cK aY bV bQ HW cY cX aX cM cI hq hD dS HD;have A:Hia (Per wa fun v=>Ex w1 v):=fun v h=>bO.o.trans h;clear bO;obtain⟨c0,c1,c2,c3,c4,b0,b1,b2⟩:=aA.o wa (at_ A);go_wp2_with fail
   refine(eC.o wa (HX.o.trans (at_ A))).mono ?_;rintro e w6⟨cQ,aM⟩;obtain⟨piv,a',rv,v',rfl,cO,aT,aO⟩:=Yc (fr:=0) (show AppR pn mn ml N rows _ _ ((0:Nat):Int) _ _ _ from cQ) bT.o bS.o.2.2;obtain⟨aV,k1,k2,k3,k4,k5,k6,k7,k8⟩:=dL.o piv a' cO;obtain⟨M,hM⟩:∃x,Au N piv.length a'=x:=⟨_,rfl⟩;rw[hM]at aO aV k1 k4 k6 k8;obtain⟨LA,bF⟩:∃L,DL pn mn ml N rows=L:=⟨_,rfl⟩;obtain⟨LM,bE⟩:∃L,DL pn mn ml N M=L:=⟨_,rfl⟩;rw[bF]at k1 k2 k3 k5 k8;rw[bE]at k1 k4 k6 k8;obtain⟨dY,dX,aI,K1,K2,K3,K4,K5,K6,K7,K8⟩:=Ha0 bF bE aV k1 k2 k3 k4 k5 k6 k7 k8;obtain⟨va,vc,rfl,-⟩:=aT.open;obtain⟨ra,rc,rfl,-⟩:=aO.open;obtain⟨ML,bD⟩:∃k,M.length=k:=⟨_,rfl⟩;rw[bD]at aO
   try simp only[bD]
   replace A:=Ky A aM fun _ h=>aT.ex h;replace A:=RL A fun _ h=>aO.ex h;obtain⟨DB,bL⟩:∃B,w6.heap.size=B:=⟨_,rfl⟩;replace A:=Ky A (AI _ _) fun _ h=>(Ip #[(pn:Int),(mn:Int),.slice va ml.length vc,(N:Int),.slice ra ML rc] 39 bL).ex h;clear cQ aM cO aT aO hM bD aV k1 k2 k3 k4 k5 k6 k7 k8 bF bE dL c0 c1 c2 c3 c4 b0 b1 b2;go_upto_region 4 with fail
   try simp only[bL]
   clear bL;generalize World.alloc _ _=w7 at *;obtain⟨c0,c1,c2,c3,c4,b0,b1,b2⟩:=aA.o w7 (at_ A).2.2.2;go_wp2_with fail
   refine(dZ.o w7 (HX.o.trans (at_ A).2.2.2) bR.o.bnd.1 bR.o.bnd.2).mono ?_;rintro e w8⟨hg,aK⟩;obtain⟨lv,rfl,aB⟩:=bR.o.grO hg;rw[bW.o];rw[dY.o]at aB;obtain⟨Ga,Gc,rfl,-⟩:=aB.open;obtain⟨GN,bI⟩:∃k,LA.length=k:=⟨_,rfl⟩;rw[bI]at aB
   try simp only[bI]
   replace A:=Ky A aK fun _ h=>aB.ex h;obtain⟨GB,bJ⟩:∃B,w8.heap.size=B:=⟨_,rfl⟩;replace A:=Ky A (AI _ _) fun _ h=>(Ip #[(D:Int),.slice Ga GN Gc] 43 bJ).ex h;clear hg aK aB bI c0 c1 c2 c3 c4 b0 b1 b2;go_upto_region 5 with fail
   try simp only[bJ]
   clear bJ;generalize World.alloc _ _=w9 at *;obtain⟨d0,d1,d2,d3,d4⟩:=(at_ A).2.2.1.o5;go_wp2_with fail
   refine(Fh w9 ⟨pn,mn,ml,N,M⟩ _ _ ⟨(at_ A).2.2.2.2.1,(at_ A).2.2.2.1⟩ aI.o.bnd.1 aI.o.bnd.2).mono ?_;rintro e w10⟨hg,aK⟩;obtain⟨lv,rfl,aB⟩:=aI.o.grO hg;rw[bW.o];rw[dX.o]at aB;obtain⟨Ha,Hc,rfl,-⟩:=aB.open;obtain⟨HN,bG⟩:∃k,LM.length=k:=⟨_,rfl⟩;rw[bG]at aB
   try simp only[bG]
   replace A:=Ky A aK fun _ h=>aB.ex h;obtain⟨HB,bH⟩:∃B,w10.heap.size=B:=⟨_,rfl⟩;replace A:=Ky A (AI _ _) fun _ h=>(Ip #[(D:Int),.slice Ha HN Hc] 43 bH).ex h;clear hg aK aB bG d0 d1 d2 d3 d4;go_upto_region 6 with fail
   try simp only[bH]
   clear bH;generalize World.alloc _ _=w11 at *;obtain⟨g0,g1⟩:=(at_ A).2.2.1.o2;go_wp2_with fail
   refine(I3 w11 (D:Int) LA _ (at_ A).2.2.2.1 K5.o).mono ?_;rintro e w12⟨hs,aJ⟩;obtain⟨Sv,rfl,aE⟩:∃v,e= .returned (.tuple #[v,(0:Int)])/\Hq w12 v (El LA):=by
    rcases hs with⟨h,_⟩|⟨_,v,h1,h2⟩
    .exact absurd K3.o h
    .exact⟨v,h1,h2⟩
   obtain⟨Sa,Sn,Sc,rfl⟩:∃a n c,Sv= .slice a n c:=by
    exact zcm
   replace A:=Ky A aJ fun _ h=>aE.ex h;clear hs aJ aE g0 g1;obtain⟨g0,g1⟩:=(at_ A).2.1.o2;go_wp2_with fail
   refine(I3 w12 (D:Int) LM _ (at_ A).2.2.1 K6.o).mono ?_;rintro e w13⟨hs,aJ⟩;obtain⟨Tv,rfl,aE⟩:∃v,e= .returned (.tuple #[v,(0:Int)])/\Hq w13 v (El LM):=by
    rcases hs with⟨h,_⟩|⟨_,v,h1,h2⟩
    .exact absurd K4.o h
    .exact⟨v,h1,h2⟩
   obtain⟨Ta,Tn,Tc,rfl⟩:∃a n c,Tv= .slice a n c:=by
    exact zcm
   replace A:=Ky A aJ fun _ h=>aE.ex h;clear hs aJ aE g0 g1;obtain⟨c0,c1,c2,c3,c4,b0,b1,b2⟩:=aA.o w13 (at_ A).2.2.2.2.2.2.2.2.2;go_wp2_with fail
   refine(dW.o w13 (HX.o.trans (at_ A).2.2.2.2.2.2.2.2.2)).mono ?_;rintro e w14⟨⟨v4,rfl,aG⟩,cE⟩;rw[bS.o.1];rw[bS.o.2.1]at aG;obtain⟨PL,cS⟩:∃l,Hm pn mn ml pl sl=l:=⟨_,rfl⟩;rw[cS]at aG K7 K8;obtain⟨dQ,dP,rfl,-⟩:=aG.open;obtain⟨PN,bB⟩:∃k,PL.length=k:=⟨_,rfl⟩;rw[bB]at aG
   try simp only[bB]
   replace A:=Ky A cE fun _ h=>aG.ex h;clear aG cE cS bB c0 c1 c2 c3 c4 b0 b1 b2;go_wp2_with fail
   refine(WC w14 _ _ _ _ (at_ A).2.2.1 (at_ A).2.1 K2.o (by rw[<-K1.o];exact K2.o)).mono ?_;rintro e w15⟨⟨z,rfl,hz⟩,cD⟩;obtain rfl:z=0:=hz.2 K1.o;replace A:=JA A cD;clear hz cD;go_wp2_with fail
   refine(MH w15 PL _ (at_ A).1).mono ?_;rintro e w16⟨⟨bv,rfl,aH⟩,aM⟩;rw[K7.o]at aH ⊢;obtain⟨BL,bN⟩:∃l,li D (AS D (Ic pn mn ml pl sl))=l:=⟨_,rfl⟩;simp only[bN]at aH ⊢;rw[bN]at K8;obtain⟨ba,bc,rfl,-⟩:=aH.open;obtain⟨BN,bM⟩:∃k,BL.length=k:=⟨_,rfl⟩;rw[bM]at aH
   try simp only[bM]
   replace A:=Ky A aM fun _ h=>aH.ex h;clear aH aM bN bM K7;obtain⟨g0,g1⟩:=(at_ A).2.2.2.2.2.2.1.o2;go_wp2_with fail
   refine(UH w16 (D:Int) LA _ (at_ A).2.2.2.2.2.2.2.1 K5.o).mono ?_;rintro e w17⟨ga,gc,rfl,aQ,cC⟩;obtain⟨GL,cU⟩:∃l,AE LA=l:=⟨_,rfl⟩;rw[cU]at aQ K8 K5 ⊢;obtain⟨KN,aR⟩:∃k,GL.length=k:=⟨_,rfl⟩;have aF:=Aa aR;rw[aR]at aQ
   try simp only[aR]
   replace A:=Ky A cC fun _ h=>aQ.ex h;clear aQ cC cU aR g0 g1;have dV:=Aa (fun (i:Nat) (hi:i<KN)=>(show ∃r,GL[i]?=some r/\∃y,IW [BL,r,PL]=(y,0)/\Em (D:Int) LM y=0/\J5 (D:Int) LM y=true from by
    rw[<-aF.o]at hi;exact⟨_,List.getElem?_eq_getElem hi,K8.o _ (List.getElem_mem hi)⟩))
   have GO:=Aa (show 0<KN->∃b o,ga=some ⟨b,o,none⟩/\∀(i:Nat) (r:List Int),GL[i]?=some r->∃u,w17.cell? ⟨b,o+i,none⟩=some u/\Aj w17 u r from fun h=>by
    have hm:=(at_ A).1;rw[<-aF.o]at hm h;obtain⟨a,c,e,-,-,h3⟩:=hm.open;obtain⟨b,o,h4,h5⟩:=h3 h;injection e with e1;exact⟨b,o,e1.trans h4,h5⟩)
   have hcap:(KN:Int)<=(gc:Int):=by
    have hm:=(at_ A).1;rw[<-aF.o]at hm;obtain⟨a,c,e,h1,-⟩:=hm.open;rw[aF.o]at e h1;injection e with e1 e2 e3;omega
   have hgm:gc<=2^63-1:=by
    have hm:=(at_ A).1;rw[<-aF.o]at hm;obtain⟨a,c,e,h1,h2,-⟩:=hm.open;rw[aF.o]at e;injection e with e1 e2 e3;unfold maxLen at h2;omega
   clear K8 aF;go_wp2_with fail
   go_loopw [127] (fun i' wr=>∃i:Nat,i<=KN/\i'= .int .i64 i/\Hia (Ex w17 wr)) (fun i' _=>KN-(intOf i').toNat)
   case atStart=>exact⟨0,ac,rfl,Aa (Ex.refl _)⟩
   case round=>
    obtain⟨i,hi,rfl,aD⟩:=hrel;obtain⟨wo,cF⟩:∃x,x=wr:=⟨_,rfl⟩;rw[<-cF]at aD ⊢;clear cF;by_cases hlt:i<KN
    .obtain⟨r,hr,y,cA,bZ,bY⟩:=dV.o i hlt;obtain⟨gb,go,rfl,cN⟩:=GO.o ac;obtain⟨u,cG,aU⟩:=cN i r hr;have cu:=aD.o.cell cG;have A2:=JA A aD.o;replace A2:=RL A2 fun _ h=>(aU.ex aD.o).ex h;have i1:(0:Int)<=(i:Int):=by omega
     have i2:(i:Int)<(KN:Int):=ac;have Y1:=Aa cA;have Y2:=Aa bZ;have Y3:=Aa bY;obtain⟨dO,dN,rfl,-⟩:=aU.open;obtain⟨RN,cR⟩:∃k,r.length=k:=⟨_,rfl⟩;rw[cR]at A2 cu;have bU:=Aa hlt;clear hr cA bZ bY cN cG aU cR;have dA:=Aa (Ti wo [BL,r,PL] [.slice ba BN bc,.slice dO RN dN,.slice dQ PN dP] _ 22 rfl rfl (rows3 (at_ A2).2.2.1 (at_ A2).1 (at_ A2).2.2.2.1) rfl rfl ag);go_wp2_with fail
     refine(MI _ _ _ dA.o).mono ?_;rintro e w20⟨⟨v9,rfl,aP⟩,aS⟩;rw[Y1.o]at aP ⊢;replace A2:=Ky A2 ((AI _ _).trans aS) fun _ h=>aP.ex h;obtain⟨ya,yc,rfl,-⟩:=aP.open;obtain⟨YN,aZ⟩:∃k,y.length=k:=⟨_,rfl⟩;rw[aZ]at A2
     try simp only[aZ]
     have dT:=Aa (aD.o.trans ((AI _ _).trans aS));obtain⟨g0,g1⟩:=(at_ A2).2.2.2.2.2.2.2.1.o2;clear aP aS aZ dA cu aD;go_wp2_with fail
     refine(Has_any w20 (D:Int) LM _ (at_ A2).2.2.2.2.2.2.2.2.1 K6.o y _ (at_ A2).1).mono ?_;rintro e w21⟨rfl,aN⟩;rw[Y3.o,Y2.o];have cW:=Aa (dT.o.trans aN);clear aN g0 g1 A2;go_wp2_with fail
     go_roundw
     case rel=>first|exact⟨i+1,by have:=bU.o;omega,by go_num,cW⟩|((repeat apply Exists.intro);exact⟨⟨i+1,by have:=bU.o;omega,by go_num,cW⟩,rfl⟩)
     case measure=>have:=bU.o;simp[intOf];omega
    .obtain rfl:i=KN:=by omega
     have dU:=Aa ((at_ (JA A aD.o)).2.2.2.2.2.2.2.2.2.2.2.2);go_wp2_with fail
     go_ret;exact⟨rfl,HX.o.trans dU.o⟩
end Go.Proofs.YtehieobniamagaaGreat
