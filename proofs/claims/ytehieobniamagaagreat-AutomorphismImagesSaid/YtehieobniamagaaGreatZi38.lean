/- Walk of awake of chapter 32 (printed by gen_awake33.py). -/
import Derived.Test.YtehieobniamagaaGreatZi37
namespace Go.Proofs.YtehieobniamagaaGreat
open Nat renaming le_refl→ζ,zero_add→ύ,add_assoc→ζw,reduceAdd→νt,succ_mul→ζg,le_trans→μ,pow_succ→γp,mul_comm→γq,mul_le_mul_left→ζx,not_lt_zero→ζf,lt_of_lt_of_le→Δ,lt_trichotomy→δh
open Go.World renaming alloc→ζu,ownsRow_nil→ϋ,drewN_drewN→δs
open List renaming length_cons→γk,length_append→ν,flatMap_append→δf,take_add_one→γd,getElem?_eq_getElem→γ,take_length→γf,take_zero→κv,getElem?_cons_zero→θk,getElem?_cons_succ→ιw,getElem?_append_left→ο,getElem?_append_right→τ
open Go.RowKit
set_option linter.all false
set_option maxRecDepth 100000
set_option maxHeartbeats 16000000
def wL:World->List Obj->World
 | w, []=>w
 | w,o :: l=>wL (w.alloc o) l
theorem NN:∀(l:List Obj) {w W:World} {B:Nat},wL w l=W->w.heap.size=B->Ex w W/\∀(j:Nat) (o:Obj),l[j]?=some o->W.heap[B+j]?=some o
 | [],w,W,B,h,hB=>⟨h ▸ Ex.refl w,fun j o hj=>by simp at hj⟩
 | o :: l,w,W,B,h,hB=>by
  obtain⟨h1,h2⟩:=NN l (w:=w.alloc o) h (B:=B+1) (by simp[hB]);refine⟨(AF w o).trans h1,fun j o' hj=>?_⟩
  cases j with
  | zero=>simp at hj;subst hj;exact Kg h1 (D4 hB)
  | succ j=>have:=h2 j o' (by simpa using hj);rwa[show B+(j+1)=B+1+j from ac]
theorem Ul{W:World}{b:Nat}{t:TypeId}{xs:List Value}(h:W.heap[b]?=some (.cells xs.toArray t)){j:Nat}{u:Value}(hu:xs[j]?=some u):W.cell? (b,j)=some u:=by
 unfold World.cell?;simp[h];simpa using hu
theorem Jp{W:World}{b:Nat}{t:TypeId}{xs:List Value}(h:W.heap[b]?=some (.cells xs.toArray t)):GM W b xs:=fun i v a=>Ul h a
theorem GD{w:World}{B:Nat}(cs:Array Value)(t:TypeId)(hB:w.heap.size=B):GM (w.alloc (.cells cs t)) B cs.toList:=Jp (t:=t) (D4 hB)
theorem V9{W:World}{b:Nat}{t:TypeId}(xs:List Value){n size:Nat}(h:W.heap[b]?=some (.cells xs.toArray t))(hx:xs.length=n*size)(hn:n<=1000):Sl W (.slice (some (b,0)) n n) n size xs:=
 ⟨hx,some ⟨b,0,none⟩,n,rfl,ζ _,by unfold maxLen;omega,fun _=>⟨b,0,rfl,fun j u hu=>by rw[ύ];exact Ul h hu⟩⟩
theorem Hx{W:World}{b:Nat}{t:TypeId}(l:List Int)(h:W.heap[b]?=some (.cells (Aj l).toArray t))(hl:l.length<=1000:=by decide):Ak W (.slice (some (b,0)) l.length l.length) l:=V9 _ h (by simp[Aj]) hl
theorem RW{W:World}{b:Nat}{t:TypeId}(rows:List (List Int)){us:List Value}(h:W.heap[b]?=some (.cells us.toArray t))(hr:∀(i:Nat) (r:List Int) (u:Value),rows[i]?=some r->us[i]?=some u->Ak W u r)(hu:us.length=rows.length:=by rfl)(hl:rows.length<=1000:=by decide):B6 W (.slice (some (b,0)) rows.length rows.length) rows:=
 ⟨us,V9 _ h ac hl,hr⟩
theorem lsl_of{W:World}{b:Nat}{t:TypeId}(l1:Lv){u1 r1:Value}(h:W.heap[b]?=some (.cells #[l1.pt,u1,r1] t))(h1:Ak W u1 l1.orb)(h2:B6 W r1 l1.reps):ER W (.slice (some (b,0)) 1 1) [l1]:=
 ⟨[(u1,r1)],rfl,V9 _ h rfl ae,fun i l o a b=>by
  match i,a,b with
  | 0,a,b=>simp at a b;subst a b;exact⟨h1,h2⟩
  | i+1,a,b=>simp at a⟩
theorem GM.o2{w:World}{b:Nat}{x y:Value}(h:GM w b [x,y]):w.cell? (b,0)=some x/\w.cell? (b,1)=some y:=⟨h 0 _ rfl,h 1 _ rfl⟩
theorem GM.o3{w:World}{b:Nat}{x y z:Value}(h:GM w b [x,y,z]):w.cell? (b,0)=some x/\w.cell? (b,1)=some y/\w.cell? (b,2)=some z:=⟨h 0 _ rfl,h 1 _ rfl,h 2 _ rfl⟩
theorem GM.o5{w:World}{b:Nat}{x y z u v:Value}(h:GM w b [x,y,z,u,v]):w.cell? (b,0)=some x/\w.cell? (b,1)=some y/\w.cell? (b,2)=some z/\w.cell? (b,3)=some u/\w.cell? (b,4)=some v:=⟨h 0 _ rfl,h 1 _ rfl,h 2 _ rfl,h 3 _ rfl,h 4 _ rfl⟩
def Per(w:World)(P:World->Prop):Prop:=∀w',Ex w w'->P w'
theorem H7{w w':World}{P:World->Prop}(h:Hia (Per w P))(hx:Ex w w'):Hia (Per w' P):=fun v hv=>h v (hx.trans hv)
theorem Od{w:World}{P Q:World->Prop}(h:Hia (Per w P))(hq:∀v,Ex w v->Q v):Hia (Per w fun v=>Q v/\P v):=fun v hv=>⟨hq v hv,h v hv⟩
theorem Pk{w w':World}{P Q:World->Prop}(h:Hia (Per w P))(hx:Ex w w')(hq:∀v,Ex w' v->Q v):Hia (Per w' fun v=>Q v/\P v):=Od (H7 h hx) hq
theorem at_{w:World}{P:World->Prop}(h:Hia (Per w P)):P w:=h w (Ex.refl w)
theorem VD(w:World):Calls Tryz.prog 13 #[] w fun r w'=>r= .returned (.bool true)/\Ex w w':=by
 have A:Hia (Per w fun v=>Ex w v):=fun v h=>h;go_enter Tryz.func13,Tryz.ntmps13
 go_upto_region 5 with fail
 generalize hW:ζu _ _=W;obtain⟨B,hB⟩:=nA w.heap.size;simp only[hB,ζw,νt]at hW ⊢;obtain⟨ew,H⟩:=NN [_,_,_,_,_,_,_,_,_,_] hW hB;clear hW hB;have i1:=Hx [1,1,0] (H 1 _ rfl);have i2:=RW [[1,1,0]] (H 2 _ rfl) (rows1 i1);have i4:=Hx [1,2] (H 4 _ rfl);have i5:=RW [[1,2]] (H 5 _ rfl) (rows1 i4);have i7:=Hx [1,0] (H 7 _ rfl);have i8:=Hx [2,1] (H 8 _ rfl);replace A:=H7 A ew;replace A:=Od A fun _ h=>i2.ex h;replace A:=Od A fun _ h=>i5.ex h;replace A:=Od A fun _ h=>i7.ex h;replace A:=Od A fun _ h=>i8.ex h;replace A:=Od A fun _ h=>(Jp (b:=B) (H 0 _ rfl)).ex h;replace A:=Od A fun _ h=>(Jp (H 3 _ rfl)).ex h;replace A:=Od A fun _ h=>(Jp (H 6 _ rfl)).ex h;replace A:=Od A fun _ h=>(Jp (H 9 _ rfl)).ex h;clear ew H i1 i2 i4 i5 i7 i8;obtain⟨aS,aR,aQ⟩:=(at_ A).2.2.2.1.o3;obtain⟨aN,aM,aL⟩:=(at_ A).1.o3;go_wp2_with fail
 refine(k_pts _ _ _ (at_ A).2.2.2.2.2.1 (at_ A).2.2.2.2.1).mono ?_;rintro e w1⟨pa,pc,rfl,hp,bV⟩;clear aS aR aQ aN aM aL;replace A:=Pk A bV fun _ h=>hp.ex h;clear bV hp;obtain⟨aS,aR,aQ⟩:=(at_ A).2.2.2.2.1.o3;go_wp2_with fail
 refine(ZV _ _ (Kf _ [3,2,0,1] _ _ rfl rfl rfl ae)).mono ?_;rintro e w2⟨ma,mc,sa,sc,rfl,hm,hs,aX⟩;replace aX:=(AF _ _).trans aX;clear aS aR aQ;replace A:=Pk A aX fun _ h=>hm.ex h;replace A:=Od A fun _ h=>hs.ex h;clear aX hm hs;obtain⟨C1,bB⟩:∃B,w2.heap.size=B:=⟨_,rfl⟩;replace A:=Pk A (AF _ _) fun _ h=>(GD #[(ma,2,mc),(sa,2,sc),Ω] 26 bB).ex h;go_upto_region 7 with fail
 try simp only[bB]
 clear bB;generalize ζu _ _=v2 at *;obtain⟨aE,aD,aC,aB,aA⟩:=(at_ A).2.2.2.2.2.2.1.o5;go_wp2_with fail
 refine(k_grp _ _ (at_ A).2.2.2.2.2.2.2.2.2.2.2.1).mono ?_;rintro e w3⟨ga,gc,rfl,hg,bU⟩;clear aE aD aC aB aA;replace A:=Pk A bU fun _ h=>hg.ex h;clear bU hg;obtain⟨C2,bA⟩:∃B,w3.heap.size=B:=⟨_,rfl⟩;replace A:=Pk A (AF _ _) fun _ h=>(GD #[(3:Int),(ga,1,gc)] 43 bA).ex h;go_upto_region 8 with fail
 try simp only[bA]
 clear bA;generalize ζu _ _=v3 at *;obtain⟨aE,aD,aC,aB,aA⟩:=(at_ A).2.2.2.2.2.2.2.2.1.o5;go_wp2_with fail
 refine(k_pos _ _ (at_ A).2.2.2.2.2.2.2.2.2.2.2.2.2.1).mono ?_;rintro e w4⟨oa,oc,rfl,ho,bT⟩;clear aE aD aC aB aA;replace A:=Pk A bT fun _ h=>ho.ex h;clear bT ho;obtain⟨aE,aD,aC,aB,aA⟩:=(at_ A).2.2.2.2.2.2.2.2.2.1.o5;go_wp2_with fail
 refine(k_cer _ _ (at_ A).2.2.2.2.2.2.2.2.2.2.2.2.2.2.1).mono ?_;rintro e w5⟨ya,yc,yb,yd,rfl,hy,hz,bS⟩;clear aE aD aC aB aA;replace A:=Pk A bS fun _ h=>hy.ex h;replace A:=Od A fun _ h=>hz.ex h;clear bS hy hz;obtain⟨C3,aZ⟩:∃B,w5.heap.size=B:=⟨_,rfl⟩;replace A:=Pk A (AF _ _) fun _ h=>(GD #[(3:Int),(ya,1,yc),(yb,2,yd)] 53 aZ).ex h;go_upto_region 10 with fail
 try simp only[aZ]
 clear aZ;generalize ζu _ _=v5 at *;obtain⟨aE,aD,aC,aB,aA⟩:=(at_ A).2.2.2.2.2.2.2.2.2.2.2.2.1.o5;obtain⟨aK,aJ,aI⟩:=(at_ A).1.o3;go_wp2_with fail
 refine(ZW _ _ _ _ (at_ A).2.2.2.2.2.2.2.2.2.2.2.2.2.2.2.2.2.1 (at_ A).2.2.1 (at_ A).2.1).mono ?_;rintro e w6⟨na,nn,nc,rfl,hn,bR⟩;clear aE aD aC aB aA aK aJ aI;replace A:=Pk A bR fun _ h=>hn.ex h;clear bR hn;obtain⟨bN,bM,bL,bK,bJ⟩:=(at_ A).2.2.2.2.2.2.2.2.2.2.2.2.1.o5;go_wp2_with fail
 refine(k_grpT _ _ (at_ A).2.2.2.2.2.2.2.2.2.2.2.2.2.2.2.2.2.1).mono ?_;rintro e w7⟨ta,tc,rfl,ht,bQ⟩;clear bN bM bL bK bJ;replace A:=Pk A bQ fun _ h=>ht.ex h;clear bQ ht;obtain⟨C4,aY⟩:∃B,w7.heap.size=B:=⟨_,rfl⟩;replace A:=Pk A (AF _ _) fun _ h=>(GD #[(4:Int),(ta,1,tc)] 43 aY).ex h;go_upto_region 12 with fail
 try simp only[aY]
 clear aY;generalize ζu _ _=v7 at *;obtain⟨bD,bC⟩:=(at_ A).1.o2;go_wp2_with fail
 refine(k_sizT _ _ (at_ A).2.1).mono ?_;rintro e w8⟨ua,un,uc,rfl,hu,bP⟩;clear bD bC;replace A:=Pk A bP fun _ h=>hu.ex h;clear bP hu;go_upto_region 16 with fail
 generalize hV:ζu _ _=V;obtain⟨D,hD⟩:∃B,w8.heap.size=B:=⟨_,rfl⟩;simp only[hD,ζw,νt]at hV ⊢;obtain⟨ew,H⟩:=NN [_,_,_,_,_,_] hV hD;clear hV hD;have i0:=Hx (b:=D) [0,1] (H 0 _ rfl);have i1:=Hx [0,1,2] (H 1 _ rfl);have i2:=Hx [1,0,2] (H 2 _ rfl);have i3:=RW [[0,1,2], [1,0,2]] (H 3 _ rfl) (rows2 i1 i2);have i4:ER V _ cL:=lsl_of ⟨0, [0,1], [[0,1,2], [1,0,2]]⟩ (H 4 _ rfl) i0 i3;replace A:=H7 A ew;replace A:=Od A fun _ h=>i4.ex h;replace A:=Od A fun _ h=>(Jp (H 5 _ rfl)).ex h;clear ew H i0 i1 i2 i3 i4;go_wp2_with fail
 refine(k_ints _ _ _ [3,2,0,1] ((at_ A).2.2.2.2.2.2.2.2.2.2.2.2.2.2.2.1.ex (AF _ _)) (Kf _ [3,2,0,1] _ _ rfl rfl rfl ae)).mono ?_;rintro e w9⟨rfl,aW⟩;replace aW:=(AF _ _).trans aW;replace A:=H7 A aW;clear aW;obtain⟨bG,bF,bE⟩:=(at_ A).2.2.2.2.2.2.2.2.2.2.2.2.1.o3;obtain⟨aN,aM,aL⟩:=(at_ A).2.2.2.2.2.2.2.2.2.2.2.2.2.2.2.2.1.o3;go_wp2_with fail
 refine(k_map _ [1,0] [2,1] _ _ _ _ (at_ A).2.2.2.2.2.2.2.2.2.2.2.2.2.2.1 (at_ A).2.2.2.2.2.2.2.2.2.2.2.2.2.1 (at_ A).2.2.2.2.2.2.2.2.2.2.2.2.2.2.2.2.2.2.2.2.2.1 (at_ A).2.2.2.2.2.2.2.2.2.2.2.2.2.2.2.2.2.2.2.2.1).mono ?_;rintro e w10⟨rfl,aV⟩;clear bG bF bE aN aM aL;replace A:=H7 A aV;clear aV;obtain⟨bI,bH⟩:=(at_ A).2.2.2.2.2.2.2.2.2.2.1.o2;obtain⟨aP,aO⟩:=(at_ A).1.o2;go_wp2_with fail
 refine(Qk _ _ _ (at_ A).2.2.2.2.2.2.2.2.2.2.2.1 (at_ A).2.1).mono ?_;rintro e w11⟨rfl,aU⟩;clear bI bH aP aO;replace A:=H7 A aU;clear aU;go_wp2_with fail
 have hz:=(Kf w11 [0,1] #[Ω,(1:Int)] 3 rfl rfl rfl ae).ex (AF _ (.cells #[(2:Int)] 3));have bO:=Kf (w11.alloc (.cells #[Ω,(1:Int)] 3)) [2] #[(2:Int)] 3 rfl (B:=w11.heap.size+1) ag rfl ae;have bW:((w11.alloc (.cells #[Ω,(1:Int)] 3)).alloc (.cells #[(2:Int)] 3)).heap.size=w11.heap.size+1+1:=by simp
 refine(k_rows _ _ _ [[0,1], [2]] ((at_ A).2.2.2.2.2.2.2.2.2.1.ex (((AF _ _).trans (AF _ _)).trans (AF _ _))) (ZN _ [[0,1], [2]] [.slice (some (w11.heap.size,0)) 2 2,.slice (some (w11.heap.size+1,0)) 1 1] _ _ rfl rfl (rows2 hz bO) bW rfl ae)).mono ?_;rintro e w12⟨rfl,aH⟩;replace aH:=(((AF _ _).trans (AF _ _)).trans (AF _ _)).trans aH;replace A:=H7 A aH;clear aH;clear hz bO bW;go_wp2_with fail
 refine(Xg _ 2 ac _ _ ((at_ A).2.2.2.2.2.1.ex (AF _ _)) (Tm _ 2 ac ac)).mono ?_;rintro e w13⟨rfl,aG⟩;replace aG:=(AF _ _).trans aG;replace A:=H7 A aG;clear aG;go_wp2_with fail
 refine(Xg _ 4 ac _ _ ((at_ A).2.2.1.ex (AF _ _)) (Tm _ 4 ac ac)).mono ?_;rintro e w14⟨rfl,aF⟩;replace aF:=(AF _ _).trans aF;replace A:=H7 A aF;clear aF;obtain⟨aK,aJ,aI⟩:=(at_ A).2.2.2.2.2.2.1.o3;obtain⟨aP,aO⟩:=(at_ A).1.o2;go_wp2_with fail
 refine(Qk _ _ _ (at_ A).2.2.2.2.2.2.2.2.1 (at_ A).2.1).mono ?_;rintro e w15⟨rfl,aT⟩;clear aK aJ aI aP aO;replace A:=H7 A aT;clear aT;obtain⟨RX,ro,rfl,r0,r1,r2,r3⟩:=esl_eX (at_ A).2.2.2.2.2.2.2.1;obtain⟨aK,aJ,aI⟩:=(at_ A).2.2.2.2.2.2.1.o3;go_wp2_with fail
 go_ret;exact⟨rfl,(at_ A).2.2.2.2.2.2.2.2.2.2.2.2.2.2.2.2.2.2.2.2.2.2.2.2⟩
theorem QO{α:Type}[DecidableEq α](x:α):∀(l aA:List α),OY aA (l ++ [x])=if x∈OY aA l then OY aA l else OY aA l ++ [x]
 | [],aA=>rfl
 | y :: l,aA=>QO x l (if y∈aA then aA else aA ++ [y])
theorem Uc{α:Type}[DecidableEq α]:∀(l aA:List α),(OY aA l).length<=aA.length+l.length
 | [],aA=>ζ _
 | y :: l,aA=>by
  have:=Uc l (if y∈aA then aA else aA ++ [y]);have e:(if y∈aA then aA else aA ++ [y]).length<=aA.length+1:=by
   split
   .omega
   .simp
  show(OY (if y∈aA then aA else aA ++ [y]) l).length<=_
  rw[γk];omega
theorem OL{α β:Type}(f:α->List β)(c:Nat):∀l:List α,(∀x∈l,(f x).length<=c)->(l.flatMap f).length<=l.length*c
 | [],_=>by simp
 | x :: l,h=>by
  have h1:=OL f c l fun y hy=>h y (List.mem_cons_of_mem _ hy);have h2:=h x List.mem_cons_self;rw[List.flatMap_cons,ν,γk,ζg];omega
theorem IA(q:Nat)(tl sl:List Int):∀n,(Gx q tl sl n).length<=n*q
 | 0=>by unfold Gx;simp
 | n+1=>by
  have h1:=IA q tl sl n;have e:Gx q tl sl (n+1)=Gx q tl sl n++VL q tl sl n:=by
   unfold Gx;rw[List.range_succ,δf];simp
  have:(VL q tl sl n).length<=q:=by
   unfold VL;split
   .simp
   .simp
  rw[e,ν,ζg];omega
theorem Jd{q n b:Nat}(hb:n*q<=b):∀(k:Nat) (tl sl:List Int),(Ca q n k tl sl).length<=b^k
 | 0,tl,sl=>by unfold Ca;simp
 | k+1,tl,sl=>by
  unfold Ca;refine μ (OL _ (b^k) _ fun x _=>Jd hb k _ _) ?_;rw[γp,γq];exact ζx _ (μ (IA q tl sl n) hb)
def Fq(q n k:Nat)(tl sl:List Int)(i:Nat):List (List Int × List Int):=((Gx q tl sl n).take i).flatMap fun x=>Ca q n k x.1 x.2
theorem R4{q n k:Nat}{tl sl:List Int}{i:Nat}(hi:i<(Gx q tl sl n).length):Fq q n k tl sl (i+1)=Fq q n k tl sl i++Ca q n k ((Gx q tl sl n)[i]'hi).1 ((Gx q tl sl n)[i]'hi).2:=by
 unfold Fq;rw[γd,γ hi,δf];simp
theorem Vf{q n k:Nat}{tl sl:List Int}:Fq q n k tl sl (Gx q tl sl n).length=Ca q n (k+1) tl sl:=by
 unfold Fq;rw[γf];rfl
theorem Ve{q n b k:Nat}{tl sl:List Int}(hb:n*q<=b)(i:Nat):(Fq q n k tl sl i).length<=b^(k+1):=by
 unfold Fq;refine μ (OL _ (b^k) _ fun x _=>Jd hb k _ _) ?_;rw[γp,γq];exact ζx _ (μ bh (μ (IA q tl sl n) hb))
section
variable {p m N k:Nat} {ml:List Int} {l M M2:List (List Int)} {x:List Int × List Int}
theorem V2(hW:Ha p m ml N){pl sl:List Int}(h1:AW p m ml N l M pl sl)(h2:AW p m ml N l M2 pl sl)(k1:Bw p m ml N M 0)(k2:Bw p m ml N M2 0):M=M2:=by
 obtain⟨piv1,a1,e1,f1⟩:=Ns k1;obtain⟨piv2,a2,e2,f2⟩:=Ns k2;rw[<-f1,<-f2];exact(Lz hW.hp hW.hm (fun y=>(h1.sol y).trans (h2.sol y).symm) e1 e2).1
open Classical in
noncomputable def YH (p m:Nat) (ml:List Int) (N:Nat) (l:List (List Int)) (x:List Int × List Int):List (List Int):=Classical.epsilon fun M=>AW p m ml N l M x.1 x.2/\Bw p m ml N M 0
def SU(p m:Nat)(ml:List Int)(N:Nat)(l:List (List Int))(x:List Int × List Int):Prop:=AW p m ml N l (YH p m ml N l x) x.1 x.2/\Bw p m ml N (YH p m ml N l x) 0
theorem im_ok(hW:Ha p m ml N)(hT:AW p m ml N l M x.1 x.2)(ho:Bw p m ml N M 0):YH p m ml N l x=M/\SU p m ml N l x:=by
 have h:SU p m ml N l x:=Classical.epsilon_spec (p:=fun M=>AW p m ml N l M x.1 x.2/\Bw p m ml N M 0) ⟨M,hT,ho⟩;exact⟨V2 hW h.1 hT h.2 ho,h⟩
theorem S4(q n:Nat):Q5 q n [] []:=⟨rfl,fun i hi=>absurd hi (ζf _),fun i j hi=>absurd hi (ζf _),fun i hi=>absurd hi (ζf _)⟩
theorem P9(h:El p m ml N l):x∈Ca (p^m) N N [] []↔Bv p m ml x.1 x.2 0 N/\∀i,i<N->0<=x.1.getD i 0:=by
 have hW:=h.two.1;constructor
 .intro hx;obtain⟨hv,hl⟩:=Jb N [] [] (S4 _ _) x hx;have hl:x.1.length=N:=by rw[hl];simp
  exact⟨⟨hW.hp,hW.hm,hW.hF,hW.n1,hW.n2,hl,by rw[hv.len,hl],hv.injN hl,fun i hi=>hv.sc i ac,by have:=hW.hm;omega⟩,fun i hi=>(hv.rng i ac).1⟩
 .rintro⟨hM,hn⟩;have hv:Q5 (p^m) N x.1 x.2:=by
   refine⟨by rw[hM.pll,hM.sll],fun i hi=>?_,fun i j hi hj e=>?_,fun i hi=>hM.sc i (by rw[<-hM.pll];exact hi)⟩
   .rw[hM.pll]at hi;have h1:=hn i hi;have h2:=hM.inj.lt i hi;unfold BJ at h2;omega
   .rw[hM.pll]at hi;have:=hM.inj.inj j i ac hi (by unfold BJ;rw[e]);omega
  have:=Nb hv N 0 (by rw[hM.pll];omega);rw[κv,κv]at this;exact this
theorem Vd(h:El p m ml N l)(hx:x∈Ca (p^m) N N [] []):Ef p m ml N x.1 x.2 0=0:=by
 have hW:=h.two.1;obtain⟨hv,hl⟩:=Jb N [] [] (S4 _ _) x hx;have hl:x.1.length=N:=by rw[hl];simp
 have aA:x.2.length=N:=by rw[hv.len,hl]
 have hc:Cm p m ml=0:=(BU _ _ _).2 (DH h.co).1;have n1:=hW.n1;have n2:=hW.n2;have m1:=hW.hm;unfold Ef;rw[if_neg (by rw[hc];simp),if_neg ac,if_neg (by rw[hl,aA];simp),if_neg (by rw[hv.rngB];simp;omega),if_neg (by rw[hv.dup];simp)];simp only[Int.toNat_natCast];exact TX fun i hi=>hv.sc i ac
theorem img_of(h:El p m ml N l)(hx:x∈Ca (p^m) N N [] []){piv:List Nat}{a':Nat->Nat->Int}(aA:Ia p m ml N (Fv p m ml x.1 x.2 0 N l l.length).length (An (Fv p m ml x.1 x.2 0 N l l.length)) a' piv):
  Au N piv.length a'=YH p m ml N l x/\SU p m ml N l x:=by
 obtain⟨hM,hn⟩:=(P9 h).1 hx;have hT:=VZ hM hn aA rfl;have h2:=h.img ((BU _ _ _).2 (DH h.co).1) (by rw[GV (ζ _)];exact h.two.2.2.2) aA;obtain⟨e,hk⟩:=im_ok h.two.1 hT h2.co;exact⟨e.symm,hk⟩
theorem Z5(h:El p m ml N l)(aA:∀x∈Ca (p^m) N N [] [],SU p m ml N l x):
  EN (Jq p m ml N l)*(OY [] ((Ca (p^m) N N [] []).map (YH p m ml N l))).length=(Ca (p^m) N N [] []).length:=
 Vr (YH p m ml N l) _ (fib_aut h (YH p m ml N l) _ (JK N [] []) (fun _=>P9 h) (fun x hx l2 ho=>⟨fun hT=>(im_ok h.two.1 hT ho).1,fun e=>e ▸ (aA x hx).1⟩) fun x hx=>(aA x hx).2)
theorem Z2(ho:Bw p m ml N l 0)(hs:Smp ⟨p,m,ml,N,l⟩ k)(hk:k<=12)(hd:N*(p^m-1)<=64):
  El p m ml N l/\CH (EN (Jq p m ml N l))/\Bq ((N*(p^m-1):Nat):Int) (Jq p m ml N l)=0:=by
 have h:=smC_of ho hs hk hd;refine⟨h,?_,Yi h.d1 h.hd h.fnd_isP⟩;have hL:(Jq p m ml N l).length<=64:=by
  unfold Jq Ck;refine μ (List.length_filter_le _ _) ?_;rw[List.length_map,List.length_range];exact h.hd
 have:=Kx (L:=Jq p m ml N l) (fun q hq=>by
  unfold Jq at hq;rw[EH]at hq;exact μ (Lb hq) h.hd) _ hL
 rwa[γf]at this
end
def Ri(us:List (Value × Value)):List Value:=us.flatMap fun u=> [u.1,u.2,.int .i64 0]
theorem ZP(us vs:List (Value × Value)):Ri (us++vs)=Ri us++Ri vs:=δf
theorem Tu:∀(us:List (Value × Value)) (i:Nat) (u:Value × Value),us[i]?=some u->(Ri us)[i*3]?=some u.1/\(Ri us)[i*3+1]?=some u.2/\(Ri us)[i*3+2]?=some (.int .i64 0)
 | [],i,u,h=>by cases h
 | d :: us,0,u,h=>by
  simp only[θk,Option.some.injEq]at h;subst h;exact⟨rfl,rfl,rfl⟩
 | d :: us,i+1,u,h=>by
  have:=Tu us i u ay;have e:∀k,(Ri (d :: us))[(i+1)*3+k]?=(Ri us)[i*3+k]?:=fun k=>by
   show(d.1 :: d.2 :: .int .i64 0 :: Ri us)[(i+1)*3+k]?=_
   rw[show(i+1)*3+k=i*3+k+1+1+1 from ac];simp only[ιw]
  exact⟨(e 0).trans this.1,(e 1).trans this.2.1,(e 2).trans this.2.2⟩
theorem Ak.kept{w w':World}{u v:Value}{l:List Int}(h:Ak w u l)(hg:w.grownBy w' v.ownBlock)(ha:AD u v):Ak w' u l:=by
 obtain⟨h1,a,cap,rfl,h2,h3,h4⟩:=h;refine⟨h1,a,cap,rfl,h2,h3,fun hp=>?_⟩;obtain⟨b,o,rfl,h5⟩:=h4 hp;refine⟨b,o,rfl,fun j u hj=>hg.cell (h5 j u hj) ?_⟩;rcases ha with ha|ha
 .cases ha
 .exact ha
def Mb(lo:Nat)(w:World)(tv sv v u:Value)(l:List Int):Prop:=
 Ak w u l/\AD u v/\∀B,u.ownBlock=some B->B<w.heap.size/\(tv.ownBlock=some B∨sv.ownBlock=some B∨lo<=B)
theorem Mb.later{lo:Nat}{w w':World}{tv sv v u:Value}{l:List Int}(h:Mb lo w tv sv v u l)(hx:Ex w w'):Mb lo w' tv sv v u l:=
 ⟨h.1.ex hx,h.2.1,fun B hB=>⟨Δ (h.2.2 B hB).1 hx.size,(h.2.2 B hB).2⟩⟩
theorem Mb.kept{lo:Nat}{w w':World}{tv sv v v' u:Value}{l:List Int}(h:Mb lo w tv sv v u l)(hg:w.grownBy w' v.ownBlock)(aA:v'.ownBlock=v.ownBlock∨v'.ownBlock=some w.heap.size):Mb lo w' tv sv v' u l:=by
 refine⟨h.1.kept hg h.2.1,?_,fun B hB=>⟨Δ (h.2.2 B hB).1 hg.size,(h.2.2 B hB).2⟩⟩;rcases aA with e|e
 .have:=h.2.1;unfold AD at *;rw[e];exact this
 .unfold AD;right;rw[e];intro k;exact Nat.lt_irrefl _ (h.2.2 _ k).1
theorem Mb.up{lo lo2:Nat}{w:World}{tv sv aA aB v v2 u:Value}{l:List Int}(h:Mb lo2 w aA aB v2 u l)(h1:AD aA v)(h2:AD aB v)
  (hv:∀B,v.ownBlock=some B->B<lo2) (ht:∀B,aA.ownBlock=some B->lo<=B) (hs:∀B,aB.ownBlock=some B->lo<=B) (hlo:lo<=lo2):Mb lo w tv sv v u l:=by
 refine⟨h.1,?_,fun B hB=>⟨(h.2.2 B hB).1,.inr (.inr ?_)⟩⟩
 .unfold AD at *
  cases hu:u.ownBlock with
  | none=>exact .inl rfl
  | some B=>
   right;rcases (h.2.2 B hu).2 with k|k|k
   .rcases h1 with e|e
    .rw[e]at k;cases k
    .rw[<-k];exact e
   .rcases h2 with e|e
    .rw[e]at k;cases k
    .rw[<-k];exact e
   .intro e;have:=hv B e.symm;omega
 .rcases (h.2.2 B hB).2 with k|k|k
  .exact ht B k
  .exact hs B k
  .omega
structure NA(lo:Nat)(w:World)(tv sv v:Value)(L:List (List Int × List Int))(us:List (Value × Value)):Prop where
 len:us.length=L.length
 own:w.ownsRow lo 26 3 v L.length (Ri us)
 at_:∀(i:Nat) (x:List Int × List Int) (u:Value × Value),L[i]?=some x->us[i]?=some u->Mb lo w tv sv v u.1 x.1/\Mb lo w tv sv v u.2 x.2
section
variable {lo:Nat} {w w':World} {tv sv v v':Value} {L L2:List (List Int × List Int)} {us us2:List (Value × Value)}
theorem NA.nil:NA lo w tv sv (.slice none 0 0) [] []:=⟨rfl,ϋ _ _ _ _,fun i x u h=>by simp at h⟩
theorem NA.later(h:NA lo w tv sv v L us)(hx:Ex w w'):NA lo w' tv sv v L us:=
 ⟨h.len,Ag h.own hx,fun i x u a b=>⟨(h.at_ i x u a b).1.later hx,(h.at_ i x u a b).2.later hx⟩⟩
theorem NA.app(h:NA lo w tv sv v L us)(hl:us2.length=L2.length)
  (k:∀(i:Nat) (x:List Int × List Int) (u:Value × Value),L2[i]?=some x->us2[i]?=some u->Mb lo w tv sv v u.1 x.1/\Mb lo w tv sv v u.2 x.2)
  (ho:w'.ownsRow lo 26 3 v' (L.length+L2.length) (Ri us++Ri us2)) (hg:w.grownBy w' v.ownBlock) (aA:v'.ownBlock=v.ownBlock∨v'.ownBlock=some w.heap.size):
  NA lo w' tv sv v' (L++L2) (us++us2):=by
 refine⟨by simp[h.len,hl],by rw[ν,ZP];exact ho,fun i x u a b=>?_⟩;by_cases hi:i<L.length
 .rw[ο hi]at a;rw[ο ba]at b;exact⟨(h.at_ i x u a b).1.kept hg aA,(h.at_ i x u a b).2.kept hg aA⟩
 .rw[τ ac]at a;rw[τ (by rw[h.len];omega),h.len]at b;exact⟨(k _ x u a b).1.kept hg aA,(k _ x u a b).2.kept hg aA⟩
end
section
variable {lo lo2:Nat} {w:World} {tv sv v u:Value} {tl sl l:List Int} {L:List (List Int × List Int)} {us:List (Value × Value)}
theorem NA.one(ht:Ak w tv tl)(hs:Ak w sv sl)(h1:∀B,tv.ownBlock=some B->B<w.heap.size)(h2:∀B,sv.ownBlock=some B->B<w.heap.size)(aB:lo<=w.heap.size):
  NA lo (w.alloc (.cells #[tv,sv,Ω] 26)) tv sv (.slice (some (w.heap.size,0)) 1 1) [(tl,sl)] [(tv,sv)]:=by
 have aA:(w.alloc (.cells #[tv,sv,Ω] 26)).heap.size=w.heap.size+1:=ag;refine⟨rfl,Cx (World.ownsRow_lit w #[tv,sv,Ω] 1 (ζ _) ai rfl) aB,fun i x u a b=>?_⟩;have hi:i=0:=by
  exact zc8
 subst hi;simp at a b;subst a b;have hn:∀B,(Value.slice (some (w.heap.size,0)) 1 1).ownBlock=some B->w.heap.size<=B:=fun B hB=>by
  have:some w.heap.size=some B:=hB;injection this with this;omega
 exact⟨⟨ht.ex (AF w _),(BO hn h1).symm,fun B hB=>⟨by rw[aA];have:=h1 B hB;omega,.inl hB⟩⟩,
  ⟨hs.ex (AF w _),(BO hn h2).symm,fun B hB=>⟨by rw[aA];have:=h2 B hB;omega,.inr (.inl hB)⟩⟩⟩
theorem Mb.mono(h:Mb lo2 w tv sv v u l)(hl:lo<=lo2):Mb lo w tv sv v u l:=
 ⟨h.1,h.2.1,fun B hB=>⟨(h.2.2 B hB).1,(h.2.2 B hB).2.imp id (Or.imp id (μ hl))⟩⟩
theorem NA.mono(h:NA lo2 w tv sv v L us)(hl:lo<=lo2):NA lo w tv sv v L us:=
 ⟨h.len,Cx h.own hl,fun i x u a b=>⟨(h.at_ i x u a b).1.mono hl,(h.at_ i x u a b).2.mono hl⟩⟩
theorem ZO(h:NA lo w tv sv v L us):∀u∈Ri us,u.oneCell'=true:=fun u hu=>by
 obtain⟨c,hc,hu⟩:=List.mem_flatMap.1 hu;obtain⟨i,hi,rfl⟩:=List.getElem_of_mem hc;have hL:i<L.length:=by rw[<-h.len];exact hi
 obtain⟨h1,h2⟩:=h.at_ i _ _ (γ hL) (γ hi);obtain⟨a1,c1,e1,-⟩:=h1.1.open;obtain⟨a2,c2,e2,-⟩:=h2.1.open;simp only[List.mem_cons,List.not_mem_nil,or_false]at hu;rcases hu with rfl|rfl|rfl
 .rw[e1];simp[Value.oneCell']
 .rw[e2];simp[Value.oneCell']
 .simp[Value.oneCell']
end
section
variable {w2 wr:World} {xv lv:Value} {xs:List (List Int × List Int)} {cs:List (Value × Value)}
theorem NxR.get2(h:NxR w2 wr xv xs cs lv){i:Nat}(hi:i<xs.length):∃(b cap:Nat) (u1 u2:Value),xv= .slice (some (b,0)) xs.length cap/\wr.cell? (b,i*2)=some u1/\wr.cell? (b,i*2+1)=some u2/\Ak wr u1 (xs[i]'hi).1/\Ak wr u2 (xs[i]'hi).2/\AD u1 lv/\AD u2 lv/\(∀B,u1.ownBlock=some B->w2.heap.size<=B/\B<wr.heap.size)/\(∀B,u2.ownBlock=some B->w2.heap.size<=B/\B<wr.heap.size):=by
 have hg:cs[i]?=some (cs[i]'ba):=γ _;obtain⟨p1,p2,p3,p4⟩:=h.at_ i _ _ (γ hi) hg;obtain⟨g1,g2⟩:=TV cs i _ hg;obtain⟨b,cap,e,-,-⟩:=Dz h.own ac;obtain⟨-,a',cap',e2,-,-,h5⟩:=Sl.own h.own;obtain⟨b',o',e3,h6⟩:=h5 ac;rw[e]at e2;injection e2 with e2 _ _;rw[e3]at e2;injection e2 with e2;injection e2 with e4 e5 _;subst e4 e5;refine⟨b,cap,_,_,e,?_,?_,Sl.own p1,Sl.own p2,p3,p4,p1.lt,p2.lt⟩
 .have:=h6 _ _ g1;rw[ύ]at this;exact this
 .have:=h6 _ _ g2;rw[ύ]at this;exact this
end
def MpR(q n k:Nat)(tl sl:List Int)(tv sv:Value)(w:World)(r:Ending)(w':World):Prop:=∃v us,r= .returned v/\NA w.heap.size w' tv sv v (Ca q n k tl sl) us/\Ex w w'
theorem Na{p m n:Nat}{ml:List Int}(hf:Gg p m ml)(hn:n<=4)(hq:n*p^m<=9)(m1:Value)(k:Nat)
  (ih:∀k0,k=k0+1->∀(w:World) (tl sl:List Int) (tv sv:Value),Ak w m1 ml->Ak w tv tl->Ak w sv sl->sl.length=tl.length->tl.length+k0=n->(∀B,tv.ownBlock=some B->B<w.heap.size)->(∀B,sv.ownBlock=some B->B<w.heap.size)->
   Calls Tryz.prog 38 #[.agg #[p,m,m1],n,.agg #[tv,sv]] w fun r w'=>MpR (p^m) n k0 tl sl tv sv w r w')
  (w:World) (tl sl:List Int) (tv sv:Value) (hm:Ak w m1 ml) (ht:Ak w tv tl) (hs:Ak w sv sl) (bT:sl.length=tl.length) (hk:tl.length+k=n) (bt:∀B,tv.ownBlock=some B->B<w.heap.size) (bs:∀B,sv.ownBlock=some B->B<w.heap.size):
  Calls Tryz.prog 38 #[.agg #[p,m,m1],n,.agg #[tv,sv]] w fun r w'=>MpR (p^m) n k tl sl tv sv w r w':=by
 obtain⟨a0,a1,a2,ea,bX⟩:=AA w p m m1;obtain⟨b0,b1,eb,bW⟩:=AQ (w.alloc (.cells #[p,m,m1] 24)) tv sv;rw[bX]at b0 b1 bW;replace a0:=eb.cell a0;replace a1:=eb.cell a1;replace a2:=eb.cell a2;obtain⟨HX,HM,HT,HS,cC,HK,dE,dF,dB,dC,cD,cG⟩:=Ha3 (ea.trans eb) hm ht hs bT hk bt bs ih hf hq hn;obtain⟨x3,y3,rfl,-,z3,-⟩:=hm.open;obtain⟨ta,tc,rfl,-,t2,t3⟩:=ht.open;obtain⟨sa,sc,rfl,-,s2,s3⟩:=hs.open;unfold maxLen at t2 s2 z3;obtain⟨B,hB⟩:=nA w.heap.size;rw[hB]at a0 a1 a2 b0 b1;clear hf hn hq hm ht hs ea eb bX t3 s3 bW bT bt bs ih;go_enter Tryz.func38,Tryz.ntmps38
 go_upto_region 1 with fail
 try simp only[hB]
 clear hB;generalize (w.alloc (.cells #[p,m,(x3,ml.length,y3)] 24)).alloc (.cells #[(ta,tl.length,tc),(sa,sl.length,sc)] 71)=w1 at *;have bP:=Aa (fun w' (h:Ex w1 w')=>(⟨h.cell a0,h.cell a1,h.cell a2⟩:w'.cell? (B,0)=some (.int .i64 (p:Int))/\w'.cell? (B,1)=some (.int .i64 (m:Int))/\w'.cell? (B,2)=some (.slice x3 ml.length y3)));rcases k with _|k
 .have aL:tl.length=n:=by omega
  have i1:((tl.length:Int)==(n:Int))=true:=by simp[aL]
  have i2:decide ((tl.length:Int)=(n:Int))=true:=by simp[aL]
  clear hk aL;go_wp2_with fail
  go_ret;have bC:=HX.o.size;exact⟨_,_,rfl,NA.one (HT.o.ex HX.o) (HS.o.ex HX.o) (fun B hB=>Δ (dE.o B hB) bC) (fun B hB=>Δ (dF.o B hB) bC) bC,HX.o.trans (AF _ _)⟩
 .have aL:tl.length≠n:=by omega
  have i1:((tl.length:Int)==(n:Int))=false:=aq;have i2:decide ((tl.length:Int)=(n:Int))=false:=aq;clear hk aL;go_wp2_with fail
  refine(UR w1 dC.o (by have:=cG.o;omega) _ (HM.o.ex HX.o) tl sl _ _ (HT.o.ex HX.o) (HS.o.ex HX.o) cC.o (by have:=HK.o;omega)).mono ?_;rintro e w3⟨xv,cs,w2,rfl,aI,bS,bR⟩;obtain⟨pa,pc,rfl⟩:=Ad aI.own;obtain⟨XS,aU⟩:∃l,Gx (p^m) tl sl n=l:=⟨_,rfl⟩;obtain⟨LX,aO⟩:∃k,XS.length=k:=⟨_,rfl⟩;have bK:=Aa aU;have aF:=Aa aO;rw[aU]at aI ⊢;rw[aO]at aI ⊢;obtain⟨bZ,cH,cR,bY,cY⟩:=On bS (NxR.of (lv:= .slice none 0 0) aI (fun B hB=>by cases hB)) bR aI.ex.size (fun x (hx:x∈XS)=>(by rw[<-bK.o]at hx;exact TZ x hx:x.1.length=tl.length+1/\x.2.length=sl.length+1));have dD:Hia (∀i,(Fq (p^m) n k tl sl i).length<=6561):=Aa (fun i=>by
   refine μ (Ve cD.o i) ?_;have h1:k+1<=4:=by have:=HK.o;have:=cG.o;omega
   exact μ (Nat.pow_le_pow_right ac h1) ac)
  have hlx:LX<=9:=by rw[<-aO,<-bK.o];exact μ (IA _ _ _ _) cD.o
  have cV:=Aa (fun i (hi:i<LX)=>(by
   subst aU;exact R4 (k:=k) (by rw[aO];exact hi):Fq (p^m) n k tl sl (i+1)=Fq (p^m) n k tl sl i++Ca (p^m) n k ((XS[i]'(by rw[aF.o];exact hi)).1) ((XS[i]'(by rw[aF.o];exact hi)).2)))
  clear aU aO aI bS bR a0 a1 a2 b0 b1 i1 i2;go_wp2_with fail
  go_loopw [7,26] (fun v' i' wr=>∃(i:Nat) (us:List (Value × Value)),i<=LX/\i'= .int .i64 i/\Hia (NA w2.heap.size wr (.slice ta tl.length tc) (.slice sa sl.length sc) v' (Fq (p^m) n k tl sl i) us)/\Hia (NxR w2 wr (.slice pa LX pc) XS cs v')/\Hia (Ex w1 wr)/\Hia (w2.heap.size<=wr.heap.size)) (fun _ i' _=>LX-(intOf i').toNat)
  case atStart=>exact⟨0, [],ac,rfl,Aa NA.nil,cH,cR,bY⟩
  case round=>
   clear cH bY;obtain⟨i,us,hi,rfl,aB,aJ,aQ,hz⟩:=hrel;obtain⟨oa,oc,rfl⟩:=Ad aB.o.own;obtain⟨LM,aW⟩:∃z,(Fq (p^m) n k tl sl i).length=z:=⟨_,rfl⟩;rw[aW]at aB aJ ⊢;have bN:=Aa aW;by_cases hlt:i<LX
   .obtain⟨b,cap,u1,u2,bB,d0,d1,aH,aG,bH,bG,bA,lo2⟩:=aJ.o.get2 (i:=i) (by rw[aF.o];exact hlt);rw[aF.o]at bB;obtain rfl:pa=some ⟨b,0,none⟩:=by injection bB
    have aR:=cV.o i hlt;have aC:=List.getElem_mem (l:=XS) (n:=i) (by rw[aF.o];exact hlt);obtain⟨x,hx⟩:∃x,XS[i]'(by rw[aF.o];exact hlt)=x:=⟨_,rfl⟩;rw[hx]at aH aG aR aC;obtain⟨xt,xs⟩:=x;dsimp only at aH aG aR;obtain⟨aT,aS⟩:=cY.o _ aC;dsimp only at aT aS;obtain⟨ua,uc,rfl,-⟩:=aH.open;obtain⟨ra,rc,rfl,-⟩:=aG.open;obtain⟨UT,bE⟩:∃k,xt.length=k:=⟨_,rfl⟩;obtain⟨RT,bF⟩:∃k,xs.length=k:=⟨_,rfl⟩;rw[bE]at d0 aH bH bA aT;rw[bF]at d1 aG bG lo2 aS;obtain⟨cA,cW,cT,cS,cN,cM,bJ,bI,cL,dA,aE,cI,cX,bL⟩:=Ha4 bE bF aH aG bH bG bA lo2 aT aS aR aB.o aJ.o aQ.o;have j1:(0:Int)<=(i:Int):=by omega
    have j2:(i:Int)<(LX:Int):=ac;have cK:=Aa hlt;clear bB aR aC hx aH aG aT aS bE bF bH bG bA lo2 aB aJ aQ aW hlt;go_upto_region 7 with fail
    obtain⟨XB,aV⟩:∃x,wr.heap.size=x:=⟨_,rfl⟩;have y0:(wr.alloc (.cells #[(ua,UT,uc),(ra,RT,rc)] 71)).cell? (XB,0)=some (.slice ua UT uc):=by rw[<-aV];simp
    have y1:(wr.alloc (.cells #[(ua,UT,uc),(ra,RT,rc)] 71)).cell? (XB,1)=some (.slice ra RT rc):=by rw[<-aV];simp
    have aA:=Aa (AF wr (.cells #[(ua,UT,uc),(ra,RT,rc)] 71))
    try simp only[aV]
    clear aV d0 d1 j1 j2;generalize wr.alloc (.cells #[(ua,UT,uc),(ra,RT,rc)] 71)=w5 at *;obtain⟨a0,a1,a2⟩:=bP.o w5 (bL.o.trans aA.o);go_wp2_with fail
    refine(dB.o k rfl w5 xt xs _ _ (HM.o.ex (HX.o.trans (bL.o.trans aA.o))) (cT.o.ex aA.o) (cS.o.ex aA.o) (by have:=cL.o;have:=dA.o;have:=cC.o;have:=cA.o;have:=cW.o;omega) (by have:=cL.o;have:=cA.o;have:=HK.o;omega) (fun B hB=>Δ (bJ.o B hB).2 aA.o.size) (fun B hB=>Δ (bI.o B hB).2 aA.o.size)).mono ?_;rintro e w6⟨v2,us2,rfl,aK,bQ⟩;obtain⟨L2,bV⟩:∃l,Ca (p^m) n k xt xs=l:=⟨_,rfl⟩;rw[bV]at aK aE;obtain⟨va,vc,rfl⟩:=Ad aK.own;obtain⟨K2,aX⟩:∃k,L2.length=k:=⟨_,rfl⟩;rw[aX]at aK
    try simp only[aX]
    have bO:=Aa aX;have aZ:=Aa aK;have aY:=Aa (aA.o.trans bQ);have cJ:=Aa (cI.o.later aY.o);have aP:Hia (LM+K2<=6561):=Aa (by
     have h1:=dD.o (i+1);have h2:=bN.o;have h3:=bO.o;rw[aE.o,ν]at h1;omega)
    have cE:Hia (w6.ownsRow w2.heap.size 26 3 (.slice oa LM oc) LM (Ri us)):=Aa (by have:=cJ.o.own;rwa[bN.o]at this);have cU:Hia (Sl w6 (.slice va K2 vc) K2 3 (Ri us2)):=Aa (by have:=Sl.own aZ.o.own;rwa[bO.o]at this);have cB:Hia (w2.heap.size<=w6.heap.size):=Aa (μ hz.o aY.o.size);clear bV aX aK bQ a0 a1 a2 y0 y1;go_wp2_with (at_builtin;refine A6 _ rfl _ _ 68 rfl w2.heap.size 26 (.agg #[(),(),Ω]) 3 56 Tryz.underlying68 Qn rfl ae _ LM _ rfl cE.o _ K2 _ rfl cU.o (ZO aZ.o) (by have:=aP.o;unfold maxLen;omega) (by have:=aP.o;omega) cB.o ?_)
    intro v8 w8 bD aM aD;have cF:=Aa (cJ.o.app (w':=w8) (v':=v8) aZ.o.len (fun j x u h1 h2=>by
     obtain⟨q1,q2⟩:=aZ.o.at_ j x u h1 h2;have hv:∀B,(Value.slice oa LM oc).ownBlock=some B->B<w5.heap.size:=fun B hB=>Δ (cI.o.own.lt B hB).2 aA.o.size;have bU:w2.heap.size<=w5.heap.size:=μ hz.o aA.o.size;exact⟨q1.up cN.o cM.o hv (fun B hB=>(bJ.o B hB).1) (fun B hB=>(bI.o B hB).1) bU,q2.up cN.o cM.o hv (fun B hB=>(bJ.o B hB).1) (fun B hB=>(bI.o B hB).1) bU⟩)
     (by rw[bN.o,bO.o];exact bD) aM aD)
    rw[<-aE.o]at cF;have bM:=Aa ((cX.o.kept (EF aY.o _) (.inl rfl)).kept (w':=w8) (lv':=v8) aM (aD.imp id fun e B hB=>by
     rw[hB]at e;injection e with e;omega))
    have cO:=Aa (μ cB.o aM.size);have cQ:=Aa (Ex.grown (bL.o.trans aY.o) cE.o bZ.o.size aM);obtain⟨qa,qc,rfl⟩:=Ad bD;clear bD aM aD;go_wp2_with fail
    go_roundw
    case rel=>exact⟨i+1,_,by have:=cK.o;omega,by go_num,cF,bM,cQ,cO⟩
    case measure=>have:=cK.o;simp[intOf];omega
   .obtain rfl:i=LX:=by omega
    have aN:Fq (p^m) n k tl sl i=Ca (p^m) n (k+1) tl sl:=by
     have h1:=bK.o;have h2:=aF.o;subst h1;rw[<-h2];exact Vf
    rw[aN]at aB;have cZ:=Aa (aB.o.mono (μ HX.o.size bZ.o.size));have cP:=Aa (HX.o.trans aQ.o);clear aB aJ aQ aN aW;go_wp2_with fail
    go_ret;exact⟨_,_,rfl,cZ.o,cP.o⟩
theorem Qa{p m n:Nat}{ml:List Int}(hf:Gg p m ml)(hn:n<=4)(hq:n*p^m<=9)(m1:Value):∀(k:Nat) (w:World) (tl sl:List Int) (tv sv:Value),Ak w m1 ml->Ak w tv tl->Ak w sv sl->sl.length=tl.length->tl.length+k=n->(∀B,tv.ownBlock=some B->B<w.heap.size)->(∀B,sv.ownBlock=some B->B<w.heap.size)->
  Calls Tryz.prog 38 #[.agg #[p,m,m1],n,.agg #[tv,sv]] w fun r w'=>MpR (p^m) n k tl sl tv sv w r w'
 | 0=>Na hf hn hq m1 0 fun k0 h=>by omega
 | k+1=>Na hf hn hq m1 (k+1) fun k0 h=>by
  obtain rfl:k=k0:=ac;exact Qa hf hn hq m1 k
def Sx(p m N:Int)(us:List (Value × Value)):List Value:=us.flatMap fun u=> [.int .i64 p,.int .i64 m,u.1,.int .i64 N,u.2]
theorem cdC_app(p m N:Int)(us vs:List (Value × Value)):Sx p m N (us++vs)=Sx p m N us++Sx p m N vs:=δf
theorem Um(p m N:Int):∀(us:List (Value × Value)) (i:Nat) (u:Value × Value),us[i]?=some u->(Sx p m N us)[i*5]?=some (.int .i64 p)/\(Sx p m N us)[i*5+1]?=some (.int .i64 m)/\(Sx p m N us)[i*5+2]?=some u.1/\(Sx p m N us)[i*5+3]?=some (.int .i64 N)/\(Sx p m N us)[i*5+4]?=some u.2
 | [],i,u,h=>by cases h
 | d :: us,0,u,h=>by
  simp only[θk,Option.some.injEq]at h;subst h;exact⟨rfl,rfl,rfl,rfl,rfl⟩
 | d :: us,i+1,u,h=>by
  have:=Um p m N us i u ay;have e:∀k,(Sx p m N (d :: us))[(i+1)*5+k]?=(Sx p m N us)[i*5+k]?:=fun k=>by
   show(.int .i64 p :: .int .i64 m :: d.1 :: .int .i64 N :: d.2 :: Sx p m N us)[(i+1)*5+k]?=_
   rw[show(i+1)*5+k=i*5+k+1+1+1+1+1 from ac];simp only[ιw]
  exact⟨(e 0).trans this.1,(e 1).trans this.2.1,(e 2).trans this.2.2.1,(e 3).trans this.2.2.2.1,(e 4).trans this.2.2.2.2⟩
theorem Sd{w w1 w2:World}{ob aA:Option Nat}(h:w.grownBy w1 ob)(h2:w1.grownBy w2 aA)(aC:aA=ob∨∀B,aA=some B->w.heap.size<=B):w.grownBy w2 ob:=
 ⟨h2.os.trans h.os,h2.tape.trans h.tape,h2.output.trans h.output,μ h.size h2.size,fun k hk aB=>by
  rw[h2.block k (Δ hk h.size) (fun e=>by
   rcases aC with e1|e1
   .exact aB (e.trans e1)
   .have:=e1 k e.symm;omega)]
  exact h.block k hk aB⟩
def VK(ml:List Int)(w:World)(v mv rv:Value)(M:List (List Int)):Prop:=∀w',w.grownBy w' v.ownBlock->Ak w' mv ml/\B6 w' rv M
section
variable {ml:List Int} {w w':World} {v v' mv rv:Value} {M:List (List Int)}
theorem VK.now(h:VK ml w v mv rv M):Ak w mv ml/\B6 w rv M:=h w (EF (Ex.refl w) _)
theorem VK.later(h:VK ml w v mv rv M)(hx:Ex w w'):VK ml w' v mv rv M:=fun w2 h2=>h w2 ((EF hx _).trans h2)
theorem VK.kept(h:VK ml w v mv rv M)(hg:w.grownBy w' v.ownBlock)(aA:v'.ownBlock=v.ownBlock∨∀B,v'.ownBlock=some B->w.heap.size<=B):VK ml w' v' mv rv M:=fun w2 h2=>h w2 (Sd hg h2 aA)
theorem VK.of{b0:Nat}(hm:Ak w mv ml)(hb:∀B,mv.ownBlock=some B->b0<=B)(hr:Hb b0 w rv M)(hv:∀B,v.ownBlock=some B->B<b0):VK ml w v mv rv M:=fun w2 h2=>
 ⟨hm.kept h2 (BO hb hv),hr w2 fun B h3 h4=>h2.block B h4 fun e=>by have:=hv B e.symm;omega⟩
end
structure VQ(lo:Nat)(p m N:Int)(ml:List Int)(w:World)(v:Value)(Ms:List (List (List Int)))(us:List (Value × Value)):Prop where
 len:us.length=Ms.length
 own:w.ownsRow lo 39 5 v Ms.length (Sx p m N us)
 at_:∀(i:Nat) (M:List (List Int)) (u:Value × Value),Ms[i]?=some M->us[i]?=some u->VK ml w v u.1 u.2 M
section
variable {lo:Nat} {p m N:Int} {ml:List Int} {w w':World} {v v' mv rv:Value} {Ms:List (List (List Int))} {M:List (List Int)} {us:List (Value × Value)}
theorem VQ.nil:VQ lo p m N ml w (.slice none 0 0) [] []:=⟨rfl,ϋ _ _ _ _,fun i x u h=>by simp at h⟩
theorem VQ.later(h:VQ lo p m N ml w v Ms us)(hx:Ex w w'):VQ lo p m N ml w' v Ms us:=
 ⟨h.len,Ag h.own hx,fun i x u a b=>(h.at_ i x u a b).later hx⟩
theorem VQ.app(h:VQ lo p m N ml w v Ms us)(hk:VK ml w v mv rv M)(ha:Bz w w' lo 39 5 v v' Ms.length (Sx p m N us) [.int .i64 p,.int .i64 m,mv,.int .i64 N,rv]):VQ lo p m N ml w' v' (Ms ++ [M]) (us ++ [(mv,rv)]):=by
 obtain⟨o,hg⟩:=ha.gr;have aA:w.grownBy w' v.ownBlock:=(EF (AF w o) _).trans hg;have aB:v'.ownBlock=v.ownBlock∨∀B,v'.ownBlock=some B->w.heap.size<=B:=by
  rcases ha.at_ with e|e
  .exact .inl e
  .right;intro B hB;rw[hB]at e;injection e with e;omega
 refine⟨by simp[h.len],?_,fun i x u a b=>?_⟩
 .rw[ν,cdC_app];exact ha.own
 .by_cases hi:i<Ms.length
  .rw[ο hi]at a;rw[ο ba]at b;exact(h.at_ i x u a b).kept aA aB
  .have aC:i=Ms.length:=by
    exact zc8
   subst aC;rw[τ (ζ _)]at a;rw[τ dn,h.len]at b;simp at a b;subst a b;exact hk.kept aA aB
theorem VQ.get(h:VQ lo p m N ml w v Ms us){i:Nat}(hi:i<Ms.length):∃(b cap:Nat) (u1 u2:Value),v= .slice (some (b,0)) Ms.length cap/\w.cell? (b,i*5)=some (.int .i64 p)/\w.cell? (b,i*5+1)=some (.int .i64 m)/\w.cell? (b,i*5+2)=some u1/\w.cell? (b,i*5+3)=some (.int .i64 N)/\w.cell? (b,i*5+4)=some u2/\Ak w u1 ml/\B6 w u2 (Ms[i]'hi):=by
 have hg:us[i]?=some (us[i]'ba):=γ _;obtain⟨q1,q2⟩:=(h.at_ i _ _ (γ hi) hg).now;obtain⟨g0,g1,g2,g3,g4⟩:=Um p m N us i _ hg;obtain⟨b,cap,e,-,-⟩:=Dz h.own ac;obtain⟨-,a',cap',e2,-,-,h5⟩:=Sl.own h.own;obtain⟨b',o',e3,h6⟩:=h5 ac;rw[e]at e2;injection e2 with e2 _ _;rw[e3]at e2;injection e2 with e2;injection e2 with e4 e5;subst e4 e5;have k:∀j u,(Sx p m N us)[j]?=some u->w.cell? ⟨b,j,none⟩=some u:=fun j u hu=>by
  have:=h6 j u hu
  rwa[ύ]at this
 exact⟨b,cap,_,_,e,k _ _ g0,k _ _ g1,k _ _ g2,k _ _ g3,k _ _ g4,q1,q2⟩
end
theorem NA.get{lo:Nat}{w:World}{tv sv v:Value}{L:List (List Int × List Int)}{us:List (Value × Value)}(h:NA lo w tv sv v L us){i:Nat}(hi:i<L.length):∃(b cap:Nat) (u1 u2:Value),v= .slice (some (b,0)) L.length cap/\w.cell? (b,i*3)=some u1/\w.cell? (b,i*3+1)=some u2/\w.cell? (b,i*3+2)=some (.int .i64 0)/\Ak w u1 (L[i]'hi).1/\Ak w u2 (L[i]'hi).2:=by
 have hg:us[i]?=some (us[i]'ba):=γ _;obtain⟨q1,q2⟩:=h.at_ i _ _ (γ hi) hg;obtain⟨g0,g1,g2⟩:=Tu us i _ hg;obtain⟨b,cap,e,-,-⟩:=Dz h.own ac;obtain⟨-,a',cap',e2,-,-,h5⟩:=Sl.own h.own;obtain⟨b',o',e3,h6⟩:=h5 ac;rw[e]at e2;injection e2 with e2 _ _;rw[e3]at e2;injection e2 with e2;injection e2 with e4 e5;subst e4 e5;have k:∀j u,(Ri us)[j]?=some u->w.cell? ⟨b,j,none⟩=some u:=fun j u hu=>by
  have:=h6 j u hu
  rwa[ύ]at this
 exact⟨b,cap,_,_,e,k _ _ g0,k _ _ g1,k _ _ g2,q1.1,q2.1⟩
theorem UJ{p m n:Int}{ml:List Int}{A M:List (List Int)}:Wk ⟨p,m,ml,n,A⟩ ⟨p,m,ml,n,M⟩=decide (A=M):=by
 rw[Bool.eq_iff_iff,Wj,decide_eq_true_eq,AX.mk.injEq];exact⟨fun h=>h.2.2.2.2,fun h=>⟨rfl,rfl,rfl,rfl,h⟩⟩
theorem Mp{L:List (List (List Int))}{M x:List (List Int)}{j:Nat}(h:L[j]?=some x):decide (M∈L.take (j+1))=(decide (M∈L.take j)||decide (x=M)):=by
 rw[γd,h,Bool.eq_iff_iff,Bool.or_eq_true,decide_eq_true_eq,decide_eq_true_eq,decide_eq_true_eq,List.mem_append,Option.toList_some,List.mem_singleton];exact⟨fun h=>h.imp id Eq.symm,fun h=>h.imp id Eq.symm⟩
theorem app_okF{p m N fr:Nat}{ml pl ul:List Int}{rows:List (List Int)}{b0:Nat}{r:Ending}{w':World}(h:YA p m ml N rows pl ul fr b0 r w')(ho:Bw p m ml N rows 0)(aA:Ef p m ml N pl ul fr=0):
  ∃(piv:List Nat) (a':Nat->Nat->Int) (rv v':Value),r= .returned (.tuple #[.agg #[p,m,v',N,rv],Ω])/\Ia p m ml N (Fv p m ml pl ul fr N rows rows.length).length (An (Fv p m ml pl ul fr N rows rows.length)) a' piv/\Ak w' v' ml/\(∀B,v'.ownBlock=some B->b0<=B)/\Hb b0 w' rv (Au N piv.length a'):=by
 obtain⟨e1,aB,h⟩:=h;obtain rfl:=B3 aB ho;have aC:imA p m ml pl ul fr N rows=Fv p m ml pl ul fr N rows rows.length:=by unfold imA;simp
 obtain⟨p2,m2,N2,f2,j1,j2,j3,j4,hf,aD,hM⟩:=K8 aA;obtain rfl:p=p2:=ac;obtain rfl:m=m2:=ac;obtain rfl:N=N2:=ac;obtain rfl:fr=f2:=ac;rcases h with⟨h,_⟩|⟨_,h,_⟩|⟨_,_,h⟩
 .exact absurd rfl h
 .exact absurd aA h
 .rw[aC]at h;rcases h with⟨h,_⟩|⟨_,pn,mn,N',piv,a',rv,v',e1,e2,e3,_,_,hr,hel,hv,_,hb,g,blk,cap,base,h1,rfl,h2,h3,h4⟩
  .exact absurd (P0 aD (C6 ho).1 hM) h
  .obtain rfl:p=pn:=by omega
   obtain rfl:m=mn:=ac;obtain rfl:N=N':=ac;exact⟨piv,a',_,v',hr,hel,hv,hb,h2.mslF h1 h3 h4⟩
def CpR(x y:Nat)(r:Ending):Prop:=∃z:Int,r= .returned (.int .i64 z)/\(z=0↔x=y)
theorem OZ{x y:Nat}{z:Int}(hz:z≠0)(h:¬x=y):CpR x y (.returned (.int .i64 z)):=⟨z,rfl,fun e=>absurd e hz,fun e=>absurd e h⟩
theorem WP(w:World)(x y:Nat)(u v:Value)(hu:Hk w u x)(hv:Hk w v y)(hx:CH x)(hy:CH y):
  Calls Tryz.prog 36 #[u,v] w fun r w'=>CpR x y r/\Ex w w':=by
 obtain⟨n0,f,aG,aF,aL⟩:=hu;obtain⟨m0,g,aE,aD,aK⟩:=hv;have hn0:=hx.len aG aF;have hm0:=hy.len aE aD;obtain⟨aP,aO,HF,HG⟩:=Of (Ed w n0 f u aL aG.lt) (Ed w m0 g v aK aE.lt) aF aD;clear aG aF aL aE aD aK hx hy;go_enter Tryz.func36,Tryz.ntmps36
 go_wp2_with fail
 refine aP.o.mono ?_;rintro e w2⟨⟨u1,n,rfl,hn,c1,c2,c3⟩,rfl⟩;go_wp2_with fail
 refine aO.o.mono ?_;rintro e w2⟨⟨u2,m,rfl,hm,d1,d2,d3⟩,rfl⟩;have aI:vS f n=x:=c2.trans HF.o;have aH:vS g m=y:=d2.trans HG.o;obtain⟨ua,uc,rfl,_,s2,s3⟩:=c3.open;obtain⟨va,vc,rfl,_,t2,t3⟩:=d3.open;have S3:=Aa s3;have T3:=Aa t3;have aT:Hia (n=m->(∀i,i<n->f i=g i)->x=y):=Aa (fun e h=>by
  subst e;rw[<-aI,<-aH];exact Gi fun k hk=>h k hk)
 have aJ:Hia (x=y->n=m/\∀i,i<n->f i=g i):=Aa (fun e=>c1.uniq d1 (by rw[aI,aH,e]));unfold maxLen at s2 t2;clear c1 c2 c3 d1 d2 d3 aI aH s3 t3 aP aO HF HG;rcases δh n m with h|h|h
 .have HN:Hia (¬x=y):=Aa (fun e=>by have:=(aJ.o e).1;omega);have b1:((n:Int) !=(m:Int))=true:=by simp;omega
  have b2:(n:Int)<(m:Int):=ac;go_wp2_with fail
  go_ret;exact⟨OZ ae HN.o,Ex.refl _⟩
 .subst h;have b1:((n:Int) !=(n:Int))=false:=by simp
  have EX:=Aa (Ex.refl w2);go_wp2_with fail
  go_loopw [5] (fun i' wr=>∃i q:Nat,i<=n/\i'= .int .i64 ((i:Int)-1)/\wr=w2.drewN q/\Hia (∀k,i<=k->k<n->f k=g k)) (fun i' _=>((intOf i')+1).toNat)
  case atStart=>exact⟨n,0,ac,rfl,rfl,Aa (fun k h1 h2=>ac)⟩
  case round=>
   obtain⟨i,q,hi,rfl,rfl,aB⟩:=hrel
   cases i with
   | zero=>
    have HE:=Aa (aT.o (by first|rfl|trivial) fun k hk=>aB.o k (Nat.zero_le _) hk);go_wp2_with fail
    go_ret;exact⟨⟨0,rfl,fun _=>HE.o,fun _=>rfl⟩,(Ex.refl _).drewN q⟩
   | succ k=>
    have aQ:((k+1:Nat):Int)-1=(k:Int):=ac;rw[aQ];have i1:(0:Int)<=(k:Int):=ac;have i2:(k:Int)<(n:Int):=ac;obtain⟨b,o,rfl,hc⟩:=S3.o ac;obtain⟨bb,oo,rfl,hd⟩:=T3.o ac;have c1:=((Ex.refl w2).drewN q).cell (hc k ac);have c2:=((Ex.refl w2).drewN q).cell (hd k ac);obtain⟨W,hW⟩:=nA (w2.drewN q);rw[hW]at c1 c2 ⊢;have aR:=Aa hW;have aM:Hia (Ex w2 W):=Aa (by rw[<-hW];exact(Ex.refl _).drewN q);have HK:Hia (f k=g k->∀j,k<=j->j<n->f j=g j):=Aa (fun e j h1 h2=>by
     by_cases e2:j=k
     .subst e2;exact e
     .exact aB.o j ac h2)
    have HN:Hia (f k≠g k->¬x=y):=Aa (fun h e=>h ((aJ.o e).2 k ac));clear hW hc hd aB;obtain⟨p,hp⟩:=nA (f k);obtain⟨r,hr⟩:∃p,g k=p:=⟨_,rfl⟩;rw[hp,hr]at HK HN;rw[hp]at c1;rw[hr]at c2;clear hp hr;rcases δh p r with h|h|h
    .have HM:=Aa (HN.o ac);have h1:(p:Int)<(r:Int):=by omega
     have h2:decide ((p:Int)<(r:Int))=true:=decide_eq_true h1;clear h HN HK;go_wp2_with fail
     go_quiet (fail)
     go_wp2_with fail
     go_ret;exact⟨OZ ae HM.o,aM.o.drewN _⟩
    .subst h;have HM:=Aa (HK.o rfl);have h1:¬(p:Int)<(p:Int):=by omega
     have h2:decide ((p:Int)<(p:Int))=false:=decide_eq_false h1;clear HN HK;go_wp2_with fail
     go_quiet (fail)
     go_wp2_with fail
     obtain⟨W2,aA⟩:=nA (W.drewN nq);have aN:=Aa aA;have aC:Hia (Ex W W2):=Aa (by rw[<-aA];exact(Ex.refl _).drewN _);rw[aA];replace c1:=aC.o.cell c1;replace c2:=aC.o.cell c2;clear aA h1 h2;have h3:¬(p:Int)<(p:Int):=by omega
     have h4:decide ((p:Int)<(p:Int))=false:=decide_eq_false h3
     go_quiet (fail)
     go_wp2_with fail
     go_roundw
     case rel=>exact⟨k,_,ac,by go_num,by rw[<-aN.o,<-aR.o,δs,δs],HM⟩
     case measure=>simp[intOf]
    .have HM:=Aa (HN.o ac);have h1:¬(p:Int)<(r:Int):=by omega
     have h2:decide ((p:Int)<(r:Int))=false:=decide_eq_false h1;have aS:=Aa h;clear h HN HK;go_wp2_with fail
     go_quiet (fail)
     go_wp2_with fail
     obtain⟨W2,aA⟩:=nA (W.drewN nq);have aN:=Aa aA;have aC:Hia (Ex W W2):=Aa (by rw[<-aA];exact(Ex.refl _).drewN _);rw[aA];replace c1:=aC.o.cell c1;replace c2:=aC.o.cell c2;clear aA h1 h2;have h3:(r:Int)<(p:Int):=by have:=aS.o;omega
     have h4:decide ((r:Int)<(p:Int))=true:=decide_eq_true h3
     go_quiet (fail)
     go_wp2_with fail
     go_ret;exact⟨OZ ae HM.o,(aM.o.trans aC.o).drewN _⟩
 .have HN:Hia (¬x=y):=Aa (fun e=>by have:=(aJ.o e).1;omega);have b1:((n:Int) !=(m:Int))=true:=by simp;omega
  have b2:¬(n:Int)<(m:Int):=ac;go_wp2_with fail
  go_ret;exact⟨OZ ae HN.o,Ex.refl _⟩
end Go.Proofs.YtehieobniamagaaGreat
