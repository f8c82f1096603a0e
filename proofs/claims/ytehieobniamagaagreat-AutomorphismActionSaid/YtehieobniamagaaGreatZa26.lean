/- Walk of automorphism.goals: the loops. -/
import Derived.Test.YtehieobniamagaaGreatZa25
namespace Go.Proofs.YtehieobniamagaaGreat
open Go.RowKit
set_option linter.all false
set_option maxRecDepth 100000
set_option maxHeartbeats 8000000
theorem KY(w:World)(n q:Nat)(hn:n<=64)(bB:1<=q)(hq:q<=256):
  Calls Tryz.prog 121 #[.int .i64 n,.int .i64 q] w fun r w'=>∃v cs,r= .returned v/\MV w w' v (Ds n q) cs:=by
 obtain⟨bG,bP,bO,HQ,HN⟩:=Of (MV.nil (Ex.refl w)) (Mk n q hn hq) (fun i=>Pt q i hq) (show 1<=q/\q<=256 from⟨bB,hq⟩) hn;clear bB hq;go_enter Tryz.func121,Tryz.ntmps121
 go_wp2_with fail
 go_loopw [5,12] (fun v' i' wr=>∃(i:Nat) (cs:List (Value × Value)),i<=n/\i'= .int .i64 i/\Hia (MV w wr v' (gI n q i) cs)) (fun _ i' _=>n-(intOf i').toNat)
 case atStart=>exact⟨0, [],ac,rfl,bG⟩
 case round=>
  clear bG;obtain⟨i,cs,hi,rfl,hg⟩:=hrel;obtain⟨pa,pc,aM⟩:=Ab hg.o.own;subst aM;by_cases hin:i<n
  .obtain⟨GI,aT⟩:∃g,gI n q i=g:=⟨_,rfl⟩;have bM:=Aa (show gI n q (i+1)=GI++gJ q i (n-i) from by rw[Qy,aT]);have bD:=Aa (show GI.length<=1048576 from by rw[<-aT];have:=bP.o i;omega);rw[aT]at hg ⊢;obtain⟨LI,aQ⟩:∃l,GI.length=l:=⟨_,rfl⟩;rw[aQ]at bD ⊢;have bJ:=Aa aQ;have HG:=Aa (show MV w wr (.slice pa LI pc) (GI++gJ q i (i-i)) cs from by rw[Nat.sub_self];unfold gJ;rw[List.range_zero,List.flatMap_nil,List.append_nil,<-aQ];exact hg.o);obtain⟨w8,h8⟩:∃w8,w8=wr:=⟨_,rfl⟩;rw[<-h8]at HG ⊢;have aW:=Aa hin;clear h8 hg aT aQ;go_wp2_with fail
   clear hin
   go_loopw [5,7] (fun v' j' wr=>∃(j:Nat) (cs:List (Value × Value)),i<=j/\j<=n/\j'= .int .i64 j/\Hia (MV w wr v' (GI++gJ q i (j-i)) cs)) (fun _ j' _=>n-(intOf j').toNat)
   case atStart=>exact⟨i,cs,ac,ac,rfl,HG⟩
   case round=>
    clear HG;obtain⟨j,cs,hj1,hj2,rfl,hg⟩:=hrel;obtain⟨pa,pc,aM⟩:=Ab hg.o.own;subst aM;by_cases hjn:j<n
    .obtain⟨GJ,aS⟩:∃g,GI++gJ q i (j-i)=g:=⟨_,rfl⟩;have bL:=Aa (show GI++gJ q i (j+1-i)=GJ++gA i j (q-1) from by rw[<-aS,show j+1-i=j-i+1 from ac,Qx,show i+(j-i)=j from ac,List.append_assoc]);have bC:=Aa (show GJ.length<=1100000 from by rw[<-aS,List.length_append];have:=bO.o i (j-i);have:=bD.o;have:=bJ.o;have:=HN.o;omega);rw[aS]at hg ⊢;obtain⟨LJ,aP⟩:∃l,GJ.length=l:=⟨_,rfl⟩;rw[aP]at bC ⊢;have bK:=Aa aP;have HG:=Aa (show MV w wr (.slice pa LJ pc) (GJ++gA i j (1-1)) cs from by unfold gA;rw[Nat.sub_self,List.range_zero,List.map_nil,List.append_nil,<-aP];exact hg.o);obtain⟨w7,h7⟩:∃w7,w7=wr:=⟨_,rfl⟩;rw[<-h7]at HG ⊢;have bA:=Aa hjn;clear h7 hg aS aP;go_wp2_with fail
     clear hjn
     go_loopw [5,8] (fun v' a' wr=>∃(a:Nat) (cs:List (Value × Value)),1<=a/\a<=q/\a'= .int .i64 a/\Hia (MV w wr v' (GJ++gA i j (a-1)) cs)) (fun _ a' _=>q-(intOf a').toNat)
     case atStart=>exact⟨1,cs,ac,HQ.o.1,rfl,HG⟩
     case round=>
      clear HG;obtain⟨a,cs,ha1,ha2,rfl,hg⟩:=hrel;obtain⟨pa,pc,aM⟩:=Ab hg.o.own;subst aM;by_cases han:a<q
      .obtain⟨GA,aU⟩:∃g,GJ++gA i j (a-1)=g:=⟨_,rfl⟩;have bN:=Aa (show GJ++gA i j (a+1-1)=GA ++ [⟨i,j,a⟩] from by
        rw[<-aU,show a+1-1=a-1+1 from ac,V7,show a-1+1=a from ac,List.append_assoc])
       have aZ:=Aa (show GA.length<=1200000 from by rw[<-aU,List.length_append,TT];have:=bC.o;have:=bK.o;have:=HQ.o;omega);rw[aU]at hg ⊢;obtain⟨LA,aR⟩:∃l,GA.length=l:=⟨_,rfl⟩;have bE:=Aa aR;rw[aR]at aZ ⊢;obtain⟨HG,aV,aD,aX⟩:=Eq (show MV w wr (.slice pa LA pc) GA cs from by rw[<-aR];exact hg.o) (Lh.new wr i j a) (show i<=64 from by have:=aW.o;have:=HN.o;omega) han;obtain⟨w5,h5⟩:∃w5,w5=wr:=⟨_,rfl⟩;rw[<-h5]at HG aV ⊢;clear h5 hg aU aR;go_upto_region 12 with fail
       clear han;obtain⟨XB,aO⟩:∃x,w5.heap.size=x:=⟨_,rfl⟩;rw[aO]at aV
       try simp only[aO]
       have HXB:=Aa aO;clear aO;generalize w5.alloc (.cells #[.int .i64 i,.int .i64 j,.int .i64 a,.slice none 0 0,.slice none 0 0] 129)=w6 at *;go_wp2_with fail
       go_loopw [31] (fun k' wr=>∃(k:Nat) (pv sv:Value),k<=i/\k'= .int .i64 k/\Hia (Lh w5 wr XB i j a pv sv (OG k) (OD k))) (fun k' _=>i-(intOf k').toNat)
       case atStart=>exact⟨0,_,_,ac,rfl,aV⟩
       case round=>
        clear aV;obtain⟨k,pv,sv,hk,rfl,HC⟩:=hrel;obtain⟨va,vc,rfl⟩:=Ab HC.o.o0;obtain⟨ua,uc,rfl⟩:=Ab HC.o.o1;rw[FL,FE]at *;have c3:=HC.o.b0;by_cases hki:k<i
        .have aY:=Aa (show wr.ownsRow w5.heap.size 3 1 (.slice va k vc) k (Al (OG k)) from by have:=HC.o.o0;rwa[FL]at this);have bF:=Aa hki;go_wp2_with (at_builtin;refine Ak _ rfl _ _ 22 rfl w5.heap.size 3 (.int .i64 0) 1 8 Tryz.underlying22 Au rfl ae _ k (Al (OG k)) rfl aY.o [.int .i64 (k:Int)] 3 _ rfl ag rfl aj (by have:=aD.o;unfold maxLen;omega) (by have:=aD.o;omega) HC.o.ex.size ?_)
         intro v7 w7 aC;have aA:AZ wr w7 w5.heap.size 3 1 (.slice va k vc) v7 (OG k).length (Al (OG k)) [.int .i64 (k:Int)]:=by rw[FL];exact aC
         obtain⟨g1,g2⟩:=HC.o.at0 aA;have aB:=HC.o.app0 aA;rw[<-TL]at aB;obtain⟨aI,aH,rfl⟩:=Ab aC.own;have aF:=Aa aB;have aL:=Aa (show(w7.setCell ⟨XB,3,none⟩ (.slice aI (k+1) aH)).ownsRow w5.heap.size 3 1 (.slice ua k uc) k (Al (OD k)) from by have:=aF.o.o1;rwa[FE]at this);have c4:=aF.o.b1;clear aC aA aB c3;go_wp2_with (at_builtin;refine Ak _ rfl _ _ 22 rfl w5.heap.size 3 (.int .i64 0) 1 8 Tryz.underlying22 Au rfl ae _ k (Al (OD k)) rfl aL.o [.int .i64 1] 3 _ rfl ag rfl aj (by have:=aD.o;unfold maxLen;omega) (by have:=aD.o;omega) aF.o.ex.size ?_)
         intro v8 w8 aC;have aA:AZ (w7.setCell ⟨XB,3,none⟩ (.slice aI (k+1) aH)) w8 w5.heap.size 3 1 (.slice ua k uc) v8 (OD k).length (Al (OD k)) [.int .i64 1]:=by rw[FE];exact aC
         obtain⟨h1,h2⟩:=aF.o.at1 aA;have aB:=aF.o.app1 aA;rw[<-S8]at aB;obtain⟨aK,aJ,rfl⟩:=Ab aC.own;have aE:=Aa aB;clear aC aA aB c4 g1 g2;go_wp2_with fail
         go_roundw
         case rel=>first|exact⟨k+1,_,_,ac,by go_num,aE⟩|((repeat apply Exists.intro);exact⟨⟨k+1,_,_,by have:=bF.o;omega,by go_num,aE⟩,rfl⟩)
         case measure=>have:=bF.o;simp[intOf];omega
        .obtain rfl:i=k:=by omega
         have aY:=Aa (show wr.ownsRow w5.heap.size 3 1 (.slice va i vc) i (Al (OG i)) from by have:=HC.o.o0;rwa[FL]at this);go_wp2_with (at_builtin;refine Ak _ rfl _ _ 22 rfl w5.heap.size 3 (.int .i64 0) 1 8 Tryz.underlying22 Au rfl ae _ i (Al (OG i)) rfl aY.o [.int .i64 (j:Int)] 3 _ rfl ag rfl aj (by have:=aD.o;unfold maxLen;omega) (by have:=aD.o;omega) HC.o.ex.size ?_)
         intro v7 w7 aC;have aA:AZ wr w7 w5.heap.size 3 1 (.slice va i vc) v7 (OG i).length (Al (OG i)) [.int .i64 (j:Int)]:=by rw[FL];exact aC
         obtain⟨g1,g2⟩:=HC.o.at0 aA;have aB:=HC.o.app0 aA;obtain⟨aI,aH,rfl⟩:=Ab aC.own;have aF:=Aa aB;have aL:=Aa (show(w7.setCell ⟨XB,3,none⟩ (.slice aI (i+1) aH)).ownsRow w5.heap.size 3 1 (.slice ua i uc) i (Al (OD i)) from by have:=aF.o.o1;rwa[FE]at this);have c4:=aF.o.b1;clear aC aA aB c3;go_wp2_with (at_builtin;refine Ak _ rfl _ _ 22 rfl w5.heap.size 3 (.int .i64 0) 1 8 Tryz.underlying22 Au rfl ae _ i (Al (OD i)) rfl aL.o [.int .i64 (a:Int)] 3 _ rfl ag rfl aj (by have:=aD.o;unfold maxLen;omega) (by have:=aD.o;omega) aF.o.ex.size ?_)
         intro v8 w8 aC;have aA:AZ (w7.setCell ⟨XB,3,none⟩ (.slice aI (i+1) aH)) w8 w5.heap.size 3 1 (.slice ua i uc) v8 (OD i).length (Al (OD i)) [.int .i64 (a:Int)]:=by rw[FE];exact aC
         obtain⟨h1,h2⟩:=aF.o.at1 aA;have aB:=aF.o.app1 aA;obtain⟨aK,aJ,rfl⟩:=Ab aC.own;have aE:=Aa (show Lh w5 (w8.setCell ⟨XB,4,none⟩ (.slice aK (i+1) aJ)) XB i j a (.slice aI (i+1) aH) (.slice aK (i+1) aJ) (BZ.tl ⟨i,j,a⟩) (BZ.sl ⟨i,j,a⟩) from aB);clear aC aA aB c4 g1 g2;have bI:=Aa (show(w8.setCell ⟨XB,4,none⟩ (.slice aK (i+1) aJ)).ownsRow w.heap.size 129 5 (.slice pa LA pc) LA (Eo GA cs) from by have:=Ai HG.o.own aE.o.ex;rwa[bE.o]at this);have bH:=Aa (HG.o.later aE.o.ex).ex.size;have d0:=aE.o.c0;have d1:=aE.o.c1;have d2:=aE.o.c2;have d3:=aE.o.b0;have d4:=aE.o.b1;go_wp2_with (at_builtin;refine Ak _ rfl _ _ 109 rfl w.heap.size 129 (.agg #[.int .i64 0,.int .i64 0,.int .i64 0,.slice none 0 0,.slice none 0 0]) 5 72 Tryz.underlying109 NM rfl ae _ LA (Eo GA cs) rfl bI.o [.int .i64 (i:Int),.int .i64 (j:Int),.int .i64 (a:Int),.slice aI (i+1) aH,.slice aK (i+1) aJ] 129 _ rfl ag rfl aj (by have:=aZ.o;unfold maxLen;omega) (by have:=aZ.o;omega) bH.o ?_)
         intro v9 w9 aC;have aA:AZ (w8.setCell ⟨XB,4,none⟩ (.slice aK (i+1) aJ)) w9 w.heap.size 129 5 (.slice pa LA pc) v9 GA.length (Eo GA cs) [.int .i64 (i:Int),.int .i64 (j:Int),.int .i64 (a:Int),.slice aI (i+1) aH,.slice aK (i+1) aJ]:=by rw[bE.o];exact aC
         have aG:=Aa ((HG.o.later aE.o.ex).app (g:=⟨i,j,a⟩) aE.o (fun X e=>(HG.o.own.lt X e).2) HG.o.ex.size aA);rw[<-bN.o]at aG;obtain⟨pa9,pc9,rfl⟩:=Ab aC.own;have hab:a<=256:=by have:=aX.o;have:=HQ.o;omega
         clear aC aA d0 d1 d2 d3 d4 h1 h2;go_wp2_with fail
         go_roundw
         case rel=>first|exact⟨a+1,_,ac,by have:=aX.o;omega,by go_num,aG⟩|((repeat apply Exists.intro);exact⟨⟨a+1,_,ac,by have:=aX.o;omega,by go_num,aG⟩,rfl⟩)
         case measure=>have:=aX.o;simp[intOf];omega
      .obtain rfl:q=a:=by omega
       obtain⟨LX,aN⟩:∃x,(GJ++gA i j (q-1)).length=x:=⟨_,rfl⟩;rw[aN]at hg ⊢;rw[<-bL.o]at hg;clear aN;have aG:=Aa hg.o;clear hg;go_wp2_with fail
       go_roundw
       case rel=>first|exact⟨j+1,cs,ac,by have:=bA.o;omega,by go_num,aG⟩|((repeat apply Exists.intro);exact⟨⟨j+1,cs,ac,by have:=bA.o;omega,by go_num,aG⟩,rfl⟩)
       case measure=>have:=bA.o;simp[intOf];omega
    .obtain rfl:n=j:=by omega
     obtain⟨LX,aN⟩:∃x,(GI++gJ q i (n-i)).length=x:=⟨_,rfl⟩;rw[aN]at hg ⊢;rw[<-bM.o]at hg;clear aN;have aG:=Aa hg.o;clear hg;go_wp2_with fail
     go_roundw
     case rel=>first|exact⟨i+1,cs,by have:=aW.o;omega,by go_num,aG⟩|((repeat apply Exists.intro);exact⟨⟨i+1,cs,by have:=aW.o;omega,by go_num,aG⟩,rfl⟩)
     case measure=>have:=aW.o;simp[intOf];omega
  .obtain rfl:n=i:=by omega
   go_wp2_with fail
   go_ret;exact⟨_,cs,rfl,hg.o⟩
structure Mx(mb mb':List Nat)(w w':World):Prop where
 os:w'.os=w.os
 tape:w'.tape=w.tape
 output:w'.output=w.output
 size:w.heap.size<=w'.heap.size
 block:∀i,i<w.heap.size->i ∉ mb->w'.heap[i]?=w.heap[i]?
 mb:∀B∈mb',B∈mb∨w.heap.size<=B
theorem Mx.ofEx{w w':World}(h:Ex w w')(mb:List Nat):Mx mb mb w w':=⟨h.os,h.tape,h.output,h.size,fun i hi _=>h.block i hi,fun B h=> .inl h⟩
theorem Mx.trans{a b c:List Nat}{u v w:World}(h:Mx a b u v)(k:Mx b c v w):Mx a c u w:=
 ⟨k.os.trans h.os,k.tape.trans h.tape,k.output.trans h.output,Nat.le_trans h.size k.size,fun i hi hn=>by
  rw[k.block i (Nat.lt_of_lt_of_le hi h.size) (fun hb=>by
   rcases h.mb i hb with h1|h1
   .exact hn h1
   .omega),h.block i hi hn],fun B hB=>by
  rcases k.mb B hB with h1|h1
  .exact h.mb B h1
  .exact .inr (Nat.le_trans h.size h1)⟩
theorem Mx.ex{mb aA:List Nat}{w0 w w':World}(h:Mx mb aA w w')(hx:Ex w0 w)(hb:∀B∈mb,w0.heap.size<=B):Ex w0 w':=
 ⟨h.os.trans hx.os,h.tape.trans hx.tape,h.output.trans hx.output,Nat.le_trans hx.size h.size,fun i hi=>by
  rw[h.block i (Nat.lt_of_lt_of_le hi hx.size) (fun h1=>by have:=hb i h1;omega)];exact hx.block i hi⟩
theorem Mx.cell{mb aA:List Nat}{w w':World}(h:Mx mb aA w w'){a:Addr}{u:Value}(hc:w.cell? a=some u)(hn:a.block ∉ mb):w'.cell? a=some u:=by
 rw[<-hc];exact World.cell?_of_block (h.block a.block (World.block_lt_of_cell? _ _ hc) hn)
structure B3(w:World)(mb:List Nat)(n:Nat)(u:Value)(f:Nat->Nat):Prop where
 sl:Aj w u (li n f)
 at_:∃b o cap,u= .slice (some ⟨b,o,none⟩) n cap/\cap<=maxLen/\b ∉ mb/\b<w.heap.size/\∀j,j<n->w.cell? ⟨b,o+j,none⟩=some (.int .i64 (f j:Int))
theorem B3.of{w:World}{mb:List Nat}{n:Nat}{u:Value}{f:Nat->Nat}(h:Aj w u (li n f))(hn:1<=n)(hb:∀B,u.ownBlock=some B->B ∉ mb):B3 w mb n u f:=by
 refine⟨h,?_⟩;obtain⟨a,cap,rfl,h1,h2,h3⟩:=Ec h;obtain⟨b,o,rfl,h4⟩:=h3 hn;exact⟨b,o,cap,rfl,h2,hb b rfl,World.block_lt_of_cell? _ _ (h4 0 hn),h4⟩
theorem B3.mx{mb aA:List Nat}{w w':World}{n:Nat}{u:Value}{f:Nat->Nat}(h:B3 w mb n u f)(hx:Mx mb aA w w'):B3 w' aA n u f:=by
 obtain⟨b,o,cap,rfl,h1,h2,h3,h4⟩:=h.at_;have hs:Aj w' (.slice (some ⟨b,o,none⟩) n cap) (li n f):=by
  obtain⟨k1,a,c,k2,k3,k4,k5⟩:=h.sl;refine⟨k1,a,c,k2,k3,k4,fun hn=>?_⟩;obtain⟨b',o',k6,k7⟩:=k5 hn;injection k2 with k2 _ _;rw[k6]at k2;injection k2 with k2;injection k2 with k2 k8;subst k2 k8;exact⟨b,o,k6,fun j u hu=>hx.cell (k7 j u hu) h2⟩
 refine⟨hs,b,o,cap,rfl,h1,fun hb=>?_,Nat.lt_of_lt_of_le h3 hx.size,fun j hj=>hx.cell (h4 j hj) h2⟩;rcases hx.mb b hb with h5|h5
 .exact h2 h5
 .omega
theorem B3.ex{mb:List Nat}{w w':World}{n:Nat}{u:Value}{f:Nat->Nat}(h:B3 w mb n u f)(hx:Ex w w'):B3 w' mb n u f:=h.mx (Mx.ofEx hx mb)
theorem B3.new{mb:List Nat}{w w':World}{n g:Nat}{f:Nat->Nat}(hn:1<=n)(h:AI w' w.heap.size 3 g n (iv fun i=>(f i:Int)))(hb:∀B∈mb,B<w.heap.size):B3 w' mb n (.slice (some ⟨g,0,none⟩) n n) f:=
 B3.of h.li hn fun B e hB=>by
  injection e with e;have:=h.lt.1;have:=hb B hB;dsimp only at *;omega
def J0(w:World)(mb:List Nat)(n:Nat)(o:Option (Nat->Nat))(u:Value):Prop:=match o with
 | none=>u= .slice none 0 0
 | some r=>B3 w mb n u r
theorem J0.mx{mb aA:List Nat}{w w':World}{n:Nat}{o:Option (Nat->Nat)}{u:Value}(h:J0 w mb n o u)(hx:Mx mb aA w w'):J0 w' aA n o u:=by
 cases o with
 | none=>exact h
 | some r=>exact B3.mx (show B3 w mb n u r from h) hx
structure PF(w:World)(base n tb rb gb:Nat)(rr:Nat->Nat)(gv:Nat->Value)(V:Nat->Nat->Value)(mb:List Nat)(t:Tw):Prop where
 c0:w.cell? ⟨tb,0,none⟩=some (.int .i64 n)
 c1:w.cell? ⟨tb,1,none⟩=some (.slice (some ⟨rb,0,none⟩) n n)
 c2:w.cell? ⟨tb,2,none⟩=some (.slice (some ⟨gb,0,none⟩) n n)
 tm:tb ∉ mb
 ro:∀b,b<n->w.cell? ⟨rb,b,none⟩=some (.slice (some ⟨rr b,0,none⟩) n n)
 rm:rb ∉ mb
 row:∀b,b<n->AI w base 22 (rr b) n (V b)
 rep:∀b x,b<n->x<n->J0 w mb n (t.R b x) (V b x)
 go:AI w base 37 gb n gv
 gro:∀b,b<n->∃vals:List Value,w.ownsRow base 22 1 (gv b) (t.g b).length vals/\∀(i:Nat) (f:Nat->Nat) (u:Value),(t.g b)[i]?=some f->vals[i]?=some u->B3 w mb n u f
 gm:gb∈mb
 rrm:∀b,b<n->rr b∈mb
 gvm:∀b B,b<n->(gv b).ownBlock=some B->B∈mb/\B≠gb/\∀c,c<n->B≠rr c
 grr:∀b,b<n->gb≠rr b
 rri:∀b c,b<n->c<n->rr b=rr c->b=c
 gvi:∀b c B,b<n->c<n->(gv b).ownBlock=some B->(gv c).ownBlock=some B->b=c
 lo:∀B∈mb,base<=B/\B<w.heap.size
section
variable {w:World} {base n tb rb gb:Nat} {rr:Nat->Nat} {gv:Nat->Value} {V:Nat->Nat->Value} {mb:List Nat} {t:Tw}
theorem PF.ex(h:PF w base n tb rb gb rr gv V mb t){w':World}(hx:Ex w w'):PF w' base n tb rb gb rr gv V mb t:=
 ⟨hx.cell h.c0,hx.cell h.c1,hx.cell h.c2,h.tm,fun b hb=>hx.cell (h.ro b hb),h.rm,fun b hb=>(h.row b hb).ex hx,fun b x hb aA=>(h.rep b x hb aA).mx (Mx.ofEx hx mb),h.go.ex hx,fun b hb=>by
  obtain⟨vals,h1,h2⟩:=h.gro b hb;exact⟨vals,Ai h1 hx,fun i f u a c=>(h2 i f u a c).ex hx⟩,h.gm,h.rrm,h.gvm,h.grr,h.rri,h.gvi,fun B hB=>⟨(h.lo B hB).1,Nat.lt_of_lt_of_le (h.lo B hB).2 hx.size⟩⟩
theorem PF.low(h:PF w base n tb rb gb rr gv V mb t):∀B∈mb,B<w.heap.size:=fun B hB=>(h.lo B hB).2
theorem bz{P:Prop}(h:P:=by simp[World.setCell]):P:=h
theorem PF.setRep(h:PF w base n tb rb gb rr gv V mb t){b x:Nat}{q:Nat->Nat}{u:Value}(hb:b<n)(hx:x<n)(hu:B3 w mb n u q):
  PF (w.setCell ⟨rr b,x,none⟩ u) base n tb rb gb rr gv (fun c=>if c=b then Ax (V b) x u else V c) mb (J9 t b x q)/\Mx mb mb w (w.setCell ⟨rr b,x,none⟩ u):=by
 have hm:=h.rrm b hb;have aB:(w.setCell ⟨rr b,x,none⟩ u).heap.size=w.heap.size:=bz;have aA:Mx mb mb w (w.setCell ⟨rr b,x,none⟩ u):=⟨rfl,rfl,rfl,ac,fun i hi hn=>Below.heap_setCell _ _ _ _ (fun e=>hn (by have e:i=rr b:=e;rw[e];exact hm)),fun B hB=> .inl hB⟩;refine⟨⟨aA.cell h.c0 h.tm,aA.cell h.c1 h.tm,aA.cell h.c2 h.tm,h.tm,fun c hc=>aA.cell (h.ro c hc) h.rm,h.rm,fun c hc=>?_,fun c y hc hy=>?_,h.go.other (h.grr b hb) u,fun c hc=>?_,h.gm,h.rrm,h.gvm,h.grr,h.rri,h.gvi,fun B hB=>by rw[aB];exact h.lo B hB⟩,aA⟩
 .by_cases e:c=b
  .subst e;rw[if_pos rfl];exact(h.row c hc).set x u
  .rw[if_neg e];exact(h.row c hc).other (fun e2=>e (h.rri c b hc hb e2)) u
 .show J0 _ mb n (if c=b/\y=x then some q else t.R c y) ((if c=b then Ax (V b) x u else V c) y)
  by_cases e:c=b
  .subst e;rw[if_pos rfl];by_cases e2:y=x
   .subst e2;rw[if_pos ⟨rfl,rfl⟩,Ad];exact B3.mx hu aA
   .rw[if_neg (fun e3=>e2 e3.2),Ae _ _ e2];exact(h.rep c y hc hy).mx aA
  .rw[if_neg (fun e3=>e e3.1),if_neg e];exact(h.rep c y hc hy).mx aA
 .obtain⟨vals,h1,h2⟩:=h.gro c hc;exact⟨vals,Ac h1 (fun e=>(h.gvm c _ hc e).2.2 b hb rfl) u,fun i f v a d=>(h2 i f v a d).mx aA⟩
theorem zaV{P:Prop}(h:P:=by
 have:=h.lo B h1;exact⟨this.1,by omega⟩):P:=h
theorem PF.addGen(h:PF w base n tb rb gb rr gv V mb t){b:Nat}{p:Nat->Nat}{u:Value}(hb:b<n)(hu:B3 w mb n u p){w':World}{v':Value}{vals:List Value}(hv:∀(i:Nat) (f:Nat->Nat) (u:Value),(t.g b)[i]?=some f->vals[i]?=some u->B3 w mb n u f)
  (ha:AZ w w' base 22 1 (gv b) v' (t.g b).length vals [u]):
  ∃aH,PF (w'.setCell ⟨gb,b,none⟩ v') base n tb rb gb rr (Ax gv b v') V aH (PD t b p)/\Mx mb aH w (w'.setCell ⟨gb,b,none⟩ v'):=by
 obtain⟨o,hg⟩:=ha.gr;have hgs:=ha.grow;have aO:∀B,v'.ownBlock=some B->B∈mb∨w.heap.size<B:=fun B e=>by
  rcases ha.at_ with h1|h1
  .rw[h1]at e;exact .inl (h.gvm b B hb e).1
  .rw[h1]at e;injection e with e;right;omega
 have aF:∀i,i<w.heap.size->some i≠(gv b).ownBlock->w'.heap[i]?=w.heap[i]?:=fun i hi aE=>by
  have h1:=hg.block i aq aE;rw[h1];exact((Ex.refl w).alloc o).block i hi
 have aJ:(w'.setCell ⟨gb,b,none⟩ v').heap.size=w'.heap.size:=bz;have aM:=ha.own.lt;have aD:w'.os=w.os/\w'.tape=w.tape/\w'.output=w.output:=⟨hg.os.trans rfl,hg.tape.trans rfl,hg.output.trans rfl⟩;have aB:Mx mb (v'.ownBlock.toList++mb) w (w'.setCell ⟨gb,b,none⟩ v'):=by
  refine⟨aD.1,aD.2.1,aD.2.2,by rw[aJ];omega,fun i hi hn=>?_,fun B hB=>?_⟩
  .rw[Below.heap_setCell _ _ _ _ (fun e=>hn (by have e:i=gb:=e;rw[e];exact h.gm)),aF i hi (fun e=>hn (h.gvm b i hb e.symm).1)]
  .rcases List.mem_append.1 hB with h1|h1
   .rcases aO B bw with h2|h2
    .exact .inl h2
    .exact .inr ac
   .exact .inl h1
 have aC:∀ {e:TypeId} {size:Nat} {v:Value} {m:Nat} {xs:List Value},w.ownsRow base e size v m xs->AJ v (gv b)->v.ownBlock≠some gb->(w'.setCell ⟨gb,b,none⟩ v').ownsRow base e size v m xs:=fun k hk aE=>
  Ac (ha.row k hk).1 (by exact aE) _
 have aA:∀B,(gv b).ownBlock=some B->B≠gb/\∀c,c<n->B≠rr c:=fun B e=>(h.gvm b B hb e).2;have aL:∀g,(∀B,(gv b).ownBlock=some B->B≠g)->∀(m cap:Nat),AJ (.slice (some ⟨g,0,none⟩) m cap) (gv b):=fun g hh m cap=>by
  right;intro e;exact hh g e.symm rfl
 refine⟨v'.ownBlock.toList++mb,⟨aB.cell h.c0 h.tm,aB.cell h.c1 h.tm,aB.cell h.c2 h.tm,fun hc=>?_,fun c hc=>aB.cell (h.ro c hc) h.rm,fun hc=>?_,fun c hc=>?_,fun c y hc hy=>(h.rep c y hc hy).mx aB,?_,fun c hc=>?_,List.mem_append_right _ h.gm,fun c hc=>List.mem_append_right _ (h.rrm c hc),fun c B hc e=>?_,h.grr,h.rri,fun c d B hc hd e1 e2=>?_,fun B hB=>?_⟩,aB⟩
 .rcases aB.mb tb hc with h1|h1
  .exact h.tm h1
  .have:=World.block_lt_of_cell? _ _ h.c0;dsimp only at this;omega
 .rcases aB.mb rb hc with h1|h1
  .exact h.rm h1
  .have:=World.block_lt_of_cell? _ _ (h.ro b hb);dsimp only at this;omega
 .exact aC (h.row c hc) (aL (rr c) (fun B e=>(aA B e).2 c hc) n n) (fun e=>h.grr c hc (by injection e with e;exact e.symm))
 .have h1:=(ha.row h.go (aL gb (fun B e=>(aA B e).1) n n)).1;have h2:AI w' base 37 gb n gv:=h1;exact h2.set b v'
 .by_cases e:c=b
  .subst e;refine⟨vals ++ [u],?_,fun i f v h1 h2=>?_⟩
   .rw[Ad];show World.ownsRow _ base 22 1 v' (if c=c then t.g c ++ [p] else t.g c).length (vals ++ [u])
    rw[if_pos rfl,List.length_append];refine Ac ha.own (fun e=>?_) _;rcases ha.at_ with h3|h3
    .rw[h3]at e;exact(aA _ e).1 rfl
    .rw[h3]at e;injection e with e;have:=h.go.lt.2;dsimp only at e;omega
   .have h1:(if c=c then t.g c ++ [p] else t.g c)[i]?=some f:=h1;rw[if_pos rfl]at h1;have hn:vals.length=(t.g c).length:=by have:=ha.old.1;omega
    by_cases hi:i<(t.g c).length
    .rw[List.getElem?_append_left hi]at h1;rw[List.getElem?_append_left ac]at h2;exact(hv i f v h1 h2).mx aB
    .have aN:i=(t.g c).length:=by
      have:=(List.getElem?_eq_some_iff.1 h1).1;rw[List.length_append]at this;simp at this;omega
     subst aN;rw[List.getElem?_append_right ac]at h1;rw[List.getElem?_append_right ac,hn]at h2;simp at h1 h2;subst h1 h2;exact hu.mx aB
  .obtain⟨aG,h1,h2⟩:=h.gro c hc;refine⟨aG,?_,fun i f v h3 h4=>?_⟩
   .rw[Ae _ _ e];show World.ownsRow _ base 22 1 (gv c) (if c=b then t.g c ++ [p] else t.g c).length aG
    rw[if_neg e];refine aC h1 ?_ (fun e2=>(h.gvm c _ hc e2).2.1 rfl);unfold AJ
    cases e2:(gv c).ownBlock with
    | none=>exact .inl rfl
    | some B=>right;intro e3;exact e (h.gvi c b B hc hb e2 e3.symm)
   .have h3:(if c=b then t.g c ++ [p] else t.g c)[i]?=some f:=h3;rw[if_neg e]at h3;exact(h2 i f v h3 h4).mx aB
 .by_cases e3:c=b
  .subst e3;rw[Ad]at e;refine⟨List.mem_append_left _ (by rw[e];simp),?_⟩;rcases ha.at_ with h1|h1
   .rw[h1]at e;exact aA B e
   .rw[h1]at e;injection e with e;subst e;have:=h.go.lt.2;exact⟨ac,fun d hd=>by have:=(h.row d hd).lt.2;omega⟩
  .rw[Ae _ _ e3]at e;have:=h.gvm c B hc e;exact⟨List.mem_append_right _ this.1,this.2⟩
 .have aI:∀ {c d B},c=b->d≠b->d<n->v'.ownBlock=some B->(gv d).ownBlock=some B->False:=fun {c d B} e hd aK k1 k2=>by
   rcases ha.at_ with h1|h1
   .rw[h1]at k1;exact hd (h.gvi d b B aK hb k2 k1)
   .rw[h1]at k1;injection k1 with k1;have:=(h.lo B (h.gvm d B aK k2).1).2;omega
  by_cases ec:c=b <;> by_cases ed:d=b
  .rw[ec,ed]
  .rw[ec,Ad]at e1;rw[Ae _ _ ed]at e2;exact(aI (c:=c) ec ed hd e1 e2).elim
  .rw[Ae _ _ ec]at e1;rw[ed,Ad]at e2;exact(aI (c:=d) ed ec hc e2 e1).elim
  .rw[Ae _ _ ec]at e1;rw[Ae _ _ ed]at e2;exact h.gvi c d B hc hd e1 e2
 .rw[aJ];rcases List.mem_append.1 hB with h1|h1
  .exact aM B bw
  .exact zaV
end
def CE(l:List Int):Nat->Nat:=fun i=>if i<l.length then(l.getD i 0).toNat else i
theorem JI{n:Nat}{f:Nat->Nat}(hf:A7 n f):CE (li n f)=f:=funext fun i=>by
 unfold CE;rw[CM];by_cases hi:i<n
 .rw[if_pos hi,List.getD_eq_getElem?_getD,C9 hi];rfl
 .rw[if_neg hi,hf.off i ac]
theorem VD(w:World):BT w (.slice none 0 0) []:=⟨[],Sl.nil w 1,fun i r u h=>by simp at h⟩
theorem Em{w:World}{a:Option Addr}{n cap:Nat}{f:Nat->Nat}(h:Aj w (.slice a n cap) (li n f))(hn:0<n):∃b o,a=some ⟨b,o,none⟩/\b<w.heap.size/\∀j,j<n->w.cell? ⟨b,o+j,none⟩=some (.int .i64 (f j:Int)):=by
 obtain⟨a',cap',e,_,_,h2⟩:=Ec h;injection e with e1 e2 e3;subst e1;obtain⟨b,o,h3,h4⟩:=h2 hn;exact⟨b,o,h3,World.block_lt_of_cell? _ _ (h4 0 hn),h4⟩
structure BM(w0 wr:World)(base g n:Nat)(sf:Nat->Bool)(cyv:Value)(cyc:List Int)(cv:Value)(M:List (List Int))(vals:List Value):Prop where
 sn:AI wr w0.heap.size 4 g n (bv sf)
 cy:wr.ownsRow base 3 1 cyv cyc.length (Al cyc)
 m:BA wr base cv M vals
 ap1:AJ cyv cv
 ap2:∀u∈vals,AJ u cyv
 gb:g<base
 ex:Ex w0 wr
 wb:base<=wr.heap.size
section
variable {w0 wr:World} {base g n:Nat} {sf:Nat->Bool} {cyv:Value} {cyc:List Int} {cv:Value} {M:List (List Int)} {vals:List Value}
theorem BM.later(h:BM w0 wr base g n sf cyv cyc cv M vals){w':World}(hx:Ex wr w'):BM w0 w' base g n sf cyv cyc cv M vals:=
 ⟨h.sn.ex hx,Ai h.cy hx,h.m.ex hx,h.ap1,h.ap2,h.gb,h.ex.trans hx,Nat.le_trans h.wb hx.size⟩
theorem BM.congr(h:BM w0 wr base g n sf cyv cyc cv M vals){sf':Nat->Bool}(hc:∀x,x<n->sf x=sf' x):BM w0 wr base g n sf' cyv cyc cv M vals:=
 ⟨h.sn.bcongr hc,h.cy,h.m,h.ap1,h.ap2,h.gb,h.ex,h.wb⟩
theorem BM.mark(h:BM w0 wr base g n sf cyv cyc cv M vals)(x:Nat):BM w0 (wr.setCell ⟨g,x,none⟩ (.bool true)) base g n (Ax sf x true) cyv cyc cv M vals:=
 ⟨by rw[<-PC];exact h.sn.set x _,Ac h.cy (fun e=>by have:=(h.cy.lt _ e).1;have:=h.gb;dsimp only at *;omega) _,h.m.setNe h.gb _,h.ap1,h.ap2,h.gb,h.sn.exSet (Nat.le_refl _) h.ex x _,by have:=h.wb;simpa[World.setCell]using this⟩
theorem BM.app(h:BM w0 wr base g n sf cyv cyc cv M vals){x:Int}{w':World}{v':Value}(ha:AZ wr w' base 3 1 cyv v' cyc.length (Al cyc) [.int .i64 x]):BM w0 w' base g n sf v' (cyc ++ [x]) cv M vals:=by
 have aC:cyv.ownBlock≠some g:=fun e=>by have:=(h.cy.lt _ e).1;have:=h.gb;omega
 have aA:=ha.row h.m.cvo h.ap1.symm;have hn:=h.m.len;have aB:∀u∈vals,∃L:List Int,wr.ownsRow base 3 1 u L.length (Al L):=fun u hu=>by
  obtain⟨i,hi,e⟩:=List.getElem_of_mem hu;exact⟨_,h.m.row i (M[i]'ac) u (List.getElem?_eq_getElem _) ar⟩
 refine⟨(ha.arr h.sn aC).1,?_,⟨aA.1,fun i r u h1 h2=>(ha.row (h.m.row i r u h1 h2) (h.ap2 u (List.mem_of_getElem? h2))).1,h.m.apart⟩,aA.2.symm,fun u hu=>?_,h.gb,ha.ex h.ex (by have:=h.gb;have:=h.sn.lt.1;omega),by have:=ha.grow;have:=h.wb;omega⟩
 .have:=ha.own;rw[List.length_append];simpa[Al]using this
 .obtain⟨L,hL⟩:=aB u hu;exact(ha.row hL (h.ap2 u hu)).2
theorem BM.push(h:BM w0 wr base g n sf cyv cyc cv M vals){w':World}{v':Value}(ha:AZ wr w' base 22 1 cv v' M.length vals [cyv]):BM w0 w' base g n sf (.slice none 0 0) [] v' (M ++ [cyc]) (vals ++ [cyv]):=by
 have aA:cv.ownBlock≠some g:=fun e=>by have:=(h.m.cvo.lt _ e).1;have:=h.gb;omega
 refine⟨(ha.arr h.sn aA).1,World.ownsRow_nil _ _ _ _,h.m.app h.cy h.ap1 ha,AJ.nil _,fun u _=>?_,h.gb,ha.ex h.ex (by have:=h.gb;have:=h.sn.lt.1;omega),by have:=ha.grow;have:=h.wb;omega⟩;exact(AJ.nil u).symm
theorem BM.start{w1:World}{n:Nat}(h:AI w1 w0.heap.size 4 w0.heap.size n (fun _=> .bool false))(hx:Ex w0 w1){sf:Nat->Bool}(hs:∀x,x<n->sf x=false):BM w0 w1 (w0.heap.size+1) w0.heap.size n sf (.slice none 0 0) [] (.slice none 0 0) [] []:=
 ⟨h.congr fun j hj=>by show _=Value.bool (sf j);rw[hs j hj],World.ownsRow_nil _ _ _ _,BA.nil _ _,AJ.nil _,fun u h'=>absurd h' (List.not_mem_nil),ac,hx,by have:=h.lt.2;omega⟩
end
theorem PX(w:World)(n:Nat)(c:Nat->Value)(v:Value)(hv:Sl w v n 1 (vs n c))(hn:1<=n)(hn2:n<=1000)(h1:∀j,j<n->(c j).oneCell'=true):
  Calls Tryz.prog 209 #[v] w fun r w'=>∃g cap,r= .returned (.slice (some ⟨g,0,none⟩) n cap)/\AO w' w.heap.size 22 g n cap c/\Ex w w':=by
 have HV:=Aa hv;obtain⟨_,a,cap,rfl,s1,s2,s3⟩:=hv;obtain⟨b,o,rfl,_⟩:=s3 ac;have aC:=fun w'=>AD (P:=Tryz.prog) w' 37 22 (some ⟨b,o,none⟩) n cap Tryz.underlying37;simp only[Option.isNone]at aC;have aG:=Aa (show ∀u∈vs n c,u.oneCell'=true from by
  intro u hu;unfold vs at hu;obtain⟨j,hj,rfl⟩:=List.mem_map.1 hu;exact h1 j (List.mem_range.1 hj))
 clear s3 h1;go_enter Tryz.func209,Tryz.ntmps209
 go_wp2_with (at_builtin;refine A8 _ rfl _ _ 37 rfl w.heap.size 22 (.slice none 0 0) 1 24 Tryz.underlying37 BB rfl ae _ 0 [] rfl (Bn w 22) (.slice (some ⟨b,o,none⟩) n cap) n (vs n c) rfl (HV.o.ex ((Ex.refl w).alloc _)) aG.o ai ac ag ?_)
 intro v1 w1 aA aE aF;have aD:Ex w w1:=Ex.grown ((Ex.refl w).alloc _) (Bn w 22) (Nat.le_refl _) aE
 try simp only[List.nil_append,Nat.zero_add]at aA
 obtain⟨g,c2,rfl,aB⟩:=LT aA hn;have HO:=Aa aB;have HX:=Aa aD;clear aB aA aE aF aD aC
 try simp only[Nat.zero_add]
 go_wp2_with fail
 go_ret;exact⟨g,c2,rfl,HO.o,HX.o⟩
theorem Rg(w:World){base n tb rb gb:Nat}{rr:Nat->Nat}{gv:Nat->Value}{V:Nat->Nat->Value}{mb:List Nat}{t:Tw}(hm:PF w base n tb rb gb rr gv V mb t)(hG:Cp n t)(hn1:1<=n)(hn:n<=64)
  (u:Value) (f:Nat->Nat) (b:Nat) (hb:b<=n) (hu:Aj w u (li n f)) (hP:A7 n f):
  Calls Tryz.prog 208 #[.pointer (some ⟨tb,0,none⟩),u,.int .i64 b] w fun r w'=>∃v,r= .returned (.tuple #[v,.int .i64 ((C7 n t.R (n-b) b f).2:Int)])/\Ex w w':=by
 obtain⟨HM,HG,HU,HP⟩:=Eq hm hG hu hP;obtain⟨ua,uc,rfl,_,_,_⟩:=Ec hu;obtain⟨E,hE⟩:=nA (C7 n t.R (n-b) b f);have HE:=Aa hE;rw[hE];have aL:∀(a:Option Addr) (m cap:Nat) w',(binOp .eql 22 (.slice a m cap) (.slice none 0 0)).run Tryz.prog w'= .ok (.bool a.isNone) w':=fun a m cap w'=>AD (P:=Tryz.prog) w' 22 3 a m cap Tryz.underlying22;have aE:=Aa aL;clear hm hG hu hP hE aL;go_enter Tryz.func208,Tryz.ntmps208
 go_wp2_with fail
 go_loopw [1,2] (fun p' b' wr=>∃(c:Nat) (h:Nat->Nat) (a:Option Addr) (cap:Nat),c<=n/\b'= .int .i64 c/\p'= .slice a n cap/\Hia (Aj wr (.slice a n cap) (li n h))/\Hia (A7 n h)/\Hia (C7 n t.R (n-c) c h=E)/\Hia (Ex w wr)) (fun _ b' _=>n-(intOf b').toNat)
 case atStart=>exact⟨b,f,ua,uc,hb,rfl,rfl,HU,HP,HE,Aa (Ex.refl _)⟩
 case round=>
  clear HU HP HE;obtain⟨c,h,a,cap,hc,rfl,rfl,hu,hp,he,hx⟩:=hrel;have c0:=hx.o.cell HM.o.c0;have c1:=hx.o.cell HM.o.c1;by_cases hcn:c<n
  .obtain⟨pb,po,rfl,_,aH⟩:=Em hu.o ac;have aK:=hp.o.lt c hcn;have d1:=aH c hcn;have d2:=hx.o.cell (HM.o.ro c hcn);have d3:=hx.o.cell ((HM.o.row c hcn).cell aK);have aA:=HM.o.rep c (h c) hcn aK;have i1:(0:Int)<=(c:Int):=by omega
   have i2:(c:Int)<(n:Int):=ac;have i3:(0:Int)<=(h c:Int):=ac;have i4:(h c:Int)<(n:Int):=ac
   cases hR:t.R c (h c) with
   | none=>
    rw[hR]at aA;have aA:V c (h c)= .slice none 0 0:=aA;rw[aA]at d3;have aD:=Aa (show E=(h,c) from by
     rw[<-he.o,show n-c=n-c-1+1 by omega];unfold C7;rw[hR])
    have aC:=aE.o none 0 0;simp only[Option.isNone]at aC;clear aH aA hR he hp;go_wp2_with fail
    go_quiet (fail)
    go_wp2_with fail
    go_ret2;refine⟨.slice (some ⟨pb,po,none⟩) n cap,?_,hx.o.drewN _⟩;rw[aD.o];rfl
   | some r=>
    rw[hR]at aA;have aA:B3 w mb n (V c (h c)) r:=aA;obtain⟨_,_,aG,aT,aS⟩:=HG.o.rep _ _ _ hR;obtain⟨vb,vo,vc,hV,_,_,_,_⟩:=(aA.ex hx.o).at_;have aQ:=Aa (aA.ex hx.o).sl;rw[hV]at d3 aQ;have aD:=Aa (show C7 n t.R (n-(c+1)) (c+1) (An h (AW n r))=E from by
     rw[<-he.o,show n-c=n-(c+1)+1 by omega]
     conv=>rhs;unfold C7
     rw[hR])
    have aC:=aE.o (some ⟨vb,vo,none⟩) n vc;simp only[Option.isNone]at aC;have aV:=Aa aG;have aP:=Aa (hp.o.comp aG.inv);have aW:=Aa (fun w1 (aF:Ex wr w1)=>Ik w1 n r _ (aQ.o.ex aF) ac aV.o);have aU:=Aa (fun w1 (aF:Ex wr w1) z hz=>Ee w1 n h (AW n r) _ z (hu.o.ex aF) hz ac hp.o.lt);clear aH aA hR he aG aT aS hV;go_wp2_with fail
    go_quiet (fail)
    have aM:=Aa ((Ex.refl wr).drewN nq);go_wp2_with (first|(go_at_call 109;refine(aW.o _ aM.o).mono ?_;rintro e w2⟨g2,rfl,aB,aJ⟩;have aX:=Aa aB.li;have aO:=Aa (aM.o.trans aJ);clear aB aJ)|(go_at_call 108;refine(aU.o _ aO.o _ aX.o).mono ?_;rintro e w3⟨g3,rfl,aB,aI⟩;have aR:=Aa aB.li;have aN:=Aa (hx.o.trans (aO.o.trans aI));clear aB aI))
    go_roundw
    case rel=>first|exact⟨c+1,An h (AW n r),some ⟨g3,0,none⟩,n,ac,by go_num,rfl,aR,aP,aD,aN⟩|((repeat apply Exists.intro);exact⟨⟨c+1,An h (AW n r),some ⟨g3,0,none⟩,n,ac,by go_num,rfl,aR,aP,aD,aN⟩,rfl⟩)
    case measure=>simp[intOf];omega
  .obtain rfl:c=n:=by omega
   have aD:=Aa (show E.2=c from by
    rw[<-he.o,Nat.sub_self];rfl)
   clear he hp;go_wp2_with fail
   go_quiet (fail)
   go_wp2_with fail
   go_ret2;refine⟨.slice a c cap,?_,hx.o.drewN _⟩;rw[aD.o];rfl
def DW(n:Nat)(f g:Nat->Nat):Prop:=(∀i,i<n->f i=g i)∨∃i,i<n/\(∀j,j<i->f j=g j)/\f i<g i
theorem DW.antisymm{n:Nat}{f g:Nat->Nat}(hf:A7 n f)(hg:A7 n g)(h:DW n f g)(k:DW n g f):f=g:=by
 rcases h with h|⟨i,hi,h1,h2⟩
 .exact IM hf hg h
 .rcases k with k|⟨j,hj,k1,k2⟩
  .have:=k i hi;omega
  .rcases Nat.lt_trichotomy i j with e|e|e
   .have:=k1 i e;omega
   .subst e;omega
   .have:=h1 j e;omega
def Cn(R:Nat->Option (Nat->Nat))(p:Nat->Nat)(c:Nat):Nat->Nat
 | 0=>c
 | x+1=>if (R x).isSome=true/\p x<p (Cn R p c x) then x else Cn R p c x
theorem Fu{R:Nat->Option (Nat->Nat)}{p:Nat->Nat}{c:Nat}(hc:(R c).isSome=true):∀x,(R (Cn R p c x)).isSome=true/\(∀y,y<x->(R y).isSome=true->p (Cn R p c x)<=p y)/\p (Cn R p c x)<=p c
 | 0=>⟨hc,fun y h=>by omega,Nat.le_refl _⟩
 | x+1=>by
  obtain⟨h1,h2,h3⟩:=Fu (p:=p) hc x;unfold Cn;split
  .rename_i h;refine⟨h.1,fun y hy hr=>?_,ac⟩;by_cases e:y=x
   .subst e;exact Nat.le_refl _
   .have:=h2 y ac hr;omega
  .rename_i h;refine⟨h1,fun y hy hr=>?_,h3⟩;by_cases e:y=x
   .subst e;apply Classical.byContradiction;intro hn;exact h ⟨hr,ac⟩
   .exact h2 y ac hr
def QS(n:Nat)(R:Nat->Nat->Option (Nat->Nat)):Nat->Nat->(Nat->Nat)->(Nat->Nat)
 | 0,_,p=>p
 | k+1,c,p=>QS n R k (c+1) (An ((R c (Cn (R c) p c n)).getD DY) p)
theorem N8{n:Nat}{t:Tw}(hG:Cp n t):∀k c p,c+k=n->A7 n p->
  (∃h,A7 n h/\AY c h/\Sf n t.R k c h/\QS n t.R k c p=An h p)/\∀h,A7 n h->AY c h->Sf n t.R k c h->DW n (QS n t.R k c p) (An h p)
 | 0,c,p,hc,hp=>by
  refine⟨⟨DY,EI n,JJ _,trivial,rfl⟩,fun h hP hF _=> .inl fun i hi=>?_⟩;have:h=DY:=AY.all hP (by
    have:c=n:=ac;subst this;exact hF)
  subst this;rfl
 | k+1,c,p,hc,hp=>by
  have aF:=hG.one c ac;obtain⟨aL,aK,_⟩:=Fu (R:=t.R c) (p:=p) (c:=c) (by rw[aF];rfl) n;obtain⟨r,hr⟩:=Option.isSome_iff_exists.1 aL;obtain⟨_,hbn,aB,aE,aD⟩:=hG.rep _ _ _ hr;obtain⟨⟨h0,aN,aH,aM,aG⟩,hL⟩:=N8 hG k (c+1) (An r p) ac (aB.comp hp);have he:QS n t.R (k+1) c p=QS n t.R k (c+1) (An r p):=by
   show QS n t.R k (c+1) (An ((t.R c (Cn (t.R c) p c n)).getD DY) p)=_
   rw[hr];rfl
  rw[he];have aC:∀i,i<c->h0 i=i:=fun i hi=>aH i ac;refine⟨⟨An h0 r,aN.comp aB,fun i hi=>?_,⟨r,?_,?_⟩,?_⟩,fun h hP hF hS=>?_⟩
  .show r (h0 i)=i
   rw[aC i hi,aE i hi]
  .show t.R c (r (h0 c))=some r
   rw[aH c ac,aD];exact hr
  .rw[DV,aB.then_inv];exact aM
  .rw[aG];rfl
  .obtain⟨s,aA,aJ⟩:=hS;obtain⟨_,aI,hsP,hsF,hsb⟩:=hG.rep _ _ _ aA;have hle:=aK (h c) aI (by rw[aA];rfl);by_cases e:p (Cn (t.R c) p c n)=p (h c)
   .have e2:=hp.inj _ _ e;rw[<-e2,hr]at aA;injection aA with aA;subst aA;have:=hL (An h (AW n r)) (hP.comp aB.inv) (hF.div aB aE (by rw[aD,e2])) aJ
    rwa[<-DV,aB.cancel]at this
   .right;refine⟨c,ac,fun j hj=>?_,?_⟩
    .rw[aG];show p (r (h0 j))=p (h j)
     rw[aC j hj,aE j hj,hF j hj]
    .rw[aG];show p (r (h0 c))<p (h c)
     rw[aH c ac,aD];omega
structure DQ(n:Nat)(S:List (Nat->Nat))(b x:Nat)(f:Nat->Nat):Prop where
 gn:Gn S f
 fix:AY b f
 at_:f b=x
 le:∀g,Gn S g->AY b g->g b=x->DW n f g
theorem DQ.uniq{n:Nat}{S:List (Nat->Nat)}(hS:∀s∈S,A7 n s){b x:Nat}{f g:Nat->Nat}(hf:DQ n S b x f)(hg:DQ n S b x g):f=g:=
 DW.antisymm (hf.gn.isP hS) (hg.gn.isP hS) (hf.le g hg.gn hg.fix hg.at_) (hg.le f hf.gn hf.fix hf.at_)
theorem GW.canon{n k:Nat}{S:List (Nat->Nat)}{t:Tw}(hn:1<=n)(hS:∀s∈S,A7 n s)(h:GW n S t k)(hk:S.length<=k){b x:Nat}(hb:b<n){r:Nat->Nat}(hr:t.R b x=some r):DQ n S b x (QS n t.R (n-(b+1)) (b+1) r):=by
 obtain⟨_,_,aA,aF,aD⟩:=h.good.rep _ _ _ hr;obtain⟨⟨h0,aJ,aC,aI,aB⟩,hL⟩:=N8 h.good (n-(b+1)) (b+1) r ac aA;have aK:=(h.grp hn hS hk ac aJ aC).1 aI;have aE:Gn S r:=h.snd.1 b x r (Nat.zero_le _) hr;refine⟨by rw[aB];exact aK.mul aE,fun i hi=>?_,?_,fun g hg hF aH=>?_⟩
 .rw[aB];show r (h0 i)=i
  rw[aC i ac,aF i hi]
 .rw[aB];show r (h0 b)=x
  rw[aC b ac,aD]
 .have aG:=hg.isP hS;have h1:AY (b+1) (An g (AW n r)):=hF.div aA aF (by rw[aD,aH]);have h2:=(h.grp hn hS hk ac (aG.comp aA.inv) h1).2 (hg.mul (aE.inv hS));have:=hL _ (aG.comp aA.inv) h1 h2
  rwa[aA.cancel]at this
open Classical in
noncomputable def FX (n:Nat) (S:List (Nat->Nat)) (b x:Nat):Nat->Nat:=if h:∃f,DQ n S b x f then Classical.choose h else DY
open Classical in
theorem IG {n:Nat} {S:List (Nat->Nat)} (hS:∀s∈S,A7 n s) {b x:Nat} {f:Nat->Nat} (h:DQ n S b x f):FX n S b x=f:=by
 have he:∃f,DQ n S b x f:=⟨f,h⟩;unfold FX;rw[dif_pos he];exact DQ.uniq hS (Classical.choose_spec he) h
structure Lv where
 pt:Int
 orb:List Int
 reps:List (List Int)
section
open Go.RowKit Go.ChangeShapes Go.WideShapes Go.ChangeAt
theorem Vj:∀(es:List Rf) (aA:List Value),aA.length=es.length->∀i,i<es.length->∀j,j<4->(KC es aA)[i*4+j]?=(((es.getD i MU).cells (aA.getD i undef)))[j]?:=fun es=>by
 exact za3
section
variable {H:Type} {enc:TypeId × Value->H} {W:World} {held:Bool}
theorem SG{aC:Nat}{v:Value}{y:DataW H × List MemPlace}(h:DataW.trod enc Tryz.prog W 0 (fun _=>true) held aC 92 [v]=some y):∃es,OH W v es:=by
 rcases Go.Deep.open_slice Tryz.underlying92 h with⟨hcs,_⟩|⟨x,len,cap,m,n,D,Pl,hcs,_,hl,hm,hmm,_,hr⟩
 .simp at hcs;subst hcs;exact⟨[],OH.nil W⟩
 .simp at hcs;subst hcs;simp only[if_true]at hmm;subst hmm;rw[show Tryz.prog.cellsOf 176=4 by kernel_rfl]at hr;have aH:∀i,i<len->∃q:Rf × Value,W.cell? (x.add (i*4))=some (.int .i64 q.1.tp)/\W.cell? (x.add (i*4+1))=some (.int .i64 q.1.sc)/\W.cell? (x.add (i*4+2))=some (.int .i64 q.1.side)/\W.cell? (x.add (i*4+3))=some q.2/\Aj W q.2 q.1.msg:=fun i hi=>by
   obtain⟨aM,h1,h2⟩:=hr i ac;obtain⟨_,aB,aA⟩:=World.cells?_some h1;obtain⟨xs,k,_,_,_,aI,hf⟩:=DataW.trod_struct Tryz.underlying176 h2
   match xs,aI,aM,aB with
   | [y0,y1,y2,y3],_, [v0,v1,v2,v3],_=>
    have g0:=hf 0 _ rfl;have g1:=hf 1 _ rfl;have g2:=hf 2 _ rfl;have g3:=hf 3 _ rfl;simp[show Tryz.prog.cellsOf 3=1 by kernel_rfl,show Tryz.prog.cellsOf 22=1 by kernel_rfl]at g0 g1 g2 g3;have e0:=aA 0 ac;have e1:=aA 1 ac;have e2:=aA 2 ac;have e3:=aA 3 ac;rw[Go.Deep.add_add]at e0 e1 e2 e3;obtain⟨p0,aG,_,_⟩:=DataW.trod_int Tryz.underlying3 g0;obtain⟨p1,aF,_,_⟩:=DataW.trod_int Tryz.underlying3 g1;obtain⟨p2,aE,_,_⟩:=DataW.trod_int Tryz.underlying3 g2;simp at aG aF aE;subst aG aF aE;obtain⟨l,hl⟩:=DK g3;exact⟨(⟨p0,p1,p2,l⟩,v3),by simpa using e0,by simpa using e1,by simpa using e2,by simpa using e3,hl⟩
  haveI:Inhabited (Rf × Value):=⟨(MU,.bool false)⟩
  obtain⟨q,hq⟩:=Go.Deep.choose_lt aH;have hL:((List.range len).map fun i=>(q i).1).length=len:=ag;have hO:((List.range len).map fun i=>(q i).2).length=len:=ag;have aL:∀i,i<len->((List.range len).map fun i=>(q i).1).getD i MU=(q i).1:=fun i hi=>by
   rw[List.getD_eq_getElem?_getD];simp[hi]
  have aK:∀i,i<len->((List.range len).map fun i=>(q i).2).getD i undef=(q i).2:=fun i hi=>by
   rw[List.getD_eq_getElem?_getD];simp[hi]
  have aB:(KC ((List.range len).map fun i=>(q i).1) ((List.range len).map fun i=>(q i).2)).length=len*4:=by
   rw[LF _ _ (by rw[hL,hO]),hL]
  refine⟨(List.range len).map fun i=>(q i).1,(List.range len).map fun i=>(q i).2,by rw[hL,hO],⟨by rw[aB,hL],some x,m,by rw[hL],by rw[hL];exact hl,hm,fun hn=>?_⟩,fun i e mv h1 h2=>?_⟩
  .rw[hL]at hn;have h0:=(hq 0 hn).1;have hx:=G5 h0 (.inl ⟨_,_,rfl⟩);have aJ:(x.add (0*4))=x:=by simp[Addr.add]
   rw[aJ]at hx;refine⟨x.block,x.off,congrArg some hx,fun j u hu=>?_⟩;have hj:j<len*4:=by
    have:=(List.getElem?_eq_some_iff.1 hu).1;rw[aB]at this;exact this
   obtain⟨i,r,aD,rfl⟩:∃i r,r<4/\j=i*4+r:=⟨j/4,j%4,Nat.mod_lt _ ac,ac⟩;have hi:i<len:=db;obtain⟨k0,k1,k2,k3,_⟩:=hq i hi;rw[hx,ML]at k0 k1 k2 k3;rw[Vj _ _ (by rw[hL,hO]) i (by rw[hL];exact hi) r aD,aL i hi,aK i hi]at hu
   match r,aD with
   | 0,_=>simp[Rf.cells]at hu;rw[Nat.add_zero,<-hu];exact k0
   | 1,_=>simp[Rf.cells]at hu;rw[<-hu];exact k1
   | 2,_=>simp[Rf.cells]at hu;rw[<-hu];exact k2
   | 3,_=>simp[Rf.cells]at hu;rw[<-hu];exact k3
  .have hi:i<len:=by have:=(List.getElem?_eq_some_iff.1 h1).1;simpa using this
   simp[hi]at h1 h2;subst h1 h2;exact(hq i hi).2.2.2.2
theorem XZ:Tryz.prog.cellsOf 39=5:=ah
theorem XX:Tryz.prog.cellsOf 71=2:=ah
theorem ZU:Tryz.prog.cellsOf 94=1:=ah
theorem XY:Tryz.prog.cellsOf 92=1:=ah
theorem Yp{r:Reach}{b0:Nat}{v:Value}{d:DataW H}{p:List MemPlace}(hv:Value.okWide Tryz.prog W r b0 39 v)(h:DataW.Trod enc Tryz.prog W 0 (fun _=>true) held 39 v d p):
  ∃(c:AU) (mv gv:Value),v=c.arg mv gv/\c.at W mv gv:=by
 obtain⟨cs,rfl,aC⟩:=EH Tryz.underlying39 hv;obtain⟨c0,c1,c2,c3,c4,rfl⟩:=Ye (aC.trans XZ);obtain⟨fuel,hf⟩:=h;obtain⟨xs,k,_,_,_,aB,aA⟩:=DataW.trod_struct Tryz.underlying39 hf;have g0:=aA 0 _ rfl;have g1:=aA 1 _ rfl;have g2:=aA 2 _ rfl
 match xs,aB with
 | [y0,y1,y2],_=>
  simp[Ur,WP,XW,Value.cells]at g0 g1 g2;obtain⟨P,M,ml,rfl,rfl,hm⟩:=K4 g0;obtain⟨N,e0,_,_⟩:=DataW.trod_int Tryz.underlying3 g1;obtain⟨rows,hr⟩:=Te g2;simp at e0;subst e0;exact⟨⟨P,M,ml,N,rows⟩,_,_,rfl,hm,hr⟩
theorem Pa{aA:Nat}{c0 c1:Value}{y:DataW H × List MemPlace}(h:DataW.trod enc Tryz.prog W 0 (fun _=>true) held aA 71 [c0,c1]=some y):
  ∃(tl sl:List Int),Aj W c0 tl/\Aj W c1 sl:=by
 obtain⟨xs,k,_,_,_,aB,hf⟩:=DataW.trod_struct Tryz.underlying71 h;have g0:=hf 0 _ rfl;have g1:=hf 1 _ rfl
 match xs,aB with
 | [y0,y1],_=>
  simp[PB]at g0 g1;obtain⟨l,hl⟩:=DK g0;obtain⟨l',aC⟩:=DK g1;exact⟨l,l',hl,aC⟩
theorem Wq{α:Type}{cs:Array α}(h:cs.size=2):∃c0 c1,cs= #[c0,c1]:=by
 obtain⟨l⟩:=cs
 match l,h with
 | [c0,c1],_=>exact⟨c0,c1,rfl⟩
theorem Yn{r:Reach}{b0:Nat}{v:Value}{d:DataW H}{p:List MemPlace}(hv:Value.okWide Tryz.prog W r b0 71 v)(h:DataW.Trod enc Tryz.prog W 0 (fun _=>true) held 71 v d p):
  ∃(tv sv:Value) (tl sl:List Int),v= .agg #[tv,sv]/\Aj W tv tl/\Aj W sv sl:=by
 obtain⟨cs,rfl,aA⟩:=EH Tryz.underlying71 hv;obtain⟨c0,c1,rfl⟩:=Wq (aA.trans XX);obtain⟨fuel,hf⟩:=h;obtain⟨tl,sl,h1,h2⟩:=Pa dk;exact⟨_,_,tl,sl,rfl,h1,h2⟩
theorem Xh{aA:Nat}{c0:Value}{y:DataW H × List MemPlace}(h:DataW.trod enc Tryz.prog W 0 (fun _=>true) held aA 94 [c0]=some y):∃es,OH W c0 es:=by
 obtain⟨xs,k,_,_,_,aB,hf⟩:=DataW.trod_struct Tryz.underlying94 h;have g0:=hf 0 _ rfl
 match xs,aB with
 | [y0],_=>
  simp[XY]at g0;exact SG g0
end
end
end Go.Proofs.YtehieobniamagaaGreat
