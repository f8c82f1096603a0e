/- slices.EqualFunc; perm.CheckChain. -/
import Derived.Test.YtehieobniamagaaGreatZd25
namespace Go.Proofs.YtehieobniamagaaGreat
open Go.RowKit
set_option linter.all false
set_option maxRecDepth 100000
set_option maxHeartbeats 4000000
def Bu(L:List Lv):List (List Int):=L.flatMap fun l=>l.reps
theorem Rn{L:List Lv}{i:Nat}{l:Lv}(h:L[i]?=some l):Bu (L.take (i+1))=Bu (L.take i)++l.reps:=by
 unfold Bu;rw[List.take_add_one,h];simp
theorem PH(L:List Lv)(i:Nat):(Bu (L.take i)).length<=(Bu L).length:=by
 have:Bu L=Bu (L.take i)++Bu (L.drop i):=by
  unfold Bu;rw[<-List.flatMap_append,List.take_append_drop]
 rw[this,List.length_append];omega
open Classical in
noncomputable def BA (d:Int) (L:List Lv):Int:=if d<1∨64<d then 4 else if Ef d (Bu L)=0/\L=Co d.toNat ((Bu L).map Dg) d.toNat then 0 else 5
theorem Qb{n:Nat}{S:List (Nat->Nat)}{m:Nat}{l:Lv}(h:l∈Co n S m):l.orb.length<=n/\l.reps.length=l.orb.length:=by
 unfold Co at h;obtain⟨h1,h2⟩:=List.mem_filter.1 h;obtain⟨b,_,rfl⟩:=List.mem_map.1 h1;refine⟨by show(Dy (Bq S b n)).length<=n;rw[CE];exact Gc S b n,?_⟩;show(DE n S b n).length=(Dy (Bq S b n)).length
 unfold DE;rw[List.length_map,CE]
structure GM(w0 wr:World)(gv:Value)(M:List (List Int))(vals:List Value):Prop where
 own:wr.ownsRow w0.heap.size 22 1 gv M.length vals
 row:∀(i:Nat) (r:List Int) (u:Value),M[i]?=some r->vals[i]?=some u->Am w0 u r
 ex:Ex w0 wr
theorem GM.nil(w:World):GM w w (.slice none 0 0) [] []:=⟨World.ownsRow_nil _ _ _ _,fun i r u h=>by simp at h,Ex.refl _⟩
theorem GM.len{w0 wr:World}{gv:Value}{M:List (List Int)}{vals:List Value}(h:GM w0 wr gv M vals):vals.length=M.length:=by have:=h.own.1;omega
theorem GM.later{w0 wr w':World}{gv:Value}{M:List (List Int)}{vals:List Value}(h:GM w0 wr gv M vals)(hx:Ex wr w'):GM w0 w' gv M vals:=⟨Aj h.own hx,h.row,h.ex.trans hx⟩
theorem GM.msl{w0 wr:World}{gv:Value}{M:List (List Int)}{vals:List Value}(h:GM w0 wr gv M vals):BO wr gv M:=⟨vals,Sl.own h.own,fun i r u a b=>(h.row i r u a b).ex h.ex⟩
theorem GM.app{w0 wr w':World}{gv gv':Value}{M R:List (List Int)}{vals us:List Value}(h:GM w0 wr gv M vals)(hr:∀(i:Nat) (r:List Int) (u:Value),R[i]?=some r->us[i]?=some u->Am w0 u r)
  (ho:w'.ownsRow w0.heap.size 22 1 gv' (M.length+R.length) (vals++us)) (hx:Ex w0 w'):GM w0 w' gv' (M++R) (vals++us):=by
 have hn:=h.len;refine⟨by rw[List.length_append];exact ho,fun i r u h1 h2=>?_,hx⟩;by_cases e:i<M.length
 .rw[List.getElem?_append_left e]at h1;rw[List.getElem?_append_left ac]at h2;exact h.row i r u h1 h2
 .rw[List.getElem?_append_right ac]at h1 h2;rw[hn]at h2;exact hr _ r u h1 h2
theorem EF.open3{w:World}{v:Value}{L:List Lv}(h:EF w v L):∃a cap,v= .slice a L.length cap/\L.length<=cap/\cap<=maxLen/\
  (0<L.length->∃b o,a=some ⟨b,o,none⟩/\∀(i:Nat) (l:Lv),L[i]?=some l->∃u r,w.cell? ⟨b,o+i*3,none⟩=some (.int .i64 l.pt)/\w.cell? ⟨b,o+i*3+1,none⟩=some u/\w.cell? ⟨b,o+i*3+2,none⟩=some r/\Am w u l.orb/\BO w r l.reps):=by
 obtain⟨a,cap,h1,h2,h3,h4⟩:=h.open;refine⟨a,cap,h1,h2,h3,fun hn=>?_⟩;obtain⟨b,o,h5,h6⟩:=h4 hn;refine⟨b,o,h5,fun i l hl=>?_⟩;obtain⟨u,r,k1,k2,k3,k4,k5⟩:=h6 i l hl;exact⟨u,r,by rw[Nat.mul_comm i 3];exact k1,by rw[Nat.mul_comm i 3,Nat.add_assoc];exact k2,by rw[Nat.mul_comm i 3,Nat.add_assoc];exact k3,k4,k5⟩
theorem SA{l k:List Lv}(hl:l.length=k.length)(h:∀j,j<l.length->l[j]?=k[j]?):l=k:=by
 exact zcf
theorem Cd(w:World)(c:Int)(v:Value):(w.alloc (.cells #[.int .i64 c,v] 43)).cell? ⟨w.heap.size,0,none⟩=some (.int .i64 c)/\
  (w.alloc (.cells #[.int .i64 c,v] 43)).cell? ⟨w.heap.size,1,none⟩=some v/\Ex w (w.alloc (.cells #[.int .i64 c,v] 43)):=
 ⟨ag,ag,(Ex.refl _).alloc _⟩
theorem ER(w:World)(c:Int)(u v:Value):(w.alloc (.cells #[.int .i64 c,u,v] 90)).cell? ⟨w.heap.size,0,none⟩=some (.int .i64 c)/\
  (w.alloc (.cells #[.int .i64 c,u,v] 90)).cell? ⟨w.heap.size,1,none⟩=some u/\(w.alloc (.cells #[.int .i64 c,u,v] 90)).cell? ⟨w.heap.size,2,none⟩=some v/\Ex w (w.alloc (.cells #[.int .i64 c,u,v] 90)):=
 ⟨ag,ag,ag,(Ex.refl _).alloc _⟩
theorem zcg{P:Prop}(h:P:=by
 go_wp2_with fail
 go_ret;exact⟨Ah HR.o,aJ.o.trans (aA.o.ex.trans EB.o)⟩):P:=h
theorem Gr(w:World)(d:Int)(L:List Lv)(lv:Value)(hL:EF w lv L)(hg:(Bu L).length<=1000):
  Calls Tryz.prog 70 #[.agg #[.int .i64 d,lv]] w fun r w'=>r= .returned (.int .i64 (BA d L))/\Ex w w':=by
 obtain⟨d0,d1,e0⟩:=Cd w d lv;obtain⟨za,zc,rfl,z1,z2,z3⟩:=(hL.ex e0).open3;unfold maxLen at z2;have HL:=Aa (hL.ex e0);have Z3:=Aa z3;clear z3 hL;have HG:=Aa (Hc (w.alloc (.cells #[.int .i64 d,.slice za L.length zc] 43)) d);go_enter Tryz.func70,Tryz.ntmps70
 go_wp2_with fail
 obtain⟨q,hq⟩:=nA w.heap.size;rw[hq]at d0 d1
 try simp only[hq]
 clear hq;generalize w.alloc (.cells #[.int .i64 d,.slice za L.length zc] 43)=w1 at *;have aJ:=Aa e0;clear e0;refine HG.o.mono ?_;rintro e wd⟨rfl,rfl⟩;by_cases hd:d<1∨64<d
 .have HR:=Aa (show(4:Int)=BA d L from by unfold BA;rw[if_pos hd]);have aR:LC d=4:=by unfold LC;rw[if_pos hd]
  rw[aR];clear hd aR;go_wp2_with fail
  go_ret;exact⟨Ah HR.o,aJ.o⟩
 .have aR:LC d=0:=by unfold LC;rw[if_neg hd]
  rw[aR];obtain⟨D,rfl⟩:∃D:Nat,d=D:=⟨d.toNat,ac⟩;have hD1:1<=D:=br;have hD2:D<=64:=ac;have aE:=Aa (show(¬(Ef D (Bu L)=0/\L=Co D ((Bu L).map Dg) D))->5=BA D L from fun h=>by unfold BA;rw[if_neg hd];exact(if_neg h).symm);have bG:=Aa (show Ef D (Bu L)=0->L=Co D ((Bu L).map Dg) D->0=BA D L from fun h k=>by unfold BA;rw[if_neg hd];exact(if_pos ⟨h,k⟩).symm);clear hd aR;have D0:=Aa d0;have D1:=Aa d1;by_cases hln:D<L.length
  .have HR:=Aa (aE.o <| by
    rintro⟨_,h⟩;have:=congrArg List.length h;have:=Qc D ((Bu L).map Dg) D;omega)
   have h1:(D:Int)<(L.length:Int):=ac;go_wp2_with fail
   go_ret;exact⟨Ah HR.o,aJ.o⟩
  .have h1:¬(D:Int)<(L.length:Int):=by omega
   go_wp2_with fail
   clear d0 d1
   go_loopw [4,27] (fun gv' k' wr=>∃(k:Nat) (vals:List Value),k<=L.length/\k'= .int .i64 k/\Hia (GM w1 wr gv' (Bu (L.take k)) vals)) (fun _ k' _=>L.length-(intOf k').toNat)
   case atStart=>exact⟨0, [],ac,rfl,Aa (GM.nil w1)⟩
   case round=>
    obtain⟨k,vals,hk,rfl,aA⟩:=hrel;have cA:=PH L k;obtain⟨ga,gc,rfl⟩:=Ad aA.o.own;by_cases hkl:k<L.length
    .obtain⟨l,hl⟩:∃l,L[k]?=some l:=⟨_,List.getElem?_eq_getElem hkl⟩;obtain⟨zb,zo,rfl,aO⟩:=Z3.o ac;obtain⟨u,r,c0,c1,c2,hu,hr⟩:=aO k l hl;have c0:=aA.o.ex.cell c0;have c1:=aA.o.ex.cell c1;have c2:=aA.o.ex.cell c2;have d0:=aA.o.ex.cell D0.o;have d1:=aA.o.ex.cell D1.o;obtain⟨oa,oc,rfl,_,_,_⟩:=hu.open;obtain⟨ra,rc,rfl,_,_,_⟩:=hr.open;have i1:(0:Int)<=(k:Int):=by omega
     have i2:(k:Int)<(L.length:Int):=ac;obtain⟨p,hp⟩:=nA l.pt;rw[hp]at c0;obtain⟨bE,HPE,HU,aU⟩:=Eq hl hp hu hr;obtain⟨b0,b1,b2,eb⟩:=ER wr p (.slice oa l.orb.length oc) (.slice ra l.reps.length rc);have bd0:=eb.cell d0;have EB:=Aa eb;clear aO hl hp hu hr d1 eb;by_cases hbad:D<l.orb.length
     .have HR:=Aa (aE.o <| by
       rintro⟨_,h⟩;have:=(Qb (h ▸ List.mem_of_getElem? bE.o)).1;omega)
      have h2:(D:Int)<(l.orb.length:Int):=ac;clear hbad;exact zcg
     .have h2:¬(D:Int)<(l.orb.length:Int):=by omega
      by_cases hne:l.reps.length=l.orb.length
      .have h3:((l.reps.length:Int) !=(l.orb.length:Int))=false:=by simp;omega
       have HNE:=Aa hne;clear hne hbad;obtain⟨us,bO,_,bL⟩:=aU.o.vals;have bP:=Aa bL;have bR:=Aa bO;clear bL bO;have cG:=Aa (show ∀u∈us,u.oneCell'=true from fun u hu=>by
        obtain⟨i,hi,e⟩:=List.getElem_of_mem hu;have hul:us.length=l.reps.length:=by have:=bR.o.1;omega
        obtain⟨_,_,rfl,_⟩:=(bP.o i _ u (List.getElem?_eq_getElem ac) au).open;rfl)
       have aZ:=PH L (k+1);have bY:=Aa (Rn bE.o);rw[bY.o,List.length_append]at aZ;have HB:=Aa (Nat.le_trans aA.o.ex.size EB.o.size);have bU:=Aa (Aj aA.o.own EB.o);have cC:=Aa (bR.o.ex (aA.o.ex.trans EB.o));go_wp2_with (at_builtin;refine Be _ rfl _ _ 37 rfl w1.heap.size 22 (.slice none 0 0) 1 24 Tryz.underlying37 BH rfl ae (.slice ga (Bu (L.take k)).length gc) (Bu (L.take k)).length vals rfl bU.o (.slice ra l.reps.length rc) l.reps.length us rfl cC.o cG.o ai ac HB.o ?_;intro v' w' aK hg hb;have cI:=Aa (aA.o.app (R:=l.reps) (us:=us) (fun i r u a b=>bP.o i r u a b) aK (Ex.grown (aA.o.ex.trans EB.o) bU.o (Nat.le_refl _) hg));obtain⟨oa',oc',rfl⟩:=Ad aK;clear aK hg hb)
       go_roundw
       case rel=>exact⟨k+1,_,ac,by go_num,by rw[bY.o];exact cI⟩
       case measure=>simp[intOf];omega
      .have h3:((l.reps.length:Int) !=(l.orb.length:Int))=true:=by simp;omega
       have HR:=Aa (aE.o <| by
        rintro⟨_,h⟩;have:=(Qb (h ▸ List.mem_of_getElem? bE.o)).2;omega)
       clear hbad hne;exact zcg
    .obtain rfl:k=L.length:=by omega
     have d0:=aA.o.ex.cell D0.o;have bA:=MZ wr D (Bu (L.take L.length)) _ aA.o.msl ac;rw[List.take_length]at bA;have bI:=Aa bA;have bM:Bu (L.take L.length)=Bu L:=by rw[List.take_length]
     rw[bM];have aG:=Aa aA.o.ex;clear bA bM aA cA;by_cases hg0:Ef D (Bu L)=0
     .have aM:C7 D (Bu L)=(⟨D,Co D ((Bu L).map Dg) D⟩,0):=by unfold C7;rw[hg0,if_neg ae];rfl
      have bX:=Aa (bG.o hg0);have bF:=Aa (show L≠Co D ((Bu L).map Dg) D->5=BA D L from fun h=>aE.o fun k=>h k.2);obtain⟨K,hK⟩:=nA (Co D ((Bu L).map Dg) D);rw[hK]at aM bX bF;have aY:=Aa aM;clear hK aM hg0;by_cases hkl:K.length=L.length
      .have hb:((K.length:Int) !=(L.length:Int))=false:=by simp;omega
       have bV:=Aa hkl;clear hkl;go_wp2_with (go_at_call 123;refine bI.o.mono ?_;rintro e w5⟨⟨kv,rfl,aB⟩,aC⟩;rw[aY.o]at aB ⊢;dsimp only at aB ⊢;have cH:=Aa aB;obtain⟨ka,kc,rfl,_,_,aQ⟩:=aB.open3;have bW:=Aa aQ;have aL:=Aa (aG.o.trans aC);have d0:=(aG.o.trans aC).cell D0.o;have d1:=(aG.o.trans aC).cell D1.o;obtain⟨b0,b1,eb⟩:=Cd w5 D (.slice ka K.length kc);have e1:=eb.cell d1;have EB:=Aa eb;clear aB aQ aC eb)
       go_loopw [72] (fun j' wr=>∃(j:Nat),j<=L.length/\j'= .int .i64 j/\Hia (∀i,i<j->L[i]?=K[i]?)/\Hia (Ex (w5.alloc (.cells #[.int .i64 D,.slice ka K.length kc] 43)) wr)) (fun j' _=>L.length-(intOf j').toNat)
       case atStart=>exact⟨0,ac,rfl,Aa (fun i h=>ac),Aa (Ex.refl _)⟩
       case round=>
        clear d0 d1 e1;obtain⟨j,hj,rfl,aD,aF⟩:=hrel;by_cases hjl:j<L.length
        .obtain⟨l,hl⟩:∃l,L[j]?=some l:=⟨_,List.getElem?_eq_getElem hjl⟩;have cB:j<K.length:=by have:=bV.o;omega
         obtain⟨k,hk⟩:∃k,K[j]?=some k:=⟨_,List.getElem?_eq_getElem cB⟩;obtain⟨zb,zo,rfl,aO⟩:=Z3.o ac;obtain⟨yb,yo,rfl,bK⟩:=bW.o ac;have aT:=Aa ((aL.o.trans EB.o).trans aF.o);obtain⟨u,r,c0,c1,c2,hu,hr⟩:=aO j l hl;obtain⟨v,s,f0,f1,f2,hv,hs⟩:=bK j k hk;have c0:=aT.o.cell c0;have c1:=aT.o.cell c1;have c2:=aT.o.cell c2;have f0:=(EB.o.trans aF.o).cell f0;have f1:=(EB.o.trans aF.o).cell f1;have f2:=(EB.o.trans aF.o).cell f2;have b1:=aF.o.cell b1;obtain⟨oa,oc,rfl,_,_,_⟩:=hu.open;obtain⟨ra,rc,rfl,_,_,_⟩:=hr.open;obtain⟨pa,pc,rfl,_,_,_⟩:=hv.open;obtain⟨sa,sc,rfl,_,_,_⟩:=hs.open;have i1:(0:Int)<=(j:Int):=br;have i2:(j:Int)<(L.length:Int):=ac;have i3:(j:Int)<(K.length:Int):=ac;obtain⟨p,hp⟩:=nA l.pt;rw[hp]at c0;obtain⟨t,ht⟩:=nA k.pt;rw[ht]at f0;obtain⟨aV,aW,bS,bT⟩:=Eq hl hk hp ht;obtain⟨a0,a1,a2,ea⟩:=ER wr p (.slice oa l.orb.length oc) (.slice ra l.reps.length rc);have f0:=ea.cell f0;have f1:=ea.cell f1;have f2:=ea.cell f2;have b1:=ea.cell b1;obtain⟨g0,g1,g2,eg⟩:=ER (wr.alloc (.cells #[.int .i64 p,.slice oa l.orb.length oc,.slice ra l.reps.length rc] 90)) t (.slice pa k.orb.length pc) (.slice sa k.reps.length sc);obtain⟨cF,cE,aU,bQ,cD,bB⟩:=To ((hu.ex aT.o).ex (ea.trans eg)) (hv.ex ((EB.o.trans aF.o).trans (ea.trans eg))) ((hr.ex aT.o).ex (ea.trans eg)) (hs.ex ((EB.o.trans aF.o).trans (ea.trans eg))) (aF.o.trans (ea.trans eg)) ((aJ.o.trans (aL.o.trans EB.o)).trans (aF.o.trans (ea.trans eg)));have a0:=eg.cell a0;have a1:=eg.cell a1;have a2:=eg.cell a2;have bN:(wr.alloc (.cells #[.int .i64 p,.slice oa l.orb.length oc,.slice ra l.reps.length rc] 90)).heap.size=wr.heap.size+1:=ag;rw[bN]at g0 g1 g2;clear aO bK hl hk hp ht hu hv hr hs ea eg bN;have bH:=Aa (show(L[j]?≠K[j]?)->5=BA D L from fun h=>bF.o fun e=>h cj);by_cases hpt:p=t
         .subst hpt;have bZ:(p !=p)=false:=by simp
          have A2:=Aa a2;have G2:=Aa g2;have aN:=IZ ((wr.alloc (.cells #[.int .i64 p,.slice oa l.orb.length oc,.slice ra l.reps.length rc] 90)).alloc (.cells #[.int .i64 p,.slice pa k.orb.length pc,.slice sa k.reps.length sc] 90)) l.orb k.orb _ _ cF.o cE.o;by_cases Dw:l.orb=k.orb
          .rw[decide_eq_true Dw]at aN;have aX:=Aa aN;clear aN;by_cases hre:l.reps=k.reps
           .have HE:=Aa (show L[j]?=K[j]? from by
             rw[aV.o,aW.o];have e1:=bS.o;have e2:=bT.o;cases l;cases k
             simp only at Dw hre e1 e2;rw[Dw,hre,e1,e2])
            have bJ:=Aa (show ∀i,i<j+1->L[i]?=K[i]? from fun i hi=>by
             by_cases e:i=j
             .subst e;exact HE.o
             .exact aD.o i ac)
            have bD:=Aa (decide_eq_true hre);clear Dw hre aD;go_wp2_with (first|(go_at_call 101;refine aX.o.mono ?_;rintro e w6⟨rfl,n6,aI⟩;have X6:=(show Ex ((wr.alloc (.cells #[.int .i64 p,.slice oa l.orb.length oc,.slice ra l.reps.length rc] 90)).alloc (.cells #[.int .i64 p,.slice pa k.orb.length pc,.slice sa k.reps.length sc] 90)) w6 from by rw[aI];exact(Ex.refl _).drewN n6);have a2:=X6.cell A2.o;have g2:=X6.cell G2.o;have aH:=DU w6 l.reps k.reps _ _ (aU.o.ex X6) (bQ.o.ex X6);rw[bD.o]at aH;have aH:=Aa aH;have aS:=Aa X6;clear aI X6)|(go_at_call 128;refine aH.o.mono ?_;rintro e w7⟨rfl,n7,aP⟩;have bC:=Aa (aS.o.trans (show Ex w6 w7 from by rw[aP];exact(Ex.refl w6).drewN n7));clear aP))
            go_roundw
            case rel=>exact⟨j+1,ac,by go_num,bJ,Aa (cD.o.trans bC.o)⟩
            case measure=>simp[intOf];omega
           .have HR:=Aa (bH.o (by
             rw[aV.o,aW.o];intro e;injection e with e;exact hre cj))
            have bD:=Aa (decide_eq_false hre);clear Dw hre aD;go_wp2_with (first|(go_at_call 101;refine aX.o.mono ?_;rintro e w6⟨rfl,n6,aI⟩;have X6:=(show Ex ((wr.alloc (.cells #[.int .i64 p,.slice oa l.orb.length oc,.slice ra l.reps.length rc] 90)).alloc (.cells #[.int .i64 p,.slice pa k.orb.length pc,.slice sa k.reps.length sc] 90)) w6 from by rw[aI];exact(Ex.refl _).drewN n6);have a2:=X6.cell A2.o;have g2:=X6.cell G2.o;have aH:=DU w6 l.reps k.reps _ _ (aU.o.ex X6) (bQ.o.ex X6);rw[bD.o]at aH;have aH:=Aa aH;have aS:=Aa X6;clear aI X6)|(go_at_call 128;refine aH.o.mono ?_;rintro e w7⟨rfl,n7,aP⟩;have bC:=Aa (aS.o.trans (show Ex w6 w7 from by rw[aP];exact(Ex.refl w6).drewN n7));clear aP))
            go_ret;exact⟨Ah HR.o,bB.o.trans bC.o⟩
          .have HR:=Aa (bH.o (by
            rw[aV.o,aW.o];intro e;injection e with e;exact Dw cj))
           rw[decide_eq_false Dw]at aN;have aX:=Aa aN;clear aN Dw aD;go_wp2_with (go_at_call 101;refine aX.o.mono ?_;rintro e w6⟨rfl,n6,aI⟩;have aS:=Aa (show Ex ((wr.alloc (.cells #[.int .i64 p,.slice oa l.orb.length oc,.slice ra l.reps.length rc] 90)).alloc (.cells #[.int .i64 p,.slice pa k.orb.length pc,.slice sa k.reps.length sc] 90)) w6 from by rw[aI];exact(Ex.refl _).drewN n6);clear aI)
           go_ret;exact⟨Ah HR.o,bB.o.trans aS.o⟩
         .have bZ:(p !=t)=true:=by simpa using hpt
          have HR:=Aa (bH.o (by
           rw[aV.o,aW.o];intro e;injection e with e;have e1:=bS.o;have e2:=bT.o;exact hpt (by rw[<-e1,<-e2,e])))
          clear hpt;go_wp2_with fail
          go_ret;exact⟨Ah HR.o,bB.o⟩
        .obtain rfl:j=L.length:=by omega
         have HR:=Aa (bX.o (SA bV.o.symm aD.o));go_wp2_with fail
         go_ret;exact⟨Ah HR.o,aJ.o.trans ((aL.o.trans EB.o).trans aF.o)⟩
      .have hb:((K.length:Int) !=(L.length:Int))=true:=by simp;omega
       have HR:=Aa (bF.o fun e=>hkl (by rw[<-e]));clear hkl;go_wp2_with (go_at_call 123;refine bI.o.mono ?_;rintro e w5⟨⟨kv,rfl,aB⟩,aC⟩;rw[aY.o]at aB ⊢;dsimp only at aB ⊢;have cH:=Aa aB;obtain⟨ka,kc,rfl,_,_,aQ⟩:=aB.open3;have bW:=Aa aQ;have aL:=Aa (aG.o.trans aC);have d0:=(aG.o.trans aC).cell D0.o;have d1:=(aG.o.trans aC).cell D1.o;obtain⟨b0,b1,eb⟩:=Cd w5 D (.slice ka K.length kc);have e1:=eb.cell d1;have EB:=Aa eb;clear aB aQ aC eb)
       go_ret;exact⟨Ah HR.o,aJ.o.trans (aL.o.trans EB.o)⟩
     .obtain⟨E,hE⟩:=nA (Ef D (Bu L));have aM:C7 D (Bu L)=(⟨0, []⟩,E):=by unfold C7;rw[if_pos hg0,hE]
      have aY:=Aa aM;have HR:=Aa (aE.o fun h=>hg0 h.1);rw[hE]at hg0;have hb:(E !=0)=true:=by simpa using hg0
      clear aM hE hg0;go_wp2_with (go_at_call 123;refine bI.o.mono ?_;rintro e w5⟨⟨kv,rfl,aB⟩,aC⟩;rw[aY.o]at aB ⊢;dsimp only at aB ⊢;obtain⟨ka,kc,rfl,_,_,_⟩:=aB.open3;have aL:=Aa (aG.o.trans aC);have d0:=(aG.o.trans aC).cell D0.o;have d1:=(aG.o.trans aC).cell D1.o;obtain⟨b0,b1,eb⟩:=Cd w5 0 (.slice ka 0 kc);have EB:=Aa eb;clear aB aC eb)
      go_ret;exact⟨Ah HR.o,aJ.o.trans (aL.o.trans EB.o)⟩
theorem T6{P:(Nat->Nat)->Prop}(h:∃f,P f)(n:Nat):∃f,P f/\∀g,P g->EL n f g:=by
 have aC:∀i,∃f,P f/\∀g,P g->(∀j,j<i->f j=g j)∨∃k,k<i/\(∀j,j<k->f j=g j)/\f k<g k:=by
  intro i
  induction i with
  | zero=>
   obtain⟨f,hf⟩:=h;exact⟨f,hf,fun g _=> .inl fun j hj=>ac⟩
  | succ i ih=>
   obtain⟨f,hf,hl⟩:=ih;have aA:∀N f',P f'->(∀j,j<i->f j=f' j)->f' i<=N->∃aB,P aB/\(∀j,j<i->f j=aB j)/\∀g,P g->(∀j,j<i->f j=g j)->aB i<=g i:=by
    intro N
    induction N with
    | zero=>exact fun f' h1 h2 h3=>⟨f',h1,h2,fun g _ _=>ac⟩
    | succ N ihN=>
     intro f' h1 h2 h3;by_cases hex:∃g,P g/\(∀j,j<i->f j=g j)/\g i<=N
     .obtain⟨g,g1,g2,g3⟩:=hex;exact ihN g g1 g2 g3
     .refine⟨f',h1,h2,fun g g1 g2=>?_⟩;apply Classical.byContradiction;intro hn;exact hex ⟨g,g1,g2,ac⟩
   obtain⟨f',h1,h2,h3⟩:=aA (f i) f hf (fun _ _=>rfl) (Nat.le_refl _);refine⟨f',h1,fun g hg=>?_⟩;rcases hl g hg with h4|⟨k,k1,k2,k3⟩
   .have h5:=h3 g hg h4;by_cases e:f' i=g i
    .exact .inl fun j hj=>by
      by_cases e2:j=i
      .subst e2;exact e
      .rw[<-h2 j ac,h4 j ac]
    .exact .inr ⟨i,ac,fun j hj=>by rw[<-h2 j hj,h4 j hj],ac⟩
   .exact .inr ⟨k,ac,fun j hj=>by rw[<-h2 j ac,k2 j hj],by rw[<-h2 k k1];exact k3⟩
 obtain⟨f,hf,hl⟩:=aC n;exact⟨f,hf,hl⟩
open Classical in
theorem Eo {S:List (Nat->Nat)} {b m x:Nat}:x∈Bq S b m↔x<m/\∃f,Gn S f/\AW b f/\f b=x:=by
 unfold Bq;rw[List.mem_filter,List.mem_range,decide_eq_true_eq]
theorem G8{n:Nat}{S:List (Nat->Nat)}(hS:∀s∈S,Bw n s){b x:Nat}(h:∃f,Gn S f/\AW b f/\f b=x):DQ n S b x (FY n S b x):=by
 obtain⟨f,⟨h1,h2,h3⟩,h4⟩:=T6 (P:=fun f=>Gn S f/\AW b f/\f b=x) h n;have hl:DQ n S b x f:=⟨h1,h2,h3,fun g k1 k2 k3=>h4 g ⟨k1,k2,k3⟩⟩;rw[JF hS hl];exact hl
open Classical in
theorem Un {P Q:(Nat->Nat)->Prop} (h:P=Q):(if h:∃f,P f then Classical.choose h else EN)=if h:∃f,Q f then Classical.choose h else EN:=by
 subst h;rfl
theorem Rz{n:Nat}{S T:List (Nat->Nat)}(h:∀f,Gn S f↔Gn T f)(m:Nat):Co n S m=Co n T m:=by
 have hg:Gn S=Gn T:=funext fun f=>propext (h f);have ho:∀b k,Bq S b k=Bq T b k:=fun b k=>by unfold Bq;rw[hg]
 have hL:∀b x f,DQ n S b x f↔DQ n T b x f:=fun b x f=>
  ⟨fun k=>⟨hg ▸ k.gn,k.fix,k.at_,fun g k1=>k.le g (by rw[hg];exact k1)⟩,fun k=>⟨by rw[hg];exact k.gn,k.fix,k.at_,fun g k1=>k.le g (hg ▸ k1)⟩⟩
 have hl:∀b x,FY n S b x=FY n T b x:=fun b x=>by
  exact Un (funext fun f=>propext (hL b x f))
 have hv:E7 n S=E7 n T:=funext fun b=>by
  unfold E7 DE;rw[ho]
  congr 1
  exact List.map_congr_left fun x _=>by rw[hl]
 unfold Co;rw[hv]
inductive Ll(n:Nat)(S:List (Nat->Nat)):Nat->List Nat->Prop
 | nil:Ll n S n []
  | skip {b:Nat} {bs:List Nat}:b<n->(Bq S b n).length<=1->Ll n S (b+1) bs->Ll n S b bs
 | cons {b:Nat} {bs:List Nat}:b<n->1<(Bq S b n).length->Ll n S (b+1) bs->Ll n S b (b :: bs)
theorem Ll.le{n:Nat}{S:List (Nat->Nat)}{b:Nat}{bs:List Nat}(h:Ll n S b bs):b<=n:=by
 cases h <;> omega
theorem Ll.ge{n:Nat}{S:List (Nat->Nat)}{b:Nat}{bs:List Nat}(h:Ll n S b bs):∀c∈bs,b<=c/\c<n:=by
 induction h with
 | nil=>intro c hc;cases hc
 | skip h1 _ _ ih=>intro c hc;have:=ih c hc;omega
 | cons h1 _ _ ih=>
  intro c hc;rcases List.mem_cons.1 hc with e|e
  .subst e;omega
  .have:=ih c e;omega
noncomputable def Eb(n:Nat)(S:List (Nat->Nat))(k:Nat):List Nat:=((List.range k).map fun i=>n-k+i).filter fun b=>decide (1<(Bq S b n).length)
theorem UM(n:Nat)(S:List (Nat->Nat)):∀k,k<=n->Ll n S (n-k) (Eb n S k)
 | 0,_=>by
  rw[Nat.sub_zero];exact .nil
 | k+1,hk=>by
  have ih:=UM n S k ac;have he:((List.range (k+1)).map fun i=>n-(k+1)+i)=(n-(k+1)) :: ((List.range k).map fun i=>n-k+i):=by
   rw[List.range_succ_eq_map,List.map_cons,List.map_map]
   congr 1
   exact List.map_congr_left fun i _=>by show n-(k+1)+(i+1)=n-k+i;omega
  have hb:n-k=n-(k+1)+1:=ac;rw[hb]at ih;by_cases h:1<(Bq S (n-(k+1)) n).length
  .have:Eb n S (k+1)=(n-(k+1)) :: Eb n S k:=by
    unfold Eb;rw[he,List.filter_cons,if_pos (decide_eq_true h)]
   rw[this];exact .cons ac h ih
  .have:Eb n S (k+1)=Eb n S k:=by
    unfold Eb;rw[he,List.filter_cons,if_neg az]
   rw[this];exact .skip ac ac ih
noncomputable def Pb(n:Nat)(S:List (Nat->Nat)):List Nat:=(List.range n).filter fun b=>decide (1<(Bq S b n).length)
theorem R7(n:Nat)(S:List (Nat->Nat)):Ll n S 0 (Pb n S):=by
 have h:=UM n S n (Nat.le_refl _);rw[Nat.sub_self]at h;have:Eb n S n=Pb n S:=by
  unfold Eb Pb
  congr 1
  rw[Nat.sub_self];simp
 rwa[this]at h
theorem K8(n:Nat)(S:List (Nat->Nat)):Co n S n=(Pb n S).map (E7 n S):=by
 unfold Co Pb;rw[List.filter_map]
 congr 1
 apply List.filter_congr;intro b _;show decide (1<(Dy (Bq S b n)).length)=_
 rw[CE]
theorem Ya{n:Nat}{S:List (Nat->Nat)}{b:Nat}(hb:b<n)(h:(Bq S b n).length<=1){f:Nat->Nat}(hf:Gn S f)(hP:Bw n f)(hF:AW b f):AW (b+1) f:=fun i hi=>by
 by_cases e:i=b
 .subst e;have h1:i∈Bq S i n:=Eo.2 ⟨hb,EN,.one,KR _,rfl⟩;have h2:f i∈Bq S i n:=Eo.2 ⟨hP.lt i hb,f,hf,hF,rfl⟩;obtain⟨j,hj,e1⟩:=List.getElem_of_mem h1;obtain⟨k,hk,e2⟩:=List.getElem_of_mem h2;have:j=k:=by omega
  subst this;rw[<-e2,e1]
 .exact hF i ac
noncomputable def ZY(n:Nat)(S:List (Nat->Nat)):List Nat->(Nat->Nat)->Nat->(Nat->Nat) × Nat
 | [],f,k=>(f,k)
 | b :: bs,f,k=>if f b∈Bq S b n then ZY n S bs (Ar f (A8 n (FY n S b (f b)))) (k+1) else(f,k)
noncomputable def Cj(n:Nat)(S:List (Nat->Nat))(bs:List Nat):List (Nat->Nat):=bs.flatMap fun b=>(Bq S b n).map (FY n S b)
theorem MA(n:Nat)(S:List (Nat->Nat))(bs:List Nat):Bu (bs.map (E7 n S))=(Cj n S bs).map (li n):=by
 unfold Bu Cj;rw[List.flatMap_map,List.map_flatMap]
 congr 1
 funext b;show DE n S b n=_
 unfold DE;rw[List.map_map];rfl
theorem Mj{n:Nat}{S:List (Nat->Nat)}(hS:∀s∈S,Bw n s){bs:List Nat}{r:Nat->Nat}(h:r∈Cj n S bs):∃b∈bs,Gn S r/\AW b r:=by
 unfold Cj at h;obtain⟨b,hb,h1⟩:=List.mem_flatMap.1 h;obtain⟨x,hx,rfl⟩:=List.mem_map.1 h1;have:=G8 hS (Eo.1 hx).2;exact⟨b,hb,this.gn,this.fix⟩
theorem GX{n:Nat}{S:List (Nat->Nat)}(hS:∀s∈S,Bw n s)(bs:List Nat):∀r∈Cj n S bs,Bw n r:=fun r hr=>by
 obtain⟨_,_,h,_⟩:=Mj hS hr;exact h.isP hS
theorem TA{n:Nat}{S:List (Nat->Nat)}(hS:∀s∈S,Bw n s){b:Nat}(hb:b<n){f:Nat->Nat}(hf:Gn S f)(hF:AW b f):
  f b∈Bq S b n/\Gn S (Ar f (A8 n (FY n S b (f b))))/\AW (b+1) (Ar f (A8 n (FY n S b (f b))))/\Ar (Ar f (A8 n (FY n S b (f b)))) (FY n S b (f b))=f:=by
 have hP:=hf.isP hS;have hm:f b∈Bq S b n:=Eo.2 ⟨hP.lt b hb,f,hf,hF,rfl⟩;have hl:=G8 hS (Eo.1 hm).2;have aA:=hl.gn.isP hS;exact⟨hm,hf.mul (hl.gn.inv hS),hF.div aA hl.fix hl.at_,aA.cancel⟩
theorem US{n:Nat}{S:List (Nat->Nat)}(hS:∀s∈S,Bw n s){b:Nat}{bs:List Nat}(h:Ll n S b bs):∀(f:Nat->Nat) (k:Nat),Gn S f->AW b f->ZY n S bs f k=(EN,k+bs.length)/\Gn (Cj n S bs) f:=by
 induction h with
 | nil=>
  intro f k hf hF;have:=AW.all (hf.isP hS) hF;subst this;exact⟨rfl,.one⟩
 | skip h1 h2 _ ih=>exact fun f k hf hF=>ih f k hf (Ya h1 h2 hf (hf.isP hS) hF)
 | @cons b bs h1 h2 _ ih=>
  intro f k hf hF;obtain⟨k1,k2,k3,k4⟩:=TA hS h1 hf hF;obtain⟨m1,m2⟩:=ih _ (k+1) k2 k3;constructor
  .unfold ZY;rw[if_pos k1,m1,List.length_cons,show k+1+bs.length=k+(bs.length+1) by omega]
  .rw[<-k4];refine Gn.mul (m2.mono fun s hs=>Gn.of ?_) (Gn.of ?_)
   .unfold Cj at hs ⊢;rw[List.flatMap_cons];exact List.mem_append_right _ hs
   .unfold Cj;rw[List.flatMap_cons];exact List.mem_append_left _ (List.mem_map.2 ⟨_,k1,rfl⟩)
theorem Em{n:Nat}{S:List (Nat->Nat)}(hS:∀s∈S,Bw n s){b:Nat}{bs:List Nat}(h:Ll n S b bs)(f:Nat->Nat):Gn (Cj n S bs) f↔Gn S f/\AW b f:=by
 constructor
 .intro hf
  induction hf with
  | one=>exact⟨.one,KR _⟩
  | step _ hs ih=>
   obtain⟨c,hc,h1,h2⟩:=Mj hS hs;have:=h.ge c hc;exact⟨ih.1.mul h1,ih.2.comp fun i hi=>h2 i ac⟩
 .rintro⟨h1,h2⟩;exact(US hS h f 0 h1 h2).2
open Classical in
theorem IJ {n:Nat} {S:List (Nat->Nat)} (hS:∀s∈S,Bw n s) {b:Nat} {bs:List Nat} (h:Ll n S b bs) {c:Nat} (hc:b<=c) (m:Nat):Bq (Cj n S bs) c m=Bq S c m:=by
 unfold Bq;apply List.filter_congr;intro x _;rw[decide_eq_decide];constructor
 .rintro⟨f,h1,h2,h3⟩;exact⟨f,((Em hS h f).1 h1).1,h2,h3⟩
 .rintro⟨f,h1,h2,h3⟩;exact⟨f,(Em hS h f).2 ⟨h1,fun i hi=>h2 i ac⟩,h2,h3⟩
theorem Vq{n:Nat}{S:List (Nat->Nat)}(hS:∀s∈S,Bw n s){b:Nat}{bs:List Nat}(h:Ll n S b bs){c:Nat}(hc:c<b):(Bq (Cj n S bs) c n).length<=1:=by
 have aA:∀x∈Bq (Cj n S bs) c n,x=c:=fun x hx=>by
  obtain⟨_,f,h1,_,h3⟩:=Eo.1 hx;rw[<-h3];exact((Em hS h f).1 h1).2 c hc
 have aB:(Bq (Cj n S bs) c n).Nodup:=List.Nodup.sublist List.filter_sublist List.nodup_range
 match hq:Bq (Cj n S bs) c n with
 | []=>simp
 | [x]=>simp
 | x :: y :: q=>
  exfalso;rw[hq]at aB aA;have h1:=aA x ag;have h2:=aA y ag;rw[h1,h2]at aB;simp at aB
theorem T7{n:Nat}{S:List (Nat->Nat)}(hS:∀s∈S,Bw n s){b:Nat}{bs:List Nat}(h:Ll n S b bs){c:Nat}(hc:b<=c):E7 n (Cj n S bs) c=E7 n S c:=by
 have hL:∀x,x∈Bq S c n->FY n (Cj n S bs) c x=FY n S c x:=fun x hx=>by
  have hl:=G8 hS (Eo.1 hx).2;refine JF (GX hS bs) ⟨(Em hS h _).2 ⟨hl.gn,fun i hi=>hl.fix i ac⟩,hl.fix,hl.at_,fun g h1 h2 h3=>hl.le g ((Em hS h g).1 h1).1 h2 h3⟩
 unfold E7 DE;rw[IJ hS h hc]
 congr 1
 exact List.map_congr_left fun x hx=>by rw[hL x hx]
theorem WE{n:Nat}{S:List (Nat->Nat)}(hS:∀s∈S,Bw n s){b:Nat}{bs:List Nat}(h:Ll n S b bs):Co n (Cj n S bs) n=bs.map (E7 n S):=by
 rw[K8];have aA:∀ {b':Nat} {bs':List Nat},Ll n S b' bs'->b<=b'->∀bs'',Ll n (Cj n S bs) b' bs''->bs''=bs':=by
  intro b' bs' h'
  induction h' with
  | nil=>
   intro hb bs'' h2
   cases h2 with
   | nil=>rfl
   | skip h _ _=>omega
   | cons h _ _=>omega
  | skip h1 h2 _ ih=>
   intro hb bs'' h3
   cases h3 with
   | nil=>omega
   | skip k1 k2 k3=>exact ih ac _ k3
   | cons k1 k2 k3=>rw[IJ hS h hb]at k2;omega
  | cons h1 h2 _ ih=>
   intro hb bs'' h3
   cases h3 with
   | nil=>omega
   | skip k1 k2 k3=>rw[IJ hS h hb]at k2;omega
   | cons k1 k2 k3=>rw[ih ac _ k3]
 have low:∀d c,c+d=b->∀bs'',Ll n (Cj n S bs) c bs''->Ll n (Cj n S bs) b bs'':=by
  intro d
  induction d with
  | zero=>intro c hc bs'' h2;rw[<-hc];exact h2
  | succ d ih=>
   intro c hc bs'' h2;have hle:=h.le
   cases h2 with
   | nil=>omega
   | skip k1 k2 k3=>exact ih (c+1) ac bs'' k3
   | cons k1 k2 k3=>have:=Vq hS h (c:=c) ac;omega
 rw[aA h (Nat.le_refl _) _ (low b 0 ac _ (R7 n _))];exact List.map_congr_left fun c hc=>T7 hS h (h.ge c hc).1
theorem Y9{n:Nat}{S:List (Nat->Nat)}(h1:1<=n)(h2:n<=64)(hS:∀s∈S,Bw n s){b:Nat}{bs:List Nat}(h:Ll n S b bs):BA n (bs.map (E7 n S))=0:=by
 unfold BA;rw[if_neg ac];refine if_pos ⟨?_,?_⟩
 .rw[MA];exact SN h1 h2 (GX hS bs)
 .rw[MA,Ht (GX hS bs)];exact(WE hS h).symm
theorem Td{d:Int}{L:List Lv}(h:BA d L=0):∃n:Nat,d=n/\1<=n/\n<=64/\∃S:List (Nat->Nat),(∀s∈S,Bw n s)/\Bu L=S.map (li n)/\L=(Pb n S).map (E7 n S):=by
 unfold BA at h;split at h
 .cases h
 .split at h
  .rename_i h1 h2;obtain⟨N,rfl,h3,h4,S,h5,h6⟩:=JM h2.1;refine⟨N,rfl,h3,h4,S,h6,h5,?_⟩;rw[<-K8];have:=h2.2
   rwa[h5,Ht h6]at this
  .cases h
theorem SH:(Tryz.prog.info? 91).map (fun i=>(i.zero,i.size,i.bytes))=some (some (.int .u32 0),1,4):=ah
def uv(f:Nat->Nat):Nat->Value:=fun j=> .int .u32 (f j:Int)
theorem UI(f:Nat->Nat)(k:Nat)(y:Nat):Az (uv f) k (.int .u32 (y:Int))=uv (Az f k y):=by
 funext j;unfold Az uv;by_cases h:j=k <;> simp[h]
def NL(w:World)(v:Value)(n:Nat)(f:Nat->Nat):Prop:=Sl w v n 1 (vs n (uv f))
def Il(w:World)(v:Value)(x:Nat):Prop:=∃n f,I9 n f/\vS f n=x/\NL w v n f
theorem NL.ex{w w':World}{v:Value}{n:Nat}{f:Nat->Nat}(h:NL w v n f)(hx:Ex w w'):NL w' v n f:=Sl.ex h hx
theorem Il.ex{w w':World}{v:Value}{x:Nat}(h:Il w v x)(hx:Ex w w'):Il w' v x:=by
 obtain⟨n,f,h1,h2,h3⟩:=h;exact⟨n,f,h1,h2,h3.ex hx⟩
theorem NL.open{w:World}{v:Value}{n:Nat}{f:Nat->Nat}(h:NL w v n f):∃a cap,v= .slice a n cap/\n<=cap/\cap<=maxLen/\
  (0<n->∃b o,a=some ⟨b,o,none⟩/\∀j,j<n->w.cell? ⟨b,o+j,none⟩=some (.int .u32 (f j:Int))):=by
 obtain⟨h1,a,cap,rfl,h3,h4,h5⟩:=h;refine⟨a,cap,rfl,h3,h4,fun hn=>?_⟩;obtain⟨b,o,rfl,h6⟩:=h5 hn;exact⟨b,o,rfl,fun j hj=>h6 j _ (De hj (uv f))⟩
theorem NL.mk{w:World}{a:Option Addr}{n cap:Nat}{f:Nat->Nat}(h1:n<=cap)(h2:cap<=maxLen)(h3:0<n->∃b o,a=some ⟨b,o,none⟩/\∀j,j<n->w.cell? ⟨b,o+j,none⟩=some (.int .u32 (f j:Int))):NL w (.slice a n cap) n f:=by
 refine⟨by rw[Bf,Nat.mul_one],a,cap,rfl,h1,h2,fun hn=>?_⟩;obtain⟨b,o,rfl,h4⟩:=h3 hn;refine⟨b,o,rfl,fun j u hu=>?_⟩;have hj:j<n:=by have:=(List.getElem?_eq_some_iff.1 hu).1;rwa[Bf]at this
 rw[De hj]at hu;injection hu with hu;rw[h4 j hj,<-hu];rfl
theorem NL.take{w:World}{a:Option Addr}{n cap m:Nat}{f:Nat->Nat}(h:NL w (.slice a n cap) n f)(hm:m<=n){c:Nat}(hc:m<=c)(aA:c<=cap):NL w (.slice a m c) m f:=by
 obtain⟨a',cap',e,h1,h2,h3⟩:=h.open;injection e with e1 e2 e3;subst e1 e3;exact NL.mk hc (Nat.le_trans aA h2) fun hn=>by
  obtain⟨b,o,rfl,h4⟩:=h3 ac;exact⟨b,o,rfl,fun j hj=>h4 j ac⟩
theorem Gb(w:World)(n:Nat)(f:Nat->Nat)(v:Value)(hv:NL w v n f)(aA:∀k,k<n->f k<BK):
  Calls Tryz.prog 87 #[v] w fun r w'=>(∃u m,r= .returned u/\m<=n/\I9 m f/\vS f m=vS f n/\NL w u m f)/\w'=w:=by
 obtain⟨a,cap,rfl,s1,s2,s3⟩:=hv.open;obtain⟨HV,S3,aC,HCM⟩:=Eq hv s3 aA s2;unfold maxLen at s2;clear hv s3 aA;go_enter Tryz.func87,Tryz.ntmps87
 go_wp2_with fail
 go_loopw [3] (fun m' wr=>∃m:Nat,m'= .int .i64 m/\wr=w/\Hia (MS f n m)) (fun m' _=>(intOf m').toNat)
 case atStart=>exact⟨n,rfl,rfl,⟨Nat.le_refl _,rfl⟩⟩
 case round=>
  obtain⟨m,rfl,rfl,hs⟩:=hrel;have aB:=hs.o.le
  cases m with
  | zero=>
   have HC:=Aa (hs.o.fin aC.o (fun m h=>by cases h));go_wp2_with fail
   go_ret;exact⟨⟨_,0,rfl,Nat.zero_le _,HC.o,hs.o.val,HV.o.take (Nat.zero_le _) (Nat.le_refl _) (Nat.zero_le _)⟩,rfl⟩
  | succ k=>
   have i1:(0:Int)<=(k:Int):=ac;have i2:(k:Int)<(n:Int):=ac;obtain⟨b,o,rfl,hc⟩:=S3.o ac;have c1:=hc k ac;have hw1:((k+1:Nat):Int)-1=(k:Int):=br;by_cases h0:f k=0
   .have HS:=Aa (hs.o.step h0);rw[h0]at c1;clear hc h0;go_wp2_with fail
    go_roundw
    case rel=>exact⟨k,by go_num,trivial,HS⟩
    case measure=>simp[intOf]
   .have HC:=Aa (hs.o.fin aC.o (fun m h=>by injection h with h;subst h;exact h0));have hb:((f k:Int)==0)=false:=by simpa using h0
    clear hc h0;go_wp2_with fail
    go_ret;exact⟨⟨_,k+1,rfl,aB,HC.o,hs.o.val,HV.o.take aB (Nat.le_refl _) ac⟩,rfl⟩
theorem NL.cells{w:World}{v:Value}{n:Nat}{f:Nat->Nat}(h:NL w v n f):∀u∈vs n (uv f),u.oneCell'=true:=fun u hu=>by
 unfold vs uv at hu;obtain⟨j,_,rfl⟩:=List.mem_map.1 hu;rfl
theorem Ql(w:World)(n:Nat)(f:Nat->Nat)(v:Value)(hv:NL w v n f)(aC:∀k,k<n->f k<BK)(hn:n<=100000):
  Calls Tryz.prog 96 #[v] w fun r w'=>(∃u,r= .returned u/\Il w' u (vS f n))/\Ex w w':=by
 obtain⟨a,cap,rfl,s1,s2,s3⟩:=hv.open;have HS:=Aa (Gb w n f _ hv aC);have HN:=Aa hn;clear hv s3 aC hn;go_enter Tryz.func96,Tryz.ntmps96
 go_wp2_with (first|(go_at_call 87;refine HS.o.mono ?_;rintro e w2⟨⟨u,m,rfl,hm,hc,aB,hu⟩,rfl⟩;obtain⟨ua,uc,rfl,_,_,_⟩:=hu.open;have HU:=Aa hu;have HM:=Aa hm;have HC:=Aa hc;have aE:=Aa aB;clear hu hm hc aB;have hm2:m<=100000:=Nat.le_trans HM.o HN.o)
                        | (at_builtin;refine Be _ rfl _ _ 56 rfl w2.heap.size 91 (.int .u32 0) 1 4 Tryz.underlying56 SH rfl ae (.slice none 0 0) 0 [] rfl (World.ownsRow_nil _ _ _ _) (.slice ua m uc) m _ rfl HU.o HU.o.cells ai ac ag ?_;intro v' w' aA hg hb;obtain⟨oa,oc,rfl⟩:=Ad aA;have HO:=Aa aA;have aD:=Aa (Below.grown (Below.refl _ _) hg (Nat.le_refl _) (fun k hk=>by cases hk));clear aA hg hb))
 go_ret;exact⟨⟨_,rfl,m,f,HC.o,aE.o,by have:=Sl.own HO.o;rw[Nat.zero_add,List.nil_append]at this;exact this⟩,aD.o⟩
theorem WI:BK=4294967296:=rfl
theorem Zc(S:Nat):(S:Int)%4294967296=((S%BK:Nat):Int):=by rw[WI];omega
theorem Zd(S:Nat):(S:Int)/4294967296=((S/BK:Nat):Int):=by rw[WI];omega
def fl2(x:Nat):Nat->Nat:=fun k=>if k=0 then x%BK else x/BK
theorem YS(x:Nat):vS (fl2 x) 2=x:=by
 show 0+x%BK*1+x/BK*BK^1=x
 have:=Nat.div_add_mod x BK;rw[Nat.pow_one,Nat.mul_comm (x/BK)];omega
theorem fl2_lt{x:Nat}(hx:x<18446744073709551616):∀k,k<2->fl2 x k<BK:=fun k hk=>by
 unfold fl2;split
 .exact Nat.mod_lt _ Ig
 .unfold BK;omega
theorem fl2_nl(w:World)(x:Nat)(t:TypeId):NL (w.alloc (.cells #[.int .u32 ((x:Int)%4294967296),.int .u32 ((x:Int)/4294967296)] t)) (.slice (some ⟨w.heap.size,0,none⟩) 2 2) 2 (fl2 x):=
 NL.mk (Nat.le_refl _) ai fun _=>⟨_,0,rfl,fun j hj=>by
  match j,hj with
  | 0,_=>simp[fl2,BK]
  | 1,_=>simp[fl2,BK]⟩
theorem WR(w:World)(x:Nat)(hx:x<18446744073709551616):
  Calls Tryz.prog 42 #[.int .u64 x] w fun r w'=>(∃u,r= .returned u/\Il w' u x)/\Ex w w':=by
 have HT:=Aa (Ql (w.alloc (.cells #[.int .u32 ((x:Int)%4294967296),.int .u32 ((x:Int)/4294967296)] 91)) 2 (fl2 x) _ (fl2_nl w x _) (fl2_lt hx) ac);have EA:=Aa ((Ex.refl w).alloc (.cells #[.int .u32 ((x:Int)%4294967296),.int .u32 ((x:Int)/4294967296)] 91));rw[YS]at HT;go_enter Tryz.func42,Tryz.ntmps42
 go_wp2_with (go_at_call 96;refine HT.o.mono ?_;rintro e w2⟨⟨u,rfl,hu⟩,hx⟩;obtain⟨n,f,_,_,aA⟩:=id hu;obtain⟨ua,uc,rfl,_,_,_⟩:=aA.open;have HU:=Aa hu;have HX:=Aa hx;clear hu aA hx)
 go_ret;exact⟨⟨_,rfl,HU.o⟩,EA.o.trans HX.o⟩
theorem bt{P:Prop}(h:P:=by rw[IntKind.wrap_u64];omega):P:=h
theorem Ts(w:World)(n m:Nat)(a b:Nat->Nat)(u v:Value)(hu:NL w u n a)(hv:NL w v m b)(ha:∀k,k<n->a k<BK)(hb:∀k,k<m->b k<BK)(hn:n<=10000)(hm:m<=10000):
  Calls Tryz.prog 95 #[u,v] w fun r w'=>(∃u,r= .returned u/\Il w' u (vS a n*vS b m))/\Ex w w':=by
 obtain⟨ua,uc,rfl,s1,s2,s3⟩:=hu.open;obtain⟨va,vc,rfl,t1,t2,t3⟩:=hv.open;unfold maxLen at s2 t2;obtain⟨S3,T3,HA,HB⟩:=Eq s3 t3 ha hb;have hw0:wrap64 ((n:Int)+(m:Int))=((n+m:Nat):Int):=by rw[<-Int.natCast_add];exact w64 ac ac
 clear hu hv s3 t3 ha hb;go_enter Tryz.func95,Tryz.ntmps95
 go_wp2_with (at_make;refine Aq _ rfl _ _ 56 rfl 91 (.int .u32 0) 4 Tryz.underlying56 SH rfl _ (n+m) rfl rfl (by first|rfl|omega) ac ai ?_)
 intro w3 aF aP;obtain⟨g,hg⟩:=nA w.heap.size;have aZ:=Aa (show AG w3 w.heap.size 91 g (n+m) (uv fun _=>0) from by rw[<-hg];exact aF);have aY:=Aa aP;have HGG:=Aa hg
 try simp only[hg]
 clear aF aP hg;go_wp2_with fail
 go_loopw [20] (fun i' wr=>∃(i:Nat) (f:Nat->Nat),i<=n/\i'= .int .i64 i/\Hia (AG wr w.heap.size 91 g (n+m) (uv f))/\Hia (RP (n+m) i m a b f)/\Hia (Ex w wr)) (fun i' _=>n-(intOf i').toNat)
 case atStart=>exact⟨0,_,ac,rfl,aZ,Aa (RP.start _ _ _ _),aY⟩
 case round=>
  clear aZ aY;obtain⟨i,f,hi,rfl,ho,aH,aB⟩:=hrel;by_cases hin:i<n
  .obtain⟨sb,so,rfl,aR⟩:=S3.o ac;have c1:=aB.o.cell (aR i hin);have i1:(0:Int)<=(i:Int):=by omega
   have i2:(i:Int)<(n:Int):=ac;have aO:=Aa (HA.o i hin);obtain⟨A,hA⟩:=nA (a i);rw[hA]at c1;have bI:=Aa hA;clear hA aR;go_wp2_with fail
   go_loopw [8,27] (fun c' j' wr=>∃(c j:Nat) (f:Nat->Nat),j<=m/\c'= .int .u64 c/\j'= .int .i64 j/\Hia (AG wr w.heap.size 91 g (n+m) (uv f))/\Hia (RO (n+m) i m a b f c j)/\Hia (Ex w wr)) (fun _ j' _=>m-(intOf j').toNat)
   case atStart=>exact⟨0,0,f,ac,rfl,rfl,ho,Aa aH.o.inner,aB⟩
   case round=>
    clear c1 ho aH aB;obtain⟨c,j,f,hj,rfl,rfl,ho,aC,aB⟩:=hrel;by_cases hjm:j<m
    .obtain⟨tb,tp,rfl,aQ⟩:=T3.o ac;have c2:=aB.o.cell (aQ j hjm);have aK:i+j<n+m:=by omega
     have c3:=ho.o.cell aK;have bC:=ho.o.frz (i+j);have i3:(0:Int)<=(j:Int):=ac;have i4:(j:Int)<(m:Int):=ac;have i5:(0:Int)<=(i:Int)+(j:Int):=Int.add_nonneg i1 i3;have i6:(i:Int)+(j:Int)<(n:Int)+(m:Int):=Int.add_lt_add i2 i4;have aA:=Aa (aC.o.step hjm ac aO.o (HB.o j hjm));have aG:=Mp aO.o (HB.o j hjm) (aC.o.lt (i+j) aK) aC.o.cl;have aE:=fun y:Nat=>ho.o.set (i+j) (.int .u32 (y:Int));have aX:=fun y:Nat=>ho.o.exSet (Nat.le_refl _) aB.o (i+j) (.int .u32 (y:Int));simp only[UI]at aE;have aU:a i<4294967296:=aO.o;have aT:b j<4294967296:=HB.o j hjm;have aS:f (i+j)<4294967296:=aC.o.lt (i+j) aK;have aI:c<4294967296:=aC.o.cl;have aD:a i*b j+f (i+j)+c<18446744073709551616:=aG;clear aG;unfold uv at c3;rw[bI.o]at aA aD aU;obtain⟨B,hB⟩:=nA (b j);obtain⟨F,hF⟩:=nA (f (i+j));rw[hB]at aA aD c2 aT;simp only[hF]at c3;rw[hF]at aA aD aS;obtain⟨P,hP⟩:=nA (A*B);rw[hP]at aA aD;obtain⟨T,hT⟩:=nA (P+F);rw[hT]at aA aD;obtain⟨S,hS⟩:=nA (T+c);rw[hS]at aA aD;have e1:IntKind.u64.wrap ((A:Int)*(B:Int))=(P:Int):=by rw[<-Int.natCast_mul,hP,IntKind.wrap_u64];omega
     have e2:IntKind.u64.wrap ((P:Int)+(F:Int))=(T:Int):=bt;have e3:IntKind.u64.wrap ((T:Int)+(c:Int))=(S:Int):=bt;have e7:IntKind.u64.wrap (A:Int)=(A:Int):=bt;have e8:IntKind.u64.wrap (B:Int)=(B:Int):=bt;have e9:IntKind.u64.wrap (F:Int)=(F:Int):=bt;have e5:(S:Int)%4294967296=((S%BK:Nat):Int):=Zc S;have e6:(S:Int)/4294967296=((S/BK:Nat):Int):=Zd S;obtain⟨r,hr⟩:=nA (S%BK);obtain⟨k,hk⟩:=nA (S/BK);rw[hr]at e5 aA;rw[hk]at e6 aA;have aM:=Aa (aE r);have aN:=Aa (aX r);clear aE aX aQ hP hT hS hB hF hr hk aD aU aT aS aI;go_wp2_with fail
     clear e1 e2 e3 e5 e6 e7 e8 e9;go_roundw
     case rel=>exact⟨k,j+1,_,ac,rfl,by go_num,aM,aA,aN⟩
     case measure=>simp[intOf];omega
    .obtain rfl:j=m:=by omega
     have bH:=Aa (aC.o.fin ac);have bB:i+j<n+j:=br;have c3:=ho.o.cell bB;have bC:=ho.o.frz (i+j);have aE:=ho.o.set (i+j) (.int .u32 (c:Int));have aN:=Aa (ho.o.exSet (Nat.le_refl _) aB.o (i+j) (.int .u32 (c:Int)));rw[UI]at aE;have aM:=Aa aE;have k5:(0:Int)<=(i:Int)+(j:Int):=Int.add_nonneg i1 (Int.natCast_nonneg j);have k6:(i:Int)+(j:Int)<(n:Int)+(j:Int):=Int.add_lt_add_right i2 _;have hc:c<4294967296:=aC.o.cl;have bA:=Aa (show(c:Int)%4294967296=(c:Int) from ac);have e2:=bA.o;unfold uv at c3;clear hc aE;go_wp2_with fail
     clear e2;go_roundw
     case rel=>exact⟨i+1,_,ac,by go_num,aM,bH,aN⟩
     case measure=>simp[intOf];omega
  .obtain rfl:i=n:=by omega
   have aL:=Gb wr (i+m) f _ (show NL wr (.slice (some ⟨g,0,none⟩) (i+m) (i+m)) (i+m) f from ho.o.sl) aH.o.lt;rw[aH.o.val]at aL;have bD:=Aa aL;clear aL;go_wp2_with (go_at_call 87;refine bD.o.mono ?_;rintro e w5⟨⟨u,k,rfl,hk1,aW,aV,aJ⟩,rfl⟩;obtain⟨oa,oc,rfl,_,_,_⟩:=aJ.open;have bG:=Aa aW;have bF:=Aa aV;have bE:=Aa aJ;clear aW aV aJ)
   go_ret;exact⟨⟨_,rfl,k,f,bG.o,bF.o,bE.o⟩,aB.o⟩
end Go.Proofs.YtehieobniamagaaGreat
