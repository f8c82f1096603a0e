/- slices.EqualFunc; perm.CheckChain. -/
import Derived.Test.YtehieobniamagaaGreatZm23
namespace Go.Proofs.YtehieobniamagaaGreat
open Go.RowKit
set_option linter.all false
set_option maxRecDepth 100000
set_option maxHeartbeats 4000000
def AT(L:List Lv):List (List Int):=L.flatMap fun l=>l.reps
theorem Ru{L:List Lv}{i:Nat}{l:Lv}(h:L[i]?=some l):AT (L.take (i+1))=AT (L.take i)++l.reps:=by
 unfold AT;rw[List.take_add_one,h];simp
theorem PP(L:List Lv)(i:Nat):(AT (L.take i)).length<=(AT L).length:=by
 have:AT L=AT (L.take i)++AT (L.drop i):=by
  unfold AT;rw[<-List.flatMap_append,List.take_append_drop]
 rw[this,List.length_append];omega
open Classical in
noncomputable def Be (d:Int) (L:List Lv):Int:=if d<1∨64<d then 4 else if El d (AT L)=0/\L=Ce d.toNat ((AT L).map CG) d.toNat then 0 else 5
theorem Qd{n:Nat}{S:List (Nat->Nat)}{m:Nat}{l:Lv}(h:l∈Ce n S m):l.orb.length<=n/\l.reps.length=l.orb.length:=by
 unfold Ce at h;obtain⟨h1,h2⟩:=List.mem_filter.1 h;obtain⟨b,_,rfl⟩:=List.mem_map.1 h1;refine⟨by show(CO (Bn S b n)).length<=n;rw[Ci];exact Fm S b n,?_⟩;show(DZ n S b n).length=(CO (Bn S b n)).length
 unfold DZ;rw[List.length_map,Ci]
structure GX(w0 wr:World)(gv:Value)(M:List (List Int))(vals:List Value):Prop where
 own:wr.ownsRow w0.heap.size 22 1 gv M.length vals
 row:∀(i:Nat) (r:List Int) (u:Value),M[i]?=some r->vals[i]?=some u->Aj w0 u r
 ex:Ex w0 wr
theorem GX.nil(w:World):GX w w (.slice none 0 0) [] []:=⟨World.ownsRow_nil _ _ _ _,fun i r u h=>by simp at h,Ex.refl _⟩
theorem GX.len{w0 wr:World}{gv:Value}{M:List (List Int)}{vals:List Value}(h:GX w0 wr gv M vals):vals.length=M.length:=by have:=h.own.1;omega
theorem GX.later{w0 wr w':World}{gv:Value}{M:List (List Int)}{vals:List Value}(h:GX w0 wr gv M vals)(hx:Ex wr w'):GX w0 w' gv M vals:=⟨Ai h.own hx,h.row,h.ex.trans hx⟩
theorem GX.msl{w0 wr:World}{gv:Value}{M:List (List Int)}{vals:List Value}(h:GX w0 wr gv M vals):BY wr gv M:=⟨vals,Sl.own h.own,fun i r u a b=>(h.row i r u a b).ex h.ex⟩
theorem GX.app{w0 wr w':World}{gv gv':Value}{M R:List (List Int)}{vals us:List Value}(h:GX w0 wr gv M vals)(hr:∀(i:Nat) (r:List Int) (u:Value),R[i]?=some r->us[i]?=some u->Aj w0 u r)
  (ho:w'.ownsRow w0.heap.size 22 1 gv' (M.length+R.length) (vals++us)) (hx:Ex w0 w'):GX w0 w' gv' (M++R) (vals++us):=by
 have hn:=h.len;refine⟨by rw[List.length_append];exact ho,fun i r u h1 h2=>?_,hx⟩;by_cases e:i<M.length
 .rw[List.getElem?_append_left e]at h1;rw[List.getElem?_append_left ac]at h2;exact h.row i r u h1 h2
 .rw[List.getElem?_append_right ac]at h1 h2;rw[hn]at h2;exact hr _ r u h1 h2
theorem Er.open3{w:World}{v:Value}{L:List Lv}(h:Er w v L):∃a cap,v= .slice a L.length cap/\L.length<=cap/\cap<=maxLen/\
  (0<L.length->∃b o,a=some ⟨b,o,none⟩/\∀(i:Nat) (l:Lv),L[i]?=some l->∃u r,w.cell? ⟨b,o+i*3,none⟩=some (.int .i64 l.pt)/\w.cell? ⟨b,o+i*3+1,none⟩=some u/\w.cell? ⟨b,o+i*3+2,none⟩=some r/\Aj w u l.orb/\BY w r l.reps):=by
 obtain⟨a,cap,h1,h2,h3,h4⟩:=h.open;refine⟨a,cap,h1,h2,h3,fun hn=>?_⟩;obtain⟨b,o,h5,h6⟩:=h4 hn;refine⟨b,o,h5,fun i l hl=>?_⟩;obtain⟨u,r,k1,k2,k3,k4,k5⟩:=h6 i l hl;exact⟨u,r,by rw[Nat.mul_comm i 3];exact k1,by rw[Nat.mul_comm i 3,Nat.add_assoc];exact k2,by rw[Nat.mul_comm i 3,Nat.add_assoc];exact k3,k4,k5⟩
theorem SH{l k:List Lv}(hl:l.length=k.length)(h:∀j,j<l.length->l[j]?=k[j]?):l=k:=by
 exact zco
theorem BM(w:World)(c:Int)(v:Value):(w.alloc (.cells #[.int .i64 c,v] 43)).cell? ⟨w.heap.size,0,none⟩=some (.int .i64 c)/\
  (w.alloc (.cells #[.int .i64 c,v] 43)).cell? ⟨w.heap.size,1,none⟩=some v/\Ex w (w.alloc (.cells #[.int .i64 c,v] 43)):=
 ⟨ag,ag,(Ex.refl _).alloc _⟩
theorem Ea(w:World)(c:Int)(u v:Value):(w.alloc (.cells #[.int .i64 c,u,v] 90)).cell? ⟨w.heap.size,0,none⟩=some (.int .i64 c)/\
  (w.alloc (.cells #[.int .i64 c,u,v] 90)).cell? ⟨w.heap.size,1,none⟩=some u/\(w.alloc (.cells #[.int .i64 c,u,v] 90)).cell? ⟨w.heap.size,2,none⟩=some v/\Ex w (w.alloc (.cells #[.int .i64 c,u,v] 90)):=
 ⟨ag,ag,ag,(Ex.refl _).alloc _⟩
theorem zcp{P:Prop}(h:P:=by
 go_wp2_with fail
 go_ret;exact⟨Af HR.o,aJ.o.trans (aA.o.ex.trans EB.o)⟩):P:=h
theorem EL(w:World)(d:Int)(L:List Lv)(lv:Value)(hL:Er w lv L)(hg:(AT L).length<=1000):
  Calls Tryz.prog 70 #[.agg #[.int .i64 d,lv]] w fun r w'=>r= .returned (.int .i64 (Be d L))/\Ex w w':=by
 obtain⟨d0,d1,e0⟩:=BM w d lv;obtain⟨za,zc,rfl,z1,z2,z3⟩:=(hL.ex e0).open3;unfold maxLen at z2;have HL:=Aa (hL.ex e0);have Z3:=Aa z3;clear z3 hL;have HG:=Aa (Ho (w.alloc (.cells #[.int .i64 d,.slice za L.length zc] 43)) d);go_enter Tryz.func70,Tryz.ntmps70
 go_wp2_with fail
 obtain⟨q,hq⟩:=nA w.heap.size;rw[hq]at d0 d1
 try simp only[hq]
 clear hq;generalize w.alloc (.cells #[.int .i64 d,.slice za L.length zc] 43)=w1 at *;have aJ:=Aa e0;clear e0;refine HG.o.mono ?_;rintro e wd⟨rfl,rfl⟩;by_cases hd:d<1∨64<d
 .have HR:=Aa (show(4:Int)=Be d L from by unfold Be;rw[if_pos hd]);have aR:LW d=4:=by unfold LW;rw[if_pos hd]
  rw[aR];clear hd aR;go_wp2_with fail
  go_ret;exact⟨Af HR.o,aJ.o⟩
 .have aR:LW d=0:=by unfold LW;rw[if_neg hd]
  rw[aR];obtain⟨D,rfl⟩:∃D:Nat,d=D:=⟨d.toNat,ac⟩;have hD1:1<=D:=br;have hD2:D<=64:=ac;have aE:=Aa (show(¬(El D (AT L)=0/\L=Ce D ((AT L).map CG) D))->5=Be D L from fun h=>by unfold Be;rw[if_neg hd];exact(if_neg h).symm);have bG:=Aa (show El D (AT L)=0->L=Ce D ((AT L).map CG) D->0=Be D L from fun h k=>by unfold Be;rw[if_neg hd];exact(if_pos ⟨h,k⟩).symm);clear hd aR;have D0:=Aa d0;have D1:=Aa d1;by_cases hln:D<L.length
  .have HR:=Aa (aE.o <| by
    rintro⟨_,h⟩;have:=congrArg List.length h;have:=Qe D ((AT L).map CG) D;omega)
   have h1:(D:Int)<(L.length:Int):=ac;go_wp2_with fail
   go_ret;exact⟨Af HR.o,aJ.o⟩
  .have h1:¬(D:Int)<(L.length:Int):=by omega
   go_wp2_with fail
   clear d0 d1
   go_loopw [4,27] (fun gv' k' wr=>∃(k:Nat) (vals:List Value),k<=L.length/\k'= .int .i64 k/\Hia (GX w1 wr gv' (AT (L.take k)) vals)) (fun _ k' _=>L.length-(intOf k').toNat)
   case atStart=>exact⟨0, [],ac,rfl,Aa (GX.nil w1)⟩
   case round=>
    obtain⟨k,vals,hk,rfl,aA⟩:=hrel;have cA:=PP L k;obtain⟨ga,gc,rfl⟩:=Ae aA.o.own;by_cases hkl:k<L.length
    .obtain⟨l,hl⟩:∃l,L[k]?=some l:=⟨_,List.getElem?_eq_getElem hkl⟩;obtain⟨zb,zo,rfl,aO⟩:=Z3.o ac;obtain⟨u,r,c0,c1,c2,hu,hr⟩:=aO k l hl;have c0:=aA.o.ex.cell c0;have c1:=aA.o.ex.cell c1;have c2:=aA.o.ex.cell c2;have d0:=aA.o.ex.cell D0.o;have d1:=aA.o.ex.cell D1.o;obtain⟨oa,oc,rfl,_,_,_⟩:=hu.open;obtain⟨ra,rc,rfl,_,_,_⟩:=hr.open;have i1:(0:Int)<=(k:Int):=by omega
     have i2:(k:Int)<(L.length:Int):=ac;obtain⟨p,hp⟩:=nA l.pt;rw[hp]at c0;obtain⟨bE,HPE,HU,aU⟩:=Eq hl hp hu hr;obtain⟨b0,b1,b2,eb⟩:=Ea wr p (.slice oa l.orb.length oc) (.slice ra l.reps.length rc);have bd0:=eb.cell d0;have EB:=Aa eb;clear aO hl hp hu hr d1 eb;by_cases hbad:D<l.orb.length
     .have HR:=Aa (aE.o <| by
       rintro⟨_,h⟩;have:=(Qd (h ▸ List.mem_of_getElem? bE.o)).1;omega)
      have h2:(D:Int)<(l.orb.length:Int):=ac;clear hbad;exact zcp
     .have h2:¬(D:Int)<(l.orb.length:Int):=by omega
      by_cases hne:l.reps.length=l.orb.length
      .have h3:((l.reps.length:Int) !=(l.orb.length:Int))=false:=by simp;omega
       have HNE:=Aa hne;clear hne hbad;obtain⟨us,bO,_,bL⟩:=aU.o.vals;have bP:=Aa bL;have bR:=Aa bO;clear bL bO;have cG:=Aa (show ∀u∈us,u.oneCell'=true from fun u hu=>by
        obtain⟨i,hi,e⟩:=List.getElem_of_mem hu;have hul:us.length=l.reps.length:=by have:=bR.o.1;omega
        obtain⟨_,_,rfl,_⟩:=(bP.o i _ u (List.getElem?_eq_getElem ac) au).open;rfl)
       have aZ:=PP L (k+1);have bY:=Aa (Ru bE.o);rw[bY.o,List.length_append]at aZ;have HB:=Aa (Nat.le_trans aA.o.ex.size EB.o.size);have bU:=Aa (Ai aA.o.own EB.o);have cC:=Aa (bR.o.ex (aA.o.ex.trans EB.o));go_wp2_with (at_builtin;refine Bj _ rfl _ _ 37 rfl w1.heap.size 22 (.slice none 0 0) 1 24 Tryz.underlying37 BR rfl ae (.slice ga (AT (L.take k)).length gc) (AT (L.take k)).length vals rfl bU.o (.slice ra l.reps.length rc) l.reps.length us rfl cC.o cG.o ai ac HB.o ?_;intro v' w' aK hg hb;have cI:=Aa (aA.o.app (R:=l.reps) (us:=us) (fun i r u a b=>bP.o i r u a b) aK (Ex.grown (aA.o.ex.trans EB.o) bU.o (Nat.le_refl _) hg));obtain⟨oa',oc',rfl⟩:=Ae aK;clear aK hg hb)
       go_roundw
       case rel=>exact⟨k+1,_,ac,by go_num,by rw[bY.o];exact cI⟩
       case measure=>simp[intOf];omega
      .have h3:((l.reps.length:Int) !=(l.orb.length:Int))=true:=by simp;omega
       have HR:=Aa (aE.o <| by
        rintro⟨_,h⟩;have:=(Qd (h ▸ List.mem_of_getElem? bE.o)).2;omega)
       clear hbad hne;exact zcp
    .obtain rfl:k=L.length:=by omega
     have d0:=aA.o.ex.cell D0.o;have bA:=Na wr D (AT (L.take L.length)) _ aA.o.msl ac;rw[List.take_length]at bA;have bI:=Aa bA;have bM:AT (L.take L.length)=AT L:=by rw[List.take_length]
     rw[bM];have aG:=Aa aA.o.ex;clear bA bM aA cA;by_cases hg0:El D (AT L)=0
     .have aM:Da D (AT L)=(⟨D,Ce D ((AT L).map CG) D⟩,0):=by unfold Da;rw[hg0,if_neg ae];rfl
      have bX:=Aa (bG.o hg0);have bF:=Aa (show L≠Ce D ((AT L).map CG) D->5=Be D L from fun h=>aE.o fun k=>h k.2);obtain⟨K,hK⟩:=nA (Ce D ((AT L).map CG) D);rw[hK]at aM bX bF;have aY:=Aa aM;clear hK aM hg0;by_cases hkl:K.length=L.length
      .have hb:((K.length:Int) !=(L.length:Int))=false:=by simp;omega
       have bV:=Aa hkl;clear hkl;go_wp2_with (go_at_call 123;refine bI.o.mono ?_;rintro e w5⟨⟨kv,rfl,aB⟩,aC⟩;rw[aY.o]at aB ⊢;dsimp only at aB ⊢;have cH:=Aa aB;obtain⟨ka,kc,rfl,_,_,aQ⟩:=aB.open3;have bW:=Aa aQ;have aL:=Aa (aG.o.trans aC);have d0:=(aG.o.trans aC).cell D0.o;have d1:=(aG.o.trans aC).cell D1.o;obtain⟨b0,b1,eb⟩:=BM w5 D (.slice ka K.length kc);have e1:=eb.cell d1;have EB:=Aa eb;clear aB aQ aC eb)
       go_loopw [72] (fun j' wr=>∃(j:Nat),j<=L.length/\j'= .int .i64 j/\Hia (∀i,i<j->L[i]?=K[i]?)/\Hia (Ex (w5.alloc (.cells #[.int .i64 D,.slice ka K.length kc] 43)) wr)) (fun j' _=>L.length-(intOf j').toNat)
       case atStart=>exact⟨0,ac,rfl,Aa (fun i h=>ac),Aa (Ex.refl _)⟩
       case round=>
        clear d0 d1 e1;obtain⟨j,hj,rfl,aD,aF⟩:=hrel;by_cases hjl:j<L.length
        .obtain⟨l,hl⟩:∃l,L[j]?=some l:=⟨_,List.getElem?_eq_getElem hjl⟩;have cB:j<K.length:=by have:=bV.o;omega
         obtain⟨k,hk⟩:∃k,K[j]?=some k:=⟨_,List.getElem?_eq_getElem cB⟩;obtain⟨zb,zo,rfl,aO⟩:=Z3.o ac;obtain⟨yb,yo,rfl,bK⟩:=bW.o ac;have aT:=Aa ((aL.o.trans EB.o).trans aF.o);obtain⟨u,r,c0,c1,c2,hu,hr⟩:=aO j l hl;obtain⟨v,s,f0,f1,f2,hv,hs⟩:=bK j k hk;have c0:=aT.o.cell c0;have c1:=aT.o.cell c1;have c2:=aT.o.cell c2;have f0:=(EB.o.trans aF.o).cell f0;have f1:=(EB.o.trans aF.o).cell f1;have f2:=(EB.o.trans aF.o).cell f2;have b1:=aF.o.cell b1;obtain⟨oa,oc,rfl,_,_,_⟩:=hu.open;obtain⟨ra,rc,rfl,_,_,_⟩:=hr.open;obtain⟨pa,pc,rfl,_,_,_⟩:=hv.open;obtain⟨sa,sc,rfl,_,_,_⟩:=hs.open;have i1:(0:Int)<=(j:Int):=br;have i2:(j:Int)<(L.length:Int):=ac;have i3:(j:Int)<(K.length:Int):=ac;obtain⟨p,hp⟩:=nA l.pt;rw[hp]at c0;obtain⟨t,ht⟩:=nA k.pt;rw[ht]at f0;obtain⟨aV,aW,bS,bT⟩:=Eq hl hk hp ht;obtain⟨a0,a1,a2,ea⟩:=Ea wr p (.slice oa l.orb.length oc) (.slice ra l.reps.length rc);have f0:=ea.cell f0;have f1:=ea.cell f1;have f2:=ea.cell f2;have b1:=ea.cell b1;obtain⟨g0,g1,g2,eg⟩:=Ea (wr.alloc (.cells #[.int .i64 p,.slice oa l.orb.length oc,.slice ra l.reps.length rc] 90)) t (.slice pa k.orb.length pc) (.slice sa k.reps.length sc);obtain⟨cF,cE,aU,bQ,cD,bB⟩:=To ((hu.ex aT.o).ex (ea.trans eg)) (hv.ex ((EB.o.trans aF.o).trans (ea.trans eg))) ((hr.ex aT.o).ex (ea.trans eg)) (hs.ex ((EB.o.trans aF.o).trans (ea.trans eg))) (aF.o.trans (ea.trans eg)) ((aJ.o.trans (aL.o.trans EB.o)).trans (aF.o.trans (ea.trans eg)));have a0:=eg.cell a0;have a1:=eg.cell a1;have a2:=eg.cell a2;have bN:(wr.alloc (.cells #[.int .i64 p,.slice oa l.orb.length oc,.slice ra l.reps.length rc] 90)).heap.size=wr.heap.size+1:=ag;rw[bN]at g0 g1 g2;clear aO bK hl hk hp ht hu hv hr hs ea eg bN;have bH:=Aa (show(L[j]?≠K[j]?)->5=Be D L from fun h=>bF.o fun e=>h cq);by_cases hpt:p=t
         .subst hpt;have bZ:(p !=p)=false:=by simp
          have A2:=Aa a2;have G2:=Aa g2;have aN:=GR ((wr.alloc (.cells #[.int .i64 p,.slice oa l.orb.length oc,.slice ra l.reps.length rc] 90)).alloc (.cells #[.int .i64 p,.slice pa k.orb.length pc,.slice sa k.reps.length sc] 90)) l.orb k.orb _ _ cF.o cE.o;by_cases DR:l.orb=k.orb
          .rw[decide_eq_true DR]at aN;have aX:=Aa aN;clear aN;by_cases hre:l.reps=k.reps
           .have HE:=Aa (show L[j]?=K[j]? from by
             rw[aV.o,aW.o];have e1:=bS.o;have e2:=bT.o;cases l;cases k
             simp only at DR hre e1 e2;rw[DR,hre,e1,e2])
            have bJ:=Aa (show ∀i,i<j+1->L[i]?=K[i]? from fun i hi=>by
             by_cases e:i=j
             .subst e;exact HE.o
             .exact aD.o i ac)
            have bD:=Aa (decide_eq_true hre);clear DR hre aD;go_wp2_with (first|(go_at_call 101;refine aX.o.mono ?_;rintro e w6⟨rfl,n6,aI⟩;have X6:=(show Ex ((wr.alloc (.cells #[.int .i64 p,.slice oa l.orb.length oc,.slice ra l.reps.length rc] 90)).alloc (.cells #[.int .i64 p,.slice pa k.orb.length pc,.slice sa k.reps.length sc] 90)) w6 from by rw[aI];exact(Ex.refl _).drewN n6);have a2:=X6.cell A2.o;have g2:=X6.cell G2.o;have aH:=DX w6 l.reps k.reps _ _ (aU.o.ex X6) (bQ.o.ex X6);rw[bD.o]at aH;have aH:=Aa aH;have aS:=Aa X6;clear aI X6)|(go_at_call 128;refine aH.o.mono ?_;rintro e w7⟨rfl,n7,aP⟩;have bC:=Aa (aS.o.trans (show Ex w6 w7 from by rw[aP];exact(Ex.refl w6).drewN n7));clear aP))
            go_roundw
            case rel=>exact⟨j+1,ac,by go_num,bJ,Aa (cD.o.trans bC.o)⟩
            case measure=>simp[intOf];omega
           .have HR:=Aa (bH.o (by
             rw[aV.o,aW.o];intro e;injection e with e;exact hre cq))
            have bD:=Aa (decide_eq_false hre);clear DR hre aD;go_wp2_with (first|(go_at_call 101;refine aX.o.mono ?_;rintro e w6⟨rfl,n6,aI⟩;have X6:=(show Ex ((wr.alloc (.cells #[.int .i64 p,.slice oa l.orb.length oc,.slice ra l.reps.length rc] 90)).alloc (.cells #[.int .i64 p,.slice pa k.orb.length pc,.slice sa k.reps.length sc] 90)) w6 from by rw[aI];exact(Ex.refl _).drewN n6);have a2:=X6.cell A2.o;have g2:=X6.cell G2.o;have aH:=DX w6 l.reps k.reps _ _ (aU.o.ex X6) (bQ.o.ex X6);rw[bD.o]at aH;have aH:=Aa aH;have aS:=Aa X6;clear aI X6)|(go_at_call 128;refine aH.o.mono ?_;rintro e w7⟨rfl,n7,aP⟩;have bC:=Aa (aS.o.trans (show Ex w6 w7 from by rw[aP];exact(Ex.refl w6).drewN n7));clear aP))
            go_ret;exact⟨Af HR.o,bB.o.trans bC.o⟩
          .have HR:=Aa (bH.o (by
            rw[aV.o,aW.o];intro e;injection e with e;exact DR cq))
           rw[decide_eq_false DR]at aN;have aX:=Aa aN;clear aN DR aD;go_wp2_with (go_at_call 101;refine aX.o.mono ?_;rintro e w6⟨rfl,n6,aI⟩;have aS:=Aa (show Ex ((wr.alloc (.cells #[.int .i64 p,.slice oa l.orb.length oc,.slice ra l.reps.length rc] 90)).alloc (.cells #[.int .i64 p,.slice pa k.orb.length pc,.slice sa k.reps.length sc] 90)) w6 from by rw[aI];exact(Ex.refl _).drewN n6);clear aI)
           go_ret;exact⟨Af HR.o,bB.o.trans aS.o⟩
         .have bZ:(p !=t)=true:=by simpa using hpt
          have HR:=Aa (bH.o (by
           rw[aV.o,aW.o];intro e;injection e with e;have e1:=bS.o;have e2:=bT.o;exact hpt (by rw[<-e1,<-e2,e])))
          clear hpt;go_wp2_with fail
          go_ret;exact⟨Af HR.o,bB.o⟩
        .obtain rfl:j=L.length:=by omega
         have HR:=Aa (bX.o (SH bV.o.symm aD.o));go_wp2_with fail
         go_ret;exact⟨Af HR.o,aJ.o.trans ((aL.o.trans EB.o).trans aF.o)⟩
      .have hb:((K.length:Int) !=(L.length:Int))=true:=by simp;omega
       have HR:=Aa (bF.o fun e=>hkl (by rw[<-e]));clear hkl;go_wp2_with (go_at_call 123;refine bI.o.mono ?_;rintro e w5⟨⟨kv,rfl,aB⟩,aC⟩;rw[aY.o]at aB ⊢;dsimp only at aB ⊢;have cH:=Aa aB;obtain⟨ka,kc,rfl,_,_,aQ⟩:=aB.open3;have bW:=Aa aQ;have aL:=Aa (aG.o.trans aC);have d0:=(aG.o.trans aC).cell D0.o;have d1:=(aG.o.trans aC).cell D1.o;obtain⟨b0,b1,eb⟩:=BM w5 D (.slice ka K.length kc);have e1:=eb.cell d1;have EB:=Aa eb;clear aB aQ aC eb)
       go_ret;exact⟨Af HR.o,aJ.o.trans (aL.o.trans EB.o)⟩
     .obtain⟨E,hE⟩:=nA (El D (AT L));have aM:Da D (AT L)=(⟨0, []⟩,E):=by unfold Da;rw[if_pos hg0,hE]
      have aY:=Aa aM;have HR:=Aa (aE.o fun h=>hg0 h.1);rw[hE]at hg0;have hb:(E !=0)=true:=by simpa using hg0
      clear aM hE hg0;go_wp2_with (go_at_call 123;refine bI.o.mono ?_;rintro e w5⟨⟨kv,rfl,aB⟩,aC⟩;rw[aY.o]at aB ⊢;dsimp only at aB ⊢;obtain⟨ka,kc,rfl,_,_,_⟩:=aB.open3;have aL:=Aa (aG.o.trans aC);have d0:=(aG.o.trans aC).cell D0.o;have d1:=(aG.o.trans aC).cell D1.o;obtain⟨b0,b1,eb⟩:=BM w5 0 (.slice ka 0 kc);have EB:=Aa eb;clear aB aC eb)
      go_ret;exact⟨Af HR.o,aJ.o.trans (aL.o.trans EB.o)⟩
theorem Ug{P:(Nat->Nat)->Prop}(h:∃f,P f)(n:Nat):∃f,P f/\∀g,P g->EV n f g:=by
 have aC:∀i,∃f,P f/\∀g,P g->(∀j,j<i->f j=g j)∨∃k,k<i/\(∀j,j<k->f j=g j)/\f k<g k:=by
  intro i
  induction i with
  | zero=>
   obtain⟨f,hf⟩:=h;exact⟨f,hf,fun g _=> .inl fun j hj=>ac⟩
  | succ i ih=>
   obtain⟨f,hf,hl⟩:=ih;have aA:∀N f',P f'->(∀j,j<i->f j=f' j)->f' i<=N->∃aB,P aB/\(∀j,j<i->f j=aB j)/\∀g,P g->(∀j,j<i->f j=g j)->aB i<=g i:=by
    intro N
    induction N with
    | zero=>exact fun f' h1 h2 h3=>⟨f',h1,h2,fun g _ _=>ac⟩
    | succ N ihN=>
     intro f' h1 h2 h3;by_cases hex:∃g,P g/\(∀j,j<i->f j=g j)/\g i<=N
     .obtain⟨g,g1,g2,g3⟩:=hex;exact ihN g g1 g2 g3
     .refine⟨f',h1,h2,fun g g1 g2=>?_⟩;apply Classical.byContradiction;intro hn;exact hex ⟨g,g1,g2,ac⟩
   obtain⟨f',h1,h2,h3⟩:=aA (f i) f hf (fun _ _=>rfl) (Nat.le_refl _);refine⟨f',h1,fun g hg=>?_⟩;rcases hl g hg with h4|⟨k,k1,k2,k3⟩
   .have h5:=h3 g hg h4;by_cases e:f' i=g i
    .exact .inl fun j hj=>by
      by_cases e2:j=i
      .subst e2;exact e
      .rw[<-h2 j ac,h4 j ac]
    .exact .inr ⟨i,ac,fun j hj=>by rw[<-h2 j hj,h4 j hj],ac⟩
   .exact .inr ⟨k,ac,fun j hj=>by rw[<-h2 j ac,k2 j hj],by rw[<-h2 k k1];exact k3⟩
 obtain⟨f,hf,hl⟩:=aC n;exact⟨f,hf,hl⟩
open Classical in
theorem C8 {S:List (Nat->Nat)} {b m x:Nat}:x∈Bn S b m↔x<m/\∃f,Gn S f/\AX b f/\f b=x:=by
 unfold Bn;rw[List.mem_filter,List.mem_range,decide_eq_true_eq]
theorem DO{n:Nat}{S:List (Nat->Nat)}(hS:∀s∈S,Bd n s){b x:Nat}(h:∃f,Gn S f/\AX b f/\f b=x):EI n S b x (Fa n S b x):=by
 obtain⟨f,⟨h1,h2,h3⟩,h4⟩:=Ug (P:=fun f=>Gn S f/\AX b f/\f b=x) h n;have hl:EI n S b x f:=⟨h1,h2,h3,fun g k1 k2 k3=>h4 g ⟨k1,k2,k3⟩⟩;rw[JQ hS hl];exact hl
inductive Lz(n:Nat)(S:List (Nat->Nat)):Nat->List Nat->Prop
 | nil:Lz n S n []
  | skip {b:Nat} {bs:List Nat}:b<n->(Bn S b n).length<=1->Lz n S (b+1) bs->Lz n S b bs
 | cons {b:Nat} {bs:List Nat}:b<n->1<(Bn S b n).length->Lz n S (b+1) bs->Lz n S b (b :: bs)
theorem Lz.le{n:Nat}{S:List (Nat->Nat)}{b:Nat}{bs:List Nat}(h:Lz n S b bs):b<=n:=by
 cases h <;> omega
theorem Lz.ge{n:Nat}{S:List (Nat->Nat)}{b:Nat}{bs:List Nat}(h:Lz n S b bs):∀c∈bs,b<=c/\c<n:=by
 induction h with
 | nil=>intro c hc;cases hc
 | skip h1 _ _ ih=>intro c hc;have:=ih c hc;omega
 | cons h1 _ _ ih=>
  intro c hc;rcases List.mem_cons.1 hc with e|e
  .subst e;omega
  .have:=ih c e;omega
noncomputable def Eh(n:Nat)(S:List (Nat->Nat))(k:Nat):List Nat:=((List.range k).map fun i=>n-k+i).filter fun b=>decide (1<(Bn S b n).length)
theorem UW(n:Nat)(S:List (Nat->Nat)):∀k,k<=n->Lz n S (n-k) (Eh n S k)
 | 0,_=>by
  rw[Nat.sub_zero];exact .nil
 | k+1,hk=>by
  have ih:=UW n S k ac;have he:((List.range (k+1)).map fun i=>n-(k+1)+i)=(n-(k+1)) :: ((List.range k).map fun i=>n-k+i):=by
   rw[List.range_succ_eq_map,List.map_cons,List.map_map]
   congr 1
   exact List.map_congr_left fun i _=>by show n-(k+1)+(i+1)=n-k+i;omega
  have hb:n-k=n-(k+1)+1:=ac;rw[hb]at ih;by_cases h:1<(Bn S (n-(k+1)) n).length
  .have:Eh n S (k+1)=(n-(k+1)) :: Eh n S k:=by
    unfold Eh;rw[he,List.filter_cons,if_pos (decide_eq_true h)]
   rw[this];exact .cons ac h ih
  .have:Eh n S (k+1)=Eh n S k:=by
    unfold Eh;rw[he,List.filter_cons,if_neg az]
   rw[this];exact .skip ac ac ih
noncomputable def DC(n:Nat)(S:List (Nat->Nat)):List Nat:=(List.range n).filter fun b=>decide (1<(Bn S b n).length)
theorem HJ(n:Nat)(S:List (Nat->Nat)):Lz n S 0 (DC n S):=by
 have h:=UW n S n (Nat.le_refl _);rw[Nat.sub_self]at h;have:Eh n S n=DC n S:=by
  unfold Eh DC
  congr 1
  rw[Nat.sub_self];simp
 rwa[this]at h
theorem Fx(n:Nat)(S:List (Nat->Nat)):Ce n S n=(DC n S).map (Fp n S):=by
 unfold Ce DC;rw[List.filter_map]
 congr 1
 apply List.filter_congr;intro b _;show decide (1<(CO (Bn S b n)).length)=_
 rw[Ci]
theorem Yv{n:Nat}{S:List (Nat->Nat)}{b:Nat}(hb:b<n)(h:(Bn S b n).length<=1){f:Nat->Nat}(hf:Gn S f)(hP:Bd n f)(hF:AX b f):AX (b+1) f:=fun i hi=>by
 by_cases e:i=b
 .subst e;have h1:i∈Bn S i n:=C8.2 ⟨hb,Ej,.one,K5 _,rfl⟩;have h2:f i∈Bn S i n:=C8.2 ⟨hP.lt i hb,f,hf,hF,rfl⟩;obtain⟨j,hj,e1⟩:=List.getElem_of_mem h1;obtain⟨k,hk,e2⟩:=List.getElem_of_mem h2;have:j=k:=by omega
  subst this;rw[<-e2,e1]
 .exact hF i ac
noncomputable def Ec(n:Nat)(S:List (Nat->Nat)):List Nat->(Nat->Nat)->Nat->(Nat->Nat) × Nat
 | [],f,k=>(f,k)
 | b :: bs,f,k=>if f b∈Bn S b n then Ec n S bs (Aq f (A7 n (Fa n S b (f b)))) (k+1) else(f,k)
theorem OZ{n:Nat}{S:List (Nat->Nat)}(hS:∀s∈S,Bd n s):∀(bs:List Nat) (f:Nat->Nat) (k:Nat),Bd n f->Bd n (Ec n S bs f k).1
 | [],f,k,h=>h
 | b :: bs,f,k,h=>by
  unfold Ec;split
  .rename_i hm;exact OZ hS bs _ _ (h.comp ((DO hS (C8.1 hm).2).gn.isP hS).inv)
  .exact h
noncomputable def BU(n:Nat)(S:List (Nat->Nat))(bs:List Nat):List (Nat->Nat):=bs.flatMap fun b=>(Bn S b n).map (Fa n S b)
theorem GM(n:Nat)(S:List (Nat->Nat))(bs:List Nat):AT (bs.map (Fp n S))=(BU n S bs).map (li n):=by
 unfold AT BU;rw[List.flatMap_map,List.map_flatMap]
 congr 1
 funext b;show DZ n S b n=_
 unfold DZ;rw[List.map_map];rfl
theorem Mv{n:Nat}{S:List (Nat->Nat)}(hS:∀s∈S,Bd n s){bs:List Nat}{r:Nat->Nat}(h:r∈BU n S bs):∃b∈bs,Gn S r/\AX b r:=by
 unfold BU at h;obtain⟨b,hb,h1⟩:=List.mem_flatMap.1 h;obtain⟨x,hx,rfl⟩:=List.mem_map.1 h1;have:=DO hS (C8.1 hx).2;exact⟨b,hb,this.gn,this.fix⟩
theorem FH{n:Nat}{S:List (Nat->Nat)}(hS:∀s∈S,Bd n s)(bs:List Nat):∀r∈BU n S bs,Bd n r:=fun r hr=>by
 obtain⟨_,_,h,_⟩:=Mv hS hr;exact h.isP hS
theorem TH{n:Nat}{S:List (Nat->Nat)}(hS:∀s∈S,Bd n s){b:Nat}(hb:b<n){f:Nat->Nat}(hf:Gn S f)(hF:AX b f):
  f b∈Bn S b n/\Gn S (Aq f (A7 n (Fa n S b (f b))))/\AX (b+1) (Aq f (A7 n (Fa n S b (f b))))/\Aq (Aq f (A7 n (Fa n S b (f b)))) (Fa n S b (f b))=f:=by
 have hP:=hf.isP hS;have hm:f b∈Bn S b n:=C8.2 ⟨hP.lt b hb,f,hf,hF,rfl⟩;have hl:=DO hS (C8.1 hm).2;have aA:=hl.gn.isP hS;exact⟨hm,hf.mul (hl.gn.inv hS),hF.div aA hl.fix hl.at_,aA.cancel⟩
theorem OY{n:Nat}{S:List (Nat->Nat)}(hS:∀s∈S,Bd n s){b:Nat}{bs:List Nat}(h:Lz n S b bs):∀(f:Nat->Nat) (k:Nat),Gn S f->AX b f->Ec n S bs f k=(Ej,k+bs.length)/\Gn (BU n S bs) f:=by
 induction h with
 | nil=>
  intro f k hf hF;have:=AX.all (hf.isP hS) hF;subst this;exact⟨rfl,.one⟩
 | skip h1 h2 _ ih=>exact fun f k hf hF=>ih f k hf (Yv h1 h2 hf (hf.isP hS) hF)
 | @cons b bs h1 h2 _ ih=>
  intro f k hf hF;obtain⟨k1,k2,k3,k4⟩:=TH hS h1 hf hF;obtain⟨m1,m2⟩:=ih _ (k+1) k2 k3;constructor
  .unfold Ec;rw[if_pos k1,m1,List.length_cons,show k+1+bs.length=k+(bs.length+1) by omega]
  .rw[<-k4];refine Gn.mul (m2.mono fun s hs=>Gn.of ?_) (Gn.of ?_)
   .unfold BU at hs ⊢;rw[List.flatMap_cons];exact List.mem_append_right _ hs
   .unfold BU;rw[List.flatMap_cons];exact List.mem_append_left _ (List.mem_map.2 ⟨_,k1,rfl⟩)
theorem Se{n:Nat}{S:List (Nat->Nat)}(hS:∀s∈S,Bd n s):∀(bs:List Nat) (f:Nat->Nat) (k:Nat),Bd n f->Ec n S bs f k=(Ej,k+bs.length)->Gn S f
 | [],f,k,hP,h=>by
  unfold Ec at h;injection h with h _;rw[h];exact .one
 | b :: bs,f,k,hP,h=>by
  unfold Ec at h;split at h
  .rename_i hm;have hl:=DO hS (C8.1 hm).2;have aA:=hl.gn.isP hS;have:=Se hS bs _ (k+1) (hP.comp aA.inv) (by rw[h,List.length_cons,show k+1+bs.length=k+(bs.length+1) by omega]);rw[<-aA.cancel (f:=f)];exact this.mul hl.gn
  .injection h with _ h;rw[List.length_cons]at h;omega
theorem U0{n:Nat}{S:List (Nat->Nat)}(hS:∀s∈S,Bd n s){f:Nat->Nat}(hP:Bd n f):Ec n S (DC n S) f 0=(Ej,(DC n S).length)↔Gn S f:=by
 constructor
 .intro h;exact Se hS _ f 0 hP (by rw[h,Nat.zero_add])
 .intro h;have:=(OY hS (HJ n S) f 0 h (fun i hi=>ac)).1;rwa[Nat.zero_add]at this
theorem DJ{n:Nat}{S:List (Nat->Nat)}(hS:∀s∈S,Bd n s){b:Nat}{bs:List Nat}(h:Lz n S b bs)(f:Nat->Nat):Gn (BU n S bs) f↔Gn S f/\AX b f:=by
 constructor
 .intro hf
  induction hf with
  | one=>exact⟨.one,K5 _⟩
  | step _ hs ih=>
   obtain⟨c,hc,h1,h2⟩:=Mv hS hs;have:=h.ge c hc;exact⟨ih.1.mul h1,ih.2.comp fun i hi=>h2 i ac⟩
 .rintro⟨h1,h2⟩;exact(OY hS h f 0 h1 h2).2
open Classical in
theorem IY {n:Nat} {S:List (Nat->Nat)} (hS:∀s∈S,Bd n s) {b:Nat} {bs:List Nat} (h:Lz n S b bs) {c:Nat} (hc:b<=c) (m:Nat):Bn (BU n S bs) c m=Bn S c m:=by
 unfold Bn;apply List.filter_congr;intro x _;rw[decide_eq_decide];constructor
 .rintro⟨f,h1,h2,h3⟩;exact⟨f,((DJ hS h f).1 h1).1,h2,h3⟩
 .rintro⟨f,h1,h2,h3⟩;exact⟨f,(DJ hS h f).2 ⟨h1,fun i hi=>h2 i ac⟩,h2,h3⟩
theorem VB{n:Nat}{S:List (Nat->Nat)}(hS:∀s∈S,Bd n s){b:Nat}{bs:List Nat}(h:Lz n S b bs){c:Nat}(hc:c<b):(Bn (BU n S bs) c n).length<=1:=by
 have aA:∀x∈Bn (BU n S bs) c n,x=c:=fun x hx=>by
  obtain⟨_,f,h1,_,h3⟩:=C8.1 hx;rw[<-h3];exact((DJ hS h f).1 h1).2 c hc
 have aB:(Bn (BU n S bs) c n).Nodup:=List.Nodup.sublist List.filter_sublist List.nodup_range
 match hq:Bn (BU n S bs) c n with
 | []=>simp
 | [x]=>simp
 | x :: y :: q=>
  exfalso;rw[hq]at aB aA;have h1:=aA x ag;have h2:=aA y ag;rw[h1,h2]at aB;simp at aB
theorem Uh{n:Nat}{S:List (Nat->Nat)}(hS:∀s∈S,Bd n s){b:Nat}{bs:List Nat}(h:Lz n S b bs){c:Nat}(hc:b<=c):Fp n (BU n S bs) c=Fp n S c:=by
 have hL:∀x,x∈Bn S c n->Fa n (BU n S bs) c x=Fa n S c x:=fun x hx=>by
  have hl:=DO hS (C8.1 hx).2;refine JQ (FH hS bs) ⟨(DJ hS h _).2 ⟨hl.gn,fun i hi=>hl.fix i ac⟩,hl.fix,hl.at_,fun g h1 h2 h3=>hl.le g ((DJ hS h g).1 h1).1 h2 h3⟩
 unfold Fp DZ;rw[IY hS h hc]
 congr 1
 exact List.map_congr_left fun x hx=>by rw[hL x hx]
theorem WZ{n:Nat}{S:List (Nat->Nat)}(hS:∀s∈S,Bd n s){b:Nat}{bs:List Nat}(h:Lz n S b bs):Ce n (BU n S bs) n=bs.map (Fp n S):=by
 rw[Fx];have aA:∀ {b':Nat} {bs':List Nat},Lz n S b' bs'->b<=b'->∀bs'',Lz n (BU n S bs) b' bs''->bs''=bs':=by
  intro b' bs' h'
  induction h' with
  | nil=>
   intro hb bs'' h2
   cases h2 with
   | nil=>rfl
   | skip h _ _=>omega
   | cons h _ _=>omega
  | skip h1 h2 _ ih=>
   intro hb bs'' h3
   cases h3 with
   | nil=>omega
   | skip k1 k2 k3=>exact ih ac _ k3
   | cons k1 k2 k3=>rw[IY hS h hb]at k2;omega
  | cons h1 h2 _ ih=>
   intro hb bs'' h3
   cases h3 with
   | nil=>omega
   | skip k1 k2 k3=>rw[IY hS h hb]at k2;omega
   | cons k1 k2 k3=>rw[ih ac _ k3]
 have low:∀d c,c+d=b->∀bs'',Lz n (BU n S bs) c bs''->Lz n (BU n S bs) b bs'':=by
  intro d
  induction d with
  | zero=>intro c hc bs'' h2;rw[<-hc];exact h2
  | succ d ih=>
   intro c hc bs'' h2;have hle:=h.le
   cases h2 with
   | nil=>omega
   | skip k1 k2 k3=>exact ih (c+1) ac bs'' k3
   | cons k1 k2 k3=>have:=VB hS h (c:=c) ac;omega
 rw[aA h (Nat.le_refl _) _ (low b 0 ac _ (HJ n _))];exact List.map_congr_left fun c hc=>Uh hS h (h.ge c hc).1
theorem Tj{n:Nat}{S:List (Nat->Nat)}(h1:1<=n)(h2:n<=64)(hS:∀s∈S,Bd n s){b:Nat}{bs:List Nat}(h:Lz n S b bs):Be n (bs.map (Fp n S))=0:=by
 unfold Be;rw[if_neg ac];refine if_pos ⟨?_,?_⟩
 .rw[GM];exact ST h1 h2 (FH hS bs)
 .rw[GM,Ei (FH hS bs)];exact(WZ hS h).symm
theorem JZ{d:Int}{L:List Lv}(h:Be d L=0):∃n:Nat,d=n/\1<=n/\n<=64/\∃S:List (Nat->Nat),(∀s∈S,Bd n s)/\AT L=S.map (li n)/\L=(DC n S).map (Fp n S):=by
 unfold Be at h;split at h
 .cases h
 .split at h
  .rename_i h1 h2;obtain⟨N,rfl,h3,h4,S,h5,h6⟩:=JW h2.1;refine⟨N,rfl,h3,h4,S,h6,h5,?_⟩;rw[<-Fx];have:=h2.2
   rwa[h5,Ei h6]at this
  .cases h
theorem SP:(Tryz.prog.info? 91).map (fun i=>(i.zero,i.size,i.bytes))=some (some (.int .u32 0),1,4):=ah
def uv(f:Nat->Nat):Nat->Value:=fun j=> .int .u32 (f j:Int)
theorem UR(f:Nat->Nat)(k:Nat)(y:Nat):Ay (uv f) k (.int .u32 (y:Int))=uv (Ay f k y):=by
 funext j;unfold Ay uv;by_cases h:j=k <;> simp[h]
def NL(w:World)(v:Value)(n:Nat)(f:Nat->Nat):Prop:=Sl w v n 1 (vs n (uv f))
def IB(w:World)(v:Value)(x:Nat):Prop:=∃n f,Jn n f/\vS f n=x/\NL w v n f
theorem NL.ex{w w':World}{v:Value}{n:Nat}{f:Nat->Nat}(h:NL w v n f)(hx:Ex w w'):NL w' v n f:=Sl.ex h hx
theorem IB.ex{w w':World}{v:Value}{x:Nat}(h:IB w v x)(hx:Ex w w'):IB w' v x:=by
 obtain⟨n,f,h1,h2,h3⟩:=h;exact⟨n,f,h1,h2,h3.ex hx⟩
theorem NL.open{w:World}{v:Value}{n:Nat}{f:Nat->Nat}(h:NL w v n f):∃a cap,v= .slice a n cap/\n<=cap/\cap<=maxLen/\
  (0<n->∃b o,a=some ⟨b,o,none⟩/\∀j,j<n->w.cell? ⟨b,o+j,none⟩=some (.int .u32 (f j:Int))):=by
 obtain⟨h1,a,cap,rfl,h3,h4,h5⟩:=h;refine⟨a,cap,rfl,h3,h4,fun hn=>?_⟩;obtain⟨b,o,rfl,h6⟩:=h5 hn;exact⟨b,o,rfl,fun j hj=>h6 j _ (Dh hj (uv f))⟩
theorem NL.mk{w:World}{a:Option Addr}{n cap:Nat}{f:Nat->Nat}(h1:n<=cap)(h2:cap<=maxLen)(h3:0<n->∃b o,a=some ⟨b,o,none⟩/\∀j,j<n->w.cell? ⟨b,o+j,none⟩=some (.int .u32 (f j:Int))):NL w (.slice a n cap) n f:=by
 refine⟨by rw[Bl,Nat.mul_one],a,cap,rfl,h1,h2,fun hn=>?_⟩;obtain⟨b,o,rfl,h4⟩:=h3 hn;refine⟨b,o,rfl,fun j u hu=>?_⟩;have hj:j<n:=by have:=(List.getElem?_eq_some_iff.1 hu).1;rwa[Bl]at this
 rw[Dh hj]at hu;injection hu with hu;rw[h4 j hj,<-hu];rfl
theorem NL.take{w:World}{a:Option Addr}{n cap m:Nat}{f:Nat->Nat}(h:NL w (.slice a n cap) n f)(hm:m<=n){c:Nat}(hc:m<=c)(aA:c<=cap):NL w (.slice a m c) m f:=by
 obtain⟨a',cap',e,h1,h2,h3⟩:=h.open;injection e with e1 e2 e3;subst e1 e3;exact NL.mk hc (Nat.le_trans aA h2) fun hn=>by
  obtain⟨b,o,rfl,h4⟩:=h3 ac;exact⟨b,o,rfl,fun j hj=>h4 j ac⟩
theorem Gi(w:World)(n:Nat)(f:Nat->Nat)(v:Value)(hv:NL w v n f)(aA:∀k,k<n->f k<BH):
  Calls Tryz.prog 87 #[v] w fun r w'=>(∃u m,r= .returned u/\m<=n/\Jn m f/\vS f m=vS f n/\NL w u m f)/\w'=w:=by
 obtain⟨a,cap,rfl,s1,s2,s3⟩:=hv.open;obtain⟨HV,S3,aC,HCM⟩:=Eq hv s3 aA s2;unfold maxLen at s2;clear hv s3 aA;go_enter Tryz.func87,Tryz.ntmps87
 go_wp2_with fail
 go_loopw [3] (fun m' wr=>∃m:Nat,m'= .int .i64 m/\wr=w/\Hia (M4 f n m)) (fun m' _=>(intOf m').toNat)
 case atStart=>exact⟨n,rfl,rfl,⟨Nat.le_refl _,rfl⟩⟩
 case round=>
  obtain⟨m,rfl,rfl,hs⟩:=hrel;have aB:=hs.o.le
  cases m with
  | zero=>
   have HC:=Aa (hs.o.fin aC.o (fun m h=>by cases h));go_wp2_with fail
   go_ret;exact⟨⟨_,0,rfl,Nat.zero_le _,HC.o,hs.o.val,HV.o.take (Nat.zero_le _) (Nat.le_refl _) (Nat.zero_le _)⟩,rfl⟩
  | succ k=>
   have i1:(0:Int)<=(k:Int):=ac;have i2:(k:Int)<(n:Int):=ac;obtain⟨b,o,rfl,hc⟩:=S3.o ac;have c1:=hc k ac;have hw1:((k+1:Nat):Int)-1=(k:Int):=br;by_cases h0:f k=0
   .have HS:=Aa (hs.o.step h0);rw[h0]at c1;clear hc h0;go_wp2_with fail
    go_roundw
    case rel=>exact⟨k,by go_num,trivial,HS⟩
    case measure=>simp[intOf]
   .have HC:=Aa (hs.o.fin aC.o (fun m h=>by injection h with h;subst h;exact h0));have hb:((f k:Int)==0)=false:=by simpa using h0
    clear hc h0;go_wp2_with fail
    go_ret;exact⟨⟨_,k+1,rfl,aB,HC.o,hs.o.val,HV.o.take aB (Nat.le_refl _) ac⟩,rfl⟩
theorem NL.cells{w:World}{v:Value}{n:Nat}{f:Nat->Nat}(h:NL w v n f):∀u∈vs n (uv f),u.oneCell'=true:=fun u hu=>by
 unfold vs uv at hu;obtain⟨j,_,rfl⟩:=List.mem_map.1 hu;rfl
theorem Qm(w:World)(n:Nat)(f:Nat->Nat)(v:Value)(hv:NL w v n f)(aC:∀k,k<n->f k<BH)(hn:n<=100000):
  Calls Tryz.prog 96 #[v] w fun r w'=>(∃u,r= .returned u/\IB w' u (vS f n))/\Ex w w':=by
 obtain⟨a,cap,rfl,s1,s2,s3⟩:=hv.open;have HS:=Aa (Gi w n f _ hv aC);have HN:=Aa hn;clear hv s3 aC hn;go_enter Tryz.func96,Tryz.ntmps96
 go_wp2_with (first|(go_at_call 87;refine HS.o.mono ?_;rintro e w2⟨⟨u,m,rfl,hm,hc,aB,hu⟩,rfl⟩;obtain⟨ua,uc,rfl,_,_,_⟩:=hu.open;have HU:=Aa hu;have HM:=Aa hm;have HC:=Aa hc;have aE:=Aa aB;clear hu hm hc aB;have hm2:m<=100000:=Nat.le_trans HM.o HN.o)
                        | (at_builtin;refine Bj _ rfl _ _ 56 rfl w2.heap.size 91 (.int .u32 0) 1 4 Tryz.underlying56 SP rfl ae (.slice none 0 0) 0 [] rfl (World.ownsRow_nil _ _ _ _) (.slice ua m uc) m _ rfl HU.o HU.o.cells ai ac ag ?_;intro v' w' aA hg hb;obtain⟨oa,oc,rfl⟩:=Ae aA;have HO:=Aa aA;have aD:=Aa (Below.grown (Below.refl _ _) hg (Nat.le_refl _) (fun k hk=>by cases hk));clear aA hg hb))
 go_ret;exact⟨⟨_,rfl,m,f,HC.o,aE.o,by have:=Sl.own HO.o;rw[Nat.zero_add,List.nil_append]at this;exact this⟩,aD.o⟩
theorem W8:BH=4294967296:=rfl
theorem Zw(S:Nat):(S:Int)%4294967296=((S%BH:Nat):Int):=by rw[W8];omega
theorem Zx(S:Nat):(S:Int)/4294967296=((S/BH:Nat):Int):=by rw[W8];omega
def fl2(x:Nat):Nat->Nat:=fun k=>if k=0 then x%BH else x/BH
theorem Zh(x:Nat):vS (fl2 x) 2=x:=by
 show 0+x%BH*1+x/BH*BH^1=x
 have:=Nat.div_add_mod x BH;rw[Nat.pow_one,Nat.mul_comm (x/BH)];omega
theorem fl2_lt{x:Nat}(hx:x<18446744073709551616):∀k,k<2->fl2 x k<BH:=fun k hk=>by
 unfold fl2;split
 .exact Nat.mod_lt _ Iw
 .unfold BH;omega
theorem fl2_nl(w:World)(x:Nat)(t:TypeId):NL (w.alloc (.cells #[.int .u32 ((x:Int)%4294967296),.int .u32 ((x:Int)/4294967296)] t)) (.slice (some ⟨w.heap.size,0,none⟩) 2 2) 2 (fl2 x):=
 NL.mk (Nat.le_refl _) ai fun _=>⟨_,0,rfl,fun j hj=>by
  match j,hj with
  | 0,_=>simp[fl2,BH]
  | 1,_=>simp[fl2,BH]⟩
theorem Xj(w:World)(x:Nat)(hx:x<18446744073709551616):
  Calls Tryz.prog 42 #[.int .u64 x] w fun r w'=>(∃u,r= .returned u/\IB w' u x)/\Ex w w':=by
 have HT:=Aa (Qm (w.alloc (.cells #[.int .u32 ((x:Int)%4294967296),.int .u32 ((x:Int)/4294967296)] 91)) 2 (fl2 x) _ (fl2_nl w x _) (fl2_lt hx) ac);have EA:=Aa ((Ex.refl w).alloc (.cells #[.int .u32 ((x:Int)%4294967296),.int .u32 ((x:Int)/4294967296)] 91));rw[Zh]at HT;go_enter Tryz.func42,Tryz.ntmps42
 go_wp2_with (go_at_call 96;refine HT.o.mono ?_;rintro e w2⟨⟨u,rfl,hu⟩,hx⟩;obtain⟨n,f,_,_,aA⟩:=id hu;obtain⟨ua,uc,rfl,_,_,_⟩:=aA.open;have HU:=Aa hu;have HX:=Aa hx;clear hu aA hx)
 go_ret;exact⟨⟨_,rfl,HU.o⟩,EA.o.trans HX.o⟩
theorem bu{P:Prop}(h:P:=by rw[IntKind.wrap_u64];omega):P:=h
theorem TA(w:World)(n m:Nat)(a b:Nat->Nat)(u v:Value)(hu:NL w u n a)(hv:NL w v m b)(ha:∀k,k<n->a k<BH)(hb:∀k,k<m->b k<BH)(hn:n<=10000)(hm:m<=10000):
  Calls Tryz.prog 95 #[u,v] w fun r w'=>(∃u,r= .returned u/\IB w' u (vS a n*vS b m))/\Ex w w':=by
 obtain⟨ua,uc,rfl,s1,s2,s3⟩:=hu.open;obtain⟨va,vc,rfl,t1,t2,t3⟩:=hv.open;unfold maxLen at s2 t2;obtain⟨S3,T3,HA,HB⟩:=Eq s3 t3 ha hb;have hw0:wrap64 ((n:Int)+(m:Int))=((n+m:Nat):Int):=by rw[<-Int.natCast_add];exact w64 ac ac
 clear hu hv s3 t3 ha hb;go_enter Tryz.func95,Tryz.ntmps95
 go_wp2_with (at_make;refine Ar _ rfl _ _ 56 rfl 91 (.int .u32 0) 4 Tryz.underlying56 SP rfl _ (n+m) rfl rfl (by first|rfl|omega) ac ai ?_)
 intro w3 aF aP;obtain⟨g,hg⟩:=nA w.heap.size;have aZ:=Aa (show AE w3 w.heap.size 91 g (n+m) (uv fun _=>0) from by rw[<-hg];exact aF);have aY:=Aa aP;have HGG:=Aa hg
 try simp only[hg]
 clear aF aP hg;go_wp2_with fail
 go_loopw [20] (fun i' wr=>∃(i:Nat) (f:Nat->Nat),i<=n/\i'= .int .i64 i/\Hia (AE wr w.heap.size 91 g (n+m) (uv f))/\Hia (RU (n+m) i m a b f)/\Hia (Ex w wr)) (fun i' _=>n-(intOf i').toNat)
 case atStart=>exact⟨0,_,ac,rfl,aZ,Aa (RU.start _ _ _ _),aY⟩
 case round=>
  clear aZ aY;obtain⟨i,f,hi,rfl,ho,aH,aB⟩:=hrel;by_cases hin:i<n
  .obtain⟨sb,so,rfl,aR⟩:=S3.o ac;have c1:=aB.o.cell (aR i hin);have i1:(0:Int)<=(i:Int):=by omega
   have i2:(i:Int)<(n:Int):=ac;have aO:=Aa (HA.o i hin);obtain⟨A,hA⟩:=nA (a i);rw[hA]at c1;have bI:=Aa hA;clear hA aR;go_wp2_with fail
   go_loopw [8,27] (fun c' j' wr=>∃(c j:Nat) (f:Nat->Nat),j<=m/\c'= .int .u64 c/\j'= .int .i64 j/\Hia (AE wr w.heap.size 91 g (n+m) (uv f))/\Hia (RT (n+m) i m a b f c j)/\Hia (Ex w wr)) (fun _ j' _=>m-(intOf j').toNat)
   case atStart=>exact⟨0,0,f,ac,rfl,rfl,ho,Aa aH.o.inner,aB⟩
   case round=>
    clear c1 ho aH aB;obtain⟨c,j,f,hj,rfl,rfl,ho,aC,aB⟩:=hrel;by_cases hjm:j<m
    .obtain⟨tb,tp,rfl,aQ⟩:=T3.o ac;have c2:=aB.o.cell (aQ j hjm);have aK:i+j<n+m:=by omega
     have c3:=ho.o.cell aK;have bC:=ho.o.frz (i+j);have i3:(0:Int)<=(j:Int):=ac;have i4:(j:Int)<(m:Int):=ac;have i5:(0:Int)<=(i:Int)+(j:Int):=Int.add_nonneg i1 i3;have i6:(i:Int)+(j:Int)<(n:Int)+(m:Int):=Int.add_lt_add i2 i4;have aA:=Aa (aC.o.step hjm ac aO.o (HB.o j hjm));have aG:=MC aO.o (HB.o j hjm) (aC.o.lt (i+j) aK) aC.o.cl;have aE:=fun y:Nat=>ho.o.set (i+j) (.int .u32 (y:Int));have aX:=fun y:Nat=>ho.o.exSet (Nat.le_refl _) aB.o (i+j) (.int .u32 (y:Int));simp only[UR]at aE;have aU:a i<4294967296:=aO.o;have aT:b j<4294967296:=HB.o j hjm;have aS:f (i+j)<4294967296:=aC.o.lt (i+j) aK;have aI:c<4294967296:=aC.o.cl;have aD:a i*b j+f (i+j)+c<18446744073709551616:=aG;clear aG;unfold uv at c3;rw[bI.o]at aA aD aU;obtain⟨B,hB⟩:=nA (b j);obtain⟨F,hF⟩:=nA (f (i+j));rw[hB]at aA aD c2 aT;simp only[hF]at c3;rw[hF]at aA aD aS;obtain⟨P,hP⟩:=nA (A*B);rw[hP]at aA aD;obtain⟨T,hT⟩:=nA (P+F);rw[hT]at aA aD;obtain⟨S,hS⟩:=nA (T+c);rw[hS]at aA aD;have e1:IntKind.u64.wrap ((A:Int)*(B:Int))=(P:Int):=by rw[<-Int.natCast_mul,hP,IntKind.wrap_u64];omega
     have e2:IntKind.u64.wrap ((P:Int)+(F:Int))=(T:Int):=bu;have e3:IntKind.u64.wrap ((T:Int)+(c:Int))=(S:Int):=bu;have e7:IntKind.u64.wrap (A:Int)=(A:Int):=bu;have e8:IntKind.u64.wrap (B:Int)=(B:Int):=bu;have e9:IntKind.u64.wrap (F:Int)=(F:Int):=bu;have e5:(S:Int)%4294967296=((S%BH:Nat):Int):=Zw S;have e6:(S:Int)/4294967296=((S/BH:Nat):Int):=Zx S;obtain⟨r,hr⟩:=nA (S%BH);obtain⟨k,hk⟩:=nA (S/BH);rw[hr]at e5 aA;rw[hk]at e6 aA;have aM:=Aa (aE r);have aN:=Aa (aX r);clear aE aX aQ hP hT hS hB hF hr hk aD aU aT aS aI;go_wp2_with fail
     clear e1 e2 e3 e5 e6 e7 e8 e9;go_roundw
     case rel=>exact⟨k,j+1,_,ac,rfl,by go_num,aM,aA,aN⟩
     case measure=>simp[intOf];omega
    .obtain rfl:j=m:=by omega
     have bH:=Aa (aC.o.fin ac);have bB:i+j<n+j:=br;have c3:=ho.o.cell bB;have bC:=ho.o.frz (i+j);have aE:=ho.o.set (i+j) (.int .u32 (c:Int));have aN:=Aa (ho.o.exSet (Nat.le_refl _) aB.o (i+j) (.int .u32 (c:Int)));rw[UR]at aE;have aM:=Aa aE;have k5:(0:Int)<=(i:Int)+(j:Int):=Int.add_nonneg i1 (Int.natCast_nonneg j);have k6:(i:Int)+(j:Int)<(n:Int)+(j:Int):=Int.add_lt_add_right i2 _;have hc:c<4294967296:=aC.o.cl;have bA:=Aa (show(c:Int)%4294967296=(c:Int) from ac);have e2:=bA.o;unfold uv at c3;clear hc aE;go_wp2_with fail
     clear e2;go_roundw
     case rel=>exact⟨i+1,_,ac,by go_num,aM,bH,aN⟩
     case measure=>simp[intOf];omega
  .obtain rfl:i=n:=by omega
   have aL:=Gi wr (i+m) f _ (show NL wr (.slice (some ⟨g,0,none⟩) (i+m) (i+m)) (i+m) f from ho.o.sl) aH.o.lt;rw[aH.o.val]at aL;have bD:=Aa aL;clear aL;go_wp2_with (go_at_call 87;refine bD.o.mono ?_;rintro e w5⟨⟨u,k,rfl,hk1,aW,aV,aJ⟩,rfl⟩;obtain⟨oa,oc,rfl,_,_,_⟩:=aJ.open;have bG:=Aa aW;have bF:=Aa aV;have bE:=Aa aJ;clear aW aV aJ)
   go_ret;exact⟨⟨_,rfl,k,f,bG.o,bF.o,bE.o⟩,aB.o⟩
end Go.Proofs.YtehieobniamagaaGreat
