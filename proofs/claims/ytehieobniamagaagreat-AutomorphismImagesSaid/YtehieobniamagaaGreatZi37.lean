/- The reference's Same, Gens, Size, Sift, Has, Few at chains. -/
import Derived.Test.YtehieobniamagaaGreatZi36
namespace Go.Proofs.YtehieobniamagaaGreat
open List renaming getElem?_eq_getElem→γ,getElem?_map→ϖ,nodup_range→ηy,mem_singleton→ϙ,mem_flatMap→γr,pairwise_singleton→θl,pairwise_flatMap→θs,map_cons→ηk,mem_cons_of_mem→ω,mem_cons_self→Θ,length_cons→γk,mem_append→γj,mem_cons→ϒ,length_append→ν,mem_range→κ,mem_map→ψ,append_cancel_left_eq→ιf,take_length→γf,take_of_length_le→γm,take_add_one→γd,getD_eq_getElem?_getD→δ,filter_cons→θb,length_map→Ϛ,pairwise_map→ηn
open Int renaming toNat_natCast→ώ,toNat_of_nonneg→δx
open List.Pairwise renaming filter→κu,nil→μp,map→ρl,and_mem→κq
open Go.RowKit
set_option linter.all false
set_option maxRecDepth 100000
set_option maxHeartbeats 4000000
def Yz(P:Prop)(r:Ending):Prop:=∃b:Bool,r= .returned (.bool b)/\(b=true↔P)
theorem GF{P:Prop}(h:¬P):Yz P (.returned (.bool false)):=⟨false,rfl,⟨fun h=>az,fun k=>absurd k h⟩⟩
theorem VC{P:Prop}(h:P):Yz P (.returned (.bool true)):=⟨true,rfl,⟨fun _=>h,fun _=>rfl⟩⟩
theorem ZQ{l k:Lv}(h1:l.pt=k.pt)(h2:l.orb=k.orb)(h3:l.reps=k.reps):l=k:=by
 cases l;cases k
 simp only at h1 h2 h3;rw[h1,h2,h3]
theorem bj{P:Prop}(h:P:=by first|exact HN.o|exact fun h=>HN.o h.2):P:=h
theorem Ry(w:World)(d1 d2:Int)(L K:List Lv)(lv kv:Value)(hL:ER w lv L)(hK:ER w kv K):
  Calls Tryz.prog 26 #[.agg #[d1,lv],.agg #[d2,kv]] w fun r w'=>Yz (d1=d2/\L=K) r/\Ex w w':=by
 obtain⟨b0,b1,e0⟩:=CQ w d1 lv;obtain⟨f0,f1,e1⟩:=CQ (w.alloc (.cells #[d1,lv] 43)) d2 kv;have b0:=e1.cell b0;have b1:=e1.cell b1;have aS:(w.alloc (.cells #[d1,lv] 43)).heap.size=w.heap.size+1:=ag;rw[aS]at f0 f1;obtain⟨za,zc,rfl,z1,z2,z3⟩:=(hL.ex (e0.trans e1)).open3;obtain⟨ya,yc,rfl,y1,y2,y3⟩:=(hK.ex (e0.trans e1)).open3;unfold maxLen at z2 y2;have Z3:=Aa z3;have Y3:=Aa y3;have aG:=Aa (e0.trans e1);clear z3 y3 hL hK e0 e1 aS;by_cases hd:d1=d2
 .subst hd;have aZ:(d1 !=d1)=false:=by simp
  by_cases hlen:L.length=K.length
  .have aX:((L.length:Int) !=(K.length:Int))=false:=by simp;omega
   have aV:=Aa hlen;clear hlen;go_enter Tryz.func26,Tryz.ntmps26
   go_wp2_with fail
   obtain⟨q,hq⟩:=nA w.heap.size;rw[hq]at b0 b1 f0 f1
   try simp only[hq]
   clear hq;generalize (w.alloc (.cells #[d1,(za,L.length,zc)] 43)).alloc (.cells #[d1,(ya,K.length,yc)] 43)=w1 at *;have B1:=Aa b1;have F1:=Aa f1;clear b0 b1 f0 f1
   go_loopw [5] (fun j' wr=>∃(j:Nat),j<=L.length/\j'= .int .i64 j/\Hia (∀i,i<j->L[i]?=K[i]?)/\Hia (Ex w1 wr)) (fun j' _=>L.length-(intOf j').toNat)
   case atStart=>exact⟨0,ac,rfl,Aa (fun i h=>ac),Aa (Ex.refl _)⟩
   case round=>
    obtain⟨j,hj,rfl,aB,aA⟩:=hrel;have b1:=aA.o.cell B1.o;have f1:=aA.o.cell F1.o;by_cases hjl:j<L.length
    .obtain⟨l,hl⟩:∃l,L[j]?=some l:=⟨_,γ hjl⟩;have aY:j<K.length:=by have:=aV.o;omega
     obtain⟨k,hk⟩:∃k,K[j]?=some k:=⟨_,γ aY⟩;obtain⟨zb,zo,rfl,aQ⟩:=Z3.o ac;obtain⟨yb,yo,rfl,aR⟩:=Y3.o ac;obtain⟨u,r,c0,c1,c2,hu,hr⟩:=aQ j l hl;obtain⟨v,s,g0,g1,g2,hv,hs⟩:=aR j k hk;have c0:=aA.o.cell c0;have c1:=aA.o.cell c1;have c2:=aA.o.cell c2;have g0:=aA.o.cell g0;have g1:=aA.o.cell g1;have g2:=aA.o.cell g2;obtain⟨oa,oc,rfl,_,_,_⟩:=hu.open;obtain⟨ra,rc,rfl,_,_,_⟩:=hr.open;obtain⟨pa,pc,rfl,_,_,_⟩:=hv.open;obtain⟨sa,sc,rfl,_,_,_⟩:=hs.open;have i1:(0:Int)<=(j:Int):=bz;have i2:(j:Int)<(L.length:Int):=ac;have i3:(j:Int)<(K.length:Int):=ac;obtain⟨p,hp⟩:=nA l.pt;rw[hp]at c0;obtain⟨t,ht⟩:=nA k.pt;rw[ht]at g0;obtain⟨HU,HR,HV,HS,aJ,aK,aT,aU⟩:=OK (hu.ex aA.o) (hr.ex aA.o) (hv.ex aA.o) (hs.ex aA.o) hl hk hp ht;clear hl hk hp ht hu hr hv hs aQ aR;have bP:=fun o=>((Ex.refl wr).alloc o).cell b1;have bO:=fun o o2=>(((Ex.refl wr).alloc o).alloc o2).cell b1;have bH:=fun o=>((Ex.refl wr).alloc o).cell f1;have bG:=fun o o2=>(((Ex.refl wr).alloc o).alloc o2).cell f1;have bN:=fun o=>((Ex.refl wr).alloc o).cell c0;have bM:=fun o o2=>(((Ex.refl wr).alloc o).alloc o2).cell c0;have bL:=fun o=>((Ex.refl wr).alloc o).cell c1;have bK:=fun o o2=>(((Ex.refl wr).alloc o).alloc o2).cell c1;have bJ:=fun o=>((Ex.refl wr).alloc o).cell c2;have bI:=fun o o2=>(((Ex.refl wr).alloc o).alloc o2).cell c2;have bF:=fun o=>((Ex.refl wr).alloc o).cell g0;have bE:=fun o o2=>(((Ex.refl wr).alloc o).alloc o2).cell g0;have bD:=fun o=>((Ex.refl wr).alloc o).cell g1;have bC:=fun o o2=>(((Ex.refl wr).alloc o).alloc o2).cell g1;have bB:=fun o=>((Ex.refl wr).alloc o).cell g2;have bA:=fun o o2=>(((Ex.refl wr).alloc o).alloc o2).cell g2;go_upto_region 6 with fail
     go_cut [6,7] from 29 to 59 (fun s6 s7 wx=>∃B1 B2:Nat,s6= .pointer (some (B1,0))/\s7= .pointer (some (B2,0))/\Hia (wx.cell? (B1,0)=some (.int .i64 p)/\wx.cell? (B1,1)=some (.slice oa l.orb.length oc)/\wx.cell? (B1,2)=some (.slice ra l.reps.length rc))/\Hia (wx.cell? (B2,0)=some (.int .i64 t)/\wx.cell? (B2,1)=some (.slice pa k.orb.length pc)/\wx.cell? (B2,2)=some (.slice sa k.reps.length sc))/\Hia (Ex wr wx))
     case first=>
      go_region
      all_goals go_wp2_with fail
      all_goals go_meet
      all_goals exact⟨_,_,rfl,rfl,Aa ⟨ag,ag,ag⟩,Aa ⟨ag,ag,ag⟩,Aa (((Ex.refl wr).alloc _).alloc _).drew⟩
     case rest=>
      obtain⟨B1,B2,rfl,rfl,hA,hB,aC⟩:=hcut;clear b1 f1 c0 c1 c2 g0 g1 g2 bP bO bH bG bN bM bL bK bJ bI bF bE bD bC bB bA;obtain⟨a0,a1,a2⟩:=hA.o;obtain⟨g0,g1,g2⟩:=hB.o;have aO:=Aa (show(L[j]?≠K[j]?)->¬(L=K) from fun h e=>h cw);by_cases hpt:p=t
      .subst hpt;have aW:(p !=p)=false:=by simp
       have A2:=Aa a2;have G2:=Aa g2;have aF:=DJ wc l.orb k.orb _ _ (HU.o.ex aC.o) (HV.o.ex aC.o);by_cases Dy:l.orb=k.orb
       .rw[decide_eq_true Dy]at aF;have aL:=Aa aF;clear aF;by_cases hre:l.reps=k.reps
        .have HE:Hia (L[j]?=K[j]?):=Aa (by
          rw[aJ.o,aK.o,ZQ (aT.o.trans aU.o.symm) Dy hre])
         have aP:Hia (∀i,i<j+1->L[i]?=K[i]?):=Aa (fun i hi=>by
          by_cases e:i=j
          .subst e;exact HE.o
          .exact aB.o i ac)
         have aN:=Aa (decide_eq_true hre);clear Dy hre aB;go_wp2_with (first|(go_at_call 19;refine aL.o.mono ?_;rintro e w6⟨rfl,n6,aE⟩;have X6:=(show Ex wc w6 from by rw[aE];exact(Ex.refl _).drewN n6);have a2:=X6.cell A2.o;have g2:=X6.cell G2.o;have aD:=DI w6 l.reps k.reps _ _ ((HR.o.ex aC.o).ex X6) ((HS.o.ex aC.o).ex X6);rw[aN.o]at aD;have aD:=Aa aD;have aI:=Aa X6;clear aE X6)|(go_at_call 27;refine aD.o.mono ?_;rintro e w7⟨rfl,n7,aH⟩;have aM:=Aa (aI.o.trans (show Ex w6 w7 from by rw[aH];exact(Ex.refl w6).drewN n7));clear aH))
         go_roundw
         case rel=>exact⟨j+1,ac,by go_num,aP,Aa (aA.o.trans (aC.o.trans aM.o))⟩
         case measure=>exact Ωm
        .have HN:=Aa (aO.o (by
          rw[aJ.o,aK.o];intro e;injection e with e;exact hre cw))
         have aN:=Aa (decide_eq_false hre);clear Dy hre aB;go_wp2_with (first|(go_at_call 19;refine aL.o.mono ?_;rintro e w6⟨rfl,n6,aE⟩;have X6:=(show Ex wc w6 from by rw[aE];exact(Ex.refl _).drewN n6);have a2:=X6.cell A2.o;have g2:=X6.cell G2.o;have aD:=DI w6 l.reps k.reps _ _ ((HR.o.ex aC.o).ex X6) ((HS.o.ex aC.o).ex X6);rw[aN.o]at aD;have aD:=Aa aD;have aI:=Aa X6;clear aE X6)|(go_at_call 27;refine aD.o.mono ?_;rintro e w7⟨rfl,n7,aH⟩;have aM:=Aa (aI.o.trans (show Ex w6 w7 from by rw[aH];exact(Ex.refl w6).drewN n7));clear aH))
         go_ret;exact⟨GF bj,aG.o.trans (aA.o.trans (aC.o.trans aM.o))⟩
       .have HN:=Aa (aO.o (by
         rw[aJ.o,aK.o];intro e;injection e with e;exact Dy cw))
        rw[decide_eq_false Dy]at aF;have aL:=Aa aF;clear aF Dy aB;go_wp2_with (go_at_call 19;refine aL.o.mono ?_;rintro e w6⟨rfl,n6,aE⟩;have aI:Hia (Ex wc w6):=Aa (by rw[aE];exact(Ex.refl _).drewN n6);clear aE)
        go_ret;exact⟨GF bj,aG.o.trans (aA.o.trans (aC.o.trans aI.o))⟩
      .have aW:(p !=t)=true:=by simpa using hpt
       have HN:=Aa (aO.o (by
        rw[aJ.o,aK.o];intro e;injection e with e;have e1:=aT.o;have e2:=aU.o;exact hpt (by rw[<-e1,<-e2,e])))
       clear hpt;go_wp2_with fail
       go_ret;exact⟨GF bj,aG.o.trans (aA.o.trans aC.o)⟩
    .obtain rfl:j=L.length:=by omega
     have HR:Hia (L=K):=Aa (TC aV.o aB.o);go_wp2_with fail
     go_ret;exact⟨VC (by first|exact HR.o|exact⟨trivial,HR.o⟩|exact⟨rfl,HR.o⟩),aG.o.trans aA.o⟩
  .have aX:((L.length:Int) !=(K.length:Int))=true:=by simp;omega
   have HN:Hia (¬L=K):=Aa (fun e=>hlen cw);clear hlen;go_enter Tryz.func26,Tryz.ntmps26
   go_wp2_with fail
   go_ret;exact⟨GF bj,aG.o⟩
 .have aZ:(d1 !=d2)=true:=by simpa using hd
  have HN:Hia (¬(d1=d2/\L=K)):=Aa (fun ⟨e,_⟩=>hd e);clear hd;go_enter Tryz.func26,Tryz.ntmps26
  go_wp2_with fail
  go_ret;exact⟨GF HN.o,aG.o⟩
theorem Kf(w:World)(l:List Int)(cs:Array Value)(t:TypeId)(h:(Aj l).toArray=cs){B n:Nat}(hB:w.heap.size=B)(hn:l.length=n)(hl:l.length<=1000):Ak (w.alloc (.cells cs t)) (.slice (some (B,0)) n n) l:=by
 subst hB hn;subst h;exact Xj w l t hl
theorem ZN(w:World)(rows:List (List Int))(us:List Value)(cs:Array Value)(t:TypeId)(hc:us.toArray=cs)(hl:us.length=rows.length)(h:∀(i:Nat) (r:List Int) (u:Value),rows[i]?=some r->us[i]?=some u->Ak w u r){B n:Nat}(hB:w.heap.size=B)(hn:rows.length=n)(hl2:rows.length<=1000):
  B6 (w.alloc (.cells cs t)) (.slice (some (B,0)) n n) rows:=by
 subst hB hn hc;refine⟨us,⟨by rw[hl,Nat.mul_one],some ⟨w.heap.size,0,none⟩,rows.length,rfl,Nat.le_refl _,by unfold maxLen;omega,fun _=>⟨_,0,rfl,fun j u hu=>?_⟩⟩,fun i r u a b=>(h i r u a b).ex (AF _ _)⟩;rw[Nat.zero_add];simpa using hu
theorem rows1{w:World}{l1:List Int}{u1:Value}(h1:Ak w u1 l1):∀(i:Nat) (r:List Int) (u:Value), [l1][i]?=some r-> [u1][i]?=some u->Ak w u r:=fun i r u a b=>by
 match i,a,b with
 | 0,a,b=>simp at a b;subst a b;exact h1
 | i+1,a,b=>simp at a
theorem rows2{w:World}{l1 l2:List Int}{u1 u2:Value}(h1:Ak w u1 l1)(h2:Ak w u2 l2):∀(i:Nat) (r:List Int) (u:Value), [l1,l2][i]?=some r-> [u1,u2][i]?=some u->Ak w u r:=fun i r u a b=>by
 match i,a,b with
 | 0,a,b=>simp at a b;subst a b;exact h1
 | 1,a,b=>simp at a b;subst a b;exact h2
 | i+2,a,b=>simp at a
def GM(w:World)(b:Nat)(vs:List Value):Prop:=∀i v,vs[i]?=some v->w.cell? ⟨b,i,none⟩=some v
theorem GM.ex{w w':World}{b:Nat}{vs:List Value}(h:GM w b vs)(hx:Ex w w'):GM w' b vs:=fun i v a=>hx.cell (h i v a)
theorem k_pts(w:World)(pv sv:Value)(hp:Ak w pv [1,0])(hs:Ak w sv [2,1]):
  Calls Tryz.prog 15 #[.agg #[(3:Int),(1:Int),()],.agg #[pv,sv,Ω]] w fun r w'=>∃a c,r= .returned (.tuple #[.slice a 4 c,Ω])/\Ak w' (.slice a 4 c) [3,2,0,1]/\Ex w w':=
 (SK w 3 1 [] _ (Bd w) _ _ pv sv hp hs 0).mono fun r w' ⟨⟨v,h1,h2⟩,hx⟩=>by
  rw[e_pts.1]at h1;rw[e_pts.2]at h2;obtain⟨a,c,rfl,_⟩:=h2.open;exact⟨a,c,h1,h2,hx⟩
theorem ZV(w:World)(pv:Value)(hp:Ak w pv [3,2,0,1]):
  Calls Tryz.prog 17 #[.agg #[(3:Int),(1:Int),()],(2:Int),pv] w fun r w'=>∃a c b d,r= .returned (.tuple #[.agg #[.slice a 2 c,.slice b 2 d,Ω],Ω])/\Ak w' (.slice a 2 c) [1,0]/\Ak w' (.slice b 2 d) [2,1]/\Ex w w':=
 (Map_any w 3 1 [] _ (Bd w) 2 ac _ pv hp).mono fun r w' ⟨⟨u,v,h1,hu,hv⟩,hx⟩=>by
  obtain⟨q1,q2,q3,q4⟩:=e_map;rw[q1,q4]at h1;rw[q2]at hu;rw[q3]at hv;obtain⟨a,c,rfl,_⟩:=hu.open;obtain⟨b,d,rfl,_⟩:=hv.open;exact⟨a,c,b,d,h1,hu,hv,hx⟩
theorem zcZ{P:Prop}(h:P:=by
 rw[hb]at h3 h4;obtain⟨a,c,rfl,_⟩:=h4.open;exact⟨a,c,h3,h4,hx⟩):P:=h
theorem k_grp(w:World)(v1:Value)(h1:B6 w v1 [[1,1,0]]):
  Calls Tryz.prog 22 #[.agg #[(2:Int),(1:Int),(),(3:Int),v1]] w fun r w'=>∃a c,r= .returned (.tuple #[.agg #[(3:Int),.slice a 1 c],Ω])/\ER w' (.slice a 1 c) cL/\Ex w w':=
 (GH w eC _ v1 ⟨Bd w,h1⟩ Sr eC_mv).mono fun r w' ⟨⟨e0,ho,h⟩,hx⟩=>by
  obtain rfl:=OQ ho;rcases h with⟨h,_⟩|⟨_,v,h3,h4⟩
  .exact absurd X8 h
  .have hb:Dg (Ff eC:Int) (Er eC.p.toNat eC.m.toNat eC.ml (Di eC (AG eC)))=(⟨3,cL⟩,0):=Ss;exact zcZ
theorem k_grpT(w:World)(v1:Value)(h1:B6 w v1 [[1,2]]):
  Calls Tryz.prog 22 #[.agg #[(3:Int),(1:Int),(),(2:Int),v1]] w fun r w'=>∃a c,r= .returned (.tuple #[.agg #[(4:Int),.slice a 1 c],Ω])/\ER w' (.slice a 1 c) tL/\Ex w w':=
 (GH w eT _ v1 ⟨Bd w,h1⟩ eT_len eT_mv).mono fun r w' ⟨⟨e0,ho,h⟩,hx⟩=>by
  obtain rfl:=eT_cod ho;rcases h with⟨h,_⟩|⟨_,v,h3,h4⟩
  .exact absurd eT_gr h
  .have hb:Dg (Ff eT:Int) (Er eT.p.toNat eT.m.toNat eT.ml (Di eT (AG eT)))=(⟨4,tL⟩,0):=by
    have h:Dg (Ff eT:Int) (Er eT.p.toNat eT.m.toNat eT.ml (Di eT (AG eT)))=Dg 4 (Er 3 1 [] (Di eT (AG eT))):=rfl;rw[h,XX,V6]
   exact zcZ
theorem k_pos(w:World)(v1:Value)(h1:B6 w v1 [[1,1,0]]):
  Calls Tryz.prog 24 #[.agg #[(2:Int),(1:Int),(),(3:Int),v1]] w fun r w'=>∃a c,r= .returned (.tuple #[.slice a 2 c,Ω])/\B6 w' (.slice a 2 c) [[0,1], [2]]/\Ex w w':=
 (My sortOK w eC _ v1 ⟨Bd w,h1⟩ Sr).mono fun r w' ⟨⟨e0,ho,h⟩,hx⟩=>by
  obtain rfl:=OQ ho;rcases h with⟨h,_⟩|⟨_,v,h3,h4⟩
  .exact absurd X8 h
  .have hb:Io eC.n (PU (Di eC (AG eC)))=([[0,1], [2]],0):=by
    have h:Io eC.n (PU (Di eC (AG eC)))=Io 3 (PU (Di eC (AG eC))):=rfl;rw[h,eC_prm,cG_orb]
   exact zcZ
theorem k_cer(w:World)(v1:Value)(h1:B6 w v1 [[1,1,0]]):
  Calls Tryz.prog 32 #[.agg #[(2:Int),(1:Int),(),(3:Int),v1]] w fun r w'=>∃a c b d,r= .returned (.tuple #[.agg #[(3:Int),.slice a 1 c,.slice b 2 d],Ω])/\ER w' (.slice a 1 c) cL/\Mh w' (.slice b 2 d) eX/\Ex w w':=
 (MP w eC _ v1 ⟨Bd w,h1⟩ Sr eN_len eC_mv eX_rf).mono fun r w' ⟨⟨e0,ho,h⟩,hx⟩=>by
  obtain rfl:=OQ ho;rcases h with⟨h,_⟩|⟨_,v,v',h3,h4,h5⟩
  .exact absurd eC_cz h
  .rw[Ss]at h3 h4;have h6:Mh w' v' eX:=h5;obtain⟨a,c,rfl,_⟩:=h4.open;obtain⟨b,d,rfl,_⟩:=h6.open;rw[OP]at h3 h6;exact⟨a,c,b,d,h3,h4,h6,hx⟩
theorem ZW(w:World)(v1 lv rv:Value)(h1:B6 w v1 [[1,1,0]])(hl:ER w lv cL)(hr:Mh w rv eX):
  Calls Tryz.prog 29 #[.agg #[(2:Int),(1:Int),(),(3:Int),v1],.agg #[(3:Int),lv,rv]] w fun r w'=>∃a n c,r= .returned (.tuple #[.slice a n c,Ω])/\Hk w' (.slice a n c) 2/\Ex w w':=
 (Rh w eC _ v1 ⟨Bd w,h1⟩ 3 cL lv hl ae eX rv hr).mono fun r w' ⟨⟨e0,ho,h⟩,hx⟩=>by
  obtain rfl:=OQ ho;rcases h with⟨h,_⟩|⟨_,h,_⟩|⟨_,_,v,h3,h4⟩
  .exact absurd eC_opE h
  .exact absurd cL_acc h
  .rw[cL_siz]at h4;have h5:=h4;obtain⟨n,f,g1,g2,g3⟩:=h4;obtain⟨a,c,rfl,_⟩:=NL.open g3;exact⟨a,_,c,h3,h5,hx⟩
theorem k_sizT(w:World)(v:Value)(hv:ER w v tL):Calls Tryz.prog 35 #[.agg #[(4:Int),v]] w fun r w'=>∃a n c,r= .returned (.tuple #[.slice a n c,Ω])/\Hk w' (.slice a n c) 4/\Ex w w':=
 (L9 w 4 tL v hv ae).mono fun r w' ⟨h1,h3⟩=>by
  rcases h1 with h1|⟨_,u,h1,h2⟩
  .exact absurd tL_chk h1.1
  .rw[tL_siz]at h2;have h5:=h2;obtain⟨n,f,g1,g2,g3⟩:=h2;obtain⟨a,c,rfl,_⟩:=NL.open g3;exact⟨a,_,c,h1,h5,h3⟩
theorem Qk(w:World)(v u:Value)(hv:ER w v cL)(hu:ER w u cL):Calls Tryz.prog 26 #[.agg #[(3:Int),v],.agg #[(3:Int),u]] w fun r w'=>r= .returned (.bool true)/\Ex w w':=
 (Ry w 3 3 cL cL v u hv hu).mono fun r w' ⟨⟨b,h1,h2⟩,h3⟩=>by
  rw[h2.2 ⟨rfl,rfl⟩]at h1;exact⟨h1,h3⟩
theorem Xg(w:World)(x:Nat)(hx:x<=64)(v u:Value)(hv:Hk w v x)(hu:Hk w u x):Calls Tryz.prog 50 #[v,u] w fun r w'=>r= .returned (.int .i64 0)/\Ex w w':=
 (Wx w x x v u hv hu (Dt ac) (Dt ac)).mono fun r w' ⟨⟨z,h1,h2⟩,h3⟩=>by
  rw[h2.2 rfl]at h1;exact⟨h1,by rw[h3];exact Ex.refl _⟩
theorem zcA{P:Prop}(h:P:=by
 rw[decide_eq_true rfl]at h1;exact⟨h1,by rw[h3];exact(Ex.refl w).drewN n⟩):P:=h
theorem k_ints(w:World)(v u:Value)(l:List Int)(hv:Ak w v l)(hu:Ak w u l):Calls Tryz.prog 19 #[v,u] w fun r w'=>r= .returned (.bool true)/\Ex w w':=
 (DJ w l l v u hv hu).mono fun r w' ⟨h1,n,h3⟩=>by
  exact zcA
theorem k_rows(w:World)(v u:Value)(l:List (List Int))(hv:B6 w v l)(hu:B6 w u l):Calls Tryz.prog 27 #[v,u] w fun r w'=>r= .returned (.bool true)/\Ex w w':=
 (DI w l l v u hv hu).mono fun r w' ⟨h1,n,h3⟩=>by
  exact zcA
theorem k_map(w:World)(pl sl:List Int)(pv sv qv tv:Value)(hp:Ak w pv pl)(hs:Ak w sv sl)(hq:Ak w qv pl)(ht:Ak w tv sl):
  Calls Tryz.prog 20 #[.agg #[pv,sv,Ω],.agg #[qv,tv,Ω]] w fun r w'=>r= .returned (.bool true)/\Ex w w':=
 (Q8 w pl sl pl sl pv sv qv tv hp hs hq ht 0 0).mono fun r w' ⟨h,hx⟩=>by
  rw[decide_eq_true ⟨rfl,rfl,rfl⟩]at h;exact⟨h,hx⟩
theorem Tm(w:World)(x:Nat)(hx1:1<=x)(hx2:x<=64):Hk (w.alloc (.cells #[.int .u32 x] 91)) (.slice (some (w.heap.size,0)) 1 1) x:=
 ⟨1,fun _=>x,⟨fun _ _=>by show x<4294967296;omega,fun _ _=>by show x≠0;omega⟩,by show 0+x*1=x;omega,NL.mk (Nat.le_refl _) ai fun _=>⟨_,0,rfl,fun j hj=>by
  obtain rfl:j=0:=ac;simp⟩⟩
theorem eX_at:(∃x,eX[0]?=some x/\x.i=0/\x.j=2)/\∃x,eX[1]?=some x/\x.i=1/\x.j=2:=by
 have h:=eX_ij;have hl:=OP;constructor
 .refine⟨eX[0]'ac,γ _,?_⟩;have:=congrArg (fun l=>l[0]?) h;simp only[ϖ,γ (show 0<eX.length by omega)]at this;simpa[exT]using this
 .refine⟨eX[1]'ac,γ _,?_⟩;have:=congrArg (fun l=>l[1]?) h;simp only[ϖ,γ (show 1<eX.length by omega)]at this;simpa[exT]using this
theorem esl_eX{w:World}{a:Option Addr}{c:Nat}(h:Mh w (.slice a 2 c) eX):∃X o,a=some ⟨X,o,none⟩/\w.cell? ⟨X,o,none⟩=some (.int .i64 0)/\w.cell? ⟨X,o+1,none⟩=some (.int .i64 2)/\w.cell? ⟨X,o+4,none⟩=some (.int .i64 1)/\w.cell? ⟨X,o+4+1,none⟩=some (.int .i64 2):=by
 obtain⟨a',c',e,_,_,h3⟩:=h.open;injection e with e1 _ _;subst e1;obtain⟨X,o,rfl,h4⟩:=h3 (by rw[OP];omega);obtain⟨⟨x,x1,x2,x3⟩,⟨y,y1,y2,y3⟩⟩:=eX_at
 obtain⟨_,f1,f2,_⟩:=h4 0 x x1;obtain⟨_,g1,g2,_⟩:=h4 1 y y1;rw[x2]at f1;rw[x3]at f2;rw[y2]at g1;rw[y3]at g2;exact⟨X,o,rfl,f1,f2,g1,g2⟩
section
variable {p m N k:Nat} {ml pl sl:List Int} {l l1 l2:List (List Int)}
theorem smC_of(ho:Bw p m ml N l 0)(hs:Smp ⟨p,m,ml,N,l⟩ k)(hk:k<=12)(hd:N*(p^m-1)<=64):El p m ml N l:=by
 have aA:Ff ⟨p,m,ml,N,l⟩=N*(p^m-1):=by unfold Ff;simp only[ώ]
 obtain⟨h1,h2⟩:=hs ho (by rw[aA];exact hd);rw[aA]at h1;simp only[ώ]at h2;obtain⟨_,_,N1,_,_,g3,_,_,n1,_⟩:=IE ho;obtain rfl:N=N1:=by omega
 refine⟨ho,hd,h2,?_⟩;have:=Nat.mul_le_mul_right (p^m-1) n1;omega
theorem Ns(h:Bw p m ml N l 0):∃(piv:List Nat) (a':Nat->Nat->Int),Ia p m ml N l.length (An l) a' piv/\Au N piv.length a'=l:=by
 rcases h with⟨_,h⟩|⟨_,h1,h2⟩|⟨h1,h2,h3⟩
 .cases h
 .exact absurd h2.symm h1
 .rcases h3 with⟨h3,h4⟩|⟨_,pn,mn,N',piv,a',e1,e2,e3,_,hm,hel,he⟩
  .exact absurd h4.symm h3
  .obtain rfl:p=pn:=by omega
   obtain rfl:m=mn:=ac;obtain rfl:N=N':=ac;refine⟨piv,a',hel,?_⟩;split at he
   .assumption
   .cases he
theorem El.grO(h:El p m ml N l){r:Ending}{w':World}(hg:GrO ⟨p,m,ml,N,l⟩ r w'):∃lv,r= .returned (.tuple #[.agg #[((N*(p^m-1):Nat):Int),lv],Ω])/\ER w' lv (Jq p m ml N l):=by
 obtain⟨e0,ho,hr⟩:=hg;obtain rfl:=B3 ho h.co;rcases hr with⟨h1,_⟩|⟨_,v,h3,h4⟩
 .exact absurd h.grE h1
 .have hb:Dg (Ff ⟨p,m,ml,N,l⟩:Int) (Go.Proofs.YtehieobniamagaaGreat.Er (⟨p,m,ml,N,l⟩:AX).p.toNat (⟨p,m,ml,N,l⟩:AX).m.toNat (⟨p,m,ml,N,l⟩:AX).ml (Di ⟨p,m,ml,N,l⟩ (AG ⟨p,m,ml,N,l⟩)))=(⟨((N*(p^m-1):Nat):Int),Jq p m ml N l⟩,0):=h.bld;rw[hb]at h3 h4;exact⟨v,h3,h4⟩
theorem El.bnd(h:El p m ml N l):(Di ⟨p,m,ml,N,l⟩ (AG ⟨p,m,ml,N,l⟩)).length<=1000/\∀M∈Di ⟨p,m,ml,N,l⟩ (AG ⟨p,m,ml,N,l⟩),Pa (⟨p,m,ml,N,l⟩:AX).n.toNat M:=⟨by have:=h.len;omega,h.mv⟩
theorem XC(n:Nat)(hn:n<=30)(S:List (Nat->Nat)):(Bn (Ck n S n)).length<=1000:=by
 have:=XA n S;have:=Nat.mul_le_mul hn hn;omega
end
def UE(p:Nat->Nat)(l:List Nat):List Nat:=l.mergeSort fun x y=>decide (p x<=p y)
theorem Fi(p:Nat->Nat)(l:List Nat):(UE p l).Perm l:=List.mergeSort_perm _ _
theorem Zc(p:Nat->Nat)(l:List Nat):(UE p l).Pairwise fun x y=>p x<=p y:=by
 have h:=List.pairwise_mergeSort (le:=fun x y=>decide (p x<=p y)) (fun a b c h1 h2=>by
  simp only[decide_eq_true_eq]at *;omega) (fun a b=>by
  simp only[Bool.or_eq_true,decide_eq_true_eq];omega) l
 exact h.imp fun h=>ay
theorem RO(S:List (Nat->Nat))(b m:Nat):(Bf S b m).Nodup:=by
 unfold Bf;exact κu _ ηy
theorem Zb{p:Nat->Nat}(hp:∀i j,p i=p j->i=j){l:List Nat}(hn:l.Nodup):(UE p l).Pairwise fun x y=>p x<p y:=by
 have h2:(UE p l).Pairwise (·≠·):=(Fi p l).nodup_iff.2 hn;exact((Zc p l).and h2).imp fun ⟨h3,h4⟩=>by
  have:p _≠p _:=fun e=>h4 (hp _ _ e);omega
noncomputable def Sp(n:Nat)(S:List (Nat->Nat)):List Nat->(Nat->Nat)->List (Nat->Nat)
 | [],p=> [p]
 | b :: bs,p=>(UE p (Bf S b n)).flatMap fun x=>Sp n S bs (Ap (De n S b x) p)
def ElLt(n:Nat)(f g:Nat->Nat):Prop:=∃i,i<n/\(∀j,j<i->f j=g j)/\f i<g i
section
variable {n:Nat} {S:List (Nat->Nat)}
theorem R6(hS:∀s∈S,Bo n s){b x:Nat}(hx:x∈Bf S b n):DX n S b x (De n S b x):=FL hS (CM.1 hx).2
theorem So(hS:∀s∈S,Bo n s){b:Nat}{bs:List Nat}(h:JY n S b bs):∀p f,f∈Sp n S bs p->∃g,Gn S g/\AU b g/\f=Ap g p:=by
 induction h with
 | nil=>
  intro p f hf;rw[Sp,ϙ]at hf;exact⟨Ep,.one,Hz _,by rw[hf];rfl⟩
 | skip h1 h2 h3 ih=>
  intro p f hf;obtain⟨g,a1,a2,a3⟩:=ih p f hf;exact⟨g,a1,fun i hi=>a2 i ac,a3⟩
 | @cons b bs h1 h2 h3 ih=>
  intro p f hf;rw[Sp,γr]at hf;obtain⟨x,hx,hf⟩:=hf;have hl:=R6 hS ((Fi p _).mem_iff.1 hx);obtain⟨g,a1,a2,a3⟩:=ih _ f hf;refine⟨Ap g (De n S b x),a1.mul hl.gn,fun i hi=>?_,by rw[a3];rfl⟩;show De n S b x (g i)=i
  rw[a2 i ac,hl.fix i hi]
theorem el_asc(hS:∀s∈S,Bo n s){b:Nat}{bs:List Nat}(h:JY n S b bs):∀p,Bo n p->(Sp n S bs p).Pairwise (ElLt n):=by
 induction h with
 | nil=>intro p _;rw[Sp];exact θl _ _
 | skip h1 h2 h3 ih=>exact ih
 | @cons b bs h1 h2 h3 ih=>
  intro p hp;rw[Sp,θs];have hm:∀x∈UE p (Bf S b n),DX n S b x (De n S b x):=fun x hx=>R6 hS ((Fi p _).mem_iff.1 hx);refine⟨fun x hx=>ih _ (((hm x hx).gn.isP hS).comp hp),?_⟩;refine(Zb (fun i j e=>hp.inj i j e) (RO S b n)).imp_of_mem fun {x y} hx hy aA u hu v hv=>?_;obtain⟨g,-,a2,rfl⟩:=So hS h3 _ _ hu;obtain⟨k,-,c2,rfl⟩:=So hS h3 _ _ hv;refine⟨b,h1,fun j hj=>?_,?_⟩
  .show p (De n S b x (g j))=p (De n S b y (k j))
   rw[a2 j ac,c2 j ac,(hm x hx).fix j hj,(hm y hy).fix j hj]
  .show p (De n S b x (g b))<p (De n S b y (k b))
   rw[a2 b ac,c2 b ac,(hm x hx).at_,(hm y hy).at_];exact aA
theorem MR{α:Type}(c:Nat):∀(l:List α) (f:α->Nat),(∀x∈l,f x=c)->(l.map f).sum=l.length*c
 | [],f,_=>by simp
 | x :: l,f,h=>by
  rw[ηk,List.sum_cons,MR c l f fun y hy=>h y (ω _ hy),h x (Θ ..),γk,Nat.succ_mul];omega
theorem Ht:∀(xs:List Nat) (a:Nat),xs.foldl (·* ·) a=a*F6 xs
 | [],a=>by show a=a*1;omega
 | x :: xs,a=>by
  show xs.foldl (·* ·) (a*x)=a*xs.foldl (·* ·) (1*x)
  rw[Ht xs (a*x),Ht xs (1*x),Nat.one_mul,Nat.mul_assoc]
theorem RJ(x:Nat)(xs:List Nat):F6 (x :: xs)=x*F6 xs:=by
 show xs.foldl (·* ·) (1*x)=_
 rw[Ht,Nat.one_mul]
theorem XQ(n:Nat)(S:List (Nat->Nat)):∀(bs:List Nat) (p:Nat->Nat),(Sp n S bs p).length=F6 (bs.map fun b=>(Bf S b n).length)
 | [],p=>by rw[Sp];rfl
 | b :: bs,p=>by
  rw[Sp,List.length_flatMap,MR _ _ _ fun x _=>XQ n S bs _,(Fi p _).length_eq,ηk,RJ]
theorem el_siz(n:Nat)(S:List (Nat->Nat))(p:Nat->Nat):(Sp n S (JT n S) p).length=EN ((JT n S).map (FM n S)):=by
 rw[XQ];unfold EN;rw[List.map_map]
 congr 1
 refine List.map_congr_left fun b _=>?_;show _=(DN (Bf S b n)).length
 rw[Cz]
end
theorem FK{α:Type}:∀(l k:List α),l.Nodup->(∀x∈l,x∈k)->l.length<=k.length
 | [],k,_,_=>by simp
 | x :: l,k,hn,h=>by
  obtain⟨k1,k2,e⟩:=List.append_of_mem (h x ag);rw[List.nodup_cons]at hn;have:=FK l (k1++k2) hn.2 fun y hy=>by
   have aA:y≠x:=fun e=>hn.1 (e ▸ hy);have:=h y (by simp[hy]);rw[e]at this;simp only[γj,ϒ]at this ⊢;rcases this with h|h|h
   .exact .inl h
   .exact absurd h aA
   .exact .inr h
  rw[e];simp only[ν,γk]at this ⊢;omega
section
variable {n:Nat} {S:List (Nat->Nat)}
theorem el_all(hS:∀s∈S,Bo n s){b:Nat}{bs:List Nat}(h:JY n S b bs):∀p g,Gn S g->AU b g->Ap g p∈Sp n S bs p:=by
 induction h with
 | nil=>
  intro p g hg hx;rw[Sp,AU.all (hg.isP hS) hx];simp;rfl
 | @skip b bs h1 h2 h3 ih=>
  intro p g hg hx;refine ih p g hg fun i hi=>?_;by_cases e:i=b
  .subst e;have aB:=hg.isP hS;have m1:i∈Bf S i n:=CM.2 ⟨h1,Ep,.one,Hz _,rfl⟩;have m2:g i∈Bf S i n:=CM.2 ⟨aB.lt i h1,g,hg,hx,rfl⟩;have aA:(Bf S i n).length=1:=by
    have:=List.length_pos_of_mem m1;omega
   obtain⟨y,hy⟩:=List.length_eq_one_iff.1 aA;rw[hy,ϙ]at m1 m2;rw[m2,<-m1]
  .exact hx i ac
 | @cons b bs h1 h2 h3 ih=>
  intro p g hg hx;have aB:=hg.isP hS;have hm:g b∈Bf S b n:=CM.2 ⟨aB.lt b h1,g,hg,hx,rfl⟩;have hl:=R6 hS hm;have aC:=hl.gn.isP hS;rw[Sp,γr];refine⟨g b,(Fi p _).mem_iff.2 hm,?_⟩;have h4:=ih (Ap (De n S b (g b)) p) (Ap g (A8 n (De n S b (g b)))) (hg.mul (hl.gn.inv hS)) (AU.div aC hx hl.fix hl.at_);have e:Ap (Ap g (A8 n (De n S b (g b)))) (Ap (De n S b (g b)) p)=Ap g p:=by
   funext i;show p (De n S b (g b) (A8 n (De n S b (g b)) (g i)))=p (g i)
   rw[aC.inv_r]
  rw[e]at h4;exact h4
noncomputable def elG(n:Nat)(S:List (Nat->Nat)):List (Nat->Nat):=Sp n S (JT n S) Ep
theorem elG_mem(hS:∀s∈S,Bo n s){f:Nat->Nat}:f∈elG n S↔Gn S f:=by
 constructor
 .intro h;obtain⟨g,h1,_,rfl⟩:=So hS (GP n S) Ep f h;exact h1
 .intro h;exact el_all hS (GP n S) Ep f h fun i hi=>ac
theorem elLt_ne{f g:Nat->Nat}(h:ElLt n f g):f≠g:=by
 obtain⟨i,_,_,h3⟩:=h;intro e;rw[e]at h3;omega
theorem Vu(hS:∀s∈S,Bo n s):(elG n S).Nodup:=(el_asc hS (GP n S) Ep (Fe n)).imp elLt_ne
theorem elG_len:(elG n S).length=EN (Ck n S n):=by
 rw[EH];exact el_siz n S Ep
end
section
variable {p m N k:Nat} {ml pl sl:List Int} {l l1 l2 ks:List (List Int)}
theorem El.img(h:El p m ml N l)(hc:Cm p m ml=0){R:Nat}{a a':Nat->Nat->Int}{piv:List Nat}(hR:R<=256)(aA:Ia p m ml N R a a' piv):El p m ml N (Au N piv.length a'):=
 ⟨Ye ((BU _ _ _).1 hc) h.two.1.n1 h.two.1.n2 hR aA,h.hd,h.sm,h.hq⟩
end
def Ca(q n:Nat):Nat->List Int->List Int->List (List Int × List Int)
 | 0,tl,sl=> [(tl,sl)]
 | k+1,tl,sl=>(Gx q tl sl n).flatMap fun x=>Ca q n k x.1 x.2
theorem ON{q n:Nat}{tl sl:List Int}{x:List Int × List Int}:x∈Gx q tl sl n↔∃j a:Nat,j<n/\tl.contains (j:Int)=false/\1<=a/\a<q/\x=(tl ++ [(j:Int)],sl ++ [(a:Int)]):=by
 unfold Gx VL;rw[γr];constructor
 .rintro⟨j,hj,hx⟩;rw[κ]at hj;split at hx
  .cases hx
  .rename_i hc;rw[ψ]at hx;obtain⟨c,aA,rfl⟩:=hx;rw[κ]at aA;exact⟨j,c+1,hj,by simpa using hc,ac,ac,rfl⟩
 .rintro⟨j,a,hj,hc,h1,h2,rfl⟩;refine⟨j,κ.2 hj,?_⟩;rw[if_neg (by rw[hc];simp)];exact ψ.2 ⟨a-1,κ.2 ac,by rw[show a-1+1=a from ac]⟩
theorem Vt(q n:Nat)(tl sl:List Int):(Gx q tl sl n).Nodup:=by
 unfold Gx;refine θs.2 ⟨fun j _=>?_,?_⟩
 .unfold VL;split
  .exact μp
  .refine ρl _ (fun a b (h:a≠b)=>?_) ηy;intro e;simp only[Prod.mk.injEq,ιf,List.cons.injEq,and_true,true_and]at e;omega
 .refine(ηy (n:=n)).imp fun {a b} (h:a≠b) x hx y hy e=>?_;subst e;unfold VL at hx hy;split at hx
  .cases hx
  split at hy
  .cases hy
  obtain⟨c,_,rfl⟩:=ψ.1 hx;obtain⟨d,_,e⟩:=ψ.1 hy;simp only[Prod.mk.injEq,ιf,List.cons.injEq,and_true]at e;omega
theorem zcb{P:Prop}(h:P:=by
 rw[List.take_take,List.length_append,Nat.min_eq_left (by omega),List.take_left]at this;exact this):P:=h
theorem Jc{q n:Nat}:∀(k:Nat) (tl sl:List Int) (x:List Int × List Int),x∈Ca q n k tl sl->x.1.take tl.length=tl/\x.2.take sl.length=sl
 | 0,tl,sl,x,h=>by
  unfold Ca at h;rw[ϙ]at h;subst h;exact⟨γf,γf⟩
 | k+1,tl,sl,x,h=>by
  unfold Ca at h;obtain⟨y,hy,hx⟩:=γr.1 h;obtain⟨j,a,_,_,_,_,rfl⟩:=ON.1 hy;obtain⟨h1,h2⟩:=Jc k _ _ x hx;constructor
  .have:=congrArg (List.take tl.length) h1;exact zcb
  .have:=congrArg (List.take sl.length) h2;exact zcb
theorem JK{q n:Nat}:∀(k:Nat) (tl sl:List Int),(Ca q n k tl sl).Nodup
 | 0,tl,sl=>by unfold Ca;exact θl _ _
 | k+1,tl,sl=>by
  unfold Ca;refine θs.2 ⟨fun x _=>JK k _ _,?_⟩;have hm:∀x∈Gx q tl sl n,x.1.length=tl.length+1/\x.2.length=sl.length+1:=TZ;refine(κq.1 (Vt q n tl sl)).imp fun {a b} h x hx y hy e=>?_;subst e;obtain⟨ha,hb,aA⟩:=h;obtain⟨p1,p2⟩:=Jc k _ _ _ hx;obtain⟨r1,r2⟩:=Jc k _ _ _ hy;rw[(hm _ ha).1]at p1;rw[(hm _ ha).2]at p2;rw[(hm _ hb).1]at r1;rw[(hm _ hb).2]at r2;exact aA (Prod.ext (p1.symm.trans r1) (p2.symm.trans r2))
theorem Jb{q n:Nat}:∀(k:Nat) (tl sl:List Int),Q5 q n tl sl->∀x∈Ca q n k tl sl,Q5 q n x.1 x.2/\x.1.length=tl.length+k
 | 0,tl,sl,h,x,hx=>by
  unfold Ca at hx;rw[ϙ]at hx;subst hx;exact⟨h,rfl⟩
 | k+1,tl,sl,h,x,hx=>by
  unfold Ca at hx;obtain⟨y,hy,hx⟩:=γr.1 hx;obtain⟨j,a,hj,hc,h1,h2,rfl⟩:=ON.1 hy;obtain⟨g1,g2⟩:=Jb k _ _ (h.snoc hj hc h1 h2) x hx;refine⟨g1,?_⟩;rw[g2,ν,List.length_singleton];omega
theorem Nb{q n:Nat}{pl sl:List Int}(h:Q5 q n pl sl):∀(k t:Nat),t+k=pl.length->(pl,sl)∈Ca q n k (pl.take t) (sl.take t)
 | 0,t,e=>by
  unfold Ca;rw[ϙ,γm (by omega),γm (by rw[h.len];omega)]
 | k+1,t,e=>by
  unfold Ca;obtain⟨r1,r2⟩:=h.rng t ac;obtain⟨z,z1,z2,z3⟩:=h.sc t ac;have ih:=Nb h k (t+1) ac;have t1:pl.take (t+1)=pl.take t ++ [pl.getD t 0]:=by
   rw[γd,δ,γ ac];rfl
  have t2:sl.take (t+1)=sl.take t ++ [sl.getD t 0]:=by
   rw[γd,δ,γ (by rw[h.len];omega)];rfl
  refine γr.2 ⟨(pl.take (t+1),sl.take (t+1)),ON.2 ⟨(pl.getD t 0).toNat,z,ac,?_,z2,z3,?_⟩,ih⟩
  .rw[δx r1]
   cases hc:(pl.take t).contains (pl.getD t 0) with
   | false=>rfl
   | true=>
    exfalso;have hm:=List.contains_iff_mem.1 hc;obtain⟨i,hi,e2⟩:=List.getElem_of_mem hm;rw[List.length_take]at hi;refine h.inj t i ac ac ?_;rw[<-e2,List.getElem_take,δ,γ ac];rfl
  .rw[t1,t2,z1,δx r1]
def OY{α:Type}[DecidableEq α]:List α->List α->List α
 | acc, []=>acc
 | acc,x :: xs=>OY (if x∈acc then acc else acc ++ [x]) xs
theorem LK{α:Type}[DecidableEq α]:∀(l aA:List α),aA.Nodup->(OY aA l).Nodup/\∀x,x∈OY aA l↔x∈aA∨x∈l
 | [],aA,h=>⟨h,fun x=>by simp[OY]⟩
 | y :: l,aA,h=>by
  unfold OY;by_cases hy:y∈aA
  .rw[if_pos hy];obtain⟨h1,h2⟩:=LK l aA h;refine⟨h1,fun x=>(h2 x).trans ?_⟩;simp only[ϒ];constructor
   .rintro (h|h)
    .exact .inl h
    .exact .inr (.inr h)
   .rintro (h|rfl|h)
    .exact .inl h
    .exact .inl hy
    .exact .inr h
  .rw[if_neg hy];have hn:(aA ++ [y]).Nodup:=by
    refine List.pairwise_append.2 ⟨h,θl _ _,fun a ha b hb=>?_⟩;rw[ϙ]at hb;subst hb;exact fun e=>hy (e ▸ ha)
   obtain⟨h1,h2⟩:=LK l (aA ++ [y]) hn;refine⟨h1,fun x=>(h2 x).trans ?_⟩;simp only[γj,ϒ,List.not_mem_nil,or_false];constructor
   .rintro ((h|h)|h)
    .exact .inl h
    .exact .inr (.inl h)
    .exact .inr (.inr h)
   .rintro (h|h|h)
    .exact .inl (.inl h)
    .exact .inl (.inr h)
    .exact .inr h
section
variable {α β:Type} [DecidableEq β]
def Jl(f:α->β)(l:List α):List β->Nat
 | []=>0
 | v :: D=>(l.filter fun x=>decide (f x=v)).length+Jl f l D
theorem Qy(f:α->β):∀D:List β,Jl f [] D=0
 | []=>rfl
 | v :: D=>by unfold Jl;rw[Qy f D];rfl
theorem TW(f:α->β)(x:α)(l:List α):∀D:List β,f x ∉ D->Jl f (x :: l) D=Jl f l D
 | [],_=>rfl
 | v :: D,h=>by
  rw[ϒ]at h;unfold Jl;rw[TW f x l D (fun e=>h (.inr e)),θb,if_neg (by simpa using fun e=>h (.inl e))]
theorem Qx(f:α->β)(x:α)(l:List α):∀D:List β,D.Nodup->f x∈D->Jl f (x :: l) D=Jl f l D+1
 | [],_,h=>by cases h
 | v :: D,hn,h=>by
  have aA:=List.pairwise_cons.1 hn;unfold Jl;by_cases e:f x=v
  .rw[TW f x l D (fun h2=>aA.1 _ h2 e.symm),θb,if_pos fd,γk];omega
  .rw[Qx f x l D aA.2 (by rcases ϒ.1 h with h|h;exact absurd h e;exact h),θb,if_neg fd];omega
theorem Qz(f:α->β){D:List β}(hn:D.Nodup):∀l:List α,(∀x∈l,f x∈D)->l.length=Jl f l D
 | [],_=>(Qy f D).symm
 | x :: l,h=>by
  rw[Qx f x l D hn (h x Θ),γk,Qz f hn l fun y hy=>h y (ω _ hy)]
theorem Lu(f:α->β)(l:List α){A:Nat}:∀D:List β,(∀v∈D,(l.filter fun x=>decide (f x=v)).length=A)->Jl f l D=A*D.length
 | [],_=>by simp[Jl]
 | v :: D,h=>by
  unfold Jl;rw[h v Θ,Lu f l D fun v hv=>h v (ω _ hv),γk,Nat.mul_succ];omega
theorem Vr(f:α->β)(l:List α){A:Nat}(h:∀x∈l,(l.filter fun y=>decide (f y=f x)).length=A):A*(OY [] (l.map f)).length=l.length:=by
 obtain⟨h1,h2⟩:=LK (l.map f) [] μp;rw[Qz f h1 l fun x hx=>(h2 _).2 (.inr (ψ.2 ⟨x,hx,rfl⟩)),Lu f l _ fun v hv=>?_];rcases (h2 v).1 hv with h3|h3
 .cases h3
 .obtain⟨x,hx,rfl⟩:=ψ.1 h3;exact h x hx
end
section
variable {p m N:Nat} {ml:List Int} {l:List (List Int)}
theorem fib_aut(h:El p m ml N l)(im:List Int × List Int->List (List Int))(aA:List (List Int × List Int))(aK:aA.Nodup)
  (aD:∀x,x∈aA↔Bv p m ml x.1 x.2 0 N/\∀i,i<N->0<=x.1.getD i 0)
  (aB:∀x∈aA,∀l2,Bw p m ml N l2 0->(AW p m ml N l l2 x.1 x.2↔im x=l2)) (aC:∀x∈aA,Bw p m ml N (im x) 0):
  ∀x∈aA,(aA.filter fun y=>decide (im y=im x)).length=EN (Jq p m ml N l):=fun x hx=>by
 have hW:=h.two.1;have aL:AW p m ml N l (im x) x.1 x.2:=(aB x hx _ (aC x hx)).2 rfl;have hP:Gf p m ml N l (im x) (G6 p m ml x.1 x.2):=⟨_,_,aL,rfl⟩;have aH:=hP.isP hW;unfold Jq;rw[<-elG_len];have hF:∀y,y∈aA.filter (fun y=>decide (im y=im x))↔AW p m ml N l (im x) y.1 y.2:=fun y=>by
  rw[List.mem_filter,decide_eq_true_eq];constructor
  .rintro⟨hy,e⟩;exact(aB y hy _ (aC x hx)).2 e
  .intro hT;have hy:=(aD y).2 ⟨hT.mon hW,hT.nn⟩;exact⟨hy,(aB y hy _ (aC x hx)).1 hT⟩
 have aM:(aA.filter fun y=>decide (im y=im x)).Nodup:=aK.sublist List.filter_sublist;have hG:=Vu h.fnd_isP;have aI:∀f,f∈elG (N*(p^m-1)) (Qv p m ml N l)↔Gf p m ml N l l f:=fun f=>(elG_mem h.fnd_isP).trans (h.gen f);refine Nat.le_antisymm ?_ ?_
 .have:=FK ((aA.filter fun y=>decide (im y=im x)).map fun y=>Ap (G6 p m ml y.1 y.2) (A8 (N*(p^m-1)) (G6 p m ml x.1 x.2))) (elG (N*(p^m-1)) (Qv p m ml N l)) ?_ ?_
  .rwa[Ϛ]at this
  .refine ηn.2 ((κq.1 aM).imp fun {a b} aE e=>?_);obtain⟨ha,hb,aJ⟩:=aE;have aG:=(hF a).1 ha;have aF:=(hF b).1 hb;have e2:G6 p m ml a.1 a.2=G6 p m ml b.1 b.2:=by
    funext i;have:=congrFun e i;exact aH.inv.inj _ _ this
   obtain⟨e3,e4⟩:=Zx (aG.mon hW) (aF.mon hW) aG.nn aF.nn e2;exact aJ (Prod.ext e3 e4)
  .intro f hf;obtain⟨y,hy,rfl⟩:=ψ.1 hf;exact(aI _).2 (Gf.comp hW ⟨_,_,(hF y).1 hy,rfl⟩ (hP.inv hW))
 .have:=FK ((elG (N*(p^m-1)) (Qv p m ml N l)).map fun f=>Ap f (G6 p m ml x.1 x.2)) ((aA.filter fun y=>decide (im y=im x)).map fun y=>G6 p m ml y.1 y.2) ?_ ?_
  .rwa[Ϛ,Ϛ]at this
  .refine ηn.2 (hG.imp fun {a b} aE e=>aE ?_);funext i;exact aH.inj _ _ (congrFun e i)
  .intro g hg;obtain⟨f,hf,rfl⟩:=ψ.1 hg;obtain⟨ql,tl,hT,e⟩:=((aI f).1 hf).comp hW hP;exact ψ.2 ⟨(ql,tl),(hF _).2 hT,e.symm⟩
end
end Go.Proofs.YtehieobniamagaaGreat
