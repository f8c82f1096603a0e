/- Walk of code.New (columns >= 1). -/
import Derived.Deep.CutRange
import Derived.Test.YtgdmlmhpineibaaGreatZg28
namespace Go.Proofs.YtgdmlmhpineibaaGreat
set_option linter.unusedVariables false
set_option linter.unusedSimpArgs false
set_option maxRecDepth 100000
set_option maxHeartbeats 4000000
section
open Go.RowKit
def newE (p m:Int) (ml:List Int) (cols:Int) (rows:List (List Int)):Int:=if canE p m ml cols rows≠0 then canE p m ml cols rows else lenE cols
def CNewR (p m:Int) (ml:List Int) (cols:Int) (rows:List (List Int)) (b0:Nat) (r:Ending) (w':World):Prop:=
 (newE p m ml cols rows≠0∧r= .returned (.tuple #[.agg #[.int .i64 0,.int .i64 0,.slice none 0 0,.int .i64 0,.slice none 0 0],.int .i64 (newE p m ml cols rows)]))∨
 (newE p m ml cols rows=0∧∃(pn mn N:Nat) (piv:List Nat) (a':Nat→Nat→Int) (rv v':Value),p=pn∧m=mn∧cols=N∧FldB p m ml∧mchkS (pn ^ mn) N rows=0∧r= .returned (.tuple #[.agg #[.int .i64 p,.int .i64 m,v',.int .i64 N,rv],.int .i64 0])∧ElO pn mn ml N rows.length (rowsF rows) a' piv∧ISl w' v' ml∧MSl w' rv (rowsL N piv.length a')∧(∀B,v'.ownBlock=some B→b0≤B)∧∃g blk cap base,b0≤base∧rv= .slice (some ⟨g,0,none⟩) piv.length piv.length∧EM w' base g rows.length N blk cap a' []∧piv.length≤rows.length∧rows.length≤256)
theorem codeNew_any (w:World) (p m:Int) (ml:List Int) (mv:Value) (hmv:ISl w mv ml) (hn:ml.length≤1000) (cols:Int) (rows:List (List Int)) (v:Value) (hv:MSl w v rows) (h0:canE p m ml cols rows=0→1≤cols):
  Calls Tryz.prog 75 #[.agg #[.int .i64 p,.int .i64 m,mv],.agg #[.int .i64 cols,v]] w fun r w'=> CNewR p m ml cols rows w.heap.size r w'∧Ex w w':=by
 obtain ⟨g0,g1,g2,e0,gsz⟩:=box_facts w p m mv;have HCN:=hid_ (fun (w':World) (h:Ex w w')=> Canonical_any w' p m ml mv (hmv.ex h) cols rows v (hv.ex h) h0);have HMV:=hid_ hmv;obtain ⟨za,zc,rfl,-,z2,-⟩:=hv.open;unfold maxLen at z2;obtain ⟨ma,mc,rfl,-,m2,-⟩:=hmv.open;unfold maxLen at m2;obtain ⟨xb,hxb⟩:∃xb,w.heap.size=xb:=⟨_,rfl⟩;rw [hxb] at g0 g1 g2 gsz;clear hmv hv h0;go_enter Tryz.func75,Tryz.ntmps75
 go_wp2_with fail
 generalize w.alloc (.cells #[.int .i64 p,.int .i64 m,.slice ma ml.length mc] 24)=wA at *;obtain ⟨a0,a1,ea⟩:=boxM2_facts wA cols (.slice za rows.length zc);have asz:(wA.alloc (.cells #[.int .i64 cols,.slice za rows.length zc] 113)).heap.size=xb + 1 + 1:=by simp [gsz]
 rw [gsz] at a0 a1;generalize wA.alloc (.cells #[.int .i64 cols,.slice za rows.length zc] 113)=wB at *;have bq:=BxC.new wB;rw [asz] at bq;have eb:Ex wB _:=(Ex.refl wB).alloc (.cells #[.int .i64 0,.int .i64 0,.slice none 0 0,.int .i64 0,.slice none 0 0] 47);have A0:=hid_ (eb.cell a0);have G0:=hid_ ((ea.trans eb).cell g0);have G1:=hid_ ((ea.trans eb).cell g1);have G2:=hid_ ((ea.trans eb).cell g2);have BQ:=hid_ bq;have HE:=hid_ ((e0.trans ea).trans eb);have csz:(wB.alloc (.cells #[.int .i64 0,.int .i64 0,.slice none 0 0,.int .i64 0,.slice none 0 0] 47)).heap.size=xb + 1 + 1 + 1:=by simp [asz]
 generalize wB.alloc (.cells #[.int .i64 0,.int .i64 0,.slice none 0 0,.int .i64 0,.slice none 0 0] 47)=wC at *;have CSZ:=hid_ csz;have HXB:=hid_ hxb;refine (HCN.out wC HE.out).mono ?_;clear g0 g1 g2 a0 a1 bq e0 ea eb asz gsz csz hxb;rintro e w2 ⟨hc,hx2⟩;have HX2:=hid_ (HE.out.trans hx2);have HC2:=hid_ hx2;have BQ2:=hid_ (BQ.out.ex hx2);have A0:=hid_ (hx2.cell A0.out);have G0:=hid_ (hx2.cell G0.out);have G1:=hid_ (hx2.cell G1.out);have G2:=hid_ (hx2.cell G2.out);clear hx2 BQ HE HCN;rcases hc with ⟨hce,pn,mn,N,piv,a',rv,pv,rfl,rfl,rfl,hfb,hmk,rfl,hel,hrv,hpv,g,blk,cap,base,hbase,rfl,hem⟩ | ⟨hce,rfl⟩
 ·have hne:newE pn mn ml N rows=lenE N:=by unfold newE;rw [if_neg (by simp [hce])]
  have HN:=hid_ hne;have HLN:=hid_ (fun (w':World)=> length_any w' (N:Int));obtain ⟨L,hL⟩:∃L,lenE N=L:=⟨_,rfl⟩;rw [hL] at HN HLN;have hp2:=(elo_rows hel).1;have hr2:=(mchk_shape hmk).2.2.1;have HEM:=hid_ hem;have HP2:=hid_ (show piv.length≤rows.length∧rows.length≤256 from ⟨hp2,hr2⟩);have HBL:=hid_ (show xb + 1 + 1 < base from by have:=CSZ.out;omega);have HOK:=hid_ (show FldB pn mn ml∧mchkS (pn ^ mn) N rows=0∧ElO pn mn ml N rows.length (rowsF rows) a' piv from ⟨hfb,hmk,hel⟩);obtain ⟨pa,pc,rfl,-,-,-⟩:=hpv.open;have HX3:=hid_ ((Ex.refl w2).alloc (.cells #[.int .i64 N,.slice (some ⟨g,0,none⟩) piv.length piv.length] 113));have HOF:=hid_ (codeOf_any _ pn mn ml _ (HMV.out.ex (HX2.out.trans HX3.out)) hn N (rowsL N piv.length a') _ (hrv.ex HX3.out) L);have g0:=HX3.out.cell G0.out;have g1:=HX3.out.cell G1.out;have g2:=HX3.out.cell G2.out;have a0:=HX3.out.cell A0.out;have BQ3:=hid_ (BQ2.out.ex HX3.out);clear hne hL hce hfb hmk hel hrv hpv hbase hem hp2 hr2;go_wp2_with fail
  refine (HLN.out _).mono ?_;rintro e w3 ⟨rfl,hw3⟩;subst hw3;go_wp2_with fail
  refine HOF.out.mono ?_;rintro e w4 ⟨ho,hx4⟩;have X4:=hid_ ((HX2.out.trans HX3.out).trans hx4);have EM4:=hid_ (HEM.out.ex (HX3.out.trans hx4));have hw:=HXB.out;obtain ⟨q0,q1,q2,q3,q4,qf0,qf1,qf2,qf3,qf4⟩:=BQ3.out.ex hx4;clear hx4 g0 g1 g2 a0;rcases ho with ⟨hz,rfl⟩ | ⟨hz,v',rfl,hv',hb'⟩
  ·have HNZ:=hid_ hz;clear hz;go_wp2_with fail
   exact bodyPost_ret (v:= .tuple #[.agg #[.int .i64 0,.int .i64 0,.slice none 0 0,.int .i64 0,.slice none 0 0],.int .i64 L]) (by simp [results,Tryz.results75,go_sem,q0,q1,q2,q3,q4]) rfl ⟨.inl ⟨by rw [HN.out];exact HNZ.out,by rw [HN.out]⟩,set5_ex X4.out (by omega) _ _ _ _ _⟩
  ·subst hz;have HV:=hid_ hv';have HB:=hid_ (show ∀B,v'.ownBlock=some B→B≠xb + 1 + 1 from fun B h=> by
    have h1:=hb' B h;have h2:=HC2.out.size;have h3:=CSZ.out;simp at h1;omega)
   have HBV:=hid_ (show ∀B,v'.ownBlock=some B→w.heap.size≤B from fun B h=> by
    have h1:=hb' B h;have h2:=HC2.out.size;have h3:=CSZ.out;simp at h1;omega)
   obtain ⟨va,vc,rfl,-,-,-⟩:=hv'.open;clear hv' hb';have HEL:=hid_ ((((((EM4.out.low (A:=⟨xb + 1 + 1,0,none⟩) HBL.out (.int .i64 pn)).low (A:=⟨xb + 1 + 1,1,none⟩) HBL.out (.int .i64 mn)).low (A:=⟨xb + 1 + 1,2,none⟩) HBL.out (.slice va ml.length vc)).low (A:=⟨xb + 1 + 1,3,none⟩) HBL.out (.int .i64 N)).low (A:=⟨xb + 1 + 1,4,none⟩) HBL.out (.slice (some ⟨g,0,none⟩) piv.length piv.length)));have HMS:=hid_ (HEL.out.msl HP2.out.1 HP2.out.2);go_wp2_with fail
   exact bodyPost_ret (v:= .tuple #[.agg #[.int .i64 pn,.int .i64 mn,.slice va ml.length vc,.int .i64 N,.slice (some ⟨g,0,none⟩) piv.length piv.length],.int .i64 0]) (by simp [results,Tryz.results75,go_sem,q0,q1,q2,q3,q4]) rfl ⟨.inr ⟨HN.out,pn,mn,N,piv,a',_,_,rfl,rfl,rfl,HOK.out.1,HOK.out.2.1,rfl,HOK.out.2.2,set5_isl HV.out HB.out _ _ _ _ _,HMS.out,HBV.out,g,blk,cap,base,by have:=HBL.out;omega,rfl,HEL.out,HP2.out.1,HP2.out.2⟩,set5_ex X4.out (by omega) _ _ _ _ _⟩
 ·have hne:newE p m ml cols rows=canE p m ml cols rows:=by unfold newE;rw [if_pos hce]
  have HN:=hid_ hne;obtain ⟨E,hE⟩:∃E,canE p m ml cols rows=E:=⟨_,rfl⟩;rw [hE] at HN hce ⊢;have hb:(E==0)=false:=by simpa using hce
  have HNZ:=hid_ hce;have HX3:=hid_ ((Ex.refl w2).alloc (.cells #[.int .i64 0,.slice none 0 0] 113));have HOF:=hid_ (codeOf_any _ p m ml _ (HMV.out.ex (HX2.out.trans HX3.out)) hn 0 [] (.slice none 0 0) ⟨[],Sl.nil _ 1,fun i r u h=> by simp at h⟩ E);have g0:=HX3.out.cell G0.out;have g1:=HX3.out.cell G1.out;have g2:=HX3.out.cell G2.out;have BQ3:=hid_ (BQ2.out.ex HX3.out);clear hne hE hce;go_wp2_with fail
  refine HOF.out.mono ?_;rintro e w4 ⟨ho,hx4⟩;rcases ho with ⟨_,rfl⟩ | ⟨h,_⟩
  ·obtain ⟨q0,q1,q2,q3,q4,qf0,qf1,qf2,qf3,qf4⟩:=BQ3.out.ex hx4;have X4:=hid_ ((HX2.out.trans HX3.out).trans hx4);have hw:=HXB.out;clear hx4 g0 g1 g2;go_wp2_with fail
   exact bodyPost_ret (v:= .tuple #[.agg #[.int .i64 0,.int .i64 0,.slice none 0 0,.int .i64 0,.slice none 0 0],.int .i64 E]) (by simp [results,Tryz.results75,go_sem,q0,q1,q2,q3,q4]) rfl ⟨.inl ⟨by rw [HN.out];exact HNZ.out,by rw [HN.out]⟩,set5_ex X4.out (by omega) _ _ _ _ _⟩
  ·exact absurd h HNZ.out
end
section
open Go.RowKit
theorem chkS_01 (p m:Int) (ml:List Int):chkS p m ml=0∨chkS p m ml=1:=by
 unfold chkS;split
 ·exact .inl rfl
 ·exact .inr rfl
theorem rMCheck_any (w:World) (p m:Int) (ml:List Int) (mv:Value) (hmv:ISl w mv ml) (n:Int) (pl sl:List Int) (pv sv:Value) (hp:ISl w pv pl) (hs:ISl w sv sl) (fr:Int):
  Calls Tryz.prog 22 #[.agg #[.int .i64 p,.int .i64 m,mv],.int .i64 n,.agg #[pv,sv,.int .i64 fr]] w fun r w'=> r= .returned (.int .i64 (monS p m ml n pl sl fr))∧Ex w w':=by
 obtain ⟨a0,a1,a2,ea⟩:=boxF_facts w p m mv;obtain ⟨b0,b1,b2,eb⟩:=boxMo_facts (w.alloc (.cells #[.int .i64 p,.int .i64 m,mv] 24)) pv sv fr;have asz:(w.alloc (.cells #[.int .i64 p,.int .i64 m,mv] 24)).heap.size=w.heap.size + 1:=by simp
 rw [asz] at b0 b1 b2;replace a0:=eb.cell a0;replace a1:=eb.cell a1;replace a2:=eb.cell a2;have HX:=hid_ (ea.trans eb);have HM:=hid_ hmv;have HP:=hid_ hp;have HS:=hid_ hs;obtain ⟨ma,mc,rfl,-,-,-⟩:=hmv.open;obtain ⟨pa,pc,rfl,q1,q2,-⟩:=hp.open;obtain ⟨sa,sc,rfl,t1,t2,-⟩:=hs.open;unfold maxLen at q2 t2;obtain ⟨M,hM⟩:∃M,monS p m ml n pl sl fr=M:=⟨_,rfl⟩;have HMO:=hid_ hM;have HC:=hid_ (fun (w':World) (h:Ex w w')=> rCheck_any p m ml _ w' (hmv.ex h));rw [hM];obtain ⟨B,hB⟩:∃B,w.heap.size=B:=⟨_,rfl⟩;rw [hB] at a0 a1 a2 b0 b1 b2;clear hmv hp hs ea eb asz hM;go_enter Tryz.func22,Tryz.ntmps22
 go_upto_region 1 with fail
 try simp only [hB]
 clear hB;generalize (w.alloc (.cells #[.int .i64 p,.int .i64 m,.slice ma ml.length mc] 24)).alloc (.cells #[.slice pa pl.length pc,.slice sa sl.length sc,.int .i64 fr] 26)=w1 at *;have HALL:=hid_ (fun w' (h:Ex w1 w')=> (⟨h.cell a0,h.cell a1,h.cell a2,h.cell b0,h.cell b1,h.cell b2⟩:_∧_∧_∧_∧_∧_));by_cases hc:chkS p m ml=0
 ·obtain ⟨pn,mn,rfl,rfl,hf,-⟩:=(chk_iff p m ml).1 hc;have HCK:=hid_ (HC.out w1 HX.out);rw [hc] at HCK;have HF:=hid_ hf;have H0:=hid_ hc;clear hc hf;go_wp2_with fail
  refine HCK.out.mono ?_;rintro e w2 ⟨rfl,hx2⟩;have HX2:=hid_ hx2;clear a0 a1 a2 b0 b1 b2 hx2 HCK;obtain ⟨a0,a1,a2,b0,b1,b2⟩:=HALL.out w2 HX2.out;by_cases hn1:n < 1
  ·have HR:=hid_ (show M=4 from by rw [←HMO.out];unfold monS;rw [H0.out,if_neg (by decide),if_pos (.inl hn1)]);have k1:decide (n < 1)=true:=by simpa using hn1
   go_wp2_with fail
   go_ret;exact ⟨ret_int HR.out.symm,HX.out.trans HX2.out⟩
  ·have k1:decide (n < 1)=false:=by simpa using hn1
   by_cases hn2:64 < n
   ·have HR:=hid_ (show M=4 from by rw [←HMO.out];unfold monS;rw [H0.out,if_neg (by decide),if_pos (.inr hn2)]);have k2:decide (64 < n)=true:=by simpa using hn2
    go_wp2_with fail
    go_ret;exact ⟨ret_int HR.out.symm,HX.out.trans HX2.out⟩
   ·have k2:decide (64 < n)=false:=by simpa using hn2
    obtain ⟨N,rfl⟩:∃N:Nat,n=N:=⟨n.toNat,by omega⟩;by_cases hl1:pl.length=N
    ·have k3:((pl.length:Int) !=(N:Int))=false:=by simp;omega
     by_cases hl2:sl.length=N
     ·have k4:((sl.length:Int) !=(N:Int))=false:=by simp;omega
      have HM1:=hid_ (show M=if rngB pl N=false∨fr < 0∨(mn:Int)≤fr then 6 else if dupB pl=true then 18 else facS (pn ^ mn) sl from by
       rw [←HMO.out];unfold monS;rw [H0.out,if_neg (by decide),if_neg (by omega),if_neg (by omega)];rfl)
      have HL:=hid_ (And.intro hl1 hl2);have HDI:=hid_ (rDist_any w2 pl _ (HP.out.ex (HX.out.trans HX2.out)) N);clear hl1 hl2;by_cases hr:rngB pl N=true
      ·rw [show disS pl N=0 from by unfold disS;rw [if_pos hr]] at HDI;have HR:=hid_ hr;clear hr;by_cases hf1:fr < 0
       ·have k5:decide (fr < 0)=true:=by simpa using hf1
        have HE:=hid_ (show M=6 from by rw [HM1.out,if_pos (.inr (.inl hf1))]);go_wp2_with (go_at_call 56;refine HDI.out.mono ?_;rintro e w3 ⟨rfl,rfl⟩)
        go_ret;exact ⟨ret_int HE.out.symm,HX.out.trans HX2.out⟩
       ·have k5:decide (fr < 0)=false:=by simpa using hf1
        by_cases hf2:(mn:Int)≤fr
        ·have k6:decide ((mn:Int)≤fr)=true:=by simpa using hf2
         have HE:=hid_ (show M=6 from by rw [HM1.out,if_pos (.inr (.inr hf2))]);go_wp2_with (go_at_call 56;refine HDI.out.mono ?_;rintro e w3 ⟨rfl,rfl⟩)
         go_ret;exact ⟨ret_int HE.out.symm,HX.out.trans HX2.out⟩
        ·have k6:decide ((mn:Int)≤fr)=false:=by simpa using hf2
         have HM2:=hid_ (show M=if dupB pl=true then 18 else facS (pn ^ mn) sl from by
          rw [HM1.out,if_neg];rintro (h | h | h)
          ·rw [HR.out] at h;cases h
          ·exact hf1 h
          ·exact hf2 h)
         have HTW:=hid_ (rTwice_any w2 pl _ (HP.out.ex (HX.out.trans HX2.out)));have HFA:=hid_ (fun (w':World) (h:Ex w1 w')=> rFac_any (mv:= .slice ma ml.length mc) w' HF.out sl _ (HS.out.ex (HX.out.trans h)));by_cases hd:dupB pl=true
         ·rw [hd] at HTW;have HE:=hid_ (show M=18 from by rw [HM2.out,if_pos hd]);clear hd;go_wp2_with (first | (go_at_call 56;refine HDI.out.mono ?_;rintro e w3 ⟨rfl,rfl⟩) | (go_at_call 57;refine HTW.out.mono ?_;rintro e w4 ⟨rfl,hx4⟩;have HX4:=hid_ hx4;clear hx4))
          go_ret;exact ⟨ret_int HE.out.symm,HX.out.trans (HX2.out.trans HX4.out)⟩
         ·have hd:dupB pl=false:=by simpa using hd
          rw [hd] at HTW;have HE:=hid_ (show M=facS (pn ^ mn) sl from by rw [HM2.out,hd];rfl);obtain ⟨F,hF⟩:∃F,facS (pn ^ mn) sl=F:=⟨_,rfl⟩;rw [hF] at HE HFA;clear hd hF;go_wp2_with (first | (go_at_call 56;refine HDI.out.mono ?_;rintro e w3 ⟨rfl,rfl⟩) | (go_at_call 57;refine HTW.out.mono ?_;rintro e w4 ⟨rfl,hx4⟩;have HX4:=hid_ (HX2.out.trans hx4);clear hx4 a0 a1 a2 b0 b1 b2;obtain ⟨a0,a1,a2,b0,b1,b2⟩:=HALL.out w4 HX4.out) | (go_at_call 58;refine (HFA.out w4 HX4.out).mono ?_;rintro e w5 ⟨rfl,hx5⟩;have HX5:=hid_ (HX4.out.trans hx5);clear hx5))
          go_ret;exact ⟨ret_int HE.out.symm,HX.out.trans HX5.out⟩
      ·have hr:rngB pl N=false:=by simpa using hr
       rw [show disS pl N=6 from by unfold disS;rw [hr];rfl] at HDI;have HE:=hid_ (show M=6 from by rw [HM1.out,if_pos (.inl hr)]);clear hr;go_wp2_with (go_at_call 56;refine HDI.out.mono ?_;rintro e w3 ⟨rfl,rfl⟩)
       go_ret;exact ⟨ret_int HE.out.symm,HX.out.trans HX2.out⟩
     ·have k4:((sl.length:Int) !=(N:Int))=true:=by simp;omega
      have HE:=hid_ (show M=3 from by rw [←HMO.out];unfold monS;rw [H0.out,if_neg (by decide),if_neg (by omega),if_pos (.inr (by omega))]);have HL:=hid_ (And.intro hl1 hl2);clear hl1 hl2;go_wp2_with fail
      go_ret;exact ⟨ret_int HE.out.symm,HX.out.trans HX2.out⟩
    ·have k3:((pl.length:Int) !=(N:Int))=true:=by simp;omega
     have HE:=hid_ (show M=3 from by rw [←HMO.out];unfold monS;rw [H0.out,if_neg (by decide),if_neg (by omega),if_pos (.inl (by omega))]);clear hl1;go_wp2_with fail
     go_ret;exact ⟨ret_int HE.out.symm,HX.out.trans HX2.out⟩
 ·have hc1:chkS p m ml=1:=by rcases chkS_01 p m ml with h | h;exact absurd h hc;exact h
  have HCK:=hid_ (HC.out w1 HX.out);rw [hc1] at HCK;have HR:=hid_ (show M=1 from by rw [←HMO.out];unfold monS;rw [if_pos hc]);clear hc hc1;go_wp2_with fail
  refine HCK.out.mono ?_;rintro e w2 ⟨rfl,hx2⟩;have HX2:=hid_ (HX.out.trans hx2);clear hx2;go_wp2_with fail
  go_ret;exact ⟨ret_int HR.out.symm,HX2.out⟩
end
end Go.Proofs.YtgdmlmhpineibaaGreat
