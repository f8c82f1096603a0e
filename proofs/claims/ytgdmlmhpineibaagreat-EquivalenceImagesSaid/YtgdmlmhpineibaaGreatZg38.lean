/- Walk of equivalence.start. -/
import Derived.Test.YtgdmlmhpineibaaGreatZg26
import Derived.Test.YtgdmlmhpineibaaGreatZg34
import Derived.Test.YtgdmlmhpineibaaGreatZg37
namespace Go.Proofs.YtgdmlmhpineibaaGreat
set_option linter.unusedVariables false
set_option linter.unusedSimpArgs false
set_option maxRecDepth 100000
set_option maxHeartbeats 8000000
open Go.RowKit
def stE (e1 e2:Int) (same:Bool) (n n':Int) (tl sl:List Int) (q:Nat):Int:=
 if e1≠0 then e1 else if e2≠0 then e2 else if same=false∨n≠n' then 10 else if tl.length≠sl.length∨n < tl.length then 3 else if injS tl n≠0 then injS tl n else facS q sl
structure CdV where
 p:Int
 m:Int
 ml:List Int
 n:Int
 rows:List (List Int)
def CdV.arg (c:CdV) (mv gv:Value):Value:= .agg #[.int .i64 c.p,.int .i64 c.m,mv,.int .i64 c.n,gv]
def CdV.obj (c:CdV) (mv gv:Value):Obj:= .cells #[.int .i64 c.p,.int .i64 c.m,mv,.int .i64 c.n,gv] 47
structure CdV.at (c:CdV) (w:World) (mv gv:Value):Prop where
 m:ISl w mv c.ml
 g:MSl w gv c.rows
theorem CdV.at.ex {c:CdV} {w w':World} {mv gv:Value} (h:c.at w mv gv) (hx:Ex w w'):c.at w' mv gv:=⟨h.m.ex hx,h.g.ex hx⟩
def StO (c d:CdV) (tl sl:List Int) (v1 v2:Value) (w:World) (r:Ending) (w':World):Prop:=
 ∃e1 e2:Int,CodO c.p c.m c.ml c.n c.rows e1∧(e1=0→CodO d.p d.m d.ml d.n d.rows e2)∧
  ((stE e1 e2 (samF c.p c.m c.ml d.p d.m d.ml) c.n d.n tl sl (c.p.toNat ^ c.m.toNat)≠0∧∃ptr:Option Addr,r= .returned (.tuple #[.pointer ptr,.int .i64 (stE e1 e2 (samF c.p c.m c.ml d.p d.m d.ml) c.n d.n tl sl (c.p.toNat ^ c.m.toNat))]))∨
  (stE e1 e2 (samF c.p c.m c.ml d.p d.m d.ml) c.n d.n tl sl (c.p.toNat ^ c.m.toNat)=0∧∃(w2:World) (A b x0 pn mn nn:Nat),c.p=pn∧c.m=mn∧c.n=nn∧r= .returned (.tuple #[.pointer (some ⟨A,0,none⟩),.int .i64 0])∧Ex w w2∧GFat w2 b pn mn c.ml x0∧1≤x0∧x0 < pn ^ mn∧w2.heap.size≤A∧Ex w2 w'∧PrAt w' A b nn v1 v2∧w'.cell? ⟨A,11,none⟩=some (.int .i64 0)∧w'.frozen? ⟨A,11,none⟩=false))
theorem codO_fld {p m:Int} {ml:List Int} {n:Int} {rows:List (List Int)} (h:CodO p m ml n rows 0):FldB p m ml∧1≤n∧n≤64:=by
 rcases h with ⟨_,h⟩ | ⟨_,h1,h2⟩ | ⟨h1,h2,h3⟩
 ·cases h
 ·exact absurd h2.symm h1
 ·refine ⟨?_,?_⟩
  ·rcases h3 with ⟨h3,h4⟩ | ⟨_,pn,mn,N,piv,a',_,_,_,h,_⟩
   ·exact absurd h4.symm h3
   ·exact h
  ·unfold lenE at h2;split at h2
   ·cases h2
   ·omega
theorem boxC5 (w:World) (c:CdV) (mv gv:Value):(w.alloc (c.obj mv gv)).cell? ⟨w.heap.size,0,none⟩=some (.int .i64 c.p)∧(w.alloc (c.obj mv gv)).cell? ⟨w.heap.size,1,none⟩=some (.int .i64 c.m)∧(w.alloc (c.obj mv gv)).cell? ⟨w.heap.size,2,none⟩=some mv∧(w.alloc (c.obj mv gv)).cell? ⟨w.heap.size,3,none⟩=some (.int .i64 c.n)∧(w.alloc (c.obj mv gv)).cell? ⟨w.heap.size,4,none⟩=some gv:=
 ⟨by simp [CdV.obj],by simp [CdV.obj],by simp [CdV.obj],by simp [CdV.obj],by simp [CdV.obj]⟩
theorem sto_no {c d:CdV} {tl sl:List Int} {v1 v2:Value} {w w':World} {e1 e2 E:Int} (h1:CodO c.p c.m c.ml c.n c.rows e1) (h2:e1=0→CodO d.p d.m d.ml d.n d.rows e2) (hE:stE e1 e2 (samF c.p c.m c.ml d.p d.m d.ml) c.n d.n tl sl (c.p.toNat ^ c.m.toNat)=E) (h:E≠0) (ptr:Option Addr):
  StO c d tl sl v1 v2 w (.returned (.tuple #[.pointer ptr,.int .i64 E])) w':=
 ⟨e1,e2,h1,h2,.inl ⟨by rw [hE];exact h,ptr,by rw [hE]⟩⟩
theorem start_any (w:World) (c d:CdV) (m1 m2 v1 v2:Value) (hc:c.at w m1 v1) (hd:d.at w m2 v2) (tl sl:List Int) (tv sv:Value) (ht:ISl w tv tl) (hs:ISl w sv sl):
  Calls Tryz.prog 63 #[c.arg m1 v1,d.arg m2 v2,.agg #[tv,sv]] w fun r w'=> StO c d tl sl v1 v2 w r w'∧Ex w w':=by
 obtain ⟨c0,c1,c2,c3,c4⟩:=boxC5 w c m1 v1;obtain ⟨d0,d1,d2,d3,d4⟩:=boxC5 (w.alloc (c.obj m1 v1)) d m2 v2;obtain ⟨b0,b1,e3,-⟩:=boxP_facts ((w.alloc (c.obj m1 v1)).alloc (d.obj m2 v2)) tv sv;have hz1:(w.alloc (c.obj m1 v1)).heap.size=w.heap.size + 1:=by simp
 have hz2:((w.alloc (c.obj m1 v1)).alloc (d.obj m2 v2)).heap.size=w.heap.size + 1 + 1:=by simp
 have e1:=e_al w (c.obj m1 v1);have e2:=e_al (w.alloc (c.obj m1 v1)) (d.obj m2 v2);rw [hz1] at d0 d1 d2 d3 d4;rw [hz2] at b0 b1;have hxw:=e1.trans (e2.trans e3);replace c0:=(e2.trans e3).cell c0;replace c1:=(e2.trans e3).cell c1;replace c2:=(e2.trans e3).cell c2;replace c3:=(e2.trans e3).cell c3;replace c4:=(e2.trans e3).cell c4;replace d0:=e3.cell d0;replace d1:=e3.cell d1;replace d2:=e3.cell d2;replace d3:=e3.cell d3;replace d4:=e3.cell d4;obtain ⟨B,hB⟩:∃B,w.heap.size=B:=⟨_,rfl⟩;rw [hB] at c0 c1 c2 c3 c4 d0 d1 d2 d3 d4 b0 b1;obtain ⟨ta,tc,rfl,-,t2,-⟩:=ht.open;obtain ⟨sa,sc,rfl,-,s2,-⟩:=hs.open;obtain ⟨x1,y1,rfl,-,z1,-⟩:=hc.g.open;obtain ⟨x2,y2,rfl,-,z2,-⟩:=hd.g.open;obtain ⟨x3,y3,rfl,-,z3,-⟩:=hc.m.open;obtain ⟨x4,y4,rfl,-,z4,-⟩:=hd.m.open;unfold maxLen at t2 s2 z1 z2 z3 z4;have HX:=hid_ hxw;have HC:=hid_ hc;have HD:=hid_ hd;have HT:=hid_ ht;have HS:=hid_ hs;clear hc hd ht hs e1 e2 e3 hz1 hz2 hxw;unfold CdV.arg;go_enter Tryz.func63,Tryz.ntmps63
 unfold CdV.obj at c0 c1 c2 c3 c4 d0 d1 d2 d3 d4 b0 b1 HX;go_upto_region 1 with fail
 try simp only [hB]
 clear hB;generalize ((w.alloc (.cells #[.int .i64 c.p,.int .i64 c.m,.slice x3 c.ml.length y3,.int .i64 c.n,.slice x1 c.rows.length y1] 47)).alloc (.cells #[.int .i64 d.p,.int .i64 d.m,.slice x4 d.ml.length y4,.int .i64 d.n,.slice x2 d.rows.length y2] 47)).alloc (.cells #[.slice ta tl.length tc,.slice sa sl.length sc] 49)=w1 at *;have HALL:=hid_ (fun w' (h:Ex w1 w')=> (⟨h.cell c0,h.cell c1,h.cell c2,h.cell c3,h.cell c4,h.cell d0,h.cell d1,h.cell d2,h.cell d3,h.cell d4,h.cell b0,h.cell b1⟩:_∧_∧_∧_∧_∧_∧_∧_∧_∧_∧_∧_));have HCK:=hid_ (codeCheck_any w1 c.p c.m c.ml _ (HC.out.m.ex HX.out) c.n c.rows _ (HC.out.g.ex HX.out));go_wp2_with fail
 refine HCK.out.mono ?_;rintro e w2 ⟨⟨e1,rfl,ho1⟩,hx2⟩;clear c0 c1 c2 c3 c4 d0 d1 d2 d3 d4 b0 b1 HCK;obtain ⟨c0,c1,c2,c3,c4,d0,d1,d2,d3,d4,b0,b1⟩:=HALL.out w2 hx2;have HX2:=hid_ hx2;have HO1:=hid_ ho1;clear hx2 ho1;by_cases h1:e1=0
 ·have k1:(e1==0)=true:=by simpa using h1
  have HF:=hid_ (codO_fld (h1 ▸ HO1.out));have HCK:=hid_ (codeCheck_any w2 d.p d.m d.ml _ (HD.out.m.ex (HX.out.trans HX2.out)) d.n d.rows _ (HD.out.g.ex (HX.out.trans HX2.out)));have H1:=hid_ h1;subst h1;go_wp2_with fail
  refine HCK.out.mono ?_;rintro e w3 ⟨⟨e2,rfl,ho2⟩,hx3⟩;clear c0 c1 c2 c3 c4 d0 d1 d2 d3 d4 b0 b1 HCK;obtain ⟨c0,c1,c2,c3,c4,d0,d1,d2,d3,d4,b0,b1⟩:=HALL.out w3 (HX2.out.trans hx3);have HX3:=hid_ (HX2.out.trans hx3);have HO2:=hid_ ho2;clear hx3 ho2 HX2;by_cases h2:e2=0
  ·have k2:(e2==0)=true:=by simpa using h2
   have HSM:=hid_ (FSame_any w3 c.p c.m c.ml _ (HC.out.m.ex (HX.out.trans HX3.out)) d.p d.m d.ml _ (HD.out.m.ex (HX.out.trans HX3.out)));obtain ⟨Sm,hSm⟩:∃b,samF c.p c.m c.ml d.p d.m d.ml=b:=⟨_,rfl⟩;rw [hSm] at HSM;have HSE:=hid_ hSm;subst h2;clear hSm
   cases Sm with
   | false=>
    have HE:=hid_ (show stE 0 0 (samF c.p c.m c.ml d.p d.m d.ml) c.n d.n tl sl (c.p.toNat ^ c.m.toNat)=10 from by
     unfold stE;rw [if_neg (by decide),if_neg (by decide),if_pos (.inl HSE.out)])
    go_wp2_with (go_at_call 102;refine HSM.out.mono ?_;rintro e w4 ⟨rfl,hx4⟩;have HX4:=hid_ (HX3.out.trans hx4);clear c0 c1 c2 c3 c4 d0 d1 d2 d3 d4 b0 b1;obtain ⟨c0,c1,c2,c3,c4,d0,d1,d2,d3,d4,b0,b1⟩:=HALL.out w4 HX4.out;clear hx4)
    go_ret2;exact ⟨sto_no HO1.out (fun _=> HO2.out) HE.out (by decide) _,HX.out.trans HX4.out⟩
   | true=>
    by_cases hn:c.n=d.n
    ·have k3:(c.n !=d.n)=false:=by simp [hn]
     by_cases hl:tl.length=sl.length
     ·have k4:((tl.length:Int) !=(sl.length:Int))=false:=by simp;omega
      have k4':(tl.length !=sl.length)=false:=by simp;omega
      by_cases hg:c.n < tl.length
      ·have k5:decide ((tl.length:Int) > c.n)=true:=by simpa using hg
       have k5':decide (c.n < (tl.length:Int))=true:=by simpa using hg
       have HE:=hid_ (show stE 0 0 (samF c.p c.m c.ml d.p d.m d.ml) c.n d.n tl sl (c.p.toNat ^ c.m.toNat)=3 from by
        unfold stE;rw [if_neg (by decide),if_neg (by decide),if_neg (by rw [HSE.out];simp [hn]),if_pos (.inr hg)])
       have HHL:=hid_ hl;clear hn hl hg;go_wp2_with (go_at_call 102;refine HSM.out.mono ?_;rintro e w4 ⟨rfl,hx4⟩;have HX4:=hid_ (HX3.out.trans hx4);clear c0 c1 c2 c3 c4 d0 d1 d2 d3 d4 b0 b1;obtain ⟨c0,c1,c2,c3,c4,d0,d1,d2,d3,d4,b0,b1⟩:=HALL.out w4 HX4.out;clear hx4)
       go_ret2;exact ⟨sto_no HO1.out (fun _=> HO2.out) HE.out (by decide) _,HX.out.trans HX4.out⟩
      ·have k5:decide ((tl.length:Int) > c.n)=false:=by simpa using hg
       have k5':decide (c.n < (tl.length:Int))=false:=by simpa using hg
       have HE:=hid_ (show stE 0 0 (samF c.p c.m c.ml d.p d.m d.ml) c.n d.n tl sl (c.p.toNat ^ c.m.toNat)=if injS tl c.n≠0 then injS tl c.n else facS (c.p.toNat ^ c.m.toNat) sl from by
        unfold stE;rw [if_neg (by decide),if_neg (by decide),if_neg (by rw [HSE.out];simp [hn]),if_neg (by omega)])
       have HIJ:=hid_ (fun w' (h:Ex w1 w')=> injective_any w' tl _ c.n (HT.out.ex (HX.out.trans h)));obtain ⟨I,hI⟩:∃I,injS tl c.n=I:=⟨_,rfl⟩;rw [hI] at HIJ HE;have HHL:=hid_ hl;clear hn hl hg hI;by_cases hi0:I=0
       ·have k6:(I !=0)=false:=by simp [hi0]
        have k6':(I==0)=true:=by simp [hi0]
        have HNW:=hid_ (fun w' (h:Ex w1 w')=> New_any c.p c.m c.ml _ w' (HC.out.m.ex (HX.out.trans h)));have HE2:=HE.out;rw [if_neg (by simp [hi0])] at HE2;have HE:=hid_ HE2;subst hi0;clear HE2;go_wp2_with (first | (go_at_call 102;refine HSM.out.mono ?_;rintro e w4 ⟨rfl,hx4⟩;have HX4:=hid_ (HX3.out.trans hx4);clear c0 c1 c2 c3 c4 d0 d1 d2 d3 d4 b0 b1;obtain ⟨c0,c1,c2,c3,c4,d0,d1,d2,d3,d4,b0,b1⟩:=HALL.out w4 HX4.out;clear hx4) | (go_at_call 88;refine (HIJ.out _ HX4.out).mono ?_;rintro e w5 ⟨rfl,hx5⟩;have HX5:=hid_ (HX4.out.trans hx5);clear c0 c1 c2 c3 c4 d0 d1 d2 d3 d4 b0 b1;obtain ⟨c0,c1,c2,c3,c4,d0,d1,d2,d3,d4,b0,b1⟩:=HALL.out w5 HX5.out;clear hx5))
        refine (HNW.out _ HX5.out).mono ?_;rintro e w6 ⟨ho,hx6⟩;clear c0 c1 c2 c3 c4 d0 d1 d2 d3 d4 b0 b1;have HX6:=hid_ (HX5.out.trans hx6);obtain ⟨c0,c1,c2,c3,c4,d0,d1,d2,d3,d4,b0,b1⟩:=HALL.out w6 HX6.out;clear hx6;rcases ho with ⟨pn,mn,x0,b,hp,hm,rfl,hgf,hx01,hx02⟩ | ⟨hnf,_⟩
        ·have HFC:=hid_ (factors_any w6 hgf sl _ (HS.out.ex (HX.out.trans HX6.out)));have HG:=hid_ hgf;obtain ⟨Fc,hFc⟩:∃F,facS (pn ^ mn) sl=F:=⟨_,rfl⟩;rw [hFc] at HFC;have HPM:=hid_ (show c.p=pn∧c.m=mn from ⟨hp,hm⟩);have HE:=hid_ (show stE 0 0 (samF c.p c.m c.ml d.p d.m d.ml) c.n d.n tl sl (c.p.toNat ^ c.m.toNat)=Fc from by
          rw [HE.out,hp,hm,←hFc];rfl)
         have HXX:=hid_ (show 1≤x0∧x0 < pn ^ mn from ⟨hx01,hx02⟩);clear hgf hFc hp hm hx01 hx02;go_wp2_with fail
         refine HFC.out.mono ?_;rintro e w7 ⟨rfl,hx7⟩;clear c0 c1 c2 c3 c4 d0 d1 d2 d3 d4 b0 b1;have HX7:=hid_ (HX6.out.trans hx7);have HG7:=hid_ (HG.out.ex hx7);obtain ⟨c0,c1,c2,c3,c4,d0,d1,d2,d3,d4,b0,b1⟩:=HALL.out w7 HX7.out;clear hx7;go_wp2_with fail
         go_ret2;by_cases hf0:Fc=0
         ·subst hf0;refine ⟨⟨0,0,HO1.out,fun _=> HO2.out,.inr ⟨HE.out,w7,w7.heap.size,b,x0,pn,mn,c.n.toNat,HPM.out.1,HPM.out.2,by have:=HF.out.2.1;omega,rfl,HX.out.trans HX7.out,HG7.out,HXX.out.1,HXX.out.2,Nat.le_refl _,e_al w7 _,⟨by simp,?_,by simp,by simp⟩,by simp,by simp⟩⟩,(HX.out.trans HX7.out).alloc _⟩;have:((c.n.toNat:Nat):Int)=c.n:=by have:=HF.out.2.1;omega
          rw [this];simp
         ·exact ⟨sto_no HO1.out (fun _=> HO2.out) HE.out hf0 _,(HX.out.trans HX7.out).alloc _⟩
        ·exact absurd HF.out.1 hnf
       ·have k6:(I !=0)=true:=by simpa using hi0
        have k6':(I==0)=false:=by simpa using hi0
        have HE2:=HE.out;rw [if_pos hi0] at HE2;have HE:=hid_ HE2;have HI0:=hid_ hi0;clear HE2 hi0;go_wp2_with (first | (go_at_call 102;refine HSM.out.mono ?_;rintro e w4 ⟨rfl,hx4⟩;have HX4:=hid_ (HX3.out.trans hx4);clear c0 c1 c2 c3 c4 d0 d1 d2 d3 d4 b0 b1;obtain ⟨c0,c1,c2,c3,c4,d0,d1,d2,d3,d4,b0,b1⟩:=HALL.out w4 HX4.out;clear hx4) | (go_at_call 88;refine (HIJ.out _ HX4.out).mono ?_;rintro e w5 ⟨rfl,hx5⟩;have HX5:=hid_ (HX4.out.trans hx5);clear c0 c1 c2 c3 c4 d0 d1 d2 d3 d4 b0 b1;obtain ⟨c0,c1,c2,c3,c4,d0,d1,d2,d3,d4,b0,b1⟩:=HALL.out w5 HX5.out;clear hx5))
        go_ret2;exact ⟨sto_no HO1.out (fun _=> HO2.out) HE.out HI0.out _,HX.out.trans HX5.out⟩
     ·have k4:((tl.length:Int) !=(sl.length:Int))=true:=by simp;omega
      have k4':(tl.length !=sl.length)=true:=by simp;omega
      have HE:=hid_ (show stE 0 0 (samF c.p c.m c.ml d.p d.m d.ml) c.n d.n tl sl (c.p.toNat ^ c.m.toNat)=3 from by
       unfold stE;rw [if_neg (by decide),if_neg (by decide),if_neg (by rw [HSE.out];simp [hn]),if_pos (.inl hl)])
      clear hn hl;go_wp2_with (go_at_call 102;refine HSM.out.mono ?_;rintro e w4 ⟨rfl,hx4⟩;have HX4:=hid_ (HX3.out.trans hx4);clear c0 c1 c2 c3 c4 d0 d1 d2 d3 d4 b0 b1;obtain ⟨c0,c1,c2,c3,c4,d0,d1,d2,d3,d4,b0,b1⟩:=HALL.out w4 HX4.out;clear hx4)
      go_ret2;exact ⟨sto_no HO1.out (fun _=> HO2.out) HE.out (by decide) _,HX.out.trans HX4.out⟩
    ·have k3:(c.n !=d.n)=true:=by simpa using hn
     have HE:=hid_ (show stE 0 0 (samF c.p c.m c.ml d.p d.m d.ml) c.n d.n tl sl (c.p.toNat ^ c.m.toNat)=10 from by
      unfold stE;rw [if_neg (by decide),if_neg (by decide),if_pos (.inr hn)])
     clear hn;go_wp2_with (go_at_call 102;refine HSM.out.mono ?_;rintro e w4 ⟨rfl,hx4⟩;have HX4:=hid_ (HX3.out.trans hx4);clear c0 c1 c2 c3 c4 d0 d1 d2 d3 d4 b0 b1;obtain ⟨c0,c1,c2,c3,c4,d0,d1,d2,d3,d4,b0,b1⟩:=HALL.out w4 HX4.out;clear hx4)
     go_ret2;exact ⟨sto_no HO1.out (fun _=> HO2.out) HE.out (by decide) _,HX.out.trans HX4.out⟩
  ·have k2:(e2==0)=false:=by simpa using h2
   have k2':(e2 !=0)=true:=by simpa using h2
   have HE:=hid_ (show stE 0 e2 (samF c.p c.m c.ml d.p d.m d.ml) c.n d.n tl sl (c.p.toNat ^ c.m.toNat)=e2 from by
    unfold stE;rw [if_neg (by decide),if_pos h2])
   have HI:=hid_ h2;clear h2;go_wp2_with fail
   go_ret2;exact ⟨sto_no HO1.out (fun _=> HO2.out) HE.out HI.out _,HX.out.trans HX3.out⟩
 ·have k1:(e1==0)=false:=by simpa using h1
  have k1':(e1 !=0)=true:=by simpa using h1
  have HE:=hid_ (show stE e1 0 (samF c.p c.m c.ml d.p d.m d.ml) c.n d.n tl sl (c.p.toNat ^ c.m.toNat)=e1 from by
   unfold stE;rw [if_pos h1])
  have HI:=hid_ h1;clear h1;go_wp2_with fail
  go_ret2;exact ⟨sto_no HO1.out (fun h=> absurd h HI.out) HE.out HI.out _,HX.out.trans HX2.out⟩
end Go.Proofs.YtgdmlmhpineibaaGreat
