/- Frames that hold but for some blocks; the state of a search; a clone that is owned. -/
import Derived.Test.YtgdmlmhpineibaaGreatZg08
import Derived.Test.YtgdmlmhpineibaaGreatZg31
import Derived.Test.YtgdmlmhpineibaaGreatZg34
namespace Go.Proofs.YtgdmlmhpineibaaGreat
set_option linter.unusedVariables false
set_option linter.unusedSimpArgs false
set_option maxRecDepth 100000
set_option maxHeartbeats 1000000
section
open Go.RowKit
structure Keeps (DM:World→Nat→Prop) (w w':World):Prop where
 size:w.heap.size≤w'.heap.size
 blk:∀B,B < w.heap.size→¬DM w B→w'.heap[B]?=w.heap[B]?∧¬DM w' B
theorem Keeps.refl (DM:World→Nat→Prop) (w:World):Keeps DM w w:=⟨Nat.le_refl _,fun B _ h=> ⟨rfl,h⟩⟩
theorem Keeps.trans {DM:World→Nat→Prop} {a b c:World} (h:Keeps DM a b) (k:Keeps DM b c):Keeps DM a c:=
 ⟨Nat.le_trans h.size k.size,fun B hB hn=> by
  have h1:=h.blk B hB hn;have h2:=k.blk B (Nat.lt_of_lt_of_le hB h.size) h1.2;exact ⟨h2.1.trans h1.1,h2.2⟩⟩
theorem cell_of_heap {w w':World} {B o:Nat} {v:Value} (h:w'.heap[B]?=w.heap[B]?) (hc:w.cell? ⟨B,o,none⟩=some v):w'.cell? ⟨B,o,none⟩=some v:=by
 rw [←hc];unfold World.cell?;rw [h]
theorem Keeps.cell {DM:World→Nat→Prop} {w w':World} (h:Keeps DM w w') {B o:Nat} {v:Value} (hn:¬DM w B) (hc:w.cell? ⟨B,o,none⟩=some v):w'.cell? ⟨B,o,none⟩=some v:=
 cell_of_heap (h.blk B (World.block_lt_of_cell? _ _ hc) hn).1 hc
def PrS (DM:World→Nat→Prop) (w:World) (v:Value) (l:List Int):Prop:=ISl w v l∧(l≠ []→∀B,v.ownBlock=some B→¬DM w B)
theorem PrS.keep {DM:World→Nat→Prop} {w w':World} {v:Value} {l:List Int} (h:PrS DM w v l) (k:Keeps DM w w'):PrS DM w' v l:=by
 obtain ⟨h1,h2⟩:=h
 cases l with
 | nil=>
  obtain ⟨g1,a,cap,g2,g3,g4,g5⟩:=h1;exact ⟨⟨g1,a,cap,g2,g3,g4,fun hn=> absurd hn (by simp)⟩,fun hn=> absurd rfl hn⟩
 | cons x l=>
  obtain ⟨g1,a,cap,g2,g3,g4,g5⟩:=h1;obtain ⟨b,o,rfl,g7⟩:=g5 (by simp);have hb:¬DM w b:=h2 (by simp) b (by rw [g2];rfl);have hlt:b < w.heap.size:=World.block_lt_of_cell? _ _ (g7 0 (.int .i64 x) (by simp [ints]));have hk:=k.blk b hlt hb;refine ⟨⟨g1,_,cap,g2,g3,g4,fun _=> ⟨b,o,rfl,fun j u hu=> cell_of_heap hk.1 (g7 j u hu)⟩⟩,fun _ B hB=> ?_⟩;rw [g2] at hB;injection hB with hB;rw [←hB];exact hk.2
theorem PrS.fresh {DM:World→Nat→Prop} {w:World} {v:Value} {l:List Int} (h:ISl w v l) (hB:∀B,v.ownBlock=some B→¬DM w B):PrS DM w v l:=⟨h,fun _=> hB⟩
structure Stt {σ:Type} (St:σ→World→Prop) (DM:World→Nat→Prop):Prop where
 ex:∀s w w',St s w→Ex w w'→St s w'
 lt:∀s w B,St s w→DM w B→B < w.heap.size
 dx:∀s w w' B,St s w→Ex w w'→DM w' B→DM w B
section
variable {σ:Type} {St:σ→World→Prop} {DM:World→Nat→Prop} {s:σ} {w w':World}
theorem Stt.keeps (H:Stt St DM) (hs:St s w) (hx:Ex w w'):Keeps DM w w':=
 ⟨hx.size,fun B hB hn=> ⟨hx.block B hB,fun h=> hn (H.dx s w w' B hs hx h)⟩⟩
theorem Stt.new (H:Stt St DM) (hs:St s w) (hx:Ex w w') {B:Nat} (hB:w.heap.size≤B):¬DM w' B:=fun h=> by
 have:=H.lt s w B hs (H.dx s w w' B hs hx h);omega
end
section
variable {σ:Type} {step:σ→List Int→List Int→σ × Int} {tl sl:List Int} {j q:Nat} {s:σ}
theorem rnA_stop {c:Nat} (h:(rnA step tl sl j c s).2≠0):∀k,rnA step tl sl j (c + k) s=rnA step tl sl j c s
 | 0=> rfl
 | k + 1=> by
  show (if (rnA step tl sl j (c + k) s).2≠0 then rnA step tl sl j (c + k) s else _)=_
  rw [rnA_stop h k,if_pos h]
theorem rnJ_stop {j:Nat} (h:(rnJ step q tl sl j s).2≠0):∀k,rnJ step q tl sl (j + k) s=rnJ step q tl sl j s
 | 0=> rfl
 | k + 1=> by
  show (if (rnJ step q tl sl (j + k) s).2≠0 then rnJ step q tl sl (j + k) s else _)=_
  rw [rnJ_stop h k,if_pos h]
theorem rnA_at {c:Nat} (h:(rnA step tl sl j c s).2=0):rnA step tl sl j (c + 1) s=step (rnA step tl sl j c s).1 (tl ++ [(j:Int)]) (sl ++ [((c + 1:Nat):Int)]):=by
 show (if (rnA step tl sl j c s).2≠0 then _ else _)=_
 rw [if_neg (by simp [h])]
theorem rnJ_in {j:Nat} (h:(rnJ step q tl sl j s).2=0) (hc:tl.contains (j:Int)=true):rnJ step q tl sl (j + 1) s=rnJ step q tl sl j s:=by
 show (if (rnJ step q tl sl j s).2≠0 then _ else if _ then _ else _)=_
 rw [if_neg (by simp [h]),if_pos hc]
theorem rnJ_out {j:Nat} (h:(rnJ step q tl sl j s).2=0) (hc:tl.contains (j:Int)=false):rnJ step q tl sl (j + 1) s=rnA step tl sl j (q - 1) (rnJ step q tl sl j s).1:=by
 show (if (rnJ step q tl sl j s).2≠0 then _ else if _ then _ else _)=_
 rw [if_neg (by simp [h]),if_neg (by rw [hc];decide)]
theorem rnJ_hit {j n c:Nat} (h:(rnJ step q tl sl j s).2=0) (hc:tl.contains (j:Int)=false) (hj:j < n) (hcq:c≤q - 1) (he:(rnA step tl sl j c (rnJ step q tl sl j s).1).2≠0):
  rnJ step q tl sl n s=rnA step tl sl j c (rnJ step q tl sl j s).1:=by
 have h1:=rnJ_out h hc;have h2:=rnA_stop he (q - 1 - c);rw [show c + (q - 1 - c)=q - 1 from by omega] at h2;rw [h2] at h1;have h3:=rnJ_stop (step:=step) (q:=q) (tl:=tl) (sl:=sl) (s:=s) (j:=j + 1) (by rw [h1];exact he) (n - (j + 1));rw [show j + 1 + (n - (j + 1))=n from by omega,h1] at h3;exact h3
end
theorem CloneO_any (w:World) (l:List Int) (v:Value) (hl:ISl w v l) (hn2:l.length≤1000):
  Calls Tryz.prog 66 #[v] w fun r w'=> ∃v',r= .returned v'∧w'.ownsRow w.heap.size 3 1 v' l.length (ints l)∧Ex w w':=by
 have HL:=hid_ hl;obtain ⟨a,cap,rfl,s1,s2,s3⟩:=hl.open;have hmi:∀u∈ints l,u.oneCell'=true:=by
  intro u hu;obtain ⟨z,_,rfl⟩:=List.mem_map.1 hu;rfl
 have HON:=hid_ hmi;clear hl hmi
 cases a with
 | none=>
  have h0:l= []:=by
   cases l with
   | nil=> rfl
   | cons x t=> obtain ⟨_,_,h,_⟩:=s3 (by simp);cases h
  subst h0;have hnil:=fun w'=> run_eql_slice_nil (P:=Tryz.prog) w' 22 3 none 0 cap Tryz.underlying22;simp only [Option.isNone] at hnil;clear s1 s2 s3;go_enter Tryz.func66,Tryz.ntmps66
  go_wp2_with fail
  go_ret;exact ⟨_,rfl,World.ownsRow_nil _ _ _ _,Ex.refl _⟩
 | some ad=>
  have hnil:=fun w'=> run_eql_slice_nil (P:=Tryz.prog) w' 22 3 (some ad) l.length cap Tryz.underlying22;simp only [Option.isNone] at hnil;clear s3;go_enter Tryz.func66,Tryz.ntmps66
  go_wp2_with (at_builtin;refine wpList_append_sl _ rfl _ _ 22 rfl w.heap.size 3 (.int .i64 0) 1 8 Tryz.underlying22 infoInt rfl (by decide) _ 0 [] rfl (own_lit0 w 3) (.slice (some ad) l.length cap) l.length (ints l) rfl (HL.out.ex ((Ex.refl w).alloc _)) HON.out (by unfold maxLen;omega) (by omega) (by simp) ?_)
  intro v1 w1 hown1 hg1 ha1;have hx1:Ex w w1:=Ex.grown ((Ex.refl w).alloc _) (own_lit0 w 3) (Nat.le_refl _) hg1;have HI:=hid_ hown1;have HX:=hid_ hx1;clear hown1 hg1 ha1 hx1 hnil;go_wp2_with fail
  go_ret;exact ⟨_,rfl,HI.out,HX.out⟩
end
section
open Go.RowKit
theorem kpw_mod {p m:Nat} {low:Vc} (hp:2≤p) (hm:1≤m) (hF:IsF p m low) {z:Nat} (h1:1≤z) (h2:z < p ^ m) (e:Nat):kpw p m low z (e % (p ^ m - 1))=kpw p m low z e:=by
 obtain ⟨x0,-,-,hg⟩:=hF;obtain ⟨i,hi,rfl⟩:=hg.all hp hm h1 h2;rw [kpw_kpw hp hm,kpw_kpw hp hm,←hg.mod hp hm (i * (e % (p ^ m - 1))),←hg.mod hp hm (i * e),Nat.mul_mod,Nat.mod_mod,←Nat.mul_mod]
section
variable {p m:Nat} {ml:List Int} {mv:Value}
theorem rPow_any (w:World) (hf:FSh p m ml) (hF:IsF p m (lw ml)) (hmv:ISl w mv ml) (x:Int) (e:Nat) (he1:1≤e) (he2:e≤1000):
  Calls Tryz.prog 95 #[.agg #[.int .i64 p,.int .i64 m,mv],.int .i64 x,.int .i64 e] w fun r w'=> r= .returned (.tuple #[.int .i64 (kpw p m (lw ml) (kin (p ^ m) x) e:Nat),.int .i64 0])∧Ex w w':=by
 obtain ⟨d0,d1,d2,e0,hsz⟩:=box_facts w p m mv;have HMV:=hid_ hmv;have p2:=hf.p2;have m1:=hf.m1;have hq:=hf.q;have hq1:=one_lt_q p2 m1;have hz:kin (p ^ m) x < p ^ m:=kin_lt (by omega) x;have he0:((e:Int)==0)=false:=by simp;omega
 have hel:decide ((e:Int) < 0)=false:=decide_eq_false (by omega);have HI:=hid_ (fun w'=> rIn_any (mv:=mv) w' hf x);have HO:=hid_ (fun w'=> rOrder_any p m mv w');have ho:=hf.ord;rw [ho] at HO;have HE0:=hid_ e0;have HKM:=hid_ (fun (h1:1≤kin (p ^ m) x)=> kpw_mod p2 m1 hF h1 hz e);have HMU:=hid_ (fun (w':World) (h:Ex w w') (a b:Nat) (ha:a < p ^ m) (hb:b < p ^ m)=> show Calls Tryz.prog 60 #[.agg #[.int .i64 p,.int .i64 m,mv],.int .i64 a,.int .i64 b] w' fun r w''=> r= .returned (.int .i64 (kmul p m (lw ml) a b:Nat))∧Ex w' w'' from by
  have:=rMul_any w' hf (hmv.ex h) a b;rw [kin_of ha,kin_of hb] at this;exact this)
 have HKL:=hid_ (fun y k=> kpw_lt (low:=lw ml) p2 m1 y k);have HKZ:=hid_ (kpw_zero (m:=m) (low:=lw ml) (show 1≤p by omega) e he1);generalize kin (p ^ m) x=z at *;obtain ⟨F,hFF⟩:∃F,kpw p m (lw ml) z e=F:=⟨_,rfl⟩;rw [hFF] at HKM;have HFF:=hid_ hFF;rw [hFF];clear hf hF hmv e0 hsz ho hFF;go_enter Tryz.func95,Tryz.ntmps95
 go_wp2_with fail
 obtain ⟨B,hB⟩:∃B,w.heap.size=B:=⟨_,rfl⟩;rw [hB] at d0 d1 d2
 try simp only [hB]
 clear hB;generalize w.alloc (.cells #[.int .i64 p,.int .i64 m,mv] 24)=w1 at *;refine (HI.out w1).mono ?_;rintro e w2 ⟨rfl,hx2⟩;have HALL:=hid_ (fun w' (h:Ex w1 w')=> (⟨h.cell d0,h.cell d1,h.cell d2⟩:_∧_∧_));have HX2:=hid_ hx2;clear hx2 d0 d1 d2;obtain ⟨d0,d1,d2⟩:=HALL.out w2 HX2.out;by_cases h0:z=0
 ·subst h0;have HR:=hid_ (show F=0 from HFF.out.symm.trans HKZ.out);clear HKM;go_wp2_with fail
  go_ret2;exact ⟨by rw [HR.out];rfl,HE0.out.trans HX2.out⟩
 ·have z1:1≤z:=by omega
  have hzb:((z:Int)==0)=false:=by simp;omega
  have HK:=hid_ (HKM.out z1);obtain ⟨d,hd⟩:∃d,e % (p ^ m - 1)=d:=⟨_,rfl⟩;have hdq:d < p ^ m - 1:=by rw [←hd];exact Nat.mod_lt _ (by omega)
  rw [hd] at HK;have T1:Hid ((e:Int).tmod (((p ^ m:Nat):Int) - 1)=(d:Int)):=hid_ (by
   rw [Int.tmod_eq_emod_of_nonneg (by omega),←hd,Int.natCast_emod]
   congr 1
   omega)
  have T2:Hid (((d:Int) + (((p ^ m:Nat):Int) - 1)).tmod (((p ^ m:Nat):Int) - 1)=(d:Int)):=hid_ (by
   rw [Int.tmod_eq_emod_of_nonneg (by omega),Int.add_emod_right];exact Int.emod_eq_of_lt (by omega) (by omega))
  have HZL:=hid_ hz;have HQ:=hid_ (show ∀y k,kpw p m (lw ml) y k < p ^ m from HKL.out);generalize hQ:p ^ m=q at *;have HQQ:=hid_ hQ;clear h0 hd HKM HKZ hQ;go_wp2_with fail
  refine (HO.out w2).mono ?_;rintro e w3 ⟨rfl,hx3⟩;have HX3:=hid_ (HX2.out.trans hx3);clear hx3 d0 d1 d2;have i0:=T1.out;have i3:=T2.out;have i4:¬q=1:=by omega
  have i5:¬((q:Int) - 1=0):=by omega
  go_wp2_with fail
  clear i0 i3
  go_loopw [9,10] (fun y' i' wr=> ∃(i:Nat),i≤d∧i'= .int .i64 i∧y'= .int .i64 (kpw p m (lw ml) z i:Nat)∧Hid (Ex w1 wr)) (fun _ i' _=> d - (intOf i').toNat)
  case atStart=> exact ⟨0,by omega,rfl,rfl,HX3⟩
  case round=>
   obtain ⟨i,hi,rfl,rfl,hex⟩:=hrel;obtain ⟨d0,d1,d2⟩:=HALL.out wr hex.out;by_cases hid:i < d
   ·have hmu:=HMU.out wr (HE0.out.trans hex.out) (kpw p m (lw ml) z i) z (HQ.out _ _) HZL.out;have HS:=hid_ (show kmul p m (lw ml) (kpw p m (lw ml) z i) z=kpw p m (lw ml) z (i + 1) from rfl);obtain ⟨y,hy⟩:∃y,kpw p m (lw ml) z i=y:=⟨_,rfl⟩;obtain ⟨u,hu⟩:∃u,kpw p m (lw ml) z (i + 1)=u:=⟨_,rfl⟩;rw [hy,hu] at HS;rw [hy,HS.out] at hmu;rw [hy];have HU:=hid_ hu;have HM:=hid_ hmu;clear hy hu hmu;go_wp2_with fail
    refine HM.out.mono ?_;rintro e w4 ⟨rfl,hx4⟩;have HX4:=hid_ (hex.out.trans hx4);clear hx4;go_wp2_with fail
    go_roundw
    case rel=> exact ⟨i + 1,by omega,by go_num,by rw [HU.out],HX4⟩
    case measure=> simp [intOf];omega
   ·obtain rfl:i=d:=by omega
    go_wp2_with fail
    go_ret2;exact ⟨by rw [HK.out];rfl,HE0.out.trans hex.out⟩
theorem rFrob_any (w:World) (hf:FSh p m ml) (hF:IsF p m (lw ml)) (hmv:ISl w mv ml) (x:Nat) (hx:x < p ^ m) (k:Nat) (hk:k≤100):
  Calls Tryz.prog 54 #[.agg #[.int .i64 p,.int .i64 m,mv],.int .i64 x,.int .i64 k] w fun r w'=> r= .returned (.int .i64 (frb p m (lw ml) x k:Nat))∧Ex w w':=by
 obtain ⟨d0,d1,d2,e0,hsz⟩:=box_facts w p m mv;have p2:=hf.p2;have m1:=hf.m1;have hp:=hf.p256;have HPW:=hid_ (fun (w':World) (h:Ex w w') (y:Nat) (hy:y < p ^ m)=> show Calls Tryz.prog 95 #[.agg #[.int .i64 p,.int .i64 m,mv],.int .i64 y,.int .i64 p] w' fun r w''=> r= .returned (.tuple #[.int .i64 (kpw p m (lw ml) y p:Nat),.int .i64 0])∧Ex w' w'' from by
  have:=rPow_any w' hf hF (hmv.ex h) y p (by omega) (by omega);rw [kin_of hy] at this;exact this)
 have HL:=hid_ (fun j=> frb_lt (low:=lw ml) p2 m1 hx j);have HE0:=hid_ e0;clear hf hF hmv e0 hsz;go_enter Tryz.func54,Tryz.ntmps54
 go_wp2_with fail
 obtain ⟨B,hB⟩:∃B,w.heap.size=B:=⟨_,rfl⟩;rw [hB] at d0 d1 d2
 try simp only [hB]
 clear hB;generalize w.alloc (.cells #[.int .i64 p,.int .i64 m,mv] 24)=w1 at *;have HALL:=hid_ (fun w' (h:Ex w1 w')=> (⟨h.cell d0,h.cell d1,h.cell d2⟩:_∧_∧_));clear d0 d1 d2
 go_loopw [1,7] (fun y' i' wr=> ∃(i:Nat),i≤k∧i'= .int .i64 i∧y'= .int .i64 (frb p m (lw ml) x i:Nat)∧Hid (Ex w1 wr)) (fun _ i' _=> k - (intOf i').toNat)
 case atStart=> exact ⟨0,by omega,rfl,rfl,hid_ (Ex.refl _)⟩
 case round=>
  obtain ⟨i,hi,rfl,rfl,hex⟩:=hrel;obtain ⟨d0,d1,d2⟩:=HALL.out wr hex.out;by_cases hid:i < k
  ·have hmu:=HPW.out wr (HE0.out.trans hex.out) (frb p m (lw ml) x i) (HL.out _);have HS:=hid_ (show kpw p m (lw ml) (frb p m (lw ml) x i) p=frb p m (lw ml) x (i + 1) from rfl);obtain ⟨y,hy⟩:∃y,frb p m (lw ml) x i=y:=⟨_,rfl⟩;obtain ⟨u,hu⟩:∃u,frb p m (lw ml) x (i + 1)=u:=⟨_,rfl⟩;rw [hy,hu] at HS;rw [hy,HS.out] at hmu;rw [hy];have HU:=hid_ hu;have HM:=hid_ hmu;clear hy hu hmu;go_wp2_with fail
   refine HM.out.mono ?_;rintro e w4 ⟨rfl,hx4⟩;have HX4:=hid_ (hex.out.trans hx4);clear hx4;go_wp2_with fail
   go_roundw
   case rel=> exact ⟨i + 1,by omega,by go_num,by rw [HU.out],HX4⟩
   case measure=> simp [intOf];omega
  ·obtain rfl:i=k:=by omega
   go_wp2_with fail
   go_ret;exact ⟨rfl,HE0.out.trans hex.out⟩
end
end
end Go.Proofs.YtgdmlmhpineibaaGreat
