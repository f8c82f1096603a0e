/- Walk of the pair's search, for both notes (printed by gen_sea.py). -/
import Derived.Test.YtgdmlmhpineibaaGreatZg36
namespace Go.Proofs.YtgdmlmhpineibaaGreat
set_option linter.unusedVariables false
set_option linter.unusedSimpArgs false
set_option maxRecDepth 100000
set_option maxHeartbeats 8000000
open Go.RowKit
theorem search1_any (w:World) (SB NTB A:Nat) (nv tv sv:Value) (z:Int) (R:World→Prop) (c0:w.cell? ⟨SB,0,none⟩=some (.pointer (some ⟨A,0,none⟩))) (c1:w.cell? ⟨NTB,0,none⟩=some nv)
  (HC:∀w',Ex w w'→Calls Tryz.prog 64 #[.pointer (some ⟨A,0,none⟩),.agg #[tv,sv],nv] w' fun r w''=> r= .returned (.int .i64 z)∧R w''):
  Calls Tryz.prog 104 #[.agg #[tv,sv],.pointer (some ⟨SB,0,none⟩),.pointer (some ⟨NTB,0,none⟩)] w fun r w''=> r= .returned (.int .i64 z)∧R w'':=by
 obtain ⟨b0,b1,eb,hsz⟩:=boxP_facts w tv sv;have c0:=eb.cell c0;have c1:=eb.cell c1;have HX:=hid_ (HC _ eb);obtain ⟨B,hB⟩:∃B,w.heap.size=B:=⟨_,rfl⟩;rw [hB] at b0 b1;clear HC eb hsz;go_enter Tryz.func104,Tryz.ntmps104
 go_wp2_with fail
 refine HX.out.mono ?_;rintro e w6 ⟨rfl,hr⟩;have HR:=hid_ hr;clear hr;go_wp2_with fail
 go_ret;exact ⟨rfl,HR.out⟩
def StB {σ:Type} (St:σ→World→Prop) (DM:World→Nat→Prop) (SB NTB A:Nat) (nv:Value) (s:σ) (w:World):Prop:=
 St s w∧w.cell? ⟨SB,0,none⟩=some (.pointer (some ⟨A,0,none⟩))∧w.cell? ⟨NTB,0,none⟩=some nv∧¬DM w SB∧¬DM w NTB
theorem StB.stt {σ:Type} {St:σ→World→Prop} {DM:World→Nat→Prop} (H:Stt St DM) (SB NTB A:Nat) (nv:Value):Stt (StB St DM SB NTB A nv) DM where
 ex:=fun s w w' h hx=> ⟨H.ex _ _ _ h.1 hx,hx.cell h.2.1,hx.cell h.2.2.1,fun hd=> h.2.2.2.1 (H.dx _ _ _ _ h.1 hx hd),fun hd=> h.2.2.2.2 (H.dx _ _ _ _ h.1 hx hd)⟩
 lt:=fun s w B h hd=> H.lt s w B h.1 hd
 dx:=fun s w w' B h hx hd=> H.dx s w w' B h.1 hx hd
theorem StB.keep {σ:Type} {St:σ→World→Prop} {DM:World→Nat→Prop} {SB NTB A:Nat} {nv:Value} {s s':σ} {w w':World} (h:StB St DM SB NTB A nv s w) (hs:St s' w') (k:Keeps DM w w'):StB St DM SB NTB A nv s' w':=
 ⟨hs,k.cell h.2.2.2.1 h.2.1,k.cell h.2.2.2.2 h.2.2.1,(k.blk SB (World.block_lt_of_cell? _ _ h.2.1) h.2.2.2.1).2,(k.blk NTB (World.block_lt_of_cell? _ _ h.2.2.1) h.2.2.2.2).2⟩
theorem rngB_snoc {l:List Int} {n:Nat} {j:Nat} (h:rngB l n=true) (hj:j < n):rngB (l ++ [(j:Int)]) n=true:=by
 unfold rngB at *;rw [List.all_append,h];simp;omega
structure SrE (p m:Nat) (ml:List Int) (l1 l2:List (List Int)) (n A b x0:Nat) (v1 v2:Value) (St:Nat × List Nd→World→Prop) (DM:World→Nat→Prop):Prop where
 stt:Stt St DM
 pr:∀s w,St s w→PrAt w A b n v1 v2
 gf:∀s w,St s w→GFat w b p m ml x0
 m1:∀s w,St s w→MSl w v1 l1
 m2:∀s w,St s w→MSl w v2 l2
 c11:∀s w,St s w→w.cell? ⟨A,11,none⟩=some (.int .i64 s.1)∧w.frozen? ⟨A,11,none⟩=false
 le:∀s w,St s w→s.2.length≤s.1∧s.1≤65536
 seen:∀s w,St s w→s.1 < 65536→St (s.1 + 1,s.2) (w.setCell ⟨A,11,none⟩ (.int .i64 ((s.1:Int) + 1)))∧Keeps DM w (w.setCell ⟨A,11,none⟩ (.int .i64 ((s.1:Int) + 1)))
 x1:1≤x0
 x2:x0 < p ^ m
 n64:n≤64
 r1:∀r∈l1,r.length=n
 r2:∀r∈l2,r.length=n
 k1:l1.length≤256
 k2:l2.length≤256
def srS (p m:Nat) (ml:List Int) (l1 l2:List (List Int)) (s:Nat × List Nd) (tl sl:List Int):Nat × List Nd:=(s.1 + 1,s.2 ++ [⟨tl,sl,(witI p m ml l1 l2 tl sl).1,witL l1.length l2.length (witI p m ml l1 l2 tl sl)⟩])
def srB (p m:Nat) (ml:List Int) (l1 l2:List (List Int)) (n:Nat) (s:Nat × List Nd) (tl sl:List Int) (X:(Nat × List Nd) × Int):(Nat × List Nd) × Int:=
 if s.1=65536 then (s,8) else if 0≤(witI p m ml l1 l2 tl sl).1 then (srS p m ml l1 l2 s tl sl,0) else if tl.length=n then (srS p m ml l1 l2 s tl sl,18) else X
theorem srF_zero (p m:Nat) (ml:List Int) (l1 l2:List (List Int)) (n:Nat) (s:Nat × List Nd) (tl sl:List Int):srF p m ml l1 l2 n 0 s tl sl=srB p m ml l1 l2 n s tl sl (srS p m ml l1 l2 s tl sl,0):=rfl
theorem srF_succ (p m:Nat) (ml:List Int) (l1 l2:List (List Int)) (n d:Nat) (s:Nat × List Nd) (tl sl:List Int):srF p m ml l1 l2 n (d + 1) s tl sl=srB p m ml l1 l2 n s tl sl (rnJ (srF p m ml l1 l2 n d) (p ^ m) tl sl n (srS p m ml l1 l2 s tl sl)):=rfl
theorem witL_len {R1 R2:Nat} (h1:R1≤256) (h2:R2≤256) (s:Int × Int):(witL R1 R2 s).length≤256:=by
 unfold witL unitL;split
 ·rw [il_len];exact h1
 ·split
  ·rw [il_len];exact h2
  ·simp
theorem body_fnd {p m:Nat} {ml:List Int} {l1 l2:List (List Int)} {n A b x0:Nat} {v1 v2:Value} {St:Nat × List Nd→World→Prop} {DM:World→Nat→Prop} (H:SrE p m ml l1 l2 n A b x0 v1 v2 St DM) (p0:Value)
  (hN:∀s w (tl sl:List Int) tv sv side msg mv,St s w→s.2.length < s.1→PrS DM w tv tl→PrS DM w sv sl→PrS DM w mv msg→sl.length=tl.length→tl.length≤64→msg.length≤256→(s.2≠ []→tl≠ [])→Calls Tryz.prog 65 #[.agg #[tv,sv],.int .i64 side,mv,p0] w fun r w'=> (∃t,r= .returned t)∧St (s.1,s.2 ++ [⟨tl,sl,side,msg⟩]) w'∧Keeps DM w w')
  (s:Nat × List Nd) (w:World) (tl sl:List Int) (tv sv:Value) (X:(Nat × List Nd) × Int) (htn:tl.length≤n) (hsl:sl.length=tl.length) (hrg:rngB tl n=true) (hne:s.2≠ []→tl≠ []) (hs:St s w) (ht:PrS DM w tv tl) (hsv:PrS DM w sv sl)
  (hX:tl.length≠n→∀w' SB NTB,StB St DM SB NTB A (.func (.func 65) #[] #[p0]) (srS p m ml l1 l2 s tl sl) w'→PrS DM w' tv tl→PrS DM w' sv sl→Calls Tryz.prog 71 #[.pointer (some ⟨A,0,none⟩),.agg #[tv,sv],.func (.func 104) #[] #[.pointer (some ⟨SB,0,none⟩),.pointer (some ⟨NTB,0,none⟩)]] w' fun r w''=> r= .returned (.int .i64 X.2)∧St X.1 w''∧Keeps DM w' w''):
  Calls Tryz.prog 64 #[.pointer (some ⟨A,0,none⟩),.agg #[tv,sv],.func (.func 65) #[] #[p0]] w fun r w'=> r= .returned (.int .i64 (srB p m ml l1 l2 n s tl sl X).2)∧St (srB p m ml l1 l2 n s tl sl X).1 w'∧Keeps DM w w':=by
 have e1:=e_al w (.cells #[.pointer (some ⟨A,0,none⟩)] 96);have s0:(w.alloc (.cells #[.pointer (some ⟨A,0,none⟩)] 96)).cell? ⟨w.heap.size,0,none⟩=some (.pointer (some ⟨A,0,none⟩)):=by simp
 have hz1:(w.alloc (.cells #[.pointer (some ⟨A,0,none⟩)] 96)).heap.size=w.heap.size + 1:=by simp
 obtain ⟨b0,b1,e2,hz2⟩:=boxP_facts (w.alloc (.cells #[.pointer (some ⟨A,0,none⟩)] 96)) tv sv;have e3:=e_al ((w.alloc (.cells #[.pointer (some ⟨A,0,none⟩)] 96)).alloc (.cells #[tv,sv] 49)) (.cells #[.func (.func 65) #[] #[p0]] 100);have n0:(((w.alloc (.cells #[.pointer (some ⟨A,0,none⟩)] 96)).alloc (.cells #[tv,sv] 49)).alloc (.cells #[.func (.func 65) #[] #[p0]] 100)).cell? ⟨w.heap.size + 1 + 1,0,none⟩=some (.func (.func 65) #[] #[p0]):=by
  exact alloc1_cell _ _ _ (by simp)
 rw [hz1] at b0 b1 hz2;replace s0:=(e2.trans e3).cell s0;replace b0:=e3.cell b0;replace b1:=e3.cell b1;have hxC:=e1.trans (e2.trans e3);have HSC:=hid_ (H.stt.ex _ _ _ hs hxC);have HKC:=hid_ (H.stt.keeps hs hxC);have HTC:=hid_ (ht.keep HKC.out);have HVC:=hid_ (hsv.keep HKC.out);obtain ⟨SB,hSB⟩:∃B,w.heap.size=B:=⟨_,rfl⟩;rw [hSB] at s0 b0 b1 n0;have HND:=hid_ (fun B (h:SB≤B)=> H.stt.new hs hxC (B:=B) (by omega));obtain ⟨c11,f11⟩:=H.c11 _ _ HSC.out;have hle:=H.le _ _ hs;obtain ⟨ta,tc,rfl,-,t2,-⟩:=ht.1.open;unfold maxLen at t2;have HH:=hid_ H;have HN:=hid_ hN;have HX:=hid_ hX;have HRG:=hid_ hrg;have HNE:=hid_ hne;have HSL:=hid_ hsl;have h64:=H.n64;obtain ⟨Y,hY⟩:∃Y,srB p m ml l1 l2 n s tl sl X=Y:=⟨_,rfl⟩;have hYD:=hY;unfold srB at hYD;rw [hY];have HYD:=hid_ hYD;clear hs ht hsv H hN hX hrg hne hsl e1 e2 e3 hz1 hz2 hxC hY hYD;go_enter Tryz.func64,Tryz.ntmps64
 go_upto_region 1 with fail
 try simp only [hSB]
 clear hSB;generalize ((w.alloc (.cells #[.pointer (some ⟨A,0,none⟩)] 96)).alloc (.cells #[.slice ta tl.length tc,sv] 49)).alloc (.cells #[.func (.func 65) #[] #[p0]] 100)=wC at *;by_cases h0:s.1=65536
 ·have hb0:((s.1:Int)==65536)=true:=by simp;omega
  have hb0':(s.1==65536)=true:=by simp;omega
  have hy:=HYD.out;rw [if_pos h0] at hy;subst hy;go_wp2_with fail
  go_ret;exact ⟨rfl,HSC.out,HKC.out⟩
 ·have hlt:s.1 < 65536:=by omega
  have hb0:((s.1:Int)==65536)=false:=by simp;omega
  have hb0':(s.1==65536)=false:=by simp;omega
  have HY2:=HYD.out;rw [if_neg h0] at HY2;have HYD:=hid_ HY2;obtain ⟨hsd,hkd⟩:=HH.out.seen _ _ HSC.out hlt;have HSD:=hid_ hsd;have HKD:=hid_ hkd;have s0':=HKD.out.cell (HND.out SB (by omega)) s0;have b0':=HKD.out.cell (HND.out (SB + 1) (by omega)) b0;have b1':=HKD.out.cell (HND.out (SB + 1) (by omega)) b1;have n0':=HKD.out.cell (HND.out (SB + 1 + 1) (by omega)) n0;have HTD:=hid_ (HTC.out.keep HKD.out);have HVD:=hid_ (HVC.out.keep HKD.out);have HNE2:=hid_ (show (∀B,SB≤B→B < wC.heap.size→¬DM (wC.setCell ⟨A,11,none⟩ (.int .i64 ((s.1:Int) + 1))) B) from fun B h1 h2=> (HKD.out.blk B h2 (HND.out B h1)).2);have HBS:=hid_ (show SB < wC.heap.size∧SB + 1 < wC.heap.size∧SB + 1 + 1 < wC.heap.size from ⟨World.block_lt_of_cell? _ _ s0,World.block_lt_of_cell? _ _ b0,World.block_lt_of_cell? _ _ n0⟩);have HWI:=hid_ (witness_any (wC.setCell ⟨A,11,none⟩ (.int .i64 ((s.1:Int) + 1))) (HH.out.gf _ _ HSD.out) HH.out.x1 HH.out.x2 A n HH.out.n64 v1 v2 (HH.out.pr _ _ HSD.out) l1 l2 (HH.out.m1 _ _ HSD.out) (HH.out.m2 _ _ HSD.out) HH.out.r1 HH.out.r2 HH.out.k1 HH.out.k2 tl sl (.slice ta tl.length tc) sv HTD.out.1 HVD.out.1 HSL.out htn HRG.out);clear hsd hkd HY2 h0;obtain ⟨wD,hwD⟩:∃wD,wC.setCell ⟨A,11,none⟩ (.int .i64 ((s.1:Int) + 1))=wD:=⟨_,rfl⟩;rw [hwD] at HSD HKD HTD HVD HNE2 HWI s0' b0' b1' n0';go_wp2_with fail
  try simp only [hwD]
  clear hwD s0 b0 b1 n0 c11 f11;refine HWI.out.mono ?_;rintro e w5 ⟨mv,rfl,hmv,hmb,hx5⟩;have HS5:=hid_ (HH.out.stt.ex _ _ _ HSD.out hx5);have HK5:=hid_ (HH.out.stt.keeps HSD.out hx5);have n5:=hx5.cell n0';have b5:=hx5.cell b0';have b5':=hx5.cell b1';have s5:=hx5.cell s0';have HM5:=hid_ (show PrS DM w5 mv (witL l1.length l2.length (witI p m ml l1 l2 tl sl)) from PrS.fresh hmv fun B hB=> HH.out.stt.new HSD.out hx5 (hmb B hB));have HCN:=hid_ (HN.out (s.1 + 1,s.2) w5 tl sl (.slice ta tl.length tc) sv (witI p m ml l1 l2 tl sl).1 _ mv HS5.out (by show s.2.length < s.1 + 1;omega) (HTD.out.keep HK5.out) (HVD.out.keep HK5.out) HM5.out HSL.out (by omega) (witL_len HH.out.k1 HH.out.k2 _) HNE.out);have HD5:=hid_ (fun B (h1:SB≤B) (h2:B < wC.heap.size)=> (HK5.out.blk B (Nat.lt_of_lt_of_le h2 HKD.out.size) (HNE2.out B h1 h2)).2);have HT5:=hid_ (HTD.out.keep HK5.out);have HV5:=hid_ (HVD.out.keep HK5.out);have HKD5:=hid_ (HKC.out.trans (HKD.out.trans HK5.out));clear hmv hmb hx5 HWI s0' b0' b1' n0' HSD HTD HVD HNE2;obtain ⟨Wi,hWi⟩:∃W,(witI p m ml l1 l2 tl sl).1=W:=⟨_,rfl⟩;rw [hWi] at HCN HYD
  try simp only [hWi]
  obtain ⟨S1,hS1⟩:∃S1,srS p m ml l1 l2 s tl sl=S1:=⟨_,rfl⟩;have hS1':(s.1 + 1,s.2 ++ [⟨tl,sl,Wi,witL l1.length l2.length (witI p m ml l1 l2 tl sl)⟩])=S1:=by rw [←hS1,←hWi];rfl
  rw [hS1'] at HCN;rw [hS1] at HYD HX;clear hWi hS1 hS1';by_cases hW:0≤Wi
  ·have hb1:decide ((0:Int)≤Wi)=true:=by simpa using hW
   have hy:=HYD.out;rw [if_pos hW] at hy;subst hy;clear hW HYD HX;go_wp2_with (go_at_call 65;refine HCN.out.mono ?_;rintro e w6 ⟨⟨t,rfl⟩,hs6,hk6⟩;have HS6:=hid_ hs6;have HK6:=hid_ (HKD5.out.trans hk6);clear hs6 hk6)
   go_ret;exact ⟨rfl,HS6.out,HK6.out⟩
  ·have hb1:decide ((0:Int)≤Wi)=false:=by simpa using hW
   have HY3:=HYD.out;rw [if_neg hW] at HY3;have HYD:=hid_ HY3;clear hW HY3;by_cases hn:tl.length=n
   ·have hy:=HYD.out;rw [if_pos hn] at hy;subst hy;have hb2:((tl.length:Int)==(n:Int))=true:=by simp;omega
    have hb2':(tl.length==n)=true:=by simp;omega
    have HA:=hid_ (fun w' (h:St S1 w')=> (HH.out.pr _ _ h).c4);clear hn HYD HX;go_wp2_with (go_at_call 65;refine HCN.out.mono ?_;rintro e w6 ⟨⟨t,rfl⟩,hs6,hk6⟩;have a4:=HA.out w6 hs6;have s6:=hk6.cell (HD5.out SB (by omega) HBS.out.1) s5;have b6:=hk6.cell (HD5.out (SB + 1) (by omega) HBS.out.2.1) b5;have HS6:=hid_ hs6;have HK6:=hid_ (HKD5.out.trans hk6);clear hs6 hk6 s5 b5 b5' n5)
    go_quiet (fail)
    go_wp2_with fail
    go_ret;exact ⟨rfl,HH.out.stt.ex _ _ _ HS6.out ((Ex.refl _).drewN _),HK6.out.trans (HH.out.stt.keeps HS6.out ((Ex.refl _).drewN _))⟩
   ·have hy:=HYD.out;rw [if_neg hn] at hy;subst hy;have hb2:((tl.length:Int)==(n:Int))=false:=by simp;omega
    have hb2':(tl.length==n)=false:=by simp;omega
    have HA:=hid_ (fun w' (h:St S1 w')=> (HH.out.pr _ _ h).c4);have HXC:=hid_ (HX.out hn);clear hn HYD HX;go_wp2_with (go_at_call 65;refine HCN.out.mono ?_;rintro e w6 ⟨⟨t,rfl⟩,hs6,hk6⟩;have a4:=HA.out w6 hs6;have s6:=hk6.cell (HD5.out SB (by omega) HBS.out.1) s5;have b6:=hk6.cell (HD5.out (SB + 1) (by omega) HBS.out.2.1) b5;have b6':=hk6.cell (HD5.out (SB + 1) (by omega) HBS.out.2.1) b5';have n6:=hk6.cell (HD5.out (SB + 1 + 1) (by omega) HBS.out.2.2) n5;have HS6:=hid_ hs6;have HK6:=hid_ (HKD5.out.trans hk6);have HKX:=hid_ hk6;have HT6:=hid_ (HT5.out.keep hk6);have HV6:=hid_ (HV5.out.keep hk6);clear hs6 hk6 s5 b5 b5' n5)
    have HD6:=hid_ (fun B (h1:SB≤B) (h2:B < wC.heap.size)=> (HKX.out.blk B (Nat.lt_of_lt_of_le h2 (Nat.le_trans HKD.out.size HK5.out.size)) (HD5.out B h1 h2)).2);have HXW:=hid_ (fun k=> HXC.out (w6.drewN k) SB (SB + 1 + 1) ((StB.stt HH.out.stt SB (SB + 1 + 1) A _).ex _ _ _ ⟨HS6.out,s6,n6,HD6.out SB (by omega) HBS.out.1,HD6.out (SB + 1 + 1) (by omega) HBS.out.2.2⟩ ((Ex.refl _).drewN k)) (HT6.out.keep (HH.out.stt.keeps HS6.out ((Ex.refl _).drewN k))) (HV6.out.keep (HH.out.stt.keeps HS6.out ((Ex.refl _).drewN k))));have HKY:=hid_ (fun k=> HK6.out.trans (HH.out.stt.keeps HS6.out ((Ex.refl w6).drewN k)));clear HXC HKX HD5 HD6
    go_quiet (fail)
    go_wp2_with (go_at_call 71;refine (HXW.out _).mono ?_;rintro e w8 ⟨rfl,hs8,hk8⟩;have HS8:=hid_ hs8;have HK8:=hid_ ((HKY.out _).trans hk8);clear hs8 hk8)
    go_ret;exact ⟨rfl,HS8.out,HK8.out⟩
theorem search_fnd {p m:Nat} {ml:List Int} {l1 l2:List (List Int)} {n A b x0:Nat} {v1 v2:Value} {St:Nat × List Nd→World→Prop} {DM:World→Nat→Prop} (H:SrE p m ml l1 l2 n A b x0 v1 v2 St DM) (p0:Value)
  (hN:∀s w (tl sl:List Int) tv sv side msg mv,St s w→s.2.length < s.1→PrS DM w tv tl→PrS DM w sv sl→PrS DM w mv msg→sl.length=tl.length→tl.length≤64→msg.length≤256→(s.2≠ []→tl≠ [])→Calls Tryz.prog 65 #[.agg #[tv,sv],.int .i64 side,mv,p0] w fun r w'=> (∃t,r= .returned t)∧St (s.1,s.2 ++ [⟨tl,sl,side,msg⟩]) w'∧Keeps DM w w'):
  ∀(d:Nat) (s:Nat × List Nd) (w:World) (tl sl:List Int) (tv sv:Value),tl.length + d=n→sl.length=tl.length→rngB tl n=true→(s.2≠ []→tl≠ [])→St s w→PrS DM w tv tl→PrS DM w sv sl→
  Calls Tryz.prog 64 #[.pointer (some ⟨A,0,none⟩),.agg #[tv,sv],.func (.func 65) #[] #[p0]] w fun r w'=> r= .returned (.int .i64 (srF p m ml l1 l2 n d s tl sl).2)∧St (srF p m ml l1 l2 n d s tl sl).1 w'∧Keeps DM w w':=by
 intro d
 induction d with
 | zero=>
  intro s w tl sl tv sv hd hsl hrg hne hs ht hsv;rw [srF_zero];exact body_fnd H p0 hN s w tl sl tv sv _ (by omega) hsl hrg hne hs ht hsv fun h=> absurd hd (by omega)
 | succ d ih=>
  intro s w tl sl tv sv hd hsl hrg hne hs ht hsv;rw [srF_succ];refine body_fnd H p0 hN s w tl sl tv sv _ (by omega) hsl hrg hne hs ht hsv fun hn w' SB NTB hb ht' hs'=> ?_;have hgf:=H.gf _ _ hb.1;have hq:=hgf.sh.q;have hq2:=hgf.sh.p2;have hN64:=H.n64;have h64:tl.length≤64:=by omega
  refine (ext_sea (StB.stt H.stt SB NTB A (.func (.func 65) #[] #[p0])) (srF p m ml l1 l2 n d) w' A b n (p ^ m) (Nat.pow_pos (by omega)) hq H.n64 (.pointer (some ⟨SB,0,none⟩)) (.pointer (some ⟨NTB,0,none⟩)) tl sl tv sv (fun s1 w1 h1=> ⟨(H.pr _ _ h1.1).c0,(H.pr _ _ h1.1).c4,Order_any w1 (H.gf _ _ h1.1)⟩) (fun s1 w1 j c tv' sv' h1 hj hc hc1 hcq ht1 hs1=> ?_) h64 (by omega) _ hb ht' hs').mono ?_
  ·refine (search1_any w1 SB NTB A _ tv' sv' (srF p m ml l1 l2 n d s1 (tl ++ [(j:Int)]) (sl ++ [(c:Int)])).2 (fun w''=> St (srF p m ml l1 l2 n d s1 (tl ++ [(j:Int)]) (sl ++ [(c:Int)])).1 w''∧Keeps DM w1 w'') h1.2.1 h1.2.2.1 (fun w2 hx2=> ?_)).mono ?_
   ·have hk2:=H.stt.keeps h1.1 hx2;refine (ih s1 w2 (tl ++ [(j:Int)]) (sl ++ [(c:Int)]) tv' sv' (by rw [List.length_append];simp;omega) (by simp [hsl]) (rngB_snoc hrg hj) (fun _=> by simp) (H.stt.ex _ _ _ h1.1 hx2) (ht1.keep hk2) (hs1.keep hk2)).mono ?_;rintro r w3 ⟨rfl,h3,h4⟩;exact ⟨rfl,h3,hk2.trans h4⟩
   ·rintro r w3 ⟨rfl,h3,h4⟩;exact ⟨rfl,h1.keep h3 h4,h4⟩
  ·rintro r w3 ⟨rfl,h3,h4⟩;exact ⟨rfl,h3.1,h4⟩
theorem body_rft {p m:Nat} {ml:List Int} {l1 l2:List (List Int)} {n A b x0:Nat} {v1 v2:Value} {St:Nat × List Nd→World→Prop} {DM:World→Nat→Prop} (H:SrE p m ml l1 l2 n A b x0 v1 v2 St DM) (p0:Value)
  (hN:∀s w (tl sl:List Int) tv sv side msg mv,St s w→s.2.length < s.1→PrS DM w tv tl→PrS DM w sv sl→PrS DM w mv msg→sl.length=tl.length→tl.length≤64→msg.length≤256→(s.2≠ []→tl≠ [])→Calls Tryz.prog 69 #[.agg #[tv,sv],.int .i64 side,mv,p0] w fun r w'=> (∃t,r= .returned t)∧St (s.1,s.2 ++ [⟨tl,sl,side,msg⟩]) w'∧Keeps DM w w')
  (s:Nat × List Nd) (w:World) (tl sl:List Int) (tv sv:Value) (X:(Nat × List Nd) × Int) (htn:tl.length≤n) (hsl:sl.length=tl.length) (hrg:rngB tl n=true) (hne:s.2≠ []→tl≠ []) (hs:St s w) (ht:PrS DM w tv tl) (hsv:PrS DM w sv sl)
  (hX:tl.length≠n→∀w' SB NTB,StB St DM SB NTB A (.func (.func 69) #[] #[p0]) (srS p m ml l1 l2 s tl sl) w'→PrS DM w' tv tl→PrS DM w' sv sl→Calls Tryz.prog 71 #[.pointer (some ⟨A,0,none⟩),.agg #[tv,sv],.func (.func 104) #[] #[.pointer (some ⟨SB,0,none⟩),.pointer (some ⟨NTB,0,none⟩)]] w' fun r w''=> r= .returned (.int .i64 X.2)∧St X.1 w''∧Keeps DM w' w''):
  Calls Tryz.prog 64 #[.pointer (some ⟨A,0,none⟩),.agg #[tv,sv],.func (.func 69) #[] #[p0]] w fun r w'=> r= .returned (.int .i64 (srB p m ml l1 l2 n s tl sl X).2)∧St (srB p m ml l1 l2 n s tl sl X).1 w'∧Keeps DM w w':=by
 have e1:=e_al w (.cells #[.pointer (some ⟨A,0,none⟩)] 96);have s0:(w.alloc (.cells #[.pointer (some ⟨A,0,none⟩)] 96)).cell? ⟨w.heap.size,0,none⟩=some (.pointer (some ⟨A,0,none⟩)):=by simp
 have hz1:(w.alloc (.cells #[.pointer (some ⟨A,0,none⟩)] 96)).heap.size=w.heap.size + 1:=by simp
 obtain ⟨b0,b1,e2,hz2⟩:=boxP_facts (w.alloc (.cells #[.pointer (some ⟨A,0,none⟩)] 96)) tv sv;have e3:=e_al ((w.alloc (.cells #[.pointer (some ⟨A,0,none⟩)] 96)).alloc (.cells #[tv,sv] 49)) (.cells #[.func (.func 69) #[] #[p0]] 100);have n0:(((w.alloc (.cells #[.pointer (some ⟨A,0,none⟩)] 96)).alloc (.cells #[tv,sv] 49)).alloc (.cells #[.func (.func 69) #[] #[p0]] 100)).cell? ⟨w.heap.size + 1 + 1,0,none⟩=some (.func (.func 69) #[] #[p0]):=by
  exact alloc1_cell _ _ _ (by simp)
 rw [hz1] at b0 b1 hz2;replace s0:=(e2.trans e3).cell s0;replace b0:=e3.cell b0;replace b1:=e3.cell b1;have hxC:=e1.trans (e2.trans e3);have HSC:=hid_ (H.stt.ex _ _ _ hs hxC);have HKC:=hid_ (H.stt.keeps hs hxC);have HTC:=hid_ (ht.keep HKC.out);have HVC:=hid_ (hsv.keep HKC.out);obtain ⟨SB,hSB⟩:∃B,w.heap.size=B:=⟨_,rfl⟩;rw [hSB] at s0 b0 b1 n0;have HND:=hid_ (fun B (h:SB≤B)=> H.stt.new hs hxC (B:=B) (by omega));obtain ⟨c11,f11⟩:=H.c11 _ _ HSC.out;have hle:=H.le _ _ hs;obtain ⟨ta,tc,rfl,-,t2,-⟩:=ht.1.open;unfold maxLen at t2;have HH:=hid_ H;have HN:=hid_ hN;have HX:=hid_ hX;have HRG:=hid_ hrg;have HNE:=hid_ hne;have HSL:=hid_ hsl;have h64:=H.n64;obtain ⟨Y,hY⟩:∃Y,srB p m ml l1 l2 n s tl sl X=Y:=⟨_,rfl⟩;have hYD:=hY;unfold srB at hYD;rw [hY];have HYD:=hid_ hYD;clear hs ht hsv H hN hX hrg hne hsl e1 e2 e3 hz1 hz2 hxC hY hYD;go_enter Tryz.func64,Tryz.ntmps64
 go_upto_region 1 with fail
 try simp only [hSB]
 clear hSB;generalize ((w.alloc (.cells #[.pointer (some ⟨A,0,none⟩)] 96)).alloc (.cells #[.slice ta tl.length tc,sv] 49)).alloc (.cells #[.func (.func 69) #[] #[p0]] 100)=wC at *;by_cases h0:s.1=65536
 ·have hb0:((s.1:Int)==65536)=true:=by simp;omega
  have hb0':(s.1==65536)=true:=by simp;omega
  have hy:=HYD.out;rw [if_pos h0] at hy;subst hy;go_wp2_with fail
  go_ret;exact ⟨rfl,HSC.out,HKC.out⟩
 ·have hlt:s.1 < 65536:=by omega
  have hb0:((s.1:Int)==65536)=false:=by simp;omega
  have hb0':(s.1==65536)=false:=by simp;omega
  have HY2:=HYD.out;rw [if_neg h0] at HY2;have HYD:=hid_ HY2;obtain ⟨hsd,hkd⟩:=HH.out.seen _ _ HSC.out hlt;have HSD:=hid_ hsd;have HKD:=hid_ hkd;have s0':=HKD.out.cell (HND.out SB (by omega)) s0;have b0':=HKD.out.cell (HND.out (SB + 1) (by omega)) b0;have b1':=HKD.out.cell (HND.out (SB + 1) (by omega)) b1;have n0':=HKD.out.cell (HND.out (SB + 1 + 1) (by omega)) n0;have HTD:=hid_ (HTC.out.keep HKD.out);have HVD:=hid_ (HVC.out.keep HKD.out);have HNE2:=hid_ (show (∀B,SB≤B→B < wC.heap.size→¬DM (wC.setCell ⟨A,11,none⟩ (.int .i64 ((s.1:Int) + 1))) B) from fun B h1 h2=> (HKD.out.blk B h2 (HND.out B h1)).2);have HBS:=hid_ (show SB < wC.heap.size∧SB + 1 < wC.heap.size∧SB + 1 + 1 < wC.heap.size from ⟨World.block_lt_of_cell? _ _ s0,World.block_lt_of_cell? _ _ b0,World.block_lt_of_cell? _ _ n0⟩);have HWI:=hid_ (witness_any (wC.setCell ⟨A,11,none⟩ (.int .i64 ((s.1:Int) + 1))) (HH.out.gf _ _ HSD.out) HH.out.x1 HH.out.x2 A n HH.out.n64 v1 v2 (HH.out.pr _ _ HSD.out) l1 l2 (HH.out.m1 _ _ HSD.out) (HH.out.m2 _ _ HSD.out) HH.out.r1 HH.out.r2 HH.out.k1 HH.out.k2 tl sl (.slice ta tl.length tc) sv HTD.out.1 HVD.out.1 HSL.out htn HRG.out);clear hsd hkd HY2 h0;obtain ⟨wD,hwD⟩:∃wD,wC.setCell ⟨A,11,none⟩ (.int .i64 ((s.1:Int) + 1))=wD:=⟨_,rfl⟩;rw [hwD] at HSD HKD HTD HVD HNE2 HWI s0' b0' b1' n0';go_wp2_with fail
  try simp only [hwD]
  clear hwD s0 b0 b1 n0 c11 f11;refine HWI.out.mono ?_;rintro e w5 ⟨mv,rfl,hmv,hmb,hx5⟩;have HS5:=hid_ (HH.out.stt.ex _ _ _ HSD.out hx5);have HK5:=hid_ (HH.out.stt.keeps HSD.out hx5);have n5:=hx5.cell n0';have b5:=hx5.cell b0';have b5':=hx5.cell b1';have s5:=hx5.cell s0';have HM5:=hid_ (show PrS DM w5 mv (witL l1.length l2.length (witI p m ml l1 l2 tl sl)) from PrS.fresh hmv fun B hB=> HH.out.stt.new HSD.out hx5 (hmb B hB));have HCN:=hid_ (HN.out (s.1 + 1,s.2) w5 tl sl (.slice ta tl.length tc) sv (witI p m ml l1 l2 tl sl).1 _ mv HS5.out (by show s.2.length < s.1 + 1;omega) (HTD.out.keep HK5.out) (HVD.out.keep HK5.out) HM5.out HSL.out (by omega) (witL_len HH.out.k1 HH.out.k2 _) HNE.out);have HD5:=hid_ (fun B (h1:SB≤B) (h2:B < wC.heap.size)=> (HK5.out.blk B (Nat.lt_of_lt_of_le h2 HKD.out.size) (HNE2.out B h1 h2)).2);have HT5:=hid_ (HTD.out.keep HK5.out);have HV5:=hid_ (HVD.out.keep HK5.out);have HKD5:=hid_ (HKC.out.trans (HKD.out.trans HK5.out));clear hmv hmb hx5 HWI s0' b0' b1' n0' HSD HTD HVD HNE2;obtain ⟨Wi,hWi⟩:∃W,(witI p m ml l1 l2 tl sl).1=W:=⟨_,rfl⟩;rw [hWi] at HCN HYD
  try simp only [hWi]
  obtain ⟨S1,hS1⟩:∃S1,srS p m ml l1 l2 s tl sl=S1:=⟨_,rfl⟩;have hS1':(s.1 + 1,s.2 ++ [⟨tl,sl,Wi,witL l1.length l2.length (witI p m ml l1 l2 tl sl)⟩])=S1:=by rw [←hS1,←hWi];rfl
  rw [hS1'] at HCN;rw [hS1] at HYD HX;clear hWi hS1 hS1';by_cases hW:0≤Wi
  ·have hb1:decide ((0:Int)≤Wi)=true:=by simpa using hW
   have hy:=HYD.out;rw [if_pos hW] at hy;subst hy;clear hW HYD HX;go_wp2_with (go_at_call 69;refine HCN.out.mono ?_;rintro e w6 ⟨⟨t,rfl⟩,hs6,hk6⟩;have HS6:=hid_ hs6;have HK6:=hid_ (HKD5.out.trans hk6);clear hs6 hk6)
   go_ret;exact ⟨rfl,HS6.out,HK6.out⟩
  ·have hb1:decide ((0:Int)≤Wi)=false:=by simpa using hW
   have HY3:=HYD.out;rw [if_neg hW] at HY3;have HYD:=hid_ HY3;clear hW HY3;by_cases hn:tl.length=n
   ·have hy:=HYD.out;rw [if_pos hn] at hy;subst hy;have hb2:((tl.length:Int)==(n:Int))=true:=by simp;omega
    have hb2':(tl.length==n)=true:=by simp;omega
    have HA:=hid_ (fun w' (h:St S1 w')=> (HH.out.pr _ _ h).c4);clear hn HYD HX;go_wp2_with (go_at_call 69;refine HCN.out.mono ?_;rintro e w6 ⟨⟨t,rfl⟩,hs6,hk6⟩;have a4:=HA.out w6 hs6;have s6:=hk6.cell (HD5.out SB (by omega) HBS.out.1) s5;have b6:=hk6.cell (HD5.out (SB + 1) (by omega) HBS.out.2.1) b5;have HS6:=hid_ hs6;have HK6:=hid_ (HKD5.out.trans hk6);clear hs6 hk6 s5 b5 b5' n5)
    go_quiet (fail)
    go_wp2_with fail
    go_ret;exact ⟨rfl,HH.out.stt.ex _ _ _ HS6.out ((Ex.refl _).drewN _),HK6.out.trans (HH.out.stt.keeps HS6.out ((Ex.refl _).drewN _))⟩
   ·have hy:=HYD.out;rw [if_neg hn] at hy;subst hy;have hb2:((tl.length:Int)==(n:Int))=false:=by simp;omega
    have hb2':(tl.length==n)=false:=by simp;omega
    have HA:=hid_ (fun w' (h:St S1 w')=> (HH.out.pr _ _ h).c4);have HXC:=hid_ (HX.out hn);clear hn HYD HX;go_wp2_with (go_at_call 69;refine HCN.out.mono ?_;rintro e w6 ⟨⟨t,rfl⟩,hs6,hk6⟩;have a4:=HA.out w6 hs6;have s6:=hk6.cell (HD5.out SB (by omega) HBS.out.1) s5;have b6:=hk6.cell (HD5.out (SB + 1) (by omega) HBS.out.2.1) b5;have b6':=hk6.cell (HD5.out (SB + 1) (by omega) HBS.out.2.1) b5';have n6:=hk6.cell (HD5.out (SB + 1 + 1) (by omega) HBS.out.2.2) n5;have HS6:=hid_ hs6;have HK6:=hid_ (HKD5.out.trans hk6);have HKX:=hid_ hk6;have HT6:=hid_ (HT5.out.keep hk6);have HV6:=hid_ (HV5.out.keep hk6);clear hs6 hk6 s5 b5 b5' n5)
    have HD6:=hid_ (fun B (h1:SB≤B) (h2:B < wC.heap.size)=> (HKX.out.blk B (Nat.lt_of_lt_of_le h2 (Nat.le_trans HKD.out.size HK5.out.size)) (HD5.out B h1 h2)).2);have HXW:=hid_ (fun k=> HXC.out (w6.drewN k) SB (SB + 1 + 1) ((StB.stt HH.out.stt SB (SB + 1 + 1) A _).ex _ _ _ ⟨HS6.out,s6,n6,HD6.out SB (by omega) HBS.out.1,HD6.out (SB + 1 + 1) (by omega) HBS.out.2.2⟩ ((Ex.refl _).drewN k)) (HT6.out.keep (HH.out.stt.keeps HS6.out ((Ex.refl _).drewN k))) (HV6.out.keep (HH.out.stt.keeps HS6.out ((Ex.refl _).drewN k))));have HKY:=hid_ (fun k=> HK6.out.trans (HH.out.stt.keeps HS6.out ((Ex.refl w6).drewN k)));clear HXC HKX HD5 HD6
    go_quiet (fail)
    go_wp2_with (go_at_call 71;refine (HXW.out _).mono ?_;rintro e w8 ⟨rfl,hs8,hk8⟩;have HS8:=hid_ hs8;have HK8:=hid_ ((HKY.out _).trans hk8);clear hs8 hk8)
    go_ret;exact ⟨rfl,HS8.out,HK8.out⟩
theorem search_rft {p m:Nat} {ml:List Int} {l1 l2:List (List Int)} {n A b x0:Nat} {v1 v2:Value} {St:Nat × List Nd→World→Prop} {DM:World→Nat→Prop} (H:SrE p m ml l1 l2 n A b x0 v1 v2 St DM) (p0:Value)
  (hN:∀s w (tl sl:List Int) tv sv side msg mv,St s w→s.2.length < s.1→PrS DM w tv tl→PrS DM w sv sl→PrS DM w mv msg→sl.length=tl.length→tl.length≤64→msg.length≤256→(s.2≠ []→tl≠ [])→Calls Tryz.prog 69 #[.agg #[tv,sv],.int .i64 side,mv,p0] w fun r w'=> (∃t,r= .returned t)∧St (s.1,s.2 ++ [⟨tl,sl,side,msg⟩]) w'∧Keeps DM w w'):
  ∀(d:Nat) (s:Nat × List Nd) (w:World) (tl sl:List Int) (tv sv:Value),tl.length + d=n→sl.length=tl.length→rngB tl n=true→(s.2≠ []→tl≠ [])→St s w→PrS DM w tv tl→PrS DM w sv sl→
  Calls Tryz.prog 64 #[.pointer (some ⟨A,0,none⟩),.agg #[tv,sv],.func (.func 69) #[] #[p0]] w fun r w'=> r= .returned (.int .i64 (srF p m ml l1 l2 n d s tl sl).2)∧St (srF p m ml l1 l2 n d s tl sl).1 w'∧Keeps DM w w':=by
 intro d
 induction d with
 | zero=>
  intro s w tl sl tv sv hd hsl hrg hne hs ht hsv;rw [srF_zero];exact body_rft H p0 hN s w tl sl tv sv _ (by omega) hsl hrg hne hs ht hsv fun h=> absurd hd (by omega)
 | succ d ih=>
  intro s w tl sl tv sv hd hsl hrg hne hs ht hsv;rw [srF_succ];refine body_rft H p0 hN s w tl sl tv sv _ (by omega) hsl hrg hne hs ht hsv fun hn w' SB NTB hb ht' hs'=> ?_;have hgf:=H.gf _ _ hb.1;have hq:=hgf.sh.q;have hq2:=hgf.sh.p2;have hN64:=H.n64;have h64:tl.length≤64:=by omega
  refine (ext_sea (StB.stt H.stt SB NTB A (.func (.func 69) #[] #[p0])) (srF p m ml l1 l2 n d) w' A b n (p ^ m) (Nat.pow_pos (by omega)) hq H.n64 (.pointer (some ⟨SB,0,none⟩)) (.pointer (some ⟨NTB,0,none⟩)) tl sl tv sv (fun s1 w1 h1=> ⟨(H.pr _ _ h1.1).c0,(H.pr _ _ h1.1).c4,Order_any w1 (H.gf _ _ h1.1)⟩) (fun s1 w1 j c tv' sv' h1 hj hc hc1 hcq ht1 hs1=> ?_) h64 (by omega) _ hb ht' hs').mono ?_
  ·refine (search1_any w1 SB NTB A _ tv' sv' (srF p m ml l1 l2 n d s1 (tl ++ [(j:Int)]) (sl ++ [(c:Int)])).2 (fun w''=> St (srF p m ml l1 l2 n d s1 (tl ++ [(j:Int)]) (sl ++ [(c:Int)])).1 w''∧Keeps DM w1 w'') h1.2.1 h1.2.2.1 (fun w2 hx2=> ?_)).mono ?_
   ·have hk2:=H.stt.keeps h1.1 hx2;refine (ih s1 w2 (tl ++ [(j:Int)]) (sl ++ [(c:Int)]) tv' sv' (by rw [List.length_append];simp;omega) (by simp [hsl]) (rngB_snoc hrg hj) (fun _=> by simp) (H.stt.ex _ _ _ h1.1 hx2) (ht1.keep hk2) (hs1.keep hk2)).mono ?_;rintro r w3 ⟨rfl,h3,h4⟩;exact ⟨rfl,h3,hk2.trans h4⟩
   ·rintro r w3 ⟨rfl,h3,h4⟩;exact ⟨rfl,h1.keep h3 h4,h4⟩
  ·rintro r w3 ⟨rfl,h3,h4⟩;exact ⟨rfl,h3.1,h4⟩
end Go.Proofs.YtgdmlmhpineibaaGreat
