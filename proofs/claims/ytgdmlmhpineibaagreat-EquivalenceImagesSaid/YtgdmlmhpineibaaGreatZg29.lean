/- Walk of equivalence.Inverse. -/
import Derived.Test.YtgdmlmhpineibaaGreatZg28
namespace Go.Proofs.YtgdmlmhpineibaaGreat
set_option linter.unusedVariables false
set_option linter.unusedSimpArgs false
set_option maxRecDepth 100000
set_option maxHeartbeats 4000000
open Go.RowKit
theorem fac_at {q:Nat} {l:List Int} (h:facS q l=0) {i:Nat} (hi:i < l.length):∃z:Nat,l.getD i 0=(z:Int)∧1≤z∧z < q:=by
 unfold facS at h;split at h
 ·cases h
 rename_i h1;split at h
 ·cases h
 rename_i h2;have hm:l.getD i 0∈l:=by rw [List.getD_eq_getElem?_getD,List.getElem?_eq_getElem hi];exact List.getElem_mem _
 have ha:isB q (l.getD i 0)=true:=by
  cases hb:isB q (l.getD i 0) with
  | true=> rfl
  | false=> exact absurd (List.any_eq_true.2 ⟨_,hm,by rw [hb];rfl⟩) h1
 have hz:l.getD i 0≠0:=fun e=> h2 (List.contains_iff_mem.2 (e ▸ hm));clear hm;generalize l.getD i 0=z at *;unfold isB at ha;simp at ha;exact ⟨z.toNat,by omega,by omega,by omega⟩
def bckN (m fr:Nat):Nat:=(m - fr) % m
def ivS (p m:Nat) (ml sl:List Int) (bk i:Nat):Int:=((frb p m (lw ml) (kinv p m ml (kin (p ^ m) (sl.getD i 0))) bk:Nat):Int)
structure MapV where
 perm:List Int
 scale:List Int
 frob:Int
def MoR (M:MapV) (e:Int) (r:Ending) (w':World):Prop:=∃u v,r= .returned (.tuple #[.agg #[u,v,.int .i64 M.frob],.int .i64 e])∧ISl w' u M.perm∧ISl w' v M.scale
def invM (p m:Int) (ml pl sl:List Int) (fr:Int):MapV:=
 if monS p m ml pl.length pl sl fr≠0 then ⟨[], [],0⟩ else ⟨il pl.length (plc (piF pl) (fun i=> (i:Int)) pl.length),il pl.length (plc (piF pl) (ivS p.toNat m.toNat ml sl (bckN m.toNat fr.toNat)) pl.length),(bckN m.toNat fr.toNat:Nat)⟩
structure IvB (w1 wr:World) (B g h n:Nat) (bk:Int) (c d:Nat→Int):Prop where
 b0:wr.cell? ⟨B,0,none⟩=some (.slice (some ⟨g,0,none⟩) n n)
 b1:wr.cell? ⟨B,1,none⟩=some (.slice (some ⟨h,0,none⟩) n n)
 b2:wr.cell? ⟨B,2,none⟩=some (.int .i64 bk)
 o0:Own wr w1.heap.size 3 g n (iv c)
 o1:Own wr w1.heap.size 3 h n (iv d)
 ne:g≠h
 nb:B≠g∧B≠h
 ex:Ex w1 wr
theorem IvB.later {w1 wr w':World} {B g h n:Nat} {bk:Int} {c d:Nat→Int} (k:IvB w1 wr B g h n bk c d) (hx:Ex wr w'):IvB w1 w' B g h n bk c d:=
 ⟨hx.cell k.b0,hx.cell k.b1,hx.cell k.b2,k.o0.ex hx,k.o1.ex hx,k.ne,k.nb,k.ex.trans hx⟩
theorem IvB.set0 {w1 wr:World} {B g h n:Nat} {bk:Int} {c d:Nat→Int} (k:IvB w1 wr B g h n bk c d) (j:Nat) (u:Int):IvB w1 (wr.setCell ⟨g,j,none⟩ (.int .i64 u)) B g h n bk (upd c j u) d:=
 ⟨by rw [cell_setCell_ne (fun e=> k.nb.1 e.symm)];exact k.b0,by rw [cell_setCell_ne (fun e=> k.nb.1 e.symm)];exact k.b1,by rw [cell_setCell_ne (fun e=> k.nb.1 e.symm)];exact k.b2,by rw [←iv_upd];exact k.o0.set j _,k.o1.other (fun e=> k.ne e.symm) _,k.ne,k.nb,k.o0.exSet (Nat.le_refl _) k.ex j _⟩
theorem IvB.set1 {w1 wr:World} {B g h n:Nat} {bk:Int} {c d:Nat→Int} (k:IvB w1 wr B g h n bk c d) (j:Nat) (u:Int):IvB w1 (wr.setCell ⟨h,j,none⟩ (.int .i64 u)) B g h n bk c (upd d j u):=
 ⟨by rw [cell_setCell_ne (fun e=> k.nb.2 e.symm)];exact k.b0,by rw [cell_setCell_ne (fun e=> k.nb.2 e.symm)];exact k.b1,by rw [cell_setCell_ne (fun e=> k.nb.2 e.symm)];exact k.b2,k.o0.other (fun e=> k.ne e) _,by rw [←iv_upd];exact k.o1.set j _,k.ne,k.nb,k.o1.exSet (Nat.le_refl _) k.ex j _⟩
structure BxM (w:World) (b:Nat):Prop where
 c0:w.cell? ⟨b,0,none⟩=some (.slice none 0 0)
 c1:w.cell? ⟨b,1,none⟩=some (.slice none 0 0)
 c2:w.cell? ⟨b,2,none⟩=some (.int .i64 0)
 f0:w.frozen? ⟨b,0,none⟩=false
 f1:w.frozen? ⟨b,1,none⟩=false
 f2:w.frozen? ⟨b,2,none⟩=false
theorem BxM.new (w:World):BxM (w.alloc (.cells #[.slice none 0 0,.slice none 0 0,.int .i64 0] 26)) w.heap.size:=⟨by simp,by simp,by simp,by simp,by simp,by simp⟩
theorem BxM.ex {w w':World} {b:Nat} (h:BxM w b) (hx:Ex w w'):BxM w' b:=⟨hx.cell h.c0,hx.cell h.c1,hx.cell h.c2,hx.frz h.c0 h.f0,hx.frz h.c1 h.f1,hx.frz h.c2 h.f2⟩
theorem set3_ex {w0 w:World} {q:Nat} (hx:Ex w0 w) (hq:w0.heap.size≤q) (u v z:Value):Ex w0 (((w.setCell ⟨q,0,none⟩ u).setCell ⟨q,1,none⟩ v).setCell ⟨q,2,none⟩ z):=
 ((hx.setCell (p:=⟨q,0,none⟩) hq _).setCell (p:=⟨q,1,none⟩) hq _).setCell (p:=⟨q,2,none⟩) hq _
theorem set3_isl {w:World} {q:Nat} {v:Value} {l:List Int} (h:ISl w v l) (hq:∀B,v.ownBlock=some B→B≠q) (a b c:Value):ISl (((w.setCell ⟨q,0,none⟩ a).setCell ⟨q,1,none⟩ b).setCell ⟨q,2,none⟩ c) v l:=
 Sl.other (Sl.other (Sl.other h (fun B e=> hq B e) _) (fun B e=> hq B e) _) (fun B e=> hq B e) _
theorem IvB.fresh {w2 w7:World} {B g h n:Nat} {bk:Int} (bx:BxM w7 B) (og:Own w7 w2.heap.size 3 g n (iv (fun _=> 0))) (oh:Own w7 w2.heap.size 3 h n (iv (fun _=> 0))) (ne:g≠h) (nb:B≠g∧B≠h) (hx:Ex w2 w7) (hB:w2.heap.size≤B):
  IvB w2 (((w7.setCell ⟨B,0,none⟩ (.slice (some ⟨g,0,none⟩) n n)).setCell ⟨B,1,none⟩ (.slice (some ⟨h,0,none⟩) n n)).setCell ⟨B,2,none⟩ (.int .i64 bk)) B g h n bk (fun _=> 0) (fun _=> 0):=by
 obtain ⟨z0,z1,z2,f0,f1,f2⟩:=bx;exact ⟨by rw [cell_set_off (by decide),cell_set_off (by decide)];exact World.cell?_setCell_same _ _ _ z0,by rw [cell_set_off (by decide)];exact World.cell?_setCell_same _ _ _ ((cell_set_off (by decide)).trans z1),World.cell?_setCell_same _ _ _ ((cell_set_off (by decide)).trans ((cell_set_off (by decide)).trans z2)),((og.other (fun e=> nb.1 e.symm) _).other (fun e=> nb.1 e.symm) _).other (fun e=> nb.1 e.symm) _,((oh.other (fun e=> nb.2 e.symm) _).other (fun e=> nb.2 e.symm) _).other (fun e=> nb.2 e.symm) _,ne,nb,set3_ex hx hB _ _ _⟩
theorem IvB.last {w2 w7:World} {g h n:Nat} {bk:Int} (og:Own w7 w2.heap.size 3 g n (iv (fun _=> 0))) (oh:Own w7 w2.heap.size 3 h n (iv (fun _=> 0))) (ne:g≠h) (hx:Ex w2 w7):
  IvB w2 (w7.alloc (.cells #[.slice (some ⟨g,0,none⟩) n n,.slice (some ⟨h,0,none⟩) n n,.int .i64 bk] 26)) w7.heap.size g h n bk (fun _=> 0) (fun _=> 0):=
 ⟨by show World.cell? _ _=_;simp,by show World.cell? _ _=_;simp,by show World.cell? _ _=_;simp,og.alloc _,oh.alloc _,ne,by have:=og.lt;have:=oh.lt;omega,hx.alloc _⟩
theorem Inverse_any (w:World) (p m:Int) (ml:List Int) (mv:Value) (hmv:ISl w mv ml) (pl sl:List Int) (pv sv:Value) (hp:ISl w pv pl) (hs:ISl w sv sl) (fr:Int):
  Calls Tryz.prog 17 #[.agg #[.int .i64 p,.int .i64 m,mv],.agg #[pv,sv,.int .i64 fr]] w fun r w'=> MoR (invM p m ml pl sl fr) (monS p m ml pl.length pl sl fr) r w'∧Ex w w':=by
 obtain ⟨a0,a1,a2,ea⟩:=boxF_facts w p m mv;obtain ⟨b0,b1,b2,eb⟩:=boxMo_facts (w.alloc (.cells #[.int .i64 p,.int .i64 m,mv] 24)) pv sv fr;have bq:=BxM.new ((w.alloc (.cells #[.int .i64 p,.int .i64 m,mv] 24)).alloc (.cells #[pv,sv,.int .i64 fr] 26));have ec:Ex ((w.alloc (.cells #[.int .i64 p,.int .i64 m,mv] 24)).alloc (.cells #[pv,sv,.int .i64 fr] 26)) _:=(Ex.refl _).alloc (.cells #[.slice none 0 0,.slice none 0 0,.int .i64 0] 26);have a0:=(eb.trans ec).cell a0;have a1:=(eb.trans ec).cell a1;have a2:=(eb.trans ec).cell a2;have b0:=ec.cell b0;have b1:=ec.cell b1;have b2:=ec.cell b2;have hsz:(w.alloc (.cells #[.int .i64 p,.int .i64 m,mv] 24)).heap.size=w.heap.size + 1:=by simp
 have hsz2:((w.alloc (.cells #[.int .i64 p,.int .i64 m,mv] 24)).alloc (.cells #[pv,sv,.int .i64 fr] 26)).heap.size=w.heap.size + 1 + 1:=by simp
 rw [hsz] at b0 b1 b2;rw [hsz2] at bq;have HE:=hid_ ((ea.trans eb).trans ec);have HOP:=hid_ (eOpen_any _ p m ml mv (hmv.ex HE.out) pl.length pl sl pv sv (hp.ex HE.out) (hs.ex HE.out) fr);have HP:=hid_ (hp.ex HE.out);have HS:=hid_ (hs.ex HE.out);obtain ⟨ma,mc,rfl,_,_,_⟩:=hmv.open;obtain ⟨pa,pc,rfl,_,p2,p3⟩:=hp.open;obtain ⟨sa,sc,rfl,_,s2,s3⟩:=hs.open;unfold maxLen at p2 s2;obtain ⟨E,hE⟩:∃E,monS p m ml pl.length pl sl fr=E:=⟨_,rfl⟩;obtain ⟨M,hM⟩:∃M,invM p m ml pl sl fr=M:=⟨_,rfl⟩;have hMD:=hM;unfold invM at hMD;rw [hE] at hMD HOP;rw [hE,hM];have HME:=hid_ hE;clear hmv hp hs hE hsz hsz2 ea eb ec hM;go_enter Tryz.func17,Tryz.ntmps17
 go_wp2_with fail
 obtain ⟨q,hq⟩:∃q,w.heap.size=q:=⟨_,rfl⟩;rw [hq] at a0 a1 a2 b0 b1 b2 bq
 try simp only [hq]
 have HQ:=hid_ hq;clear hq;generalize ((w.alloc (.cells #[.int .i64 p,.int .i64 m,.slice ma ml.length mc] 24)).alloc (.cells #[.slice pa pl.length pc,.slice sa sl.length sc,.int .i64 fr] 26)).alloc (.cells #[.slice none 0 0,.slice none 0 0,.int .i64 0] 26)=w1 at *;have A1:=hid_ a1;have B0:=hid_ b0;have B1:=hid_ b1;have B2:=hid_ b2;have BQ:=hid_ bq;have HQS:=hid_ (show q + 1 + 1 < w1.heap.size from by first | exact World.block_lt_of_cell? w1 ⟨q + 1 + 1,0,none⟩ BQ.out.c0);have HQW:=hid_ (show w.heap.size≤q + 1 + 1 from by have:=HQ.out;omega);clear a0 a1 a2 b0 b1 b2 bq;refine HOP.out.mono ?_;rintro e w2 ⟨ho,hx2⟩;have HX2:=hid_ hx2;have d1:=hx2.cell A1.out;have e0:=hx2.cell B0.out;have e1:=hx2.cell B1.out;have e2:=hx2.cell B2.out;obtain ⟨q0,q1,q2,qf0,qf1,qf2⟩:=BQ.out.ex hx2;rcases ho with ⟨rfl,b,pn,mn,x0,rfl,rfl,rfl,hg,x1,x2'⟩ | ⟨h0,ptr,rfl⟩
 ·rw [if_neg (by decide),Int.toNat_natCast,Int.toNat_natCast] at hMD;obtain ⟨_,n1,n2,n3,n4,n5,n6,n7,_,n8⟩:=mon_ok HME.out;obtain ⟨fn,rfl⟩:∃fn:Nat,fr=fn:=⟨fr.toNat,by omega⟩;rw [Int.toNat_natCast] at hMD;have m8:=hg.sh.m8;have i1:IntKind.i64.wrap ((mn:Int) - (fn:Int))=(mn:Int) - (fn:Int):=IntWalk.i64_in _ (by omega);have i2:((mn:Int) - (fn:Int)).tmod (mn:Int)=((bckN mn fn:Nat):Int):=by
   rw [Int.tmod_eq_emod_of_nonneg (by omega)];unfold bckN;rw [Int.natCast_emod]
   congr 1
   omega
  have i3:¬mn=0:=by omega
  have i4:¬((mn:Int)=0):=by omega
  have hbk:bckN mn fn < mn:=Nat.mod_lt _ (by omega);obtain ⟨bk,hbk2⟩:∃bk,bckN mn fn=bk:=⟨_,rfl⟩;rw [hbk2] at i2 hbk hMD;have HG:=hid_ hg;have HXX:=hid_ (show 1≤x0∧x0 < pn ^ mn from ⟨x1,x2'⟩);have hsn:sl.length=pl.length:=by omega
  rw [hsn] at e1 ⊢;have hn64:pl.length≤64:=by omega
  have n8':facS (pn ^ mn) sl=0:=by simpa only [Int.toNat_natCast] using n8
  have HFA:=hid_ (fun i (hi:i < pl.length)=> fac_at (l:=sl) (i:=i) n8' (by omega));clear n8';have HRG:=hid_ (fun i (hi:i < pl.length)=> rngB_at n5 hi);have HGP:=hid_ (fun i (hi:i < pl.length)=> get_getD (l:=pl) hi);have HGS:=hid_ (fun i (hi:i < pl.length)=> get_getD (l:=sl) (i:=i) (by omega));have P3:=hid_ p3;have S3:=hid_ s3;rw [hsn] at S3;have HSN:=hid_ hsn;clear hg p3 s3 hx2 x1 x2' hbk2 hsn;go_wp2_with fail
  go_upto_region 5 with fail
  go_cut [9] from 30 to 42 (fun s9 wx=> ∃B g h:Nat,s9= .pointer (some ⟨B,0,none⟩)∧Hid (IvB w2 wx B g h pl.length bk (fun _=> 0) (fun _=> 0)))
  case first=>
   have HALL:=hid_ (fun (w':World) (h':Ex w2 w')=> (⟨h'.cell d1,h'.cell e2,h'⟩:w'.cell? ⟨q,1,none⟩=some (.int .i64 (mn:Int))∧w'.cell? ⟨q + 1,2,none⟩=some (.int .i64 (fn:Int))∧Ex w2 w'))
   go_region_held3 (fun w'=> w'.cell? ⟨q,1,none⟩=some (.int .i64 (mn:Int))∧w'.cell? ⟨q + 1,2,none⟩=some (.int .i64 (fn:Int))∧Ex w2 w')
    ((refine HALL.out _ ?_;repeat (first | with_reducible exact Ex.refl _ | with_reducible apply Ex.drew | with_reducible apply Ex.alloc | with_reducible refine Ex.trans ?_ hx7 | with_reducible refine Ex.trans ?_ hx6 | ((with_reducible refine Ex.setCell ?_ ?_ _);rotate_left;first | exact Nat.le_refl _ | (have e6:=hx6.size;have e7:=hx7.size;simp at e6 e7 ⊢;omega)))))
    (first | (have hk:=hown6;clear hk;refine upon_make_arr 22 3 (.int .i64 0) 8 Tryz.underlying22 infoInt rfl pl.length (by omega) (by unfold maxLen;omega) ?_;intro w7 hown7 hx7;(first | (have bx7:=(BxM.mk z0 z1 z2 zf0 zf1 zf2).ex hx7;clear z0 z1 z2 zf0 zf1 zf2;obtain ⟨z0,z1,z2,zf0,zf1,zf2⟩:=bx7) | (have bx7:=(BxM.new w6).ex hx7;obtain ⟨z0,z1,z2,zf0,zf1,zf2⟩:=bx7) | skip);go_simp) | (refine upon_make_arr 22 3 (.int .i64 0) 8 Tryz.underlying22 infoInt rfl pl.length (by omega) (by unfold maxLen;omega) ?_;intro w6 hown6 hx6;(first | (have bx6:=((BxM.new w2).ex (Ex.refl _).drew).ex hx6;obtain ⟨z0,z1,z2,zf0,zf1,zf2⟩:=bx6) | skip);go_simp))
   all_goals
    have X7:Ex w6 w7:=by first | exact hx7 | exact ((Ex.refl w6).alloc _).trans hx7
    have X6:Ex w2 w6:=by first | exact (Ex.refl w2).drew.trans hx6 | exact (((Ex.refl w2).alloc _).drew).trans hx6
    have e6:=hx6.size;have e7:=hx7.size;have o6:=hown6.ex X7;have o7:=hown7;simp at e6 e7 o6 o7;have l6:=hown6.lt;have l7:=hown7.lt;simp at l6 l7;replace o6:=o6.mono (b':=w2.heap.size) (by omega);replace o7:=o7.mono (b':=w2.heap.size) (by omega);go_wp2_with fail
    go_meet
    first
          | exact ⟨_,_,_,rfl,hid_ (IvB.last o6 o7 (by omega) (X6.trans X7))⟩
          | exact ⟨_,_,_,rfl,hid_ (IvB.last o7 o6 (by omega) (X6.trans X7))⟩
          | exact ⟨_,_,_,rfl,hid_ (IvB.fresh ⟨z0,z1,z2,zf0,zf1,zf2⟩ o6 o7 (by omega) (by omega) (X6.trans X7) (by omega))⟩
          | exact ⟨_,_,_,rfl,hid_ (IvB.fresh ⟨z0,z1,z2,zf0,zf1,zf2⟩ o7 o6 (by omega) (by omega) (X6.trans X7) (by omega))⟩
  case rest=>
   obtain ⟨B,g,h,rfl,hiv⟩:=hcut;have HGX:=hid_ (fun (w5:World) (h5:Ex w2 w5)=> Inv_any w5 (HG.out.ex h5) HXX.out.1 HXX.out.2);have HFX:=hid_ (fun (w5:World) (h5:Ex w2 w5) (y:Int)=> Frobenius_any w5 (HG.out.ex h5) y bk hbk);have HX02:=hid_ (HE.out.trans HX2.out);have D0:=hid_ e0;have D1:=hid_ e1;have D2:=hid_ e2;have HIV:=hid_ (show IvB w2 wc B g h pl.length bk (plc (piF pl) (fun i=> (i:Int)) 0) (plc (piF pl) (ivS pn mn ml sl bk) 0) from hiv.out);have f0:=hiv.out.ex.cell D0.out;have f1:=hiv.out.ex.cell D1.out;clear hiv hbk d1 e0 e1 e2 n8;go_wp2_with fail
   go_loopw [46] (fun i' wr=> ∃(i:Nat),i≤pl.length∧i'= .int .i64 i∧Hid (IvB w2 wr B g h pl.length bk (plc (piF pl) (fun i=> (i:Int)) i) (plc (piF pl) (ivS pn mn ml sl bk) i))) (fun i' _=> pl.length - (intOf i').toNat)
   case atStart=> exact ⟨0,by omega,rfl,HIV⟩
   case round=>
    clear HIV;obtain ⟨i,hi,rfl,hiv⟩:=hrel;by_cases hin:i < pl.length
    ·obtain ⟨pb,po,rfl,hpc⟩:=P3.out (by omega);obtain ⟨sb,so,rfl,hsc⟩:=S3.out (by omega);have hpr:=HRG.out i hin;have EXW:=hid_ (HX02.out.trans hiv.out.ex);obtain ⟨y,hy⟩:∃y,piF pl i=y:=⟨_,rfl⟩;have hyp:pl.getD i 0=(y:Int):=by rw [←hy];unfold piF;omega
     have hyN:y < pl.length:=by omega
     have hgp:=HGP.out i hin;rw [hyp] at hgp;have cp:=EXW.out.cell (hpc i _ hgp);obtain ⟨s,hs,hs1,hsq⟩:=HFA.out i hin;have hgs:=HGS.out i hin;rw [hs] at hgs;have cs:=EXW.out.cell (hsc i _ hgs);have j1:(0:Int)≤(i:Int):=by omega
     have j2:(i:Int) < (pl.length:Int):=by omega
     have j3:(0:Int)≤(y:Int):=by omega
     have j4:(y:Int) < (pl.length:Int):=by omega
     have HGW:=hid_ (HGX.out wr hiv.out.ex (s:Int));rw [kin_of hsq] at HGW;unfold invR at HGW;rw [if_neg (by omega)] at HGW;obtain ⟨u,hu⟩:∃u,kinv pn mn ml s=u:=⟨_,rfl⟩;have hul:u < pn ^ mn:=by rw [←hu];exact kinv_lt (by omega) _
     rw [hu] at HGW;have HFW:=hid_ (fun (w5:World) (h5:Ex w2 w5)=> by
      have:=HFX.out w5 h5 (u:Int);rw [kin_of hul] at this;exact this)
     obtain ⟨t,ht⟩:∃t,frb pn mn (lw ml) u bk=t:=⟨_,rfl⟩;rw [ht] at HFW;have HV1:=hid_ (show upd (plc (piF pl) (fun i=> (i:Int)) i) y (i:Int)=plc (piF pl) (fun i=> (i:Int)) (i + 1) from by
      show _=upd (plc (piF pl) (fun i=> (i:Int)) i) (piF pl i) _
      rw [hy])
     have HV2:=hid_ (show upd (plc (piF pl) (ivS pn mn ml sl bk) i) y (t:Int)=plc (piF pl) (ivS pn mn ml sl bk) (i + 1) from by
      show _=upd (plc (piF pl) (ivS pn mn ml sl bk) i) (piF pl i) (ivS pn mn ml sl bk i)
      rw [hy]
      congr 1
      unfold ivS;rw [hs,kin_of hsq,hu,ht])
     have k0:=hiv.out.b0;have k1:=hiv.out.b1;have k2:=hiv.out.b2;have g0:=hiv.out.ex.cell D0.out;have g1:=hiv.out.ex.cell D1.out;have H2:=hid_ hiv.out;have HYN:=hid_ hyN;clear hpr hy hyp hgp hs hgs hsq hul hu ht hpc hsc hiv;go_wp2_with fail
     refine HGW.out.mono ?_;rintro e w5 ⟨rfl,n5',rfl⟩;have X5:=hid_ ((Ex.refl wr).drewN n5');have H5:=hid_ (H2.out.later X5.out);have kf:=H5.out.o0.frz y;have kc:=H5.out.o0.cell HYN.out;have k0:=H5.out.b0;have H6:=hid_ (H5.out.set0 y (i:Int));clear cp cs f0 f1 g0 g1 k1 k2;go_wp2_with fail
     rw [HV1.out] at H6;generalize (wr.drewN n5').setCell ⟨g,y,none⟩ (.int .i64 (i:Int))=w6 at *;clear kf kc k0 H2 X5 H5;have HALL:=hid_ (fun (w7:World) (h7:Ex w6 w7)=> (⟨(H6.out.later h7).b1,(H6.out.later h7).b2⟩:w7.cell? ⟨B,1,none⟩=some (.slice (some ⟨h,0,none⟩) pl.length pl.length)∧w7.cell? ⟨B,2,none⟩=some (.int .i64 (bk:Int))));have HALS:=hid_ (fun (w7:World) (h7:Ex w6 w7)=> (⟨((H6.out.later h7).set1 y (t:Int)).b1,((H6.out.later h7).set1 y (t:Int)).b2⟩:(w7.setCell ⟨h,y,none⟩ (.int .i64 (t:Int))).cell? ⟨B,1,none⟩=some (.slice (some ⟨h,0,none⟩) pl.length pl.length)∧(w7.setCell ⟨h,y,none⟩ (.int .i64 (t:Int))).cell? ⟨B,2,none⟩=some (.int .i64 (bk:Int))));have G0:Ex w6 w6.drew:=(Ex.refl w6).drew
     go_region_held3 (fun w'=> w'.cell? ⟨B,1,none⟩=some (.slice (some ⟨h,0,none⟩) pl.length pl.length)∧w'.cell? ⟨B,2,none⟩=some (.int .i64 (bk:Int)))
      (first | with_reducible exact HALL.out _ G0 | with_reducible exact HALL.out _ X7 | with_reducible exact HALS.out _ X7)
      (first | (go_at_call 53;(with_reducible refine (HFW.out _ (H6.out.ex.trans G0)).mono ?_);rintro e w7 ⟨rfl,h7⟩;have X7:=G0.trans h7;clear h7;have co7:=(H6.out.later X7).o1.cell HYN.out;have cf7:=(H6.out.later X7).o1.frz y))
     go_wp2_with fail
     go_roundw
     case rel=> first | exact ⟨i + 1,by omega,by go_num,hid_ (HV2.out ▸ (H6.out.later X7).set1 y (t:Int))⟩ | ((repeat apply Exists.intro);exact ⟨⟨i + 1,by omega,by go_num,hid_ (HV2.out ▸ (H6.out.later X7).set1 y (t:Int))⟩,rfl⟩)
     case measure=> simp [intOf];omega
    ·obtain rfl:i=pl.length:=by omega
     have HIE:=hid_ hiv.out;have k0:=hiv.out.b0;have k1:=hiv.out.b1;have k2:=hiv.out.b2;have X0:=hid_ (HX02.out.trans hiv.out.ex);have HQB:=hid_ (show q + 1 + 1 < g∧q + 1 + 1 < h from by have:=hiv.out.o0.lt;have:=hiv.out.o1.lt;have:=HX2.out.size;have:=HQS.out;omega);obtain ⟨q0,q1,q2,qf0,qf1,qf2⟩:=BQ.out.ex (HX2.out.trans hiv.out.ex);clear hiv;go_wp2_with fail
     subst hMD;exact bodyPost_ret (v:= .tuple #[.agg #[.slice (some ⟨g,0,none⟩) pl.length pl.length,.slice (some ⟨h,0,none⟩) pl.length pl.length,.int .i64 bk],.int .i64 0]) (by simp [results,Tryz.results17,go_sem,q0,q1,q2]) rfl ⟨⟨_,_,rfl,set3_isl HIE.out.o0.isl (by intro X e;have e9:g=X:=Option.some.inj e;have:=HQB.out.1;omega) _ _ _,set3_isl HIE.out.o1.isl (by intro X e;have e9:h=X:=Option.some.inj e;have:=HQB.out.2;omega) _ _ _⟩,set3_ex X0.out HQW.out _ _ _⟩
 ·rw [if_pos h0] at hMD;subst hMD;have hb:(E !=0)=true:=by simpa using h0
  clear h0;go_wp2_with fail
  exact bodyPost_ret (v:= .tuple #[.agg #[.slice none 0 0,.slice none 0 0,.int .i64 0],.int .i64 E]) (by simp [results,Tryz.results17,go_sem,q0,q1,q2]) rfl ⟨⟨_,_,rfl,isl_nil _,isl_nil _⟩,set3_ex (HE.out.trans HX2.out) HQW.out _ _ _⟩
end Go.Proofs.YtgdmlmhpineibaaGreat
