/- Walk of equivalence.Word. -/
import Derived.BigQuiet
import Derived.Test.YtgdmlmhpineibaaGreatZg26
import Derived.Test.YtgdmlmhpineibaaGreatZg27
namespace Go.Proofs.YtgdmlmhpineibaaGreat
set_option linter.unusedVariables false
set_option linter.unusedSimpArgs false
set_option maxRecDepth 100000
set_option maxHeartbeats 4000000
section
open Go.RowKit
def wrdE (p m:Int) (ml pl sl:List Int) (fr:Int) (x:List Int):Int:=
 if monS p m ml pl.length pl sl fr≠0 then monS p m ml pl.length pl sl fr else if x.length≠pl.length then 4 else if (x.any fun y=> !isB (p.toNat ^ m.toNat) y)=true then 2 else 0
def wrdL (p m:Int) (ml pl sl:List Int) (fr:Int) (x:List Int):List Int:=
 if wrdE p m ml pl sl fr x≠0 then [] else il x.length (imgF p.toNat m.toNat ml pl sl fr.toNat x x.length)
def WrdR (l:List Int) (e:Int) (r:Ending) (w':World):Prop:=∃v,r= .returned (.tuple #[v,.int .i64 e])∧ISl w' v l
theorem mon_ok {p m:Int} {ml:List Int} {n:Int} {pl sl:List Int} {fr:Int} (h:monS p m ml n pl sl fr=0):
  chkS p m ml=0∧1≤n∧n≤64∧(pl.length:Int)=n∧(sl.length:Int)=n∧rngB pl n=true∧0≤fr∧fr < m∧dupB pl=false∧facS (p.toNat ^ m.toNat) sl=0:=by
 unfold monS at h;split at h
 ·cases h
 rename_i h1;split at h
 ·cases h
 rename_i h2;split at h
 ·cases h
 rename_i h3;split at h
 ·cases h
 rename_i h4;split at h
 ·cases h
 rename_i h5;refine ⟨by simpa using h1,by omega,by omega,by omega,by omega,?_,by omega,by omega,by simpa using h5,h⟩
 cases hr:rngB pl n with
 | true=> rfl
 | false=> exact absurd (.inl hr) h4
section
variable {b p m x0:Nat} {ml:List Int}
theorem wrd1_any (w:World) (B:Nat) (hg:GFat w b p m ml x0) (x:Int) (c0:w.cell? ⟨B,0,none⟩=some (.pointer (some ⟨b,0,none⟩))):
  Calls Tryz.prog 48 #[.int .i64 x,.pointer (some ⟨B,0,none⟩)] w fun r w'=> r= .returned (.bool (!isB (p ^ m) x))∧Ex w w':=by
 have HI:=hid_ (Is_any w hg x);obtain ⟨z,hz⟩:∃z,isB (p ^ m) x=z:=⟨_,rfl⟩;rw [hz] at HI ⊢;clear hg hz;go_enter Tryz.func48,Tryz.ntmps48
 go_wp2_with (go_at_call 49;refine HI.out.mono ?_;rintro e w1 ⟨rfl,n1,rfl⟩)
 go_ret;exact ⟨rfl,(Ex.refl w).drewN _⟩
end
theorem Word_any (w:World) (p m:Int) (ml:List Int) (mv:Value) (hmv:ISl w mv ml) (pl sl:List Int) (pv sv:Value) (hp:ISl w pv pl) (hs:ISl w sv sl) (fr:Int) (x:List Int) (xv:Value) (hx:ISl w xv x):
  Calls Tryz.prog 15 #[.agg #[.int .i64 p,.int .i64 m,mv],.agg #[pv,sv,.int .i64 fr],xv] w fun r w'=> WrdR (wrdL p m ml pl sl fr x) (wrdE p m ml pl sl fr x) r w'∧Ex w w':=by
 obtain ⟨a0,a1,a2,ea⟩:=boxF_facts w p m mv;obtain ⟨b0,b1,b2,eb⟩:=boxMo_facts (w.alloc (.cells #[.int .i64 p,.int .i64 m,mv] 24)) pv sv fr;have a0:=eb.cell a0;have a1:=eb.cell a1;have a2:=eb.cell a2;have hsz:(w.alloc (.cells #[.int .i64 p,.int .i64 m,mv] 24)).heap.size=w.heap.size + 1:=by simp
 rw [hsz] at b0 b1 b2;have HE:=hid_ (ea.trans eb);have HOP:=hid_ (eOpen_any _ p m ml mv (hmv.ex HE.out) pl.length pl sl pv sv (hp.ex HE.out) (hs.ex HE.out) fr);have HP:=hid_ (hp.ex HE.out);have HS:=hid_ (hs.ex HE.out);have HXL:=hid_ (hx.ex HE.out);obtain ⟨ma,mc,rfl,_,_,_⟩:=hmv.open;obtain ⟨pa,pc,rfl,_,p2,_⟩:=hp.open;obtain ⟨sa,sc,rfl,_,s2,_⟩:=hs.open;obtain ⟨xa,xc,rfl,_,x2,_⟩:=hx.open;unfold maxLen at p2 s2 x2;obtain ⟨E,hE⟩:∃E,monS p m ml pl.length pl sl fr=E:=⟨_,rfl⟩;obtain ⟨W,hW⟩:∃W,wrdE p m ml pl sl fr x=W:=⟨_,rfl⟩;obtain ⟨L,hL⟩:∃L,wrdL p m ml pl sl fr x=L:=⟨_,rfl⟩;have hWD:=hW;unfold wrdE at hWD;rw [hE] at hWD HOP;have hLD:=hL;unfold wrdL at hLD;rw [hW] at hLD;rw [hW,hL];have HME:=hid_ hE;clear hmv hp hs hx hE hsz ea eb hW hL;go_enter Tryz.func15,Tryz.ntmps15
 go_wp2_with fail
 obtain ⟨q,hq⟩:∃q,w.heap.size=q:=⟨_,rfl⟩;rw [hq] at a0 a1 a2 b0 b1 b2
 try simp only [hq]
 clear hq;generalize (w.alloc (.cells #[.int .i64 p,.int .i64 m,.slice ma ml.length mc] 24)).alloc (.cells #[.slice pa pl.length pc,.slice sa sl.length sc,.int .i64 fr] 26)=w1 at *;have B0:=hid_ b0;have B1:=hid_ b1;have B2:=hid_ b2;clear a0 a1 a2 b0 b1 b2;refine HOP.out.mono ?_;rintro e w2 ⟨ho,hx2⟩;have HX2:=hid_ hx2;rcases ho with ⟨rfl,b,pn,mn,x0,rfl,rfl,rfl,hg,x1,x2'⟩ | ⟨h0,ptr,rfl⟩
 ·rw [if_neg (by decide),Int.toNat_natCast,Int.toNat_natCast] at hWD;rw [Int.toNat_natCast,Int.toNat_natCast] at hLD;obtain ⟨_,n1,n2,n3,n4,n5,n6,n7,_,_⟩:=mon_ok HME.out;obtain ⟨fn,rfl⟩:∃fn:Nat,fr=fn:=⟨fr.toNat,by omega⟩;rw [Int.toNat_natCast] at hLD;have ec:Ex w2 (w2.alloc (.cells #[.pointer (some ⟨b,0,none⟩)] 79)):=(Ex.refl _).alloc _;have c0:(w2.alloc (.cells #[.pointer (some ⟨b,0,none⟩)] 79)).cell? ⟨w2.heap.size,0,none⟩=some (.pointer (some ⟨b,0,none⟩)):=by simp
  have b0:=(hx2.trans ec).cell B0.out;have b1:=(hx2.trans ec).cell B1.out;have b2:=(hx2.trans ec).cell B2.out;have HX3:=hid_ (HE.out.trans (hx2.trans ec));have HG:=hid_ (hg.ex ec);have HP3:=hid_ (HP.out.ex (hx2.trans ec));have HS3:=hid_ (HS.out.ex (hx2.trans ec));have HX3':=hid_ (HXL.out.ex (hx2.trans ec));clear hg hx2 ec x1 x2';by_cases hl:x.length=pl.length
  ·have e1:((x.length:Int) !=(pl.length:Int))=false:=by simp;omega
   rw [if_neg (by simpa using hl)] at hWD;obtain ⟨w3,hw3⟩:∃w3,w2.alloc (.cells #[.pointer (some ⟨b,0,none⟩)] 79)=w3:=⟨_,rfl⟩;obtain ⟨B,hB⟩:∃B,w2.heap.size=B:=⟨_,rfl⟩;rw [hw3] at c0 b0 b1 b2 HX3 HG HP3 HS3 HX3';rw [hB] at c0;have hc:=ContainsFunc_wrd w3 (.pointer (some ⟨B,0,none⟩)) _ x.length (ints x) HX3'.out (fun j=> !isB (pn ^ mn) (x.getD j 0)) fun w1 i u hx hu=> by
    obtain ⟨y,_,rfl,hx2⟩:=ints_at hu;rw [hx2];exact wrd1_any w1 B (HG.out.ex hx) y (hx.cell c0)
   rw [any_getD x fun y=> !isB (pn ^ mn) y] at hc;have HC:=hid_ hc;have C0:=hid_ c0;have CB0:=hid_ b0;have CB1:=hid_ b1;have CB2:=hid_ b2;have HW3:=hid_ hw3;have HBB:=hid_ hB;obtain ⟨y,hy⟩:∃y,(x.any fun y=> !isB (pn ^ mn) y)=y:=⟨_,rfl⟩;rw [hy] at HC hWD;have HLN:=hid_ hl;clear hc hy hl c0 b1 b2 hw3 hB
   cases y with
   | true=>
    rw [if_pos rfl] at hWD;subst hWD;rw [if_pos (by decide)] at hLD;subst hLD;rw [←HW3.out] at b0;go_wp2_with fail
    rw [HBB.out,HW3.out];refine HC.out.mono ?_;rintro e w5 ⟨rfl,hx5⟩;go_wp2_with fail
    go_ret2;exact ⟨⟨_,rfl,isl_nil _⟩,HX3.out.trans hx5⟩
   | false=>
    rw [if_neg (by decide)] at hWD;subst hWD;rw [if_neg (by decide)] at hLD;subst hLD;rw [←HW3.out] at b0;go_wp2_with fail
    rw [HBB.out,HW3.out];refine HC.out.mono ?_;rintro e w5 ⟨rfl,hx5⟩;have c0:=hx5.cell C0.out;have b0:=hx5.cell CB0.out;have b1:=hx5.cell CB1.out;have b2:=hx5.cell CB2.out;have him:=image_any w5 (HG.out.ex hx5) x.length (by have:=HLN.out;omega) pl sl x _ _ _ (HP3.out.ex hx5) (HS3.out.ex hx5) (HX3'.out.ex hx5) fn (by omega) (by have:=HLN.out;omega) (by have:=HLN.out;omega) rfl (by rw [HLN.out];exact n5);have HIM:=hid_ him;have HX5:=hid_ (HX3.out.trans hx5);clear him hx5;go_wp2_with fail
    refine HIM.out.mono ?_;rintro e w6 ⟨g,rfl,ho6,hx6⟩;go_wp2_with fail
    go_ret2;exact ⟨⟨_,rfl,ho6.isl⟩,HX5.out.trans hx6⟩
  ·have e1:((x.length:Int) !=(pl.length:Int))=true:=by simp;omega
   rw [if_pos hl] at hWD;subst hWD;rw [if_pos (by decide)] at hLD;subst hLD;clear hl;go_wp2_with fail
   go_ret2;exact ⟨⟨_,rfl,isl_nil _⟩,HX3.out⟩
 ·rw [if_pos h0] at hWD;subst hWD;rw [if_pos h0] at hLD;subst hLD;have hb:(E !=0)=true:=by simpa using h0
  have b0:=hx2.cell B0.out;clear h0;go_wp2_with fail
  go_ret2;exact ⟨⟨_,rfl,isl_nil _⟩,(HE.out.trans hx2).alloc _⟩
end
section
open Go.RowKit
structure BxC (w:World) (b:Nat):Prop where
 c0:w.cell? ⟨b,0,none⟩=some (.int .i64 0)
 c1:w.cell? ⟨b,1,none⟩=some (.int .i64 0)
 c2:w.cell? ⟨b,2,none⟩=some (.slice none 0 0)
 c3:w.cell? ⟨b,3,none⟩=some (.int .i64 0)
 c4:w.cell? ⟨b,4,none⟩=some (.slice none 0 0)
 f0:w.frozen? ⟨b,0,none⟩=false
 f1:w.frozen? ⟨b,1,none⟩=false
 f2:w.frozen? ⟨b,2,none⟩=false
 f3:w.frozen? ⟨b,3,none⟩=false
 f4:w.frozen? ⟨b,4,none⟩=false
theorem BxC.new (w:World):BxC (w.alloc (.cells #[.int .i64 0,.int .i64 0,.slice none 0 0,.int .i64 0,.slice none 0 0] 47)) w.heap.size:=⟨by simp,by simp,by simp,by simp,by simp,by simp,by simp,by simp,by simp,by simp⟩
theorem BxC.ex {w w':World} {b:Nat} (h:BxC w b) (hx:Ex w w'):BxC w' b:=⟨hx.cell h.c0,hx.cell h.c1,hx.cell h.c2,hx.cell h.c3,hx.cell h.c4,hx.frz h.c0 h.f0,hx.frz h.c1 h.f1,hx.frz h.c2 h.f2,hx.frz h.c3 h.f3,hx.frz h.c4 h.f4⟩
@[reducible] def set5 (w:World) (q:Nat) (a b c d e:Value):World:=((((w.setCell ⟨q,0,none⟩ a).setCell ⟨q,1,none⟩ b).setCell ⟨q,2,none⟩ c).setCell ⟨q,3,none⟩ d).setCell ⟨q,4,none⟩ e
theorem set5_ex {w0 w:World} {q:Nat} (hx:Ex w0 w) (hq:w0.heap.size≤q) (a b c d e:Value):Ex w0 (set5 w q a b c d e):=
 ((((hx.setCell (p:=⟨q,0,none⟩) hq _).setCell (p:=⟨q,1,none⟩) hq _).setCell (p:=⟨q,2,none⟩) hq _).setCell (p:=⟨q,3,none⟩) hq _).setCell (p:=⟨q,4,none⟩) hq _
theorem set5_isl {w:World} {q:Nat} {v:Value} {l:List Int} (h:ISl w v l) (hq:∀B,v.ownBlock=some B→B≠q) (a b c d e:Value):ISl (set5 w q a b c d e) v l:=
 Sl.other (Sl.other (Sl.other (Sl.other (Sl.other h (fun B e=> hq B e) _) (fun B e=> hq B e) _) (fun B e=> hq B e) _) (fun B e=> hq B e) _) (fun B e=> hq B e) _
def OfR (p m:Int) (ml:List Int) (cols:Int) (v:Value) (e:Int) (r:Ending) (w':World) (base:Nat):Prop:=
 (e≠0∧r= .returned (.tuple #[.agg #[.int .i64 0,.int .i64 0,.slice none 0 0,.int .i64 0,.slice none 0 0],.int .i64 e]))∨
 (e=0∧∃v',r= .returned (.tuple #[.agg #[.int .i64 p,.int .i64 m,v',.int .i64 cols,v],.int .i64 0])∧ISl w' v' ml∧∀B,v'.ownBlock=some B→base≤B)
theorem codeOf_any (w:World) (p m:Int) (ml:List Int) (mv:Value) (hmv:ISl w mv ml) (hn:ml.length≤1000) (cols:Int) (rows:List (List Int)) (v:Value) (hv:MSl w v rows) (e:Int):
  Calls Tryz.prog 81 #[.agg #[.int .i64 p,.int .i64 m,mv],.agg #[.int .i64 cols,v],.int .i64 e] w fun r w'=> OfR p m ml cols v e r w' w.heap.size∧Ex w w':=by
 obtain ⟨g0,g1,g2,e0,gsz⟩:=box_facts w p m mv;have HOW:=hid_ (fun (w':World) (h:Ex w w')=> own_any w' p m ml mv (hmv.ex h) hn);obtain ⟨za,zc,rfl,-,z2,-⟩:=hv.open;unfold maxLen at z2;obtain ⟨ma,mc,rfl,-,m2,-⟩:=hmv.open;unfold maxLen at m2;obtain ⟨xb,hxb⟩:∃xb,w.heap.size=xb:=⟨_,rfl⟩;rw [hxb] at g0 g1 g2 gsz;clear hmv hv hn;go_enter Tryz.func81,Tryz.ntmps81
 by_cases h1:e=0
 ·subst h1;go_wp2_with fail
  generalize w.alloc (.cells #[.int .i64 p,.int .i64 m,.slice ma ml.length mc] 24)=wA at *;obtain ⟨a0,a1,ea⟩:=boxM2_facts wA cols (.slice za rows.length zc);have asz:(wA.alloc (.cells #[.int .i64 cols,.slice za rows.length zc] 113)).heap.size=xb + 1 + 1:=by simp [gsz]
  rw [gsz] at a0 a1;generalize wA.alloc (.cells #[.int .i64 cols,.slice za rows.length zc] 113)=wB at *;have bq:=BxC.new wB;rw [asz] at bq;have eb:Ex wB _:=(Ex.refl wB).alloc (.cells #[.int .i64 0,.int .i64 0,.slice none 0 0,.int .i64 0,.slice none 0 0] 47);have A0:=hid_ a0;have A1:=hid_ a1;have G0:=hid_ (ea.cell g0);have G1:=hid_ (ea.cell g1);have G2:=hid_ (ea.cell g2);have EB:=hid_ eb;have HQB:=hid_ (show wB.heap.size≤xb + 1 + 1 from Nat.le_of_eq asz);have BQ:=hid_ bq;have HE:=hid_ ((e0.trans ea).trans eb);have csz:(wB.alloc (.cells #[.int .i64 0,.int .i64 0,.slice none 0 0,.int .i64 0,.slice none 0 0] 47)).heap.size=xb + 1 + 1 + 1:=by simp [asz]
  generalize wB.alloc (.cells #[.int .i64 0,.int .i64 0,.slice none 0 0,.int .i64 0,.slice none 0 0] 47)=wC at *;clear g0 g1 g2 a0 a1 bq e0 ea eb asz gsz;have HXB:=hid_ hxb;have CSZ:=hid_ csz;clear hxb csz;have X0:Ex wC wC.drew:=(Ex.refl wC).drew;have HALL:=hid_ (fun (w':World) (h':Ex wB w')=> (⟨h'.cell G0.out,h'.cell G1.out,h'.cell G2.out,h'.cell A0.out,h'.cell A1.out⟩:w'.cell? ⟨xb,0,none⟩=some (.int .i64 p)∧w'.cell? ⟨xb,1,none⟩=some (.int .i64 m)∧w'.cell? ⟨xb,2,none⟩=some (.slice ma ml.length mc)∧w'.cell? ⟨xb + 1,0,none⟩=some (.int .i64 cols)∧w'.cell? ⟨xb + 1,1,none⟩=some (.slice za rows.length zc)));have HAL5:=hid_ (fun (w':World) (h':Ex wB w') (a b c d e:Value)=> HALL.out _ (set5_ex h' HQB.out a b c d e));have Y0:=hid_ (EB.out.trans X0)
  go_region_held3 (fun w'=> w'.cell? ⟨xb,0,none⟩=some (.int .i64 p)∧w'.cell? ⟨xb,1,none⟩=some (.int .i64 m)∧w'.cell? ⟨xb,2,none⟩=some (.slice ma ml.length mc)∧w'.cell? ⟨xb + 1,0,none⟩=some (.int .i64 cols)∧w'.cell? ⟨xb + 1,1,none⟩=some (.slice za rows.length zc))
   (first | with_reducible exact HALL.out _ Y5.out | with_reducible exact HAL5.out _ Y5.out _ _ _ _ _ | with_reducible exact HALL.out _ Y0.out)
   (first | (go_at_call 127;(with_reducible refine (HOW.out _ (HE.out.trans X0)).mono ?_);rintro e w5 ⟨v',rfl,hv',hb',h5⟩;have X5:=X0.trans h5;have Y5:=hid_ (EB.out.trans X5);obtain ⟨q0,q1,q2,q3,q4,qf0,qf1,qf2,qf3,qf4⟩:=BQ.out.ex X5;have HV5:=hid_ hv';have HB5:=hid_ hb';obtain ⟨va,vc,rfl,-,-,-⟩:=hv'.open;clear h5 hv' hb'))
  all_goals
   go_wp2_with fail
   have hsz:wC.drew.heap.size=xb + 1 + 1 + 1:=CSZ.out;have hwx:=HXB.out;exact bodyPost_ret (v:= .tuple #[.agg #[.int .i64 p,.int .i64 m,.slice va ml.length vc,.int .i64 cols,.slice za rows.length zc],.int .i64 0]) (by simp [results,Tryz.results81,go_sem,q0,q1,q2,q3,q4]) rfl ⟨.inr ⟨rfl,_,rfl,set5_isl HV5.out (fun B h=> by have:=HB5.out B h;omega) _ _ _ _ _,fun B h=> by have:=HB5.out B h;omega⟩,set5_ex (HE.out.trans X5) (by omega) _ _ _ _ _⟩
 ·have hb:(e !=0)=true:=by simpa using h1
  have HH:=hid_ h1;have ex1:=boxM2_facts (w.alloc (.cells #[.int .i64 p,.int .i64 m,.slice ma ml.length mc] 24)) cols (.slice za rows.length zc);have bsz:((w.alloc (.cells #[.int .i64 p,.int .i64 m,.slice ma ml.length mc] 24)).alloc (.cells #[.int .i64 cols,.slice za rows.length zc] 113)).heap.size=xb + 1 + 1:=by simp [gsz]
  have bq:=BxC.new ((w.alloc (.cells #[.int .i64 p,.int .i64 m,.slice ma ml.length mc] 24)).alloc (.cells #[.int .i64 cols,.slice za rows.length zc] 113));have HE:=hid_ ((e0.trans ex1.2.2).alloc (.cells #[.int .i64 0,.int .i64 0,.slice none 0 0,.int .i64 0,.slice none 0 0] 47));rw [bsz] at bq;obtain ⟨q0,q1,q2,q3,q4,qf0,qf1,qf2,qf3,qf4⟩:=bq;clear h1 ex1 g0 g1 g2 e0;go_wp2_with fail
  exact bodyPost_ret (v:= .tuple #[.agg #[.int .i64 0,.int .i64 0,.slice none 0 0,.int .i64 0,.slice none 0 0],.int .i64 e]) (by simp [results,Tryz.results81,go_sem,q0,q1,q2,q3,q4,hxb]) rfl ⟨.inl ⟨HH.out,rfl⟩,by first | exact HE.out | exact set5_ex HE.out (by omega) _ _ _ _ _⟩
end
section
open Go.RowKit
def disS (l:List Int) (n:Int):Int:=if rngB l n=true then 0 else 6
theorem rngB_of {l:List Int} {n:Int} (h:∀j,j < l.length→0≤l.getD j 0∧l.getD j 0 < n):rngB l n=true:=by
 unfold rngB;refine List.all_eq_true.2 fun x hx=> ?_;obtain ⟨j,hj,rfl⟩:=List.getElem_of_mem hx;have:=h j hj;rw [List.getD_eq_getElem?_getD,List.getElem?_eq_getElem hj] at this;exact decide_eq_true this
theorem rDist_any (w:World) (l:List Int) (v:Value) (hl:ISl w v l) (n:Int):
  Calls Tryz.prog 56 #[v,.int .i64 n] w fun r w'=> r= .returned (.int .i64 (disS l n))∧w=w':=by
 obtain ⟨a,cap,rfl,s1,s2,s3⟩:=hl.open;unfold maxLen at s2;have S3:=hid_ s3;have HD:=hid_ (show (∀j,j < l.length→0≤l.getD j 0∧l.getD j 0 < n)→disS l n=0 from fun h=> by unfold disS;rw [if_pos (rngB_of h)]);have HN:=hid_ (show ∀j,j < l.length→¬(0≤l.getD j 0∧l.getD j 0 < n)→disS l n=6 from fun j hj h=> by
  unfold disS;rw [if_neg fun hr=> h (rngB_at hr hj)])
 clear hl s3;go_enter Tryz.func56,Tryz.ntmps56
 go_wp2_with fail
 go_loop [5] (fun i'=> ∃(i:Nat),i≤l.length∧i'= .int .i64 i∧Hid (∀j,j < i→0≤l.getD j 0∧l.getD j 0 < n)) (fun i'=> l.length - (intOf i').toNat)
 case atStart=> exact ⟨0,by omega,rfl,hid_ (fun j h=> by omega)⟩
 case round=>
  obtain ⟨i,hi,rfl,hall⟩:=hrel;by_cases hlt:i < l.length
  ·obtain ⟨bb,o,rfl,hc⟩:=S3.out (by omega);have c1:=hc i _ (get_getD hlt);obtain ⟨x,hx⟩:∃x,l.getD i 0=x:=⟨_,rfl⟩;rw [hx] at c1;have HX:=hid_ hx;have HALL:=hid_ (show (0≤x∧x < n)→∀j,j < i + 1→0≤l.getD j 0∧l.getD j 0 < n from fun h j hj=> by
    by_cases e:j=i
    ·subst e;rw [hx];exact h
    ·exact hall.out j (by omega))
   have i1:(0:Int)≤(i:Int):=by omega
   have i2:(i:Int) < (l.length:Int):=by omega
   clear hc hx;by_cases h0:x < 0
   ·have HR:=hid_ (HN.out i hlt (by rw [HX.out];omega));have k0:decide (x < 0)=true:=by simpa using h0
    go_wp2_with fail
    go_ret;exact ⟨ret_int HR.out.symm,rfl⟩
   ·have k0:decide (x < 0)=false:=by simpa using h0
    by_cases h1:n≤x
    ·have HR:=hid_ (HN.out i hlt (by rw [HX.out];omega));have k1:decide (n≤x)=true:=by simpa using h1
     go_wp2_with fail
     go_ret;exact ⟨ret_int HR.out.symm,rfl⟩
    ·have HA:=hid_ (HALL.out ⟨by omega,by omega⟩);have k1:decide (n≤x)=false:=by simpa using h1
     go_wp2_with fail
     go_round
     case rel=> exact ⟨i + 1,by omega,by go_num,HA⟩
     case measure=> simp [intOf];omega
  ·obtain rfl:i=l.length:=by omega
   have HR:=hid_ (HD.out hall.out);go_wp2_with fail
   go_ret;exact ⟨ret_int HR.out.symm,rfl⟩
theorem dupB_iff {l:List Int}:dupB l=true↔∃i j,j < i∧i < l.length∧l.getD i 0=l.getD j 0:=by
 unfold dupB dupK;rw [List.any_eq_true];constructor
 ·rintro ⟨i,hi,h⟩;have hi:=List.mem_range.1 hi;rw [List.contains_iff_mem] at h;obtain ⟨j,hj,e⟩:=List.getElem_of_mem h;rw [List.length_take] at hj;refine ⟨i,j,by omega,hi,?_⟩;rw [←e,List.getElem_take,List.getD_eq_getElem?_getD,List.getElem?_eq_getElem (show j < l.length by omega)];rfl
 ·rintro ⟨i,j,h1,h2,h3⟩;refine ⟨i,List.mem_range.2 h2,?_⟩;rw [List.contains_iff_mem,h3];have hj:j < (l.take i).length:=by rw [List.length_take];omega
  have:=List.getElem_mem hj;rw [List.getElem_take] at this;rw [List.getD_eq_getElem?_getD,List.getElem?_eq_getElem (show j < l.length by omega)];exact this
theorem rTwice_any (w:World) (l:List Int) (v:Value) (hl:ISl w v l):
  Calls Tryz.prog 57 #[v] w fun r w'=> r= .returned (.bool (dupB l))∧Ex w w':=by
 obtain ⟨a,cap,rfl,s1,s2,s3⟩:=hl.open;unfold maxLen at s2;have S3:=hid_ s3;have HY:=hid_ (show ∀i j,j < i→i < l.length→l.getD i 0=l.getD j 0→dupB l=true from fun i j h1 h2 h3=> dupB_iff.2 ⟨i,j,h1,h2,h3⟩);have HN:=hid_ (show (∀i j,j < i→i < l.length→l.getD i 0≠l.getD j 0)→dupB l=false from fun h=> by
  cases hb:dupB l with
  | false=> rfl
  | true=> obtain ⟨i,j,h1,h2,h3⟩:=dupB_iff.1 hb;exact absurd h3 (h i j h1 h2))
 obtain ⟨D,hD⟩:∃D,dupB l=D:=⟨_,rfl⟩;rw [hD] at HY HN;rw [hD];clear hl s3 hD;go_enter Tryz.func57,Tryz.ntmps57
 go_wp2_with fail
 go_loopw [3,4] (fun i' _ wr=> ∃(i:Nat),i≤l.length∧i'= .int .i64 i∧Hid (∀k j,j < k→k < i→l.getD k 0≠l.getD j 0)∧Hid (Ex w wr)) (fun i' _ _=> l.length - (intOf i').toNat)
 case atStart=> exact ⟨0,by omega,rfl,hid_ (fun k j _ h=> by omega),hid_ (Ex.refl _)⟩
 case round=>
  obtain ⟨i,hi,rfl,hall,hex⟩:=hrel;by_cases hlt:i < l.length
  ·obtain ⟨bb,o,rfl,hc⟩:=S3.out (by omega);have c1:=hc i _ (get_getD hlt);obtain ⟨x,hx⟩:∃x,l.getD i 0=x:=⟨_,rfl⟩;rw [hx] at c1;have HX:=hid_ hx;have HC:=hid_ hc;have C1:=hid_ c1;have i1:(0:Int)≤(i:Int):=by omega
   have i2:(i:Int) < (l.length:Int):=by omega
   clear hc hx c1;obtain ⟨w8,h8⟩:∃w8,w8=wr:=⟨_,rfl⟩;rw [←h8] at hex ⊢;clear h8;go_wp2_with fail
   go_loopw [4] (fun j' wr=> ∃(j:Nat),j≤i∧j'= .int .i64 j∧Hid (∀k,k < j→x≠l.getD k 0)∧Hid (Ex w wr)) (fun j' _=> i - (intOf j').toNat)
   case atStart=> exact ⟨0,by omega,rfl,hid_ (fun k h=> by omega),hex⟩
   case round=>
    obtain ⟨j,hj,rfl,hal2,hex2⟩:=hrel;have c1:=hex2.out.cell C1.out;by_cases hji:j < i
    ·have c2:=hex2.out.cell (HC.out j _ (get_getD (by omega)));obtain ⟨y,hy⟩:∃y,l.getD j 0=y:=⟨_,rfl⟩;rw [hy] at c2;have HYY:=hid_ hy;have j1:(0:Int)≤(j:Int):=by omega
     have j2:(j:Int) < (l.length:Int):=by omega
     clear hy;by_cases hxy:x=y
     ·have hr:D=true:=HY.out i j hji hlt (by rw [HX.out,HYY.out,hxy]);subst hr;have kb:(x==y)=true:=by simpa using hxy
      clear hxy;go_upto_region 7 with fail
      go_quiet (fail)
      go_wp2_with fail
      go_ret;exact ⟨rfl,hex2.out.drewN _⟩
     ·have kb:(x==y)=false:=by simpa using hxy
      have HA:=hid_ (show ∀k,k < j + 1→x≠l.getD k 0 from fun k hk=> by
       by_cases e:k=j
       ·subst e;rw [HYY.out];exact hxy
       ·exact hal2.out k (by omega))
      clear hxy;go_upto_region 7 with fail
      go_quiet (fail)
      go_wp2_with fail
      go_roundw
      case rel=> exact ⟨j + 1,by omega,by go_num,HA,hid_ (hex2.out.drewN _)⟩
      case measure=> simp [intOf];omega
    ·obtain rfl:j=i:=by omega
     have HA:=hid_ (show ∀k m,m < k→k < j + 1→l.getD k 0≠l.getD m 0 from fun k m hm hk=> by
      by_cases e:k=j
      ·subst e;rw [HX.out];exact hal2.out m hm
      ·exact hall.out k m hm (by omega))
     go_wp2_with fail
     go_roundw
     case rel=> first | exact ⟨j + 1,by omega,by go_num,HA,hex2⟩ | ((repeat apply Exists.intro);exact ⟨⟨j + 1,by omega,by go_num,HA,hex2⟩,rfl⟩)
     case measure=> simp [intOf];omega
  ·obtain rfl:i=l.length:=by omega
   have hr:D=false:=HN.out fun k j h1 h2=> hall.out k j h1 h2;subst hr;go_wp2_with fail
   go_ret;exact ⟨rfl,hex.out⟩
section
variable {p m:Nat} {ml:List Int} {mv:Value}
theorem facS_ent {q:Nat} {l:List Int}:facS q l=if entS q l≠0 then entS q l else if l.contains 0=true then 7 else 0:=by
 unfold facS entS;have e:(l.any fun x=> !isB q x)=!(l.all fun x=> isB q x):=by rw [List.not_all_eq_any_not]
 rw [e];cases (l.all fun x=> isB q x) <;> simp
theorem rFac_any (w:World) (hf:FSh p m ml) (l:List Int) (v:Value) (hl:ISl w v l):
  Calls Tryz.prog 58 #[.agg #[.int .i64 p,.int .i64 m,mv],v] w fun r w'=> r= .returned (.int .i64 (facS (p ^ m) l))∧Ex w w':=by
 obtain ⟨d0,d1,d2,e0,hsz⟩:=box_facts w p m mv;have HE:=hid_ (rEntries_any (mv:=mv) _ hf l v (hl.ex e0));obtain ⟨a,cap,rfl,s1,s2,s3⟩:=hl.open;unfold maxLen at s2;have S3:=hid_ s3;have HF:=hid_ (facS_ent (q:=p ^ m) (l:=l));have HE0:=hid_ e0;obtain ⟨F,hF⟩:∃F,facS (p ^ m) l=F:=⟨_,rfl⟩;obtain ⟨E,hE⟩:∃E,entS (p ^ m) l=E:=⟨_,rfl⟩;rw [hF,hE] at HF;rw [hE] at HE;rw [hF];clear hl s3 hf hF hE e0 hsz;go_enter Tryz.func58,Tryz.ntmps58
 go_wp2_with fail
 generalize w.alloc (.cells #[.int .i64 p,.int .i64 m,mv] 24)=w1 at *;refine HE.out.mono ?_;rintro e w2 ⟨rfl,hx2⟩;have HX2:=hid_ (HE0.out.trans hx2);clear d0 d1 d2;by_cases he:E=0
 ·subst he;have HF2:=hid_ (show F=if l.contains 0=true then 7 else 0 from HF.out);clear hx2;go_wp2_with fail
  go_loop [6] (fun i'=> ∃(i:Nat),i≤l.length∧i'= .int .i64 i∧Hid (∀j,j < i→l.getD j 0≠0)) (fun i'=> l.length - (intOf i').toNat)
  case atStart=> exact ⟨0,by omega,rfl,hid_ (fun j h=> by omega)⟩
  case round=>
   obtain ⟨i,hi,rfl,hall⟩:=hrel;by_cases hlt:i < l.length
   ·obtain ⟨bb,o,rfl,hc⟩:=S3.out (by omega);have c1:=HX2.out.cell (hc i _ (get_getD hlt));have i1:(0:Int)≤(i:Int):=by omega
    have i2:(i:Int) < (l.length:Int):=by omega
    obtain ⟨x,hx⟩:∃x,l.getD i 0=x:=⟨_,rfl⟩;rw [hx] at c1;have HX:=hid_ hx;clear hc hx;by_cases h0:x=0
    ·subst h0;have HR:=hid_ (show F=7 from by
      rw [HF2.out,if_pos];rw [List.contains_iff_mem,←HX.out,List.getD_eq_getElem?_getD,List.getElem?_eq_getElem hlt];exact List.getElem_mem hlt)
     go_wp2_with fail
     go_ret;exact ⟨ret_int HR.out.symm,HX2.out⟩
    ·have kb:(x==0)=false:=by simpa using h0
     have HA:=hid_ (show ∀j,j < i + 1→l.getD j 0≠0 from fun j hj=> by
      by_cases e:j=i
      ·subst e;rw [HX.out];exact h0
      ·exact hall.out j (by omega))
     clear h0;go_wp2_with fail
     go_round
     case rel=> exact ⟨i + 1,by omega,by go_num,HA⟩
     case measure=> simp [intOf];omega
   ·obtain rfl:i=l.length:=by omega
    have HR:=hid_ (show F=0 from by
     rw [HF2.out,if_neg];intro h;rw [List.contains_iff_mem] at h;obtain ⟨j,hj,e⟩:=List.getElem_of_mem h;exact hall.out j hj (by rw [List.getD_eq_getElem?_getD,List.getElem?_eq_getElem hj];exact e))
    go_wp2_with fail
    go_ret;exact ⟨ret_int HR.out.symm,HX2.out⟩
 ·have HR:=hid_ (show F=E from by rw [HF.out,if_pos he]);have kb:(E !=0)=true:=by simpa using he
  clear hx2 he;go_wp2_with fail
  go_ret;exact ⟨ret_int HR.out.symm,HX2.out⟩
end
end
end Go.Proofs.YtgdmlmhpineibaaGreat
