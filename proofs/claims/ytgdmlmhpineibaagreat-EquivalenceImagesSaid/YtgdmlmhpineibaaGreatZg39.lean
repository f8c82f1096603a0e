/- Walk of equivalence.Find. -/
import Derived.Test.YtgdmlmhpineibaaGreatZg38
namespace Go.Proofs.YtgdmlmhpineibaaGreat
set_option linter.unusedVariables false
set_option linter.unusedSimpArgs false
set_option maxRecDepth 100000
set_option maxHeartbeats 8000000
open Go.RowKit
structure SrW (w2:World) (A b n:Nat) (v1 v2:Value) (s:Nat × List Nd) (w:World):Prop where
 ex:Ex w2 w
 pr:PrAt w A b n v1 v2
 c11:w.cell? ⟨A,11,none⟩=some (.int .i64 s.1)
 f11:w.frozen? ⟨A,11,none⟩=false
 l1:s.2.length≤s.1
 l2:s.1≤65536
 lb:w2.heap.size≤A
section
variable {w2 w w':World} {A b n:Nat} {v1 v2:Value} {s:Nat × List Nd}
theorem SrW.later (h:SrW w2 A b n v1 v2 s w) (hx:Ex w w'):SrW w2 A b n v1 v2 s w':=
 ⟨h.ex.trans hx,h.pr.ex hx,hx.cell h.c11,hx.frz h.c11 h.f11,h.l1,h.l2,h.lb⟩
theorem SrW.seen (h:SrW w2 A b n v1 v2 s w) (hs:s.1 < 65536):SrW w2 A b n v1 v2 (s.1 + 1,s.2) (w.setCell ⟨A,11,none⟩ (.int .i64 ((s.1:Int) + 1))):=
 ⟨h.ex.setCell (p:=⟨A,11,none⟩) h.lb _,⟨by rw [cell_set_off (by decide)];exact h.pr.c0,by rw [cell_set_off (by decide)];exact h.pr.c4,by rw [cell_set_off (by decide)];exact h.pr.c5,by rw [cell_set_off (by decide)];exact h.pr.c10⟩,by
  rw [World.cell?_setCell_same _ _ _ h.c11];simp,by rw [efrz_set];exact h.f11,by have:=h.l1;show s.2.length≤s.1 + 1;omega,by show s.1 + 1≤65536;omega,h.lb⟩
theorem SrW.other (h:SrW w2 A b n v1 v2 s w) {B j:Nat} (hB:B≠A) (hb:w2.heap.size≤B) (u:Value):SrW w2 A b n v1 v2 s (w.setCell ⟨B,j,none⟩ u):=
 ⟨h.ex.setCell (p:=⟨B,j,none⟩) hb _,⟨by rw [cell_setCell_ne hB];exact h.pr.c0,by rw [cell_setCell_ne hB];exact h.pr.c4,by rw [cell_setCell_ne hB];exact h.pr.c5,by rw [cell_setCell_ne hB];exact h.pr.c10⟩,by rw [cell_setCell_ne hB];exact h.c11,by rw [efrz_set];exact h.f11,h.l1,h.l2,h.lb⟩
theorem SrW.note (h:SrW w2 A b n v1 v2 s w) (hl:s.2.length < s.1) (x:Nd):SrW w2 A b n v1 v2 (s.1,s.2 ++ [x]) w:=
 ⟨h.ex,h.pr,h.c11,h.f11,by rw [List.length_append];show s.2.length + 1≤s.1;omega,h.l2,h.lb⟩
end
theorem keeps_set {DM:World→Nat→Prop} {w:World} {B j:Nat} {u:Value} (h:DM w B) (hi:∀X,DM (w.setCell ⟨B,j,none⟩ u) X→DM w X):Keeps DM w (w.setCell ⟨B,j,none⟩ u):=
 ⟨by simp,fun X hX hn=> ⟨Below.heap_setCell w ⟨B,j,none⟩ u X (fun e=> hn (by rw [e];exact h)),fun hd=> hn (hi X hd)⟩⟩
def DM2 (A NB:Nat):World→Nat→Prop:=fun _ X=> X=A∨X=NB
def lastN (L:List Nd):Nd:=L.getLast?.getD ⟨[], [],0, []⟩
theorem lastN_app (L:List Nd) (x:Nd):lastN (L ++ [x])=x:=by unfold lastN;simp
structure FSt (w2:World) (A NB b n:Nat) (v1 v2:Value) (s:Nat × List Nd) (w:World):Prop where
 sw:SrW w2 A b n v1 v2 s w
 ne:NB≠A
 lb:w2.heap.size≤NB
 nb:∃tv sv,w.cell? ⟨NB,0,none⟩=some tv∧w.cell? ⟨NB,1,none⟩=some sv∧PrS (DM2 A NB) w tv (lastN s.2).tl∧PrS (DM2 A NB) w sv (lastN s.2).sc
 f0:w.frozen? ⟨NB,0,none⟩=false
 f1:w.frozen? ⟨NB,1,none⟩=false
 ll:(lastN s.2).tl.length≤64∧(lastN s.2).sc.length≤64
section
variable {w2 w w':World} {A NB b n:Nat} {v1 v2:Value} {s:Nat × List Nd}
theorem FSt.stt:Stt (FSt w2 A NB b n v1 v2) (DM2 A NB) where
 ex:=fun s w w' h hx=> by
  obtain ⟨tv,sv,h1,h2,h3,h4⟩:=h.nb;have hk:Keeps (DM2 A NB) w w':=⟨hx.size,fun B hB hn=> ⟨hx.block B hB,hn⟩⟩;exact ⟨h.sw.later hx,h.ne,h.lb,⟨tv,sv,hx.cell h1,hx.cell h2,h3.keep hk,h4.keep hk⟩,hx.frz h1 h.f0,hx.frz h2 h.f1,h.ll⟩
 lt:=fun s w B h hd=> by
  rcases hd with rfl | rfl
  ·exact World.block_lt_of_cell? _ _ h.sw.c11
  ·obtain ⟨tv,sv,h1,-⟩:=h.nb;exact World.block_lt_of_cell? _ _ h1
 dx:=fun s w w' B h hx hd=> hd
theorem FSt.seen (h:FSt w2 A NB b n v1 v2 s w) (hs:s.1 < 65536):FSt w2 A NB b n v1 v2 (s.1 + 1,s.2) (w.setCell ⟨A,11,none⟩ (.int .i64 ((s.1:Int) + 1)))∧Keeps (DM2 A NB) w (w.setCell ⟨A,11,none⟩ (.int .i64 ((s.1:Int) + 1))):=by
 have hk:Keeps (DM2 A NB) w (w.setCell ⟨A,11,none⟩ (.int .i64 ((s.1:Int) + 1))):=keeps_set (.inl rfl) fun X h=> h;obtain ⟨tv,sv,h1,h2,h3,h4⟩:=h.nb;exact ⟨⟨h.sw.seen hs,h.ne,h.lb,⟨tv,sv,by rw [cell_setCell_ne (fun e=> h.ne e.symm)];exact h1,by rw [cell_setCell_ne (fun e=> h.ne e.symm)];exact h2,h3.keep hk,h4.keep hk⟩,by rw [efrz_set];exact h.f0,by rw [efrz_set];exact h.f1,h.ll⟩,hk⟩
theorem FSt.set (h:FSt w2 A NB b n v1 v2 s w) (hl:s.2.length < s.1) {tl sl msg:List Int} {side:Int} {tv sv:Value} (ht:PrS (DM2 A NB) w tv tl) (hs:PrS (DM2 A NB) w sv sl) (h64:tl.length≤64) (hsl:sl.length=tl.length):
  FSt w2 A NB b n v1 v2 (s.1,s.2 ++ [⟨tl,sl,side,msg⟩]) ((w.setCell ⟨NB,0,none⟩ tv).setCell ⟨NB,1,none⟩ sv)∧Keeps (DM2 A NB) w ((w.setCell ⟨NB,0,none⟩ tv).setCell ⟨NB,1,none⟩ sv):=by
 have hk:Keeps (DM2 A NB) w ((w.setCell ⟨NB,0,none⟩ tv).setCell ⟨NB,1,none⟩ sv):=(keeps_set (.inr rfl) fun X h=> h).trans (keeps_set (.inr rfl) fun X h=> h);obtain ⟨tv',sv',h1,h2,h3,h4⟩:=h.nb;refine ⟨⟨((h.sw.other h.ne h.lb tv).other h.ne h.lb sv).note hl _,h.ne,h.lb,⟨tv,sv,?_,?_,?_,?_⟩,by rw [efrz_set,efrz_set];exact h.f0,by rw [efrz_set,efrz_set];exact h.f1,by show (lastN (s.2 ++ [_])).tl.length≤64∧_;rw [lastN_app];exact ⟨h64,by rw [hsl];exact h64⟩⟩,hk⟩
 ·rw [cell_set_off (by decide)];exact World.cell?_setCell_same _ _ _ h1
 ·exact World.cell?_setCell_same _ _ _ (by rw [cell_set_off (by decide)];exact h2)
 ·show PrS _ _ tv (lastN (s.2 ++ [_])).tl
  rw [lastN_app];exact ht.keep hk
 ·show PrS _ _ sv (lastN (s.2 ++ [_])).sc
  rw [lastN_app];exact hs.keep hk
theorem fnd_note (h:FSt w2 A NB b n v1 v2 s w) (hl:s.2.length < s.1) {tl sl msg:List Int} {side:Int} {tv sv mv:Value} (ht:PrS (DM2 A NB) w tv tl) (hs:PrS (DM2 A NB) w sv sl) (h64:tl.length≤64) (hsl:sl.length=tl.length):
  Calls Tryz.prog 65 #[.agg #[tv,sv],.int .i64 side,mv,.pointer (some ⟨NB,0,none⟩)] w fun r w'=> (∃t,r= .returned t)∧FSt w2 A NB b n v1 v2 (s.1,s.2 ++ [⟨tl,sl,side,msg⟩]) w'∧Keeps (DM2 A NB) w w':=by
 obtain ⟨b0,b1,e1,-⟩:=boxP_facts w tv sv;have h1:=FSt.stt.ex _ _ _ h e1;have hk1:=FSt.stt.keeps h e1;obtain ⟨h2,hk2⟩:=h1.set hl (side:=side) (msg:=msg) (ht.keep hk1) (hs.keep hk1) h64 hsl;obtain ⟨tv',sv',c0,c1,-,-⟩:=h1.nb;have f0:=h1.f0;have f1:=h1.f1;obtain ⟨ta,tc,rfl,-,-,-⟩:=ht.1.open;obtain ⟨sa,sc,rfl,-,-,-⟩:=hs.1.open;have H2:=hid_ h2;have HK:=hid_ (hk1.trans hk2);clear h ht hs h1 hk1 h2 hk2 e1 hsl;go_enter Tryz.func65,Tryz.ntmps65
 go_wp2_with fail
 go_end0
 exact ⟨⟨_,rfl⟩,H2.out,HK.out⟩
end
theorem fnd_env {w2:World} {p m n A NB b x0:Nat} {ml:List Int} {l1 l2:List (List Int)} {v1 v2:Value} (hg:GFat w2 b p m ml x0) (x1:1≤x0) (x2:x0 < p ^ m) (h1:MSl w2 v1 l1) (h2:MSl w2 v2 l2) (hn:n≤64) (r1:∀r∈l1,r.length=n) (r2:∀r∈l2,r.length=n) (k1:l1.length≤256) (k2:l2.length≤256):
  SrE p m ml l1 l2 n A b x0 v1 v2 (FSt w2 A NB b n v1 v2) (DM2 A NB) where
 stt:=FSt.stt
 pr:=fun s w h=> h.sw.pr
 gf:=fun s w h=> hg.ex h.sw.ex
 m1:=fun s w h=> h1.ex h.sw.ex
 m2:=fun s w h=> h2.ex h.sw.ex
 c11:=fun s w h=> ⟨h.sw.c11,h.sw.f11⟩
 le:=fun s w h=> ⟨h.sw.l1,h.sw.l2⟩
 seen:=fun s w h hs=> h.seen hs
 x1:=x1
 x2:=x2
 n64:=hn
 r1:=r1
 r2:=r2
 k1:=k1
 k2:=k2
theorem codO_rows {p m:Int} {ml:List Int} {n:Int} {rows:List (List Int)} (h:CodO p m ml n rows 0):rows.length≤256∧∀r∈rows,(r.length:Int)=n:=by
 rcases h with ⟨_,h⟩ | ⟨_,h1,h2⟩ | ⟨h1,h2,h3⟩
 ·cases h
 ·exact absurd h2.symm h1
 ·rcases h3 with ⟨h3,h4⟩ | ⟨_,pn,mn,N,piv,a',_,_,e,_,hm,_⟩
  ·exact absurd h4.symm h3
  ·obtain ⟨_,_,s3,s4⟩:=mchk_shape hm;exact ⟨s3,fun r hr=> by rw [e];exact (s4 r hr).1⟩
theorem stE_ok {e1 e2:Int} {same:Bool} {n n':Int} {tl sl:List Int} {q:Nat} (h:stE e1 e2 same n n' tl sl q=0):e1=0∧e2=0∧same=true∧n=n'∧tl.length=sl.length∧(tl.length:Int)≤n∧rngB tl n=true∧dupB tl=false∧facS q sl=0:=by
 unfold stE at h;split at h
 ·rename_i h1;exact absurd h h1
 rename_i h1;split at h
 ·rename_i h2;exact absurd h h2
 rename_i h2;split at h
 ·cases h
 rename_i h3;split at h
 ·cases h
 rename_i h4;split at h
 ·rename_i h5;exact absurd h h5
 rename_i h5;have hi:injS tl n=0:=by omega
 unfold injS at hi;split at hi
 ·cases hi
 rename_i h6;split at hi
 ·cases hi
 rename_i h7;refine ⟨by omega,by omega,?_,?_,by omega,by omega,by cases hr:rngB tl n <;> simp_all,by cases hr:dupB tl <;> simp_all,h⟩
 ·cases hs:same with
  | true=> rfl
  | false=> exact absurd (.inl hs) h3
 ·by_cases e:n=n'
  ·exact e
  ·exact absurd (.inr e) h3
def fndS (c d:CdV) (tl sl:List Int):(Nat × List Nd) × Int:=srF c.p.toNat c.m.toNat c.ml c.rows d.rows c.n.toNat (c.n.toNat - tl.length) (0, []) tl sl
def fndE (E:Int) (R:(Nat × List Nd) × Int):Int:=if E≠0 then E else if R.2=18 then 0 else if R.2=0 then 11 else R.2
def fndM (E:Int) (R:(Nat × List Nd) × Int):MapV:=if E≠0 then ⟨[], [],0⟩ else if R.2=18 then ⟨(lastN R.1.2).tl,(lastN R.1.2).sc,0⟩ else ⟨[], [],0⟩
theorem Find_any (w:World) (c d:CdV) (m1 m2 v1 v2:Value) (hc:c.at w m1 v1) (hd:d.at w m2 v2) (tl sl:List Int) (tv sv:Value) (ht:ISl w tv tl) (hs:ISl w sv sl):
  Calls Tryz.prog 29 #[c.arg m1 v1,d.arg m2 v2,.agg #[tv,sv]] w fun r w'=> (∃e1 e2:Int,CodO c.p c.m c.ml c.n c.rows e1∧(e1=0→CodO d.p d.m d.ml d.n d.rows e2)∧MoR (fndM (stE e1 e2 (samF c.p c.m c.ml d.p d.m d.ml) c.n d.n tl sl (c.p.toNat ^ c.m.toNat)) (fndS c d tl sl)) (fndE (stE e1 e2 (samF c.p c.m c.ml d.p d.m d.ml) c.n d.n tl sl (c.p.toNat ^ c.m.toNat)) (fndS c d tl sl)) r w')∧Ex w w':=by
 obtain ⟨c0,c1,c2,c3,c4⟩:=boxC5 w c m1 v1;obtain ⟨d0,d1,d2,d3,d4⟩:=boxC5 (w.alloc (c.obj m1 v1)) d m2 v2;obtain ⟨b0,b1,e3,hz3⟩:=boxP_facts ((w.alloc (c.obj m1 v1)).alloc (d.obj m2 v2)) tv sv;have hbm:=BxM.new (((w.alloc (c.obj m1 v1)).alloc (d.obj m2 v2)).alloc (.cells #[tv,sv] 49));have hz1:(w.alloc (c.obj m1 v1)).heap.size=w.heap.size + 1:=by simp
 have hz2:((w.alloc (c.obj m1 v1)).alloc (d.obj m2 v2)).heap.size=w.heap.size + 1 + 1:=by simp
 have e1:=e_al w (c.obj m1 v1);have e2:=e_al (w.alloc (c.obj m1 v1)) (d.obj m2 v2);have e4:=e_al (((w.alloc (c.obj m1 v1)).alloc (d.obj m2 v2)).alloc (.cells #[tv,sv] 49)) (.cells #[.slice none 0 0,.slice none 0 0,.int .i64 0] 26);rw [hz3,hz2] at hbm;rw [hz1] at d0 d1 d2 d3 d4;rw [hz2] at b0 b1;have hxw:=e1.trans (e2.trans (e3.trans e4));replace c0:=(e2.trans (e3.trans e4)).cell c0;replace c1:=(e2.trans (e3.trans e4)).cell c1;replace c2:=(e2.trans (e3.trans e4)).cell c2;replace c3:=(e2.trans (e3.trans e4)).cell c3;replace c4:=(e2.trans (e3.trans e4)).cell c4;replace d0:=(e3.trans e4).cell d0;replace d1:=(e3.trans e4).cell d1;replace d2:=(e3.trans e4).cell d2;replace d3:=(e3.trans e4).cell d3;replace d4:=(e3.trans e4).cell d4;replace b0:=e4.cell b0;replace b1:=e4.cell b1;obtain ⟨B,hB⟩:∃B,w.heap.size=B:=⟨_,rfl⟩;rw [hB] at c0 c1 c2 c3 c4 d0 d1 d2 d3 d4 b0 b1 hbm;have HST:=hid_ (start_any _ c d m1 m2 v1 v2 (hc.ex hxw) (hd.ex hxw) tl sl tv sv (ht.ex hxw) (hs.ex hxw));obtain ⟨ta,tc,rfl,-,t2,-⟩:=ht.open;obtain ⟨sa,sc,rfl,-,s2,-⟩:=hs.open;obtain ⟨x1,y1,rfl,-,z1,-⟩:=hc.g.open;obtain ⟨x2,y2,rfl,-,z2,-⟩:=hd.g.open;obtain ⟨x3,y3,rfl,-,z3,-⟩:=hc.m.open;obtain ⟨x4,y4,rfl,-,z4,-⟩:=hd.m.open;unfold maxLen at t2 s2 z1 z2 z3 z4;have HX:=hid_ hxw;have HC:=hid_ hc;have HD:=hid_ hd;have HT:=hid_ ht;have HS:=hid_ hs;have HBM:=hid_ hbm;have HWB:=hid_ hB;clear hc hd ht hs e1 e2 e3 e4 hz1 hz2 hz3 hxw hbm;unfold CdV.arg at HST ⊢;go_enter Tryz.func29,Tryz.ntmps29
 unfold CdV.obj at c0 c1 c2 c3 c4 d0 d1 d2 d3 d4 b0 b1 HX HBM HST;go_upto_region 1 with fail
 try simp only [hB]
 clear hB;generalize (((w.alloc (.cells #[.int .i64 c.p,.int .i64 c.m,.slice x3 c.ml.length y3,.int .i64 c.n,.slice x1 c.rows.length y1] 47)).alloc (.cells #[.int .i64 d.p,.int .i64 d.m,.slice x4 d.ml.length y4,.int .i64 d.n,.slice x2 d.rows.length y2] 47)).alloc (.cells #[.slice ta tl.length tc,.slice sa sl.length sc] 49)).alloc (.cells #[.slice none 0 0,.slice none 0 0,.int .i64 0] 26)=w1 at *;have B0:=hid_ b0;have B1:=hid_ b1;go_wp2_with fail
 refine HST.out.mono ?_;rintro e w3 ⟨ho,hx3⟩;have HX3:=hid_ hx3;obtain ⟨e1,e2,ho1,ho2,ho⟩:=ho;have HO1:=hid_ ho1;have HO2:=hid_ ho2;clear c0 c1 c2 c3 c4 d0 d1 d2 d3 d4 hx3 ho1 ho2 HST b0 b1;obtain ⟨E,hE⟩:∃E,stE e1 e2 (samF c.p c.m c.ml d.p d.m d.ml) c.n d.n tl sl (c.p.toNat ^ c.m.toNat)=E:=⟨_,rfl⟩;rw [hE] at ho;have HE:=hid_ hE;rcases ho with ⟨h0,ptr,rfl⟩ | ⟨h0,w2,A,b,x0,pn,mn,nn,hp,hm,hnn,rfl,hx2,hg,hx01,hx02,hA,hx23,hpr,h11,hf11⟩
 ·have hb0:(E !=0)=true:=by simpa using h0
  obtain ⟨q0,q1,q2,qf0,qf1,qf2⟩:=HBM.out.ex HX3.out;have H0:=hid_ h0;clear h0 hE;go_wp2_with fail
  refine bodyPost_ret (v:= .tuple #[.agg #[.slice none 0 0,.slice none 0 0,.int .i64 0],.int .i64 E]) (by simp [results,Tryz.results29,go_sem,q0,q1,q2]) rfl ⟨⟨e1,e2,HO1.out,HO2.out,?_⟩,set3_ex (HX.out.trans HX3.out) (by rw [HWB.out];omega) _ _ _⟩;rw [HE.out];unfold fndM fndE;rw [if_pos H0.out,if_pos H0.out];exact ⟨_,_,rfl,isl_nil _,isl_nil _⟩
 ·subst h0;obtain ⟨k1,k2,k3,k4,k5,k6,k7,k8,k9⟩:=stE_ok hE;subst k1;have ho2:=HO2.out rfl;subst k2;obtain ⟨kl1,kr1⟩:=codO_rows HO1.out;obtain ⟨kl2,kr2⟩:=codO_rows ho2;obtain ⟨-,kn1,kn2⟩:=codO_fld HO1.out;obtain ⟨NB,hNB⟩:∃B,w3.heap.size=B:=⟨_,rfl⟩;have hAlt:A < NB:=by rw [←hNB];exact World.block_lt_of_cell? _ _ h11
  have hxw2:=HX.out.trans hx2;have e5:=e_al w3 (.cells #[.slice none 0 0,.slice none 0 0] 49);obtain ⟨n0,n1,-,-⟩:=boxP_facts w3 (.slice none 0 0) (.slice none 0 0);have nf0:(w3.alloc (.cells #[.slice none 0 0,.slice none 0 0] 49)).frozen? ⟨NB,0,none⟩=false:=by rw [←hNB];simp
  have nf1:(w3.alloc (.cells #[.slice none 0 0,.slice none 0 0] 49)).frozen? ⟨NB,1,none⟩=false:=by rw [←hNB];simp
  rw [hNB] at n0 n1;have HENV:=hid_ (fnd_env (p:=pn) (m:=mn) (n:=nn) (A:=A) (NB:=NB) hg hx01 hx02 (HC.out.g.ex hxw2) (HD.out.g.ex hxw2) (by omega) (fun r hr=> by have:=kr1 r hr;omega) (fun r hr=> by have:=kr2 r hr;omega) kl1 kl2);have hst0:FSt w2 A NB b nn (.slice x1 c.rows.length y1) (.slice x2 d.rows.length y2) (0, []) (w3.alloc (.cells #[.slice none 0 0,.slice none 0 0] 49)):=
   ⟨⟨hx23.trans e5,hpr.ex e5,e5.cell h11,e5.frz h11 hf11,by simp,by simp,hA⟩,by omega,by omega,⟨_,_,n0,n1,⟨isl_nil _,fun h=> absurd rfl h⟩,⟨isl_nil _,fun h=> absurd rfl h⟩⟩,nf0,nf1,by decide⟩
  have HS0:=hid_ hst0;have hw2s:w1.heap.size≤w2.heap.size:=hx2.size;have hpr1:∀(v:Value) (l:List Int),ISl w v l→PrS (DM2 A NB) (w3.alloc (.cells #[.slice none 0 0,.slice none 0 0] 49)) v l:=fun v l h=> by
   have h2:=h.ex hxw2;have hk:Keeps (fun _ X=> w2.heap.size≤X) w2 (w3.alloc (.cells #[.slice none 0 0,.slice none 0 0] 49)):=⟨(hx23.trans e5).size,fun X hX hn=> ⟨(hx23.trans e5).block X hX,hn⟩⟩;refine ⟨(h.ex hxw2).ex (hx23.trans e5),fun hl X hX hd=> ?_⟩;obtain ⟨a,cap,rfl,-,-,h5⟩:=h2.open;obtain ⟨b',o,rfl,h6⟩:=h5 (List.length_pos_iff.2 hl);injection hX with hX;have hX:b'=X:=hX;subst hX;obtain ⟨x,l',rfl⟩:=List.exists_cons_of_ne_nil hl;have hlt:b' < w2.heap.size:=World.block_lt_of_cell? _ _ (h6 0 x rfl);rcases hd with hd | hd <;> omega
  have HSR:=hid_ (search_fnd HENV.out (.pointer (some ⟨NB,0,none⟩)) (fun s w' tl' sl' tv' sv' side msg mv h hl ht' hs' hm' hsl' h64 hml hne=> fnd_note h hl ht' hs' h64 hsl') (nn - tl.length) (0, []) _ tl sl _ _ (by omega) (by omega) (by rw [←hnn];exact k7) (fun h=> absurd rfl h) hst0 (hpr1 _ _ HT.out) (hpr1 _ _ HS.out));have hR:srF pn mn c.ml c.rows d.rows nn (nn - tl.length) (0, []) tl sl=fndS c d tl sl:=by
   unfold fndS;rw [hp,hm,hnn];rfl
  rw [hR] at HSR;have q:=HBM.out.ex (hx2.trans (hx23.trans e5));have HB2:=hid_ (HBM.out.ex hx2);have b0:=(hx2.trans (hx23.trans e5)).cell B0.out;have b1:=(hx2.trans (hx23.trans e5)).cell B1.out;have HW2:=hid_ hxw2;have HS2:=hid_ (show B + 1 + 1 + 1 < w2.heap.size from World.block_lt_of_cell? _ _ HB2.out.c0);clear hp hm hnn hx2 hg hx01 hx02 hA hx23 hpr h11 hf11 k3 k4 k5 k6 k7 k8 k9 ho2 kl1 kr1 kl2 kr2 kn1 kn2 hAlt hxw2 e5 n0 n1 nf0 nf1 hst0 hw2s hpr1 hR HENV q hE;obtain ⟨R,hR⟩:∃R,fndS c d tl sl=R:=⟨_,rfl⟩;rw [hR] at HSR;have HRE:=hid_ hR;clear hR;go_wp2_with fail
  try simp only [hNB]
  generalize w3.alloc (.cells #[.slice none 0 0,.slice none 0 0] 49)=w4 at *;clear hNB;refine HSR.out.mono ?_;rintro e w5 ⟨rfl,hs5,hk5⟩;have HS5:=hid_ hs5;have HX5:=hid_ hs5.sw.ex;obtain ⟨q0,q1,q2,qf0,qf1,qf2⟩:=HB2.out.ex HX5.out;have HMO:=hid_ (show ∀r w',MoR (fndM 0 R) (fndE 0 R) r w'→MoR (fndM (stE 0 0 (samF c.p c.m c.ml d.p d.m d.ml) c.n d.n tl sl (c.p.toNat ^ c.m.toNat)) (fndS c d tl sl)) (fndE (stE 0 0 (samF c.p c.m c.ml d.p d.m d.ml) c.n d.n tl sl (c.p.toNat ^ c.m.toNat)) (fndS c d tl sl)) r w' from fun r w' h=> by rw [HE.out,HRE.out];exact h);clear hs5 hk5 b0 b1 HSR HS0;obtain ⟨E2,hE2⟩:∃E,R.2=E:=⟨_,rfl⟩;have HE2:=hid_ hE2;simp only [hE2];by_cases h18:E2=18
  ·subst h18;obtain ⟨tv9,sv9,n0,n1,hp0,hp1⟩:=HS5.out.nb;have hll:=HS5.out.ll;have HC0:=hid_ (fun (w':World) (h:Ex w5 w')=> CloneE_any w' _ tv9 (hp0.1.ex h) (by omega));have HC1:=hid_ (fun (w':World) (h:Ex w5 w')=> CloneE_any w' _ sv9 (hp1.1.ex h) (by omega));have HNB:=hid_ (show ∀w',Ex w5 w'→w'.cell? ⟨NB,0,none⟩=some tv9∧w'.cell? ⟨NB,1,none⟩=some sv9 from fun w' h=> ⟨h.cell n0,h.cell n1⟩);have HQ:=hid_ (show ∀w',Ex w5 w'→BxM w' (B + 1 + 1 + 1) from fun w' h=> HB2.out.ex (HX5.out.trans h));have HFM:=hid_ (show fndM 0 R=⟨(lastN R.1.2).tl,(lastN R.1.2).sc,0⟩∧fndE 0 R=0 from by
    unfold fndM fndE;rw [HE2.out];exact ⟨rfl,rfl⟩)
   obtain ⟨Lt,hLt⟩:∃l,(lastN R.1.2).tl=l:=⟨_,rfl⟩;obtain ⟨Ls,hLs⟩:∃l,(lastN R.1.2).sc=l:=⟨_,rfl⟩;rw [hLt] at HC0 HFM;rw [hLs] at HC1 HFM;clear hE2 hp0 hp1 hll hLt hLs q0 q1 q2 qf0 qf1 qf2;go_wp2_with fail
   have G0:Ex w5 w5.drew:=(Ex.refl w5).drew;have HWQ:=hid_ (show B + 1 + 1 + 1≠NB from by have:=HS5.out.lb;have:=HS2.out;omega)
   go_region_held3 (fun w'=> w'.cell? ⟨NB,0,none⟩=some tv9∧w'.cell? ⟨NB,1,none⟩=some sv9)
    (first | with_reducible exact HNB.out _ G0 | with_reducible exact HNB.out _ X6.out | with_reducible exact HNB.out _ X7.out | exact ⟨by rw [cell_setCell_ne HWQ.out,cell_setCell_ne HWQ.out,cell_setCell_ne HWQ.out];exact (HNB.out _ X7.out).1,by rw [cell_setCell_ne HWQ.out,cell_setCell_ne HWQ.out,cell_setCell_ne HWQ.out];exact (HNB.out _ X7.out).2⟩)
    (first | (go_at_call 66;(with_reducible refine (HC0.out _ G0).mono ?_);rintro e w6 ⟨u6,rfl,hu6,hb6,hx6⟩;have HU6:=hid_ hu6;have HB6:=hid_ hb6;obtain ⟨ua6,uc6,rfl,-,-,-⟩:=hu6.open;have X6:=hid_ (G0.trans hx6);clear hx6 hu6 hb6) | (go_at_call 66;(with_reducible refine (HC1.out _ X6.out).mono ?_);rintro e w7 ⟨u7,rfl,hu7,hb7,hx7⟩;have HU7:=hid_ hu7;have HB7:=hid_ hb7;obtain ⟨ua7,uc7,rfl,-,-,-⟩:=hu7.open;have X67:=hid_ hx7;have X7:=hid_ (X6.out.trans hx7);obtain ⟨q0,q1,q2,qf0,qf1,qf2⟩:=HQ.out _ X7.out;clear hx7 hu7 hb7))
   have HSZ:=hid_ (show B + 1 + 1 + 1 < w5.heap.size from by have:=HX5.out.size;have:=HS2.out;omega);have HSZ6:=hid_ X6.out.size;go_wp2_with fail
   refine bodyPost_ret (v:= .tuple #[.agg #[.slice ua6 Lt.length uc6,.slice ua7 Ls.length uc7,.int .i64 0],.int .i64 0]) (by simp [results,Tryz.results29,go_sem,q0,q1,q2]) rfl ⟨⟨0,0,HO1.out,fun _=> HO2.out trivial,HMO.out _ _ ?_⟩,set3_ex ((HW2.out.trans HX5.out).trans X7.out) (by rw [HWB.out];omega) _ _ _⟩;rw [HFM.out.1,HFM.out.2];refine ⟨_,_,rfl,set3_isl (HU6.out.ex X67.out) (fun X hX e=> ?_) _ _ _,set3_isl HU7.out (fun X hX e=> ?_) _ _ _⟩
   ·have:=HB6.out X hX;have h1:w5.drew.heap.size=w5.heap.size:=rfl;have:=HSZ.out;omega
   ·have:=HB7.out X hX;have:=HSZ.out;have:=HSZ6.out;omega
  ·have k18:(E2==18)=false:=by simpa using h18
   by_cases h0:E2=0
   ·subst h0;have HFM:=hid_ (show fndM 0 R=⟨[], [],0⟩∧fndE 0 R=11 from by
     unfold fndM fndE;rw [HE2.out];exact ⟨rfl,rfl⟩)
    clear hE2 h18;go_wp2_with fail
    refine bodyPost_ret (v:= .tuple #[.agg #[.slice none 0 0,.slice none 0 0,.int .i64 0],.int .i64 11]) (by simp [results,Tryz.results29,go_sem,q0,q1,q2]) rfl ⟨⟨0,0,HO1.out,fun _=> HO2.out trivial,HMO.out _ _ ?_⟩,set3_ex (HW2.out.trans HX5.out) (by rw [HWB.out];omega) _ _ _⟩;rw [HFM.out.1,HFM.out.2];exact ⟨_,_,rfl,isl_nil _,isl_nil _⟩
   ·have k0:(E2==0)=false:=by simpa using h0
    have HFM:=hid_ (show fndM 0 R=⟨[], [],0⟩∧fndE 0 R=E2 from by
     unfold fndM fndE;rw [HE2.out];simp [h18,h0])
    clear hE2 h18 h0;go_wp2_with fail
    refine bodyPost_ret (v:= .tuple #[.agg #[.slice none 0 0,.slice none 0 0,.int .i64 0],.int .i64 E2]) (by simp [results,Tryz.results29,go_sem,q0,q1,q2]) rfl ⟨⟨0,0,HO1.out,fun _=> HO2.out trivial,HMO.out _ _ ?_⟩,set3_ex (HW2.out.trans HX5.out) (by rw [HWB.out];omega) _ _ _⟩;rw [HFM.out.1,HFM.out.2];exact ⟨_,_,rfl,isl_nil _,isl_nil _⟩
end Go.Proofs.YtgdmlmhpineibaaGreat
