/- Walk of equivalence.Refute. -/
import Derived.Test.YtgdmlmhpineibaaGreatZf17
import Derived.Test.YtgdmlmhpineibaaGreatZf18
import Derived.Test.YtgdmlmhpineibaaGreatZf22
import Derived.Test.YtgdmlmhpineibaaGreatZf30
import Derived.Test.YtgdmlmhpineibaaGreatZf36
namespace Go.Proofs.YtgdmlmhpineibaaGreat
set_option linter.unusedVariables false
set_option linter.unusedSimpArgs false
set_option maxRecDepth 100000
set_option maxHeartbeats 8000000
section
open Go.RowKit
structure BxR (w:World) (b:Nat):Prop where
 c0:w.cell? ⟨b,0,none⟩=some (.slice none 0 0)
 f0:w.frozen? ⟨b,0,none⟩=false
theorem BxR.new (w:World):BxR (w.alloc (.cells #[.slice none 0 0] 54)) w.heap.size:=⟨by simp,by simp⟩
theorem BxR.ex {w w':World} {b:Nat} (h:BxR w b) (hx:Ex w w'):BxR w' b:=⟨hx.cell h.c0,hx.frz h.c0 h.f0⟩
def RfR (es:List Rf) (e:Int) (r:Ending) (w':World):Prop:=∃ev,r= .returned (.tuple #[.agg #[ev],.int .i64 e])∧RSl w' ev es
def rftE (E:Int) (R:(Nat × List Nd) × Int):Int:=if E≠0 then E else if R.2=0 then 0 else if R.2=18 then 11 else R.2
def rftL (E:Int) (R:(Nat × List Nd) × Int):List Rf:=if E≠0 then [] else if R.2=0 then rfOf R.1.2 else []
theorem rft_env {w2:World} {p m n A NB RB b x0:Nat} {ml:List Int} {l1 l2:List (List Int)} {v1 v2:Value} (hg:GFat w2 b p m ml x0) (x1:1≤x0) (x2:x0 < p ^ m) (h1:MSl w2 v1 l1) (h2:MSl w2 v2 l2) (hn:n≤64) (r1:∀r∈l1,r.length=n) (r2:∀r∈l2,r.length=n) (k1:l1.length≤256) (k2:l2.length≤256):
  SrE p m ml l1 l2 n A b x0 v1 v2 (RSt w2 A NB RB b n v1 v2) (DM3 A NB RB) where
 stt:=RSt.stt
 pr:=fun s w h=> h.sw.pr
 gf:=fun s w h=> hg.ex h.sw.ex
 m1:=fun s w h=> h1.ex h.sw.ex
 m2:=fun s w h=> h2.ex h.sw.ex
 c11:=fun s w h=> ⟨h.sw.c11,h.sw.f11⟩
 le:=fun s w h=> ⟨h.sw.l1,h.sw.l2⟩
 seen:=fun s w h hs=> h.seen hs
 x1:=x1
 x2:=x2
 n64:=hn
 r1:=r1
 r2:=r2
 k1:=k1
 k2:=k2
theorem Refute_any (w:World) (c d:CdV) (m1 m2 v1 v2:Value) (hc:c.at w m1 v1) (hd:d.at w m2 v2) (tl sl:List Int) (tv sv:Value) (ht:ISl w tv tl) (hs:ISl w sv sl):
  Calls Tryz.prog 31 #[c.arg m1 v1,d.arg m2 v2,.agg #[tv,sv]] w fun r w'=> (∃e1 e2:Int,CodO c.p c.m c.ml c.n c.rows e1∧(e1=0→CodO d.p d.m d.ml d.n d.rows e2)∧RfR (rftL (stE e1 e2 (samF c.p c.m c.ml d.p d.m d.ml) c.n d.n tl sl (c.p.toNat ^ c.m.toNat)) (fndS c d tl sl)) (rftE (stE e1 e2 (samF c.p c.m c.ml d.p d.m d.ml) c.n d.n tl sl (c.p.toNat ^ c.m.toNat)) (fndS c d tl sl)) r w')∧Ex w w':=by
 obtain ⟨c0,c1,c2,c3,c4⟩:=boxC5 w c m1 v1;obtain ⟨d0,d1,d2,d3,d4⟩:=boxC5 (w.alloc (c.obj m1 v1)) d m2 v2;obtain ⟨b0,b1,e3,hz3⟩:=boxP_facts ((w.alloc (c.obj m1 v1)).alloc (d.obj m2 v2)) tv sv;have hbm:=BxR.new (((w.alloc (c.obj m1 v1)).alloc (d.obj m2 v2)).alloc (.cells #[tv,sv] 49));have hz1:(w.alloc (c.obj m1 v1)).heap.size=w.heap.size + 1:=by simp
 have hz2:((w.alloc (c.obj m1 v1)).alloc (d.obj m2 v2)).heap.size=w.heap.size + 1 + 1:=by simp
 have e1:=e_al w (c.obj m1 v1);have e2:=e_al (w.alloc (c.obj m1 v1)) (d.obj m2 v2);have e4:=e_al (((w.alloc (c.obj m1 v1)).alloc (d.obj m2 v2)).alloc (.cells #[tv,sv] 49)) (.cells #[.slice none 0 0] 54);rw [hz3,hz2] at hbm;rw [hz1] at d0 d1 d2 d3 d4;rw [hz2] at b0 b1;have hxw:=e1.trans (e2.trans (e3.trans e4));replace c0:=(e2.trans (e3.trans e4)).cell c0;replace c1:=(e2.trans (e3.trans e4)).cell c1;replace c2:=(e2.trans (e3.trans e4)).cell c2;replace c3:=(e2.trans (e3.trans e4)).cell c3;replace c4:=(e2.trans (e3.trans e4)).cell c4;replace d0:=(e3.trans e4).cell d0;replace d1:=(e3.trans e4).cell d1;replace d2:=(e3.trans e4).cell d2;replace d3:=(e3.trans e4).cell d3;replace d4:=(e3.trans e4).cell d4;replace b0:=e4.cell b0;replace b1:=e4.cell b1;obtain ⟨B,hB⟩:∃B,w.heap.size=B:=⟨_,rfl⟩;rw [hB] at c0 c1 c2 c3 c4 d0 d1 d2 d3 d4 b0 b1 hbm;have HST:=hid_ (start_any _ c d m1 m2 v1 v2 (hc.ex hxw) (hd.ex hxw) tl sl tv sv (ht.ex hxw) (hs.ex hxw));obtain ⟨ta,tc,rfl,-,t2,-⟩:=ht.open;obtain ⟨sa,sc,rfl,-,s2,-⟩:=hs.open;obtain ⟨x1,y1,rfl,-,z1,-⟩:=hc.g.open;obtain ⟨x2,y2,rfl,-,z2,-⟩:=hd.g.open;obtain ⟨x3,y3,rfl,-,z3,-⟩:=hc.m.open;obtain ⟨x4,y4,rfl,-,z4,-⟩:=hd.m.open;unfold maxLen at t2 s2 z1 z2 z3 z4;have HX:=hid_ hxw;have HC:=hid_ hc;have HD:=hid_ hd;have HT:=hid_ ht;have HS:=hid_ hs;have HBM:=hid_ hbm;have HWB:=hid_ hB;clear hc hd ht hs e1 e2 e3 e4 hz1 hz2 hz3 hxw hbm;unfold CdV.arg at HST ⊢;go_enter Tryz.func31,Tryz.ntmps31
 unfold CdV.obj at c0 c1 c2 c3 c4 d0 d1 d2 d3 d4 b0 b1 HX HBM HST;go_upto_region 1 with fail
 try simp only [hB]
 clear hB;generalize (((w.alloc (.cells #[.int .i64 c.p,.int .i64 c.m,.slice x3 c.ml.length y3,.int .i64 c.n,.slice x1 c.rows.length y1] 47)).alloc (.cells #[.int .i64 d.p,.int .i64 d.m,.slice x4 d.ml.length y4,.int .i64 d.n,.slice x2 d.rows.length y2] 47)).alloc (.cells #[.slice ta tl.length tc,.slice sa sl.length sc] 49)).alloc (.cells #[.slice none 0 0] 54)=w1 at *;have B0:=hid_ b0;have B1:=hid_ b1;go_wp2_with fail
 refine HST.out.mono ?_;rintro e w3 ⟨ho,hx3⟩;have HX3:=hid_ hx3;obtain ⟨e1,e2,ho1,ho2,ho⟩:=ho;have HO1:=hid_ ho1;have HO2:=hid_ ho2;clear c0 c1 c2 c3 c4 d0 d1 d2 d3 d4 hx3 ho1 ho2 HST b0 b1;obtain ⟨E,hE⟩:∃E,stE e1 e2 (samF c.p c.m c.ml d.p d.m d.ml) c.n d.n tl sl (c.p.toNat ^ c.m.toNat)=E:=⟨_,rfl⟩;rw [hE] at ho;have HE:=hid_ hE;rcases ho with ⟨h0,ptr,rfl⟩ | ⟨h0,w2,A,b,x0,pn,mn,nn,hp,hm,hnn,rfl,hx2,hg,hx01,hx02,hA,hx23,hpr,h11,hf11⟩
 ·have hb0:(E !=0)=true:=by simpa using h0
  obtain ⟨q0,qf0⟩:=HBM.out.ex HX3.out;have H0:=hid_ h0;clear h0 hE;go_wp2_with fail
  refine bodyPost_ret (v:= .tuple #[.agg #[.slice none 0 0],.int .i64 E]) (by simp [results,Tryz.results31,go_sem,q0]) rfl ⟨⟨e1,e2,HO1.out,HO2.out,?_⟩,(HX.out.trans HX3.out).setCell (p:=⟨B + 1 + 1 + 1,0,none⟩) (by rw [HWB.out];show B≤B + 1 + 1 + 1;omega) _⟩;rw [HE.out];unfold rftL rftE;rw [if_pos H0.out,if_pos H0.out];exact ⟨_,rfl,RSl.nil _⟩
 ·subst h0;obtain ⟨k1,k2,k3,k4,k5,k6,k7,k8,k9⟩:=stE_ok hE;subst k1;have ho2:=HO2.out rfl;subst k2;obtain ⟨kl1,kr1⟩:=codO_rows HO1.out;obtain ⟨kl2,kr2⟩:=codO_rows ho2;obtain ⟨-,kn1,kn2⟩:=codO_fld HO1.out;obtain ⟨NB,hNB⟩:∃B,w3.heap.size=B:=⟨_,rfl⟩;have hAlt:A < NB:=by rw [←hNB];exact World.block_lt_of_cell? _ _ h11
  have hxw2:=HX.out.trans hx2;have e5:=e_al w3 (.cells #[.slice none 0 0] 54);have n0:(w3.alloc (.cells #[.slice none 0 0] 54)).cell? ⟨NB,0,none⟩=some (.slice none 0 0):=by rw [←hNB];simp
  have nf0:(w3.alloc (.cells #[.slice none 0 0] 54)).frozen? ⟨NB,0,none⟩=false:=by rw [←hNB];simp
  have HENV:=hid_ (rft_env (p:=pn) (m:=mn) (n:=nn) (A:=A) (NB:=NB) (RB:=B + 1 + 1 + 1) hg hx01 hx02 (HC.out.g.ex hxw2) (HD.out.g.ex hxw2) (by omega) (fun r hr=> by have:=kr1 r hr;omega) (fun r hr=> by have:=kr2 r hr;omega) kl1 kl2);have hRB:B + 1 + 1 + 1 < w2.heap.size:=World.block_lt_of_cell? _ _ (HBM.out.ex hx2).c0;have hst0:RSt w2 A NB (B + 1 + 1 + 1) b nn (.slice x1 c.rows.length y1) (.slice x2 d.rows.length y2) (0, []) (w3.alloc (.cells #[.slice none 0 0] 54)):=
   ⟨⟨hx23.trans e5,hpr.ex e5,e5.cell h11,e5.frz h11 hf11,by simp,by simp,hA⟩,hAlt,hRB,⟨_, [],n0,World.ownsRow_nil _ _ _ _,rfl,fun i e mv h=> by simp [rfOf] at h⟩,nf0⟩
  have HS0:=hid_ hst0;have hw2s:w1.heap.size≤w2.heap.size:=hx2.size;have hold:∀(v:Value) (l:List Int) (_:True),ISl w v l→∀X,0 < l.length→v.ownBlock=some X→X < B:=fun v l _ h X hl hX=> by
   obtain ⟨a,cap,rfl,-,-,h5⟩:=h.open;obtain ⟨b',o,rfl,h6⟩:=h5 hl;injection hX with hX;have hX:b'=X:=hX;subst hX;have:=World.block_lt_of_cell? _ _ (h6 0 _ (get_getD hl));have h2:=HWB.out;simp only at this;omega
  have hpr1:∀(v:Value) (l:List Int),ISl w v l→PrS (DM3 A NB (B + 1 + 1 + 1)) (w3.alloc (.cells #[.slice none 0 0] 54)) v l:=fun v l h=> by
   have h2:=h.ex hxw2;have hk:Keeps (fun _ X=> w2.heap.size≤X) w2 (w3.alloc (.cells #[.slice none 0 0] 54)):=⟨(hx23.trans e5).size,fun X hX hn=> ⟨(hx23.trans e5).block X hX,hn⟩⟩;refine ⟨(h.ex hxw2).ex (hx23.trans e5),fun hl X hX hd=> ?_⟩;obtain ⟨a,cap,rfl,-,-,h5⟩:=h2.open;obtain ⟨b',o,rfl,h6⟩:=h5 (List.length_pos_iff.2 hl);injection hX with hX;have hX:b'=X:=hX;subst hX;obtain ⟨x,l',rfl⟩:=List.exists_cons_of_ne_nil hl;have hlt:b' < w2.heap.size:=World.block_lt_of_cell? _ _ (h6 0 x rfl);rcases hd with hd | hd | hd | ⟨ev,he1,he2⟩
   ·omega
   ·omega
   ·have:=hold _ _ trivial h;have:=this b' (List.length_pos_iff.2 hl) rfl;omega
   ·rw [n0] at he1;injection he1 with he1;subst he1;cases he2
  have HSR:=hid_ (search_rft HENV.out (.pointer (some ⟨NB,0,none⟩)) (fun s w' tl' sl' tv' sv' side msg mv h hl ht' hs' hm' hsl' h64 hml hne=> rft_note h hl ht' hs' hm' h64 hsl' hne) (nn - tl.length) (0, []) _ tl sl _ _ (by omega) (by omega) (by rw [←hnn];exact k7) (fun h=> absurd rfl h) hst0 (hpr1 _ _ HT.out) (hpr1 _ _ HS.out));have hR:srF pn mn c.ml c.rows d.rows nn (nn - tl.length) (0, []) tl sl=fndS c d tl sl:=by
   unfold fndS;rw [hp,hm,hnn];rfl
  rw [hR] at HSR;have q:=HBM.out.ex (hx2.trans (hx23.trans e5));have HB2:=hid_ (HBM.out.ex hx2);have b0:=(hx2.trans (hx23.trans e5)).cell B0.out;have b1:=(hx2.trans (hx23.trans e5)).cell B1.out;have HW2:=hid_ hxw2;have HS2:=hid_ (show B + 1 + 1 + 1 < w2.heap.size from World.block_lt_of_cell? _ _ HB2.out.c0);clear hRB hold hp hm hnn hx2 hg hx01 hx02 hA hx23 hpr h11 hf11 k3 k4 k5 k6 k7 k8 k9 ho2 kl1 kr1 kl2 kr2 kn1 kn2 hAlt hxw2 e5 n0 nf0 hst0 hw2s hpr1 hR HENV q hE;obtain ⟨R,hR⟩:∃R,fndS c d tl sl=R:=⟨_,rfl⟩;rw [hR] at HSR;have HRE:=hid_ hR;clear hR;go_wp2_with fail
  try simp only [hNB]
  generalize w3.alloc (.cells #[.slice none 0 0] 54)=w4 at *;clear hNB;refine HSR.out.mono ?_;rintro e w5 ⟨rfl,hs5,hk5⟩;have HS5:=hid_ hs5;have HX5:=hid_ hs5.sw.ex;obtain ⟨q0,qf0⟩:=HB2.out.ex HX5.out;have HMO:=hid_ (show ∀r w',RfR (rftL 0 R) (rftE 0 R) r w'→RfR (rftL (stE 0 0 (samF c.p c.m c.ml d.p d.m d.ml) c.n d.n tl sl (c.p.toNat ^ c.m.toNat)) (fndS c d tl sl)) (rftE (stE 0 0 (samF c.p c.m c.ml d.p d.m d.ml) c.n d.n tl sl (c.p.toNat ^ c.m.toNat)) (fndS c d tl sl)) r w' from fun r w' h=> by rw [HE.out,HRE.out];exact h);clear hs5 hk5 b0 b1 HSR HS0;obtain ⟨E2,hE2⟩:∃E,R.2=E:=⟨_,rfl⟩;have HE2:=hid_ hE2;simp only [hE2];by_cases h0:E2=0
  ·subst h0;obtain ⟨ev,mvs,n0,n1,n2,n3⟩:=HS5.out.en;obtain ⟨ea,ec,rfl⟩:=own_shape n1;have N1:=hid_ n1;have N2:=hid_ n2;have N3:=hid_ n3;have HFM:=hid_ (show rftL 0 R=rfOf R.1.2∧rftE 0 R=0 from by
    unfold rftL rftE;rw [HE2.out];exact ⟨rfl,rfl⟩)
   clear hE2 n1 n2 n3;go_wp2_with fail
   refine bodyPost_ret (v:= .tuple #[.agg #[.slice ea R.1.2.length ec],.int .i64 0]) (by simp [results,Tryz.results31,go_sem,q0]) rfl ⟨⟨0,0,HO1.out,fun _=> HO2.out trivial,HMO.out _ _ ?_⟩,(HW2.out.trans HX5.out).setCell (p:=⟨B + 1 + 1 + 1,0,none⟩) (by rw [HWB.out];show B≤B + 1 + 1 + 1;omega) _⟩;rw [HFM.out.1,HFM.out.2];refine ⟨_,rfl,mvs,by rw [rfOf_len];exact N2.out,?_,fun i e mv h1 h2=> ?_⟩
   ·rw [rfOf_len];exact Sl.own (ownsRow_setCell_ne (a:=⟨B + 1 + 1 + 1,0,none⟩) N1.out (fun e=> by have:=(N1.out.lt _ e).1;have:=HS5.out.ne;have:=HS5.out.rb;have:=HS5.out.sw.lb;simp only at *;omega) _)
   ·have hp:=N3.out i e mv h1 h2
    cases hm:e.msg with
    | nil=>
     rw [hm] at hp;obtain ⟨g1,a,cap,g2,g3,g4,g5⟩:=hp.1;exact ⟨g1,a,cap,g2,g3,g4,fun hn=> absurd hn (by simp)⟩
    | cons y l=>
     rw [hm] at hp;exact Sl.other hp.1 (fun X hX e2=> hp.2 (by simp) X hX (.inr (.inr (.inl e2)))) _
  ·have k0:(E2==0)=false:=by simpa using h0
   by_cases h18:E2=18
   ·subst h18;have HFM:=hid_ (show rftL 0 R= []∧rftE 0 R=11 from by
     unfold rftL rftE;rw [HE2.out];exact ⟨rfl,rfl⟩)
    clear hE2 h0;go_wp2_with fail
    refine bodyPost_ret (v:= .tuple #[.agg #[.slice none 0 0],.int .i64 11]) (by simp [results,Tryz.results31,go_sem,q0]) rfl ⟨⟨0,0,HO1.out,fun _=> HO2.out trivial,HMO.out _ _ ?_⟩,(HW2.out.trans HX5.out).setCell (p:=⟨B + 1 + 1 + 1,0,none⟩) (by rw [HWB.out];show B≤B + 1 + 1 + 1;omega) _⟩;rw [HFM.out.1,HFM.out.2];exact ⟨_,rfl,RSl.nil _⟩
   ·have k18:(E2==18)=false:=by simpa using h18
    have HFM:=hid_ (show rftL 0 R= []∧rftE 0 R=E2 from by
     unfold rftL rftE;rw [HE2.out];simp [h18,h0])
    clear hE2 h18 h0;go_wp2_with fail
    refine bodyPost_ret (v:= .tuple #[.agg #[.slice none 0 0],.int .i64 E2]) (by simp [results,Tryz.results31,go_sem,q0]) rfl ⟨⟨0,0,HO1.out,fun _=> HO2.out trivial,HMO.out _ _ ?_⟩,(HW2.out.trans HX5.out).setCell (p:=⟨B + 1 + 1 + 1,0,none⟩) (by rw [HWB.out];show B≤B + 1 + 1 + 1;omega) _⟩;rw [HFM.out.1,HFM.out.2];exact ⟨_,rfl,RSl.nil _⟩
end
section
open Go.RowKit
def EntR (p m N:Nat) (f:Nat→Int):Prop:=∀j,j < N→0≤f j∧f j < ((p ^ m:Nat):Int)
section
variable {p m:Nat} {ml:List Int} {N:Nat}
theorem redJ_addF (hp:1≤p) (x:Int) (u r:Nat→Int):redJ p m ml x u r=addF p m ml u (kneg p m (kin (p ^ m) x)) r:=by
 funext j;unfold redJ addF;rw [kneg_mul' hp]
theorem redI_dt (hp:2≤p) {u r:Nat→Int} {pl:Nat} {x:Nat→Int} (hx:dt p m ml N r x=0):dt p m ml N (redI p m ml u pl r) x=dt p m ml N u x:=by
 unfold redI;split
 ·rfl
 ·rw [redJ_addF (by omega),dt_add hp,hx,kmul_zero_r (by omega),kadd_zero (by omega) (dt_lt hp _ _)]
theorem redI_rng (hp:2≤p) {u r:Nat→Int} {pl:Nat} (hu:EntR p m N u):EntR p m N (redI p m ml u pl r):=by
 unfold redI;split
 ·exact hu
 ·intro j hj;unfold redJ;split
  ·exact hu j hj
  ·have:=kadd_lt (m:=m) (show 1≤p by omega) (kin (p ^ m) (u j)) (kneg p m (kmul p m (lw ml) (kin (p ^ m) (u pl)) (kin (p ^ m) (r j))));omega
theorem redK_dt (hp:2≤p) {a:Nat→Nat→Int} {pl:Nat→Nat} {v x:Nat→Int}:∀k,Sol p m ml N k a x→dt p m ml N (redK p m ml a pl v k) x=dt p m ml N v x
 | 0,_=> rfl
 | k + 1,h=> by
  show dt p m ml N (redI p m ml (redK p m ml a pl v k) (pl k) (a k)) x=_
  rw [redI_dt hp (h k (by omega))];exact redK_dt hp k fun i hi=> h i (by omega)
theorem redK_rng (hp:2≤p) {a:Nat→Nat→Int} {pl:Nat→Nat} {v:Nat→Int} (hv:EntR p m N v):∀k,EntR p m N (redK p m ml a pl v k)
 | 0=> hv
 | k + 1=> redI_rng hp (redK_rng hp hv k)
theorem redK_zer (hp:2≤p) (hm:1≤m) {n:Nat} {a:Nat→Nat→Int} {pl:Nat→Nat} {v:Nat→Int} (h:Ech N a pl n):∀k,k≤n→∀j,j < k→redK p m ml a pl v k (pl j)=0
 | 0,_,j,hj=> by omega
 | k + 1,hk,j,hj=> by
  show redI p m ml (redK p m ml a pl v k) (pl k) (a k) (pl j)=0
  unfold redI;split
  ·rename_i h0;by_cases e:j=k
   ·rw [e];exact h0
   ·exact redK_zer hp hm h k (by omega) j (by omega)
  ·unfold redJ;by_cases e:j=k
   ·rw [e,h.one k (by omega),if_neg (by decide),kin_one hp hm,kmul_one hp hm (kin_lt (Nat.pow_pos (by omega)) _),kadd_kneg (by omega)];rfl
   ·rw [h.zer k j (by omega) (by omega),if_pos rfl];exact redK_zer hp hm h k (by omega) j (by omega)
theorem fstI_neg {pr:Nat→Bool} {n:Nat}:fstI pr n < 0↔∀j,j < n→pr j=false:=by
 have h:=fstI_any pr n;constructor
 ·intro h0;rw [decide_eq_false (by omega)] at h;intro j hj
  cases e:pr j with
  | false=> rfl
  | true=>
   have:(List.range n).any pr=true:=List.any_eq_true.2 ⟨j,List.mem_range.2 hj,e⟩;rw [h] at this;cases this
 ·intro ha;rw [fstI_miss ha];decide
theorem fstI_at {pr:Nat→Bool} {n:Nat} (h:0≤fstI pr n):(fstI pr n).toNat < n∧pr (fstI pr n).toNat=true∧∀j,j < (fstI pr n).toNat→pr j=false:=by
 unfold fstI at h ⊢;split
 ·rename_i i hi;rw [List.find?_range_eq_some] at hi;refine ⟨by have:=List.mem_range.1 hi.2.1;simpa using this,by simpa using hi.1,fun j hj=> ?_⟩;have:=hi.2.2 j (by simpa using hj);simpa using this
 ·rename_i hn;rw [hn] at h;exact absurd h (by decide)
theorem lzI_neg {t:Nat} {v:Nat→Int}:lzI t v < 0↔∀j,j < t→v j=0:=by
 unfold lzI;rw [fstI_neg];exact ⟨fun h j hj=> by simpa using h j hj,fun h j hj=> by simpa using h j hj⟩
theorem lzI_at {t:Nat} {v:Nat→Int} (h:0≤lzI t v):(lzI t v).toNat < t∧v (lzI t v).toNat≠0:=by
 obtain ⟨h1,h2,-⟩:=fstI_at h;refine ⟨h1,?_⟩;have h3:(v (lzI t v).toNat !=0)=true:=h2;simpa using h3
structure SpOK (p m:Nat) (ml:List Int) (N k:Nat) (rows:Nat→Nat→Int) (e:EcS):Prop where
 ech:Ech N e.a e.pl e.n
 sol:∀x,Sol p m ml N e.n e.a x↔Sol p m ml N k rows x
theorem Sol.succ_iff {k:Nat} {rows:Nat→Nat→Int} {x:Nat→Int}:Sol p m ml N (k + 1) rows x↔Sol p m ml N k rows x∧dt p m ml N (rows k) x=0:=
 ⟨fun h=> ⟨fun i hi=> h i (by omega),h k (by omega)⟩,fun h i hi=> by
  by_cases e:i=k
  ·rw [e];exact h.2
  ·exact h.1 i (by omega)⟩
theorem spnS_ok (hp:2≤p) (hm:1≤m) (hF:IsF p m (lw ml)) {k:Nat} {rows:Nat→Nat→Int} {e:EcS} (h:SpOK p m ml N k rows e) (hr:EntR p m N (rows k)):SpOK p m ml N (k + 1) rows (spnS p m ml N e (rows k)):=by
 have hq0:0 < p ^ m:=Nat.pow_pos (by omega);have hrng:EntR p m N (e.red p m ml (rows k)):=redK_rng hp hr _;have hdt:∀x,Sol p m ml N e.n e.a x→dt p m ml N (e.red p m ml (rows k)) x=dt p m ml N (rows k) x:=fun x hx=> redK_dt hp _ hx;unfold spnS;split
 ·rename_i hz;obtain ⟨hz1,hz2⟩:=lzI_at hz;generalize hZ:(lzI N (e.red p m ml (rows k))).toNat=z at hz1 hz2;obtain ⟨r1,r2⟩:=hrng z hz1;have hk0:((kin (p ^ m) (e.red p m ml (rows k) z):Nat):Int)=e.red p m ml (rows k) z:=kin_code r1 r2;have hk1:1≤kin (p ^ m) (e.red p m ml (rows k) z):=by omega
  have hkl:kin (p ^ m) (e.red p m ml (rows k) z) < p ^ m:=kin_lt hq0 _;obtain ⟨c,hc⟩:∃c,ivz p m ml (kin (p ^ m) (e.red p m ml (rows k) z))=c:=⟨_,rfl⟩;have hcm:kmul p m (lw ml) c (kin (p ^ m) (e.red p m ml (rows k) z))=1:=by
   rw [←hc];unfold ivz;rw [if_neg (by omega),kmul_comm];exact kinv_mul hp hm hF hk1 hkl
  rw [hc];have hzr:∀j,j < e.n→e.red p m ml (rows k) (e.pl j)=0:=fun j hj=> redK_zer hp hm h.ech _ (Nat.le_refl _) j hj;have hpl:∀j,j < e.n→upd e.pl e.n z j=e.pl j:=fun j hj=> upd_ne _ _ (by omega);have hal:∀j,j < e.n→upd e.a e.n (sclF p m ml c (e.red p m ml (rows k))) j=e.a j:=fun j hj=> upd_ne _ _ (by omega);refine ⟨⟨fun i hi=> ?_,fun i hi=> ?_,fun i j hj hi=> ?_⟩,fun x=> ?_⟩
  ·simp only at hi ⊢;by_cases ei:i=e.n
   ·rw [ei,upd_same];exact hz1
   ·rw [hpl i (by omega)];exact h.ech.lt i (by omega)
  ·simp only at hi ⊢;by_cases ei:i=e.n
   ·rw [ei,upd_same,upd_same];show ((kmul p m (lw ml) c (kin (p ^ m) (e.red p m ml (rows k) z)):Nat):Int)=1
    rw [hcm];rfl
   ·rw [hpl i (by omega),hal i (by omega)];exact h.ech.one i (by omega)
  ·simp only at hi ⊢;rw [hpl j (by omega)];by_cases ei:i=e.n
   ·rw [ei,upd_same];show ((kmul p m (lw ml) c (kin (p ^ m) (e.red p m ml (rows k) (e.pl j))):Nat):Int)=0
    rw [hzr j (by omega),kin_zero,kmul_zero_r (by omega)];rfl
   ·rw [hal i (by omega)];exact h.ech.zer i j hj (by omega)
  ·simp only;rw [Sol.succ_iff (k:=e.n),Sol.succ_iff (k:=k),upd_same,dt_scl hp];have e1:Sol p m ml N e.n (upd e.a e.n (sclF p m ml c (e.red p m ml (rows k)))) x↔Sol p m ml N e.n e.a x:=
    ⟨fun h i hi=> by rw [←hal i hi];exact h i hi,fun h i hi=> by rw [hal i hi];exact h i hi⟩
   rw [e1];constructor
   ·rintro ⟨a1,a2⟩;refine ⟨(h.sol x).1 a1,?_⟩;rw [←hdt x a1];apply Classical.byContradiction;intro hne;have hcl:c≠0:=fun h0=> by
     rw [h0,kmul_zero (by omega)] at hcm;cases hcm
    have hcq:c < p ^ m:=by
     apply Classical.byContradiction;intro hge;rw [←hc] at hge;unfold ivz at hge;rw [if_neg (by omega)] at hge;exact hge (kinv_lt (by omega) _)
    have:=hF.ne_zero hp hm (a:=c) (b:=dt p m ml N (e.red p m ml (rows k)) x) (by omega) hcq (by omega) (dt_lt hp _ _);omega
   ·rintro ⟨a1,a2⟩;have a3:=(h.sol x).2 a1;exact ⟨a3,by rw [hdt x a3,a2,kmul_zero_r (by omega)]⟩
 ·rename_i hz;have h0:=lzI_neg.1 (Int.not_le.1 hz);refine ⟨h.ech,fun x=> ?_⟩;rw [Sol.succ_iff (k:=k),h.sol x];refine ⟨fun a=> ⟨a,?_⟩,fun a=> a.1⟩;rw [←hdt x ((h.sol x).2 a)];exact dt_zero hp h0
theorem spn_ok (hp:2≤p) (hm:1≤m) (hF:IsF p m (lw ml)) {rows:Nat→Nat→Int} {K:Nat} (hr:∀i,i < K→EntR p m N (rows i)):∀k,k≤K→SpOK p m ml N k rows (spn p m ml N rows k)
 | 0,_=> ⟨⟨fun i hi=> absurd hi (Nat.not_lt_zero i),fun i hi=> absurd hi (Nat.not_lt_zero i),fun i j _ hi=> absurd hi (Nat.not_lt_zero i)⟩,fun x=> ⟨fun _ i hi=> absurd hi (Nat.not_lt_zero i),fun _ i hi=> absurd hi (Nat.not_lt_zero i)⟩⟩
 | k + 1,hk=> spnS_ok hp hm hF (spn_ok hp hm hF hr k (by omega)) (hr k (by omega))
theorem SpOK.red_iff (hp:2≤p) (hm:1≤m) {k:Nat} {rows:Nat→Nat→Int} {e:EcS} (h:SpOK p m ml N k rows e) {v:Nat→Int} (hv:EntR p m N v):lzI N (e.red p m ml v) < 0↔Cl p m ml N k rows v:=by
 rw [lzI_neg];have hdt:∀x,Sol p m ml N e.n e.a x→dt p m ml N (e.red p m ml v) x=dt p m ml N v x:=fun x hx=> redK_dt hp _ hx;constructor
 ·intro h0 x hx;rw [←hdt x ((h.sol x).2 hx)];exact dt_zero hp h0
 ·intro hc j hj;have:=Ech.zero (ml:=ml) hp hm h.ech (fun i hi=> redK_zer hp hm h.ech _ (Nat.le_refl _) i hi) (fun x hx=> by
   show dt p m ml N (e.red p m ml v) x=0
   rw [hdt x hx];exact hc x ((h.sol x).1 hx)) hj
  obtain ⟨r1,r2⟩:=redK_rng (ml:=ml) (a:=e.a) (pl:=e.pl) hp hv e.n j hj;have e2:=kin_code r1 r2;rw [this] at e2;exact e2.symm
theorem misI_neg (hp:2≤p) (hm:1≤m) {k n:Nat} {rows l:Nat→Nat→Int} {e:EcS} (h:SpOK p m ml N k rows e) (hl:∀i,i < n→EntR p m N (l i)):misI p m ml N e l n < 0↔∀i,i < n→Cl p m ml N k rows (l i):=by
 unfold misI;rw [fstI_neg];constructor
 ·intro h0 i hi;have:=h0 i hi;rw [decide_eq_false_iff_not] at this;exact (h.red_iff hp hm (hl i hi)).1 (by omega)
 ·intro h0 i hi;rw [decide_eq_false_iff_not];have:=(h.red_iff hp hm (hl i hi)).2 (h0 i hi);omega
end
end
section
open Go.RowKit
theorem slot_at' {w:World} {v:Value} {l:List Int} (h:ISl w v l) {i:Nat} (hi:i < l.length):∃b o,(∃c,v= .slice (some ⟨b,o,none⟩) l.length c)∧w.cell? ⟨b,o + i,none⟩=some (.int .i64 (l.getD i 0)):=by
 obtain ⟨a,c,rfl,-,-,h3⟩:=h.open;obtain ⟨b,o,rfl,h4⟩:=h3 (by omega);exact ⟨b,o,⟨c,rfl⟩,h4 i _ (get_getD hi)⟩
theorem rMapped_any {p m:Nat} {ml:List Int} {mv:Value} (w:World) (hf:FSh p m ml) (hmv:ISl w mv ml) (tl sl x:List Int) (tv sv xv:Value) (ht:ISl w tv tl) (hs:ISl w sv sl) (hx:ISl w xv x) (hsl:sl.length=tl.length) (hxl:tl.length≤x.length) (N:Nat) (hN:tl.length=N) (hN2:N≤64):
  Calls Tryz.prog 147 #[.agg #[.int .i64 p,.int .i64 m,mv],.agg #[tv,sv],xv] w fun r w'=> ∃g,r= .returned (.slice (some ⟨g,0,none⟩) N N)∧Own w' w.heap.size 3 g N (iv (mpF p m ml sl (fun j=> x.getD j 0)))∧Ex w w':=by
 obtain ⟨a0,a1,a2,ea,asz⟩:=box_facts w p m mv;obtain ⟨b0,b1,eb,bsz⟩:=boxP_facts (w.alloc (.cells #[.int .i64 p,.int .i64 m,mv] 24)) tv sv;rw [asz] at b0 b1 bsz;replace a0:=eb.cell a0;replace a1:=eb.cell a1;replace a2:=eb.cell a2;have HE0:=hid_ (ea.trans eb);have HMU:=hid_ (fun (w':World) (h:Ex w w') (c y:Int)=> rMul_any w' hf (hmv.ex h) c y);have HSA:=hid_ (fun (w':World) (h:Ex w w') (i:Nat) (hi:i < N)=> slot_at' (hs.ex h) (i:=i) (by omega));have HXA:=hid_ (fun (w':World) (h:Ex w w') (i:Nat) (hi:i < N)=> slot_at' (hx.ex h) (i:=i) (by omega));obtain ⟨ma,mc,rfl,-,-,-⟩:=hmv.open;obtain ⟨ta,tc,rfl,t1,t2,-⟩:=ht.open;obtain ⟨sa,sc,rfl,s1,s2,-⟩:=hs.open;obtain ⟨xa,xc,rfl,x1,x2,-⟩:=hx.open;unfold maxLen at t2 s2 x2;have HL:=hid_ (show sl.length=N∧N≤x.length from ⟨by omega,by omega⟩);obtain ⟨B,hB⟩:∃B,w.heap.size=B:=⟨_,rfl⟩;rw [hB] at a0 a1 a2 b0 b1 bsz;rw [hN] at a0 a1 a2 b0 b1 bsz HE0 ⊢;clear hf hmv ht hs hx ea eb asz hsl hxl hN t1 s1 x1;obtain ⟨M,hM⟩:∃M,mpF p m ml sl (fun j=> x.getD j 0)=M:=⟨_,rfl⟩;rw [hM];have HMM:=hid_ (fun i:Nat=> show M i=((kmul p m (lw ml) (kin (p ^ m) (sl.getD i 0)) (kin (p ^ m) (x.getD i 0)):Nat):Int) from by rw [←hM];rfl);clear hM;go_enter Tryz.func147,Tryz.ntmps147
 go_upto_region 1 with fail
 try simp only [hB]
 have HBW:=hid_ hB;clear hB;generalize (w.alloc (.cells #[.int .i64 p,.int .i64 m,.slice ma ml.length mc] 24)).alloc (.cells #[.slice ta N tc,.slice sa sl.length sc] 49)=w1 at *;go_wp2_with (at_make;refine wpList_make_arr _ rfl _ _ 22 rfl 3 (.int .i64 0) 8 Tryz.underlying22 infoInt rfl _ N rfl rfl rfl (by omega) (by unfold maxLen;omega) ?_)
 intro w3 hown hx3
 try simp only [bsz] at hown ⊢
 obtain ⟨g,hgg⟩:∃g,B + 1 + 1=g:=⟨_,rfl⟩;have HO3:=hid_ (show Own w3 g 3 g N (iv fun j=> if j < 0 then M j else 0) from by rw [←hgg];exact hown.icongr (fun j _=> by simp))
 try simp only [hgg]
 have HX3:=hid_ hx3;have HGE:=hid_ (show w1.heap.size=g from by rw [←hgg];exact bsz);have HC:=hid_ (fun w' (h:Ex w1 w')=> (⟨h.cell a0,h.cell a1,h.cell a2,h.cell b0,h.cell b1⟩:_∧_∧_∧_∧_));clear hown hx3 a0 a1 a2 b0 b1 hgg bsz;obtain ⟨a0,a1,a2,b0,b1⟩:=HC.out w3 HX3.out;go_wp2_with fail
 clear a0 a1 a2 b0 b1
 go_loopw [8] (fun i' wr=> ∃(i:Nat),i≤N∧i'= .int .i64 i∧Hid (Own wr g 3 g N (iv fun j=> if j < i then M j else 0))∧Hid (Ex w1 wr)) (fun i' _=> N - (intOf i').toNat)
 case atStart=> exact ⟨0,by omega,rfl,HO3,HX3⟩
 case round=>
  clear HO3 HX3;obtain ⟨i,hi,rfl,hown,hex⟩:=hrel;obtain ⟨a0,a1,a2,b0,b1⟩:=HC.out wr hex.out;by_cases hin:i < N
  ·have EXW:=hid_ (HE0.out.trans hex.out);obtain ⟨sb,so,⟨c1,hs1⟩,hs2⟩:=HSA.out wr EXW.out i hin;obtain ⟨xb,xo,⟨c2,hx1⟩,hx2⟩:=HXA.out wr EXW.out i hin;injection hs1 with hs1 z1 z2;clear z1 z2;injection hx1 with hx1 z1 z2;clear z1 z2;subst hs1 hx1;obtain ⟨z,hz⟩:∃z,sl.getD i 0=z:=⟨_,rfl⟩;obtain ⟨y,hy⟩:∃z,x.getD i 0=z:=⟨_,rfl⟩;rw [hz] at hs2;rw [hy] at hx2;have i1:(0:Int)≤(i:Int):=by omega
   have i2:(i:Int) < (N:Int):=by omega
   have i3:(i:Int) < (sl.length:Int):=by have:=HL.out.1;omega
   have i4:(i:Int) < (x.length:Int):=by have:=HL.out.2;omega
   have HMW:=hid_ (fun (w5:World) (h5:Ex wr w5)=> HMU.out w5 (EXW.out.trans h5) z y);obtain ⟨u,hu⟩:∃u,kmul p m (lw ml) (kin (p ^ m) z) (kin (p ^ m) y)=u:=⟨_,rfl⟩;rw [hu] at HMW;have HMI:=hid_ (show M i=(u:Int) from by rw [HMM.out i,hz,hy,hu]);have HOW:=hid_ hown.out;have HEX:=hid_ hex.out;have HIN:=hid_ hin;have HOS:=hid_ (fun (w5:World) (h5:Ex wr w5)=> show Own (w5.setCell ⟨g,i,none⟩ (.int .i64 (u:Int))) g 3 g N (iv fun j=> if j < i + 1 then M j else 0) from by
    refine ((HOW.out.ex h5).set i (.int .i64 (u:Int))).congr fun j hj=> ?_;by_cases e:j=i
    ·subst e;rw [upd_same];show Value.int .i64 (u:Int)= .int .i64 (if j < j + 1 then M j else 0)
     rw [if_pos (by omega),HMI.out]
    ·rw [upd_ne _ _ e];show Value.int .i64 (if j < i then M j else 0)= .int .i64 (if j < i + 1 then M j else 0)
     by_cases h:j < i
     ·rw [if_pos h,if_pos (by omega)]
     ·rw [if_neg h,if_neg (by omega)])
   have HXS:=hid_ (fun (w5:World) (h5:Ex wr w5)=> (HOW.out.ex h5).exSet (a:=w1) (Nat.le_of_eq HGE.out) (HEX.out.trans h5) i (.int .i64 (u:Int)));have HSC:=hid_ hs2;have HXC:=hid_ hx2;have HCW:=hid_ (fun w' (h:Ex w1 w')=> (⟨(HC.out w' h).1,(HC.out w' h).2.1,(HC.out w' h).2.2.1,(HC.out w' h).2.2.2.2⟩:w'.cell? ⟨B,0,none⟩=some (.int .i64 (p:Int))∧w'.cell? ⟨B,1,none⟩=some (.int .i64 (m:Int))∧w'.cell? ⟨B,2,none⟩=some (.slice ma ml.length mc)∧w'.cell? ⟨B + 1,1,none⟩=some (.slice (some ⟨sb,so,none⟩) sl.length sc)));have HSW:=hid_ (fun (w5:World) (h5:Ex w w5)=> (⟨(HSA.out w5 h5 i HIN.out),(HXA.out w5 h5 i HIN.out)⟩:_∧_));have HALL:=hid_ (fun (w5:World) (h5:Ex wr w5)=> (⟨HCW.out w5 (HEX.out.trans h5),h5.cell HSC.out,h5.cell HXC.out⟩:(w5.cell? ⟨B,0,none⟩=some (.int .i64 (p:Int))∧w5.cell? ⟨B,1,none⟩=some (.int .i64 (m:Int))∧w5.cell? ⟨B,2,none⟩=some (.slice ma ml.length mc)∧w5.cell? ⟨B + 1,1,none⟩=some (.slice (some ⟨sb,so,none⟩) sl.length sc))∧w5.cell? ⟨sb,so + i,none⟩=some (.int .i64 z)∧w5.cell? ⟨xb,xo + i,none⟩=some (.int .i64 y)));have HALS:=hid_ (fun (w5:World) (h5:Ex wr w5)=> show ((w5.setCell ⟨g,i,none⟩ (.int .i64 (u:Int))).cell? ⟨B,0,none⟩=some (.int .i64 (p:Int))∧(w5.setCell ⟨g,i,none⟩ (.int .i64 (u:Int))).cell? ⟨B,1,none⟩=some (.int .i64 (m:Int))∧(w5.setCell ⟨g,i,none⟩ (.int .i64 (u:Int))).cell? ⟨B,2,none⟩=some (.slice ma ml.length mc)∧(w5.setCell ⟨g,i,none⟩ (.int .i64 (u:Int))).cell? ⟨B + 1,1,none⟩=some (.slice (some ⟨sb,so,none⟩) sl.length sc))∧(w5.setCell ⟨g,i,none⟩ (.int .i64 (u:Int))).cell? ⟨sb,so + i,none⟩=some (.int .i64 z)∧(w5.setCell ⟨g,i,none⟩ (.int .i64 (u:Int))).cell? ⟨xb,xo + i,none⟩=some (.int .i64 y) from by
    have hx9:=HXS.out w5 h5;refine ⟨HCW.out _ hx9,?_,?_⟩
    ·obtain ⟨b',o',⟨c',e'⟩,h'⟩:=(HSW.out _ (HE0.out.trans hx9)).1;injection e' with e' _ _;injection e' with e';injection e' with e1 e2 _;rw [e1,e2,h',hz]
    ·obtain ⟨b',o',⟨c',e'⟩,h'⟩:=(HSW.out _ (HE0.out.trans hx9)).2;injection e' with e' _ _;injection e' with e';injection e' with e1 e2 _;rw [e1,e2,h',hy])
   clear hs2 hx2 hz hy hu hown hex;go_wp2_with fail
   have G0:Ex wr wr.drew:=(Ex.refl wr).drew
   go_region_held3 (fun w'=> (w'.cell? ⟨B,0,none⟩=some (.int .i64 (p:Int))∧w'.cell? ⟨B,1,none⟩=some (.int .i64 (m:Int))∧w'.cell? ⟨B,2,none⟩=some (.slice ma ml.length mc)∧w'.cell? ⟨B + 1,1,none⟩=some (.slice (some ⟨sb,so,none⟩) sl.length sc))∧w'.cell? ⟨sb,so + i,none⟩=some (.int .i64 z)∧w'.cell? ⟨xb,xo + i,none⟩=some (.int .i64 y))
    (first | with_reducible exact HALL.out _ G0 | with_reducible exact HALL.out _ X6 | with_reducible exact HALS.out _ X6)
    ((go_at_call 60;(with_reducible refine (HMW.out _ G0).mono ?_);rintro e w6 ⟨rfl,h6⟩;have X6:=G0.trans h6;clear h6;have co6:=(HOW.out.ex X6).cell HIN.out;have cf6:=(HOW.out.ex X6).frz i))
   go_wp2_with fail
   go_roundw
   case rel=> first | exact ⟨i + 1,by omega,by go_num,hid_ (HOS.out _ X6),hid_ (HXS.out _ X6)⟩ | ((repeat apply Exists.intro);exact ⟨⟨i + 1,by omega,by go_num,hid_ (HOS.out _ X6),hid_ (HXS.out _ X6)⟩,rfl⟩)
   case measure=> simp [intOf];omega
  ·obtain rfl:N=i:=by omega
   have HO:=hid_ (show Own wr g 3 g N (iv M) from hown.out.icongr fun j hj=> by rw [if_pos hj]);go_wp2_with fail
   go_ret;exact ⟨g,rfl,HO.out.mono (by have:=HGE.out;have:=HBW.out;have:=HE0.out.size;omega),HE0.out.trans hex.out⟩
end
end Go.Proofs.YtgdmlmhpineibaaGreat
