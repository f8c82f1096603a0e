/- Plain: the image by the program and by the reference; images of words. -/
import Derived.Test.YtgdmlmhpineibaaGreatZg38
import Derived.Test.YtgdmlmhpineibaaGreatZg45
import Derived.Test.YtgdmlmhpineibaaGreatZg46
import Derived.Test.YtgdmlmhpineibaaGreatZg49
import Derived.Test.YtgdmlmhpineibaaGreatZg50
import Derived.Test.YtgdmlmhpineibaaGreatZg51
import Derived.Test.YtgdmlmhpineibaaGreatZg52
namespace Go.Proofs.YtgdmlmhpineibaaGreat
set_option linter.unusedVariables false
set_option linter.unusedSimpArgs false
set_option maxRecDepth 100000
set_option maxHeartbeats 8000000
section
open Go.RowKit
def ImO (c:CdV) (pl sl:List Int) (fr e:Int) (d:CdV):Prop:=
 ∃e1:Int,CodO c.p c.m c.ml c.n c.rows e1∧
  ((e1≠0∧e=e1∧d=⟨0,0, [],0, []⟩)∨(e1=0∧monS c.p c.m c.ml c.n pl sl fr≠0∧e=monS c.p c.m c.ml c.n pl sl fr∧d=⟨0,0, [],0, []⟩)∨
  (e1=0∧monS c.p c.m c.ml c.n pl sl fr=0∧e=0∧∃(p m N fn:Nat) (piv:List Nat) (a':Nat→Nat→Int),c.p=p∧c.m=m∧c.n=N∧fr=fn∧
    ElO p m c.ml N (imL p m c.ml pl sl fn N c.rows c.rows.length).length (rowsF (imL p m c.ml pl sl fn N c.rows c.rows.length)) a' piv∧d=⟨p,m,c.ml,N,rowsL N piv.length a'⟩))
theorem ImO.uniq {c:CdV} {pl sl:List Int} {fr e e':Int} {d d':CdV} (h:ImO c pl sl fr e d) (k:ImO c pl sl fr e' d'):e'=e∧d'=d:=by
 obtain ⟨e1,o1,h⟩:=h;obtain ⟨e2,o2,k⟩:=k;obtain rfl:=codO_uniq o1 o2;rcases h with ⟨h1,rfl,rfl⟩ | ⟨h1,h2,rfl,rfl⟩ | ⟨h1,h2,rfl,p,m,N,fn,piv,a',i1,i2,i3,i4,h3,rfl⟩
 ·rcases k with ⟨k1,rfl,rfl⟩ | ⟨k1,_⟩ | ⟨k1,_⟩
  ·exact ⟨rfl,rfl⟩
  ·exact absurd k1 h1
  ·exact absurd k1 h1
 ·rcases k with ⟨k1,_⟩ | ⟨_,_,rfl,rfl⟩ | ⟨_,k2,_⟩
  ·exact absurd h1 k1
  ·exact ⟨rfl,rfl⟩
  ·exact absurd k2 h2
 ·rcases k with ⟨k1,_⟩ | ⟨_,k2,_⟩ | ⟨_,_,rfl,q,m',N',fn',piv',a2,j1,j2,j3,j4,k3,rfl⟩
  ·exact absurd h1 k1
  ·exact absurd h2 k2
  ·obtain rfl:q=p:=by omega
   obtain rfl:m'=m:=by omega
   obtain rfl:N'=N:=by omega
   obtain rfl:fn'=fn:=by omega
   obtain ⟨_,_,_,_,g1,g2,g3,g4,-,-,hM⟩:=monOK_of h2;obtain rfl:_=q:=by have:=g1.symm.trans i1;exact Int.ofNat.inj this
   obtain rfl:_=m':=by have:=g2.symm.trans i2;exact Int.ofNat.inj this
   rw [(elO_uniq hM.hp hM.hm (fun x=> Iff.rfl) k3 h3).1];exact ⟨rfl,rfl⟩
def ImR (e:Int) (d:CdV) (r:Ending) (w':World):Prop:=∃mv rv,r= .returned (.tuple #[d.arg mv rv,.int .i64 e])∧d.at w' mv rv
theorem zero_at (w:World):(⟨0,0, [],0, []⟩:CdV).at w (.slice none 0 0) (.slice none 0 0):=⟨Sl.nil w 1, [],Sl.nil w 1,fun i r u h=> by simp at h⟩
theorem app_im {c:CdV} {pl sl:List Int} {fr:Int} {b0:Nat} {r:Ending} {w':World} (h:AppR c.p c.m c.ml c.n c.rows pl sl fr b0 r w'):∃e d,ImO c pl sl fr e d∧ImR e d r w':=by
 obtain ⟨e1,o1,h⟩:=h;rcases h with ⟨h1,rfl⟩ | ⟨h1,h2,rfl⟩ | ⟨rfl,h2,h3⟩
 ·exact ⟨e1,_,⟨e1,o1,.inl ⟨h1,rfl,rfl⟩⟩,_,_,rfl,zero_at w'⟩
 ·exact ⟨_,_,⟨e1,o1,.inr (.inl ⟨h1,h2,rfl,rfl⟩)⟩,_,_,rfl,zero_at w'⟩
 ·obtain ⟨p,m,N,fn,i1,i2,i3,i4,hf,hc0,hM⟩:=monOK_of h2;obtain ⟨cp,cm,cml,cn,crows⟩:=c;dsimp only at *;subst i1 i2 i3 i4;obtain ⟨piv,a',rv,v',rfl,h5,h6,h7⟩:=app_ok (b0:=b0) ⟨0,o1,.inr (.inr ⟨rfl,h2,h3⟩)⟩ o1 h2;exact ⟨0,_,⟨0,o1,.inr (.inr ⟨rfl,h2,rfl,p,m,N,fn,piv,a',rfl,rfl,rfl,rfl,h5,rfl⟩)⟩,_,_,rfl,⟨h6,h7⟩⟩
theorem rapp_im {c:CdV} {pl sl:List Int} {fr:Int} {r:Ending} {w':World} (h:RApR c.p c.m c.ml c.n c.rows pl sl fr r w'):∃e d,ImO c pl sl fr e d∧ImR e d r w':=by
 obtain ⟨e1,o1,h⟩:=h;rcases h with ⟨h1,rfl⟩ | ⟨h1,h2,rfl⟩ | ⟨rfl,h2,p,m,N,fn,piv,a',rv,v',i1,i2,i3,i4,rfl,h5,h6,h7⟩
 ·exact ⟨e1,_,⟨e1,o1,.inl ⟨h1,rfl,rfl⟩⟩,_,_,rfl,zero_at w'⟩
 ·exact ⟨_,_,⟨e1,o1,.inr (.inl ⟨h1,h2,rfl,rfl⟩)⟩,_,_,rfl,zero_at w'⟩
 ·exact ⟨0,_,⟨0,o1,.inr (.inr ⟨rfl,h2,rfl,p,m,N,fn,piv,a',i1,i2,i3,i4,h5,rfl⟩)⟩,_,_,rfl,⟨h6,h7⟩⟩
section
variable {p m N fr:Nat} {ml pl sl:List Int} {rows:List (List Int)}
theorem img_cl (h:MonOK p m ml pl sl fr N) (hpr:prB p=true) {x:List Int} (hx:Cl p m ml N rows.length (rowsF rows) fun j=> x.getD j 0):Cl p m ml N (imL p m ml pl sl fr N rows rows.length).length (rowsF (imL p m ml pl sl fr N rows rows.length)) (imgF p m ml pl sl fr x N):=fun y hy=> by
 rw [dt_img h hpr];have:=hx _ ((sol_img h hpr y).1 hy);rw [this];exact frb_zero h.hp h.hm fr
theorem vec_cl (hp:2≤p) (x:List Int):Cl p m ml N rows.length (rowsF rows) fun j=> (il N (vecF p m ml x rows rows.length)).getD j 0:=by
 refine (Cl.congr (v':=vecF p m ml x rows rows.length) fun j hj=> eil_getD hj _).2 fun y hy=> ?_;exact vecF_dt hp x rows y _ hy
theorem vec_ent (hp:2≤p) (x:List Int):entS (p ^ m) (il N (vecF p m ml x rows rows.length))=0:=entS_of fun y hy=> by
 unfold il at hy;obtain ⟨j,_,rfl⟩:=List.mem_map.1 hy;exact vecF_rng hp x rows _ j
theorem wrd_at (hm:monS p m ml N pl sl fr=0) {x:List Int} (hx:x.length=N) (he:entS (p ^ m) x=0):wrdE p m ml pl sl fr x=0∧wrdL p m ml pl sl fr x=il N (imgF p m ml pl sl fr x N):=by
 have hl:(pl.length:Int)=(N:Int):=(mon_ok hm).2.2.2.1;have key:wrdE p m ml pl sl fr x=0:=by
  unfold wrdE;rw [hl,if_neg (fun h=> h hm),if_neg (by omega)];have:=(lisE_zero (q:=p ^ m) (N:=N) (l:=x)).2 ⟨hx,he⟩;unfold lisE at this;rw [if_neg (by omega)] at this;exact this
 refine ⟨key,?_⟩;unfold wrdL;rw [if_neg (fun h=> h key),hx];simp only [Int.toNat_natCast]
end
theorem ImO.law {c:CdV} {pl sl:List Int} {fr:Int} {d:CdV} (h:ImO c pl sl fr 0 d) {x:List Int} {p m N:Nat} (h1:c.p=p) (h2:c.m=m) (h3:c.n=N):
  wrdE c.p c.m c.ml pl sl fr (il N (vecF p m c.ml x c.rows c.rows.length))=0∧∃y:List Int,wrdL c.p c.m c.ml pl sl fr (il N (vecF p m c.ml x c.rows c.rows.length))=y∧d.p=p∧d.m=m∧d.n=N∧CodO p m d.ml N d.rows 0∧y.length=N∧entS (p ^ m) y=0∧Cl p m d.ml N d.rows.length (rowsF d.rows) fun j=> y.getD j 0:=by
 obtain ⟨cp,cm,cml,cn,crows⟩:=c;dsimp only at *;subst h1 h2 h3;obtain ⟨e1,o1,h⟩:=h;rcases h with ⟨k1,k2,_⟩ | ⟨k1,k2,k3,_⟩ | ⟨rfl,h2,_,p',m',N',fn,piv,a',i1,i2,i3,i4,h3,rfl⟩
 ·exact absurd k2.symm k1
 ·exact absurd k3.symm k2
 ·dsimp only at *;obtain rfl:p'=p:=by omega
  obtain rfl:m'=m:=by omega
  obtain rfl:N'=N:=by omega
  subst i4;obtain ⟨_,_,_,_,g1,g2,g3,g4,hsh,hc0,hM⟩:=monOK_of h2;obtain rfl:=Int.ofNat.inj g1;obtain rfl:=Int.ofNat.inj g2;obtain rfl:=Int.ofNat.inj g3;obtain rfl:=Int.ofNat.inj g4;obtain ⟨hFB,_,_⟩:=codO_fld o1;obtain ⟨w1,w2⟩:=wrd_at h2 (il_len _ (vecF _ _ cml x crows crows.length)) (vec_ent hM.hp x);refine ⟨w1,_,w2,rfl,rfl,rfl,codO_can hFB hM.n1 hM.n2 (by rw [imL_len (Nat.le_refl _)];exact (codO_rows o1).1) h3,il_len _ _,imgF_ent hM,?_⟩;have hpr:prB p'=true:=by
   obtain ⟨a,b,h1,h2,_,h3,_⟩:=hFB;have e1:=Int.ofNat.inj h1;rw [←e1] at h3;exact h3
  refine (Cl.congr (v':=imgF p' m' cml pl sl fn (il N' (vecF p' m' cml x crows crows.length)) N') fun j hj=> eil_getD hj _).2 ?_;exact (cl_sol (fun y=> elO_sol hM.hp h3 y) _).2 (img_cl hM hpr (vec_cl hM.hp x))
end
section
open Go.RowKit
section
variable (w:World) (c:CdV) (m1 v1:Value) (hc:c.at w m1 v1) (pl ul:List Int) (pv uv:Value) (hp:ISl w pv pl) (hu:ISl w uv ul) (fr:Int)
include hc hp hu
theorem ApplyI_any:Calls Tryz.prog 38 #[c.arg m1 v1,.agg #[pv,uv,.int .i64 fr]] w fun r w'=> (∃e d,ImO c pl ul fr e d∧ImR e d r w')∧Ex w w':=
 (Apply_any w c.p c.m c.ml m1 hc.m c.n c.rows v1 hc.g pl ul pv uv hp hu fr).mono fun r w' ⟨h1,h2⟩=> ⟨app_im h1,h2⟩
theorem rApplyI_any:Calls Tryz.prog 43 #[c.arg m1 v1,.agg #[pv,uv,.int .i64 fr]] w fun r w'=> (∃e d,ImO c pl ul fr e d∧ImR e d r w')∧Ex w w':=
 (rApply_any w c.p c.m c.ml m1 hc.m c.n c.rows v1 hc.g pl ul pv uv hp hu fr).mono fun r w' ⟨h1,h2⟩=> ⟨rapp_im h1,h2⟩
end
theorem EquivalenceImages_any (w:World) (c:CdV) (m1 v1:Value) (hc:c.at w m1 v1) (pv uv:Value) (pl ul:List Int) (fr:Int) (hp:ISl w pv pl) (hu:ISl w uv ul) (xl:List Int) (xv:Value) (hx:ISl w xv xl):
  Calls Tryz.prog 11 #[c.arg m1 v1,.agg #[pv,uv,.int .i64 fr],xv] w fun r w'=> r= .returned (.bool true)∧Ex w w':=by
 obtain ⟨c0,c1,c2,c3,c4⟩:=boxC5 w c m1 v1;obtain ⟨b0,b1,b2,e2⟩:=boxMo_facts (w.alloc (c.obj m1 v1)) pv uv fr;have hz1:(w.alloc (c.obj m1 v1)).heap.size=w.heap.size + 1:=by simp
 have e1:=e_al w (c.obj m1 v1);rw [hz1] at b0 b1 b2;replace c0:=e2.cell c0;replace c1:=e2.cell c1;replace c2:=e2.cell c2;replace c3:=e2.cell c3;replace c4:=e2.cell c4;have HX:=hid_ (e1.trans e2);have HAW:=hid_ (fun w'=> awake_any w');have HF1:=hid_ (fun (w':World) (h:Ex w w')=> few31_any w' c m1 v1 (hc.ex h));have HSH:=hid_ (fun (w':World) (h:Ex w w')=> short_any w' pl ul pv uv (hp.ex h) (hu.ex h) fr);have HA1:=hid_ (fun (w':World) (h:Ex w w')=> ApplyI_any w' c m1 v1 (hc.ex h) pl ul pv uv (hp.ex h) (hu.ex h) fr);have HA2:=hid_ (fun (w':World) (h:Ex w w')=> rApplyI_any w' c m1 v1 (hc.ex h) pl ul pv uv (hp.ex h) (hu.ex h) fr);have HEN:=hid_ (fun (w':World) (h:Ex w w')=> codeEncode_any w' c.p c.m c.n c.ml m1 (hc.ex h).m c.rows v1 (hc.ex h).g xl xv (hx.ex h));have HWD:=hid_ (fun (w':World) (h:Ex w w') (l:List Int) (lv:Value) (hl:ISl w' lv l)=> Word_any w' c.p c.m c.ml m1 (hc.ex h).m pl ul pv uv (hp.ex h) (hu.ex h) fr l lv hl);have HUQ:=hid_ (fun e e' d d' (h:ImO c pl ul fr e d) (k:ImO c pl ul fr e' d')=> (⟨(h.uniq k).1.symm,(h.uniq k).2.symm⟩:e=e'∧d=d'));have HLW:=hid_ (fun d (h:ImO c pl ul fr 0 d) (q k N:Nat) (h1:c.p=q) (h2:c.m=k) (h3:c.n=N)=> ImO.law h (x:=xl) h1 h2 h3);obtain ⟨pa,pc,rfl,-,p2,-⟩:=hp.open;obtain ⟨ua,uc,rfl,-,u2,-⟩:=hu.open;obtain ⟨xa,xc,rfl,-,x2,-⟩:=hx.open;obtain ⟨x1,y1,rfl,-,z1,-⟩:=hc.g.open;obtain ⟨x3,y3,rfl,-,z3,-⟩:=hc.m.open;unfold maxLen at p2 u2 x2 z1 z3;obtain ⟨TO,hTO⟩:∃T,ImO c pl ul fr=T:=⟨_,rfl⟩;rw [hTO] at HA1 HA2 HUQ HLW;obtain ⟨SB,hSB⟩:∃T,shoB pl ul=T:=⟨_,rfl⟩;rw [hSB] at HSH;obtain ⟨p,m,ml,n,rows⟩:=c;obtain ⟨B,hB⟩:∃B,w.heap.size=B:=⟨_,rfl⟩;rw [hB] at c0 c1 c2 c3 c4 b0 b1 b2;dsimp only [CdV.arg,CdV.obj] at *;clear hc hp hu hx e1 e2 hz1 hTO hSB;go_enter Tryz.func11,Tryz.ntmps11
 go_upto_region 1 with fail
 try simp only [hB]
 clear hB;generalize (w.alloc (.cells #[.int .i64 p,.int .i64 m,.slice x3 ml.length y3,.int .i64 n,.slice x1 rows.length y1] 47)).alloc (.cells #[.slice pa pl.length pc,.slice ua ul.length uc,.int .i64 fr] 26)=w1 at *;have HALL:=hid_ (fun w' (h:Ex w1 w')=> (⟨h.cell c0,h.cell c1,h.cell c2,h.cell c3,h.cell c4,h.cell b0,h.cell b1,h.cell b2⟩:_∧_∧_∧_∧_∧_∧_∧_));have bad:∀w',Ex w1 w'→Calls Tryz.prog 12 #[] w' fun r w''=> r= .returned (.bool true)∧Ex w1 w'':=fun w' h=> (HAW.out w').mono fun r w'' ⟨h1,h2⟩=> ⟨h1,h.trans h2⟩;have BAD:=hid_ bad;have HX1:=hid_ (Ex.refl w1);clear bad;go_wp2_with fail
 refine (HAW.out w1).mono ?_;rintro e w2 ⟨rfl,hx2⟩;have HX2:=hid_ (HX1.out.trans hx2);clear hx2 c0 c1 c2 c3 c4 b0 b1 b2;obtain ⟨c0,c1,c2,c3,c4,b0,b1,b2⟩:=HALL.out w2 HX2.out;go_wp2_with fail
 refine (HF1.out w2 (HX.out.trans HX2.out)).mono ?_;rintro e w3 ⟨⟨f1,rfl,-⟩,hx3⟩;have HX3:=hid_ (HX2.out.trans hx3);clear hx3 c0 c1 c2 c3 c4 b0 b1 b2;obtain ⟨c0,c1,c2,c3,c4,b0,b1,b2⟩:=HALL.out w3 HX3.out
 cases f1 with
 | false=>
  go_wp2_with fail
  refine (BAD.out _ HX3.out).mono ?_;rintro e w99 ⟨rfl,hx99⟩;have HX99:=hid_ hx99;clear hx99;go_wp2_with fail
  go_ret;exact ⟨rfl,HX.out.trans HX99.out⟩
 | true=>
  go_wp2_with fail
  refine (HSH.out w3 (HX.out.trans HX3.out)).mono ?_;rintro e w4 ⟨rfl,hx4⟩;have HX4:=hid_ (HX3.out.trans hx4);clear hx4 c0 c1 c2 c3 c4 b0 b1 b2;obtain ⟨c0,c1,c2,c3,c4,b0,b1,b2⟩:=HALL.out w4 HX4.out
  cases SB with
  | false=>
   go_wp2_with fail
   refine (BAD.out _ HX4.out).mono ?_;rintro e w99 ⟨rfl,hx99⟩;have HX99:=hid_ hx99;clear hx99;go_wp2_with fail
   go_ret;exact ⟨rfl,HX.out.trans HX99.out⟩
  | true=>
   by_cases z1:64 < xl.length
   ·have q_x:decide ((64:Int) < (xl.length:Int))=true:=by simp;omega
    have j_x:(64:Int) < (xl.length:Int):=by omega
    clear z1;go_wp2_with fail
    refine (BAD.out _ HX4.out).mono ?_;rintro e w99 ⟨rfl,hx99⟩;have HX99:=hid_ hx99;clear hx99;go_wp2_with fail
    go_ret;exact ⟨rfl,HX.out.trans HX99.out⟩
   ·have q_x:decide ((64:Int) < (xl.length:Int))=false:=by simp;omega
    have j_x:¬(64:Int) < (xl.length:Int):=by omega
    have HZ5:=hid_ z1;clear z1;go_wp2_with fail
    refine (HA1.out w4 (HX.out.trans HX4.out)).mono ?_;rintro e w20 ⟨⟨E,⟨dp,dm,dl,dn,dr⟩,him,mv_f,rv_f,rfl,hd⟩,hx20⟩;have HIM:=hid_ him;clear him;dsimp only [CdV.arg];obtain ⟨f0,f1,f2,f3,f4⟩:=boxC5 w20 ⟨dp,dm,dl,dn,dr⟩ mv_f rv_f;have eb:=e_al w20 ((⟨dp,dm,dl,dn,dr⟩:CdV).obj mv_f rv_f);have HA_f:=hid_ (hd.ex eb);obtain ⟨fa,fc,rfl,-,fl,-⟩:=hd.m.open;obtain ⟨fg,fh,rfl,-,fk,-⟩:=hd.g.open;unfold maxLen at fl fk;have HY21:=hid_ (hx20.trans eb);have HX21:=hid_ (HX4.out.trans HY21.out);obtain ⟨fB,hfB⟩:∃D,w20.heap.size=D:=⟨_,rfl⟩;rw [hfB] at f0 f1 f2 f3 f4;dsimp only [CdV.obj] at f0 f1 f2 f3 f4 HX21 HY21 HA_f fl fk ⊢;clear eb hd hx20 c0 c1 c2 c3 c4 b0 b1 b2;go_upto_region 4 with fail
    try simp only [hfB]
    clear hfB;generalize w20.alloc (.cells #[.int .i64 dp,.int .i64 dm,.slice fa dl.length fc,.int .i64 dn,.slice fg dr.length fh] 47)=w21 at *;have HC_f:=hid_ (fun w' (h:Ex w21 w')=> (⟨h.cell f0,h.cell f1,h.cell f2,h.cell f3,h.cell f4⟩:_∧_∧_∧_∧_));clear f0 f1 f2 f3 f4;obtain ⟨c0,c1,c2,c3,c4,b0,b1,b2⟩:=HALL.out w21 HX21.out;go_wp2_with fail
    refine (HA2.out w21 (HX.out.trans HX21.out)).mono ?_;rintro e w22 ⟨⟨E',d',him,mv_h,rv_h,rfl,hd⟩,hx22⟩;obtain ⟨rfl,rfl⟩:=HUQ.out _ _ _ _ HIM.out him;clear him;dsimp only [CdV.arg];obtain ⟨h0,h1,h2,h3,h4⟩:=boxC5 w22 ⟨dp,dm,dl,dn,dr⟩ mv_h rv_h;have eb:=e_al w22 ((⟨dp,dm,dl,dn,dr⟩:CdV).obj mv_h rv_h);have HA_h:=hid_ (hd.ex eb);obtain ⟨ha,hc,rfl,-,hl,-⟩:=hd.m.open;obtain ⟨hg,hh,rfl,-,hk,-⟩:=hd.g.open;unfold maxLen at hl hk;have HY23:=hid_ (hx22.trans eb);have HX23:=hid_ (HX21.out.trans HY23.out);obtain ⟨hB,hhB⟩:∃D,w22.heap.size=D:=⟨_,rfl⟩;rw [hhB] at h0 h1 h2 h3 h4;dsimp only [CdV.obj] at h0 h1 h2 h3 h4 HX23 HY23 HA_h hl hk ⊢;clear eb hd hx22 c0 c1 c2 c3 c4 b0 b1 b2;go_upto_region 5 with fail
    try simp only [hhB]
    clear hhB;generalize w22.alloc (.cells #[.int .i64 dp,.int .i64 dm,.slice ha dl.length hc,.int .i64 dn,.slice hg dr.length hh] 47)=w23 at *;have HC_h:=hid_ (fun w' (h:Ex w23 w')=> (⟨h.cell h0,h.cell h1,h.cell h2,h.cell h3,h.cell h4⟩:_∧_∧_∧_∧_));clear h0 h1 h2 h3 h4;obtain ⟨c0,c1,c2,c3,c4,b0,b1,b2⟩:=HALL.out w23 HX23.out;clear c0 c1 c2 c3 c4 b0 b1 b2;have hne:(E !=E)=false:=by simp
    obtain ⟨f0,f1',f2,f3,f4⟩:=HC_f.out w23 HY23.out;obtain ⟨h0,h1,h2,h3,h4⟩:=HC_h.out w23 (Ex.refl _);have HSA:=hid_ (rCSame_any w23 ⟨dp,dm,dl,dn,dr⟩ ⟨dp,dm,dl,dn,dr⟩ _ _ _ _ (HA_f.out.ex HY23.out) HA_h.out);rw [samC_iff.2 rfl] at HSA;dsimp only [CdV.arg] at HSA;go_wp2_with fail
    refine HSA.out.mono ?_;rintro e w24 ⟨rfl,hx24⟩;have HX24:=hid_ (HX23.out.trans hx24);have HY24:=hid_ (HY23.out.trans hx24);clear hx24 HSA f0 f1' f2 f3 f4 h0 h1 h2 h3 h4 HC_h HA_h HA1 HA2 HUQ hne;obtain ⟨c0,c1,c2,c3,c4,b0,b1,b2⟩:=HALL.out w24 HX24.out;by_cases hE:E=0
    rotate_left
    ·have k1:(E !=0)=true:=by simpa using hE
     clear hE HIM HLW;go_wp2_with fail
     refine (HEN.out w24 (HX.out.trans HX24.out)).mono ?_;rintro e w25 ⟨hen,hx25⟩;have HX25:=hid_ (HX24.out.trans hx25);clear hx25 c0 c1 c2 c3 c4 b0 b1 b2;rcases hen with ⟨e1,he1,rfl⟩ | ⟨q,k,N,gg,i1,i2,i3,ho,hl1,hl2,rfl,hxv⟩
     ·clear he1;go_wp2_with fail
      go_ret;exact ⟨rfl,HX.out.trans HX25.out⟩
     ·clear i1 i2 i3 ho hl1 hl2 hxv;go_wp2_with fail
      go_ret;exact ⟨rfl,HX.out.trans HX25.out⟩
    subst hE;go_wp2_with fail
    refine (HEN.out w24 (HX.out.trans HX24.out)).mono ?_;rintro e w25 ⟨hen,hx25⟩;have HX25:=hid_ (HX24.out.trans hx25);have HY25:=hid_ (HY24.out.trans hx25);clear hx25 HEN c0 c1 c2 c3 c4 b0 b1 b2;rcases hen with ⟨e1,he1,rfl⟩ | ⟨q,k,N,gg,i1,i2,i3,ho,hl1,hl2,rfl,hxv⟩
    ·have k1:(e1 !=0)=true:=by simpa using he1
     clear he1;go_wp2_with fail
     go_ret;exact ⟨rfl,HX.out.trans HX25.out⟩
    obtain ⟨j1,y,hy,j2,j3,j4,j5,j6,j7,j8⟩:=HLW.out _ HIM.out q k N i1 i2 i3;have HWR:=hid_ (HWD.out w25 (HX.out.trans HX25.out) _ _ hxv);rw [j1,hy] at HWR;dsimp only at j2 j3 j4 j5 j6 j7 j8;have HHS:=hid_ (fun (w':World) (h:Ex w21 w') (lv:Value) (hl:ISl w' lv y)=> codeHas_any w' q k N dl _ (HA_f.out.ex h).m dr _ (HA_f.out.ex h).g j5 y lv hl j6 j7 j8);subst j2 j3 j4;clear i1 i2 i3 ho hl1 hl2 hxv j1 hy j5 j6 j7 j8 HLW HIM HWD;obtain ⟨c0,c1,c2,c3,c4,b0,b1,b2⟩:=HALL.out w25 HX25.out;go_wp2_with fail
    refine HWR.out.mono ?_;rintro e w26 ⟨⟨yv,rfl,hyv⟩,hx26⟩;have HX26:=hid_ (HX25.out.trans hx26);have HY26:=hid_ (HY25.out.trans hx26);have HH:=hid_ (HHS.out w26 HY26.out yv hyv);obtain ⟨ya,yc,rfl,-,-,-⟩:=hyv.open;clear hx26 hyv HWR HHS c0 c1 c2 c3 c4 b0 b1 b2;obtain ⟨f0,f1',f2,f3,f4⟩:=HC_f.out w26 HY26.out;go_wp2_with fail
    refine HH.out.mono ?_;rintro e w27 ⟨rfl,hx27⟩;have HX27:=hid_ (HX26.out.trans hx27);clear hx27 HH f0 f1' f2 f3 f4;go_wp2_with fail
    go_ret;exact ⟨rfl,HX.out.trans HX27.out⟩
end
section
open Go.RowKit Go.ChangeShapes Go.WideShapes Go.ChangeAt
theorem rfC_get:∀(es:List Rf) (mvs:List Value),mvs.length=es.length→∀i,i < es.length→∀j,j < 4→(rfC es mvs)[i * 4 + j]?=(((es.getD i dRf).cells (mvs.getD i undef)))[j]?:=fun es=> by
 induction es with
 | nil=> intro mvs _ i hi;simp at hi
 | cons e es ih=>
  intro mvs hm i hi j hj
  cases mvs with
  | nil=> simp at hm
  | cons u mvs=>
   show (e.cells u ++ rfC es mvs)[i * 4 + j]?=_
   cases i with
   | zero=> rw [List.getElem?_append_left (by simp [Rf.cells];omega)];simp
   | succ i=>
    rw [List.getElem?_append_right (by simp [Rf.cells];omega)];have:=ih mvs (by simpa using hm) i (by simpa using hi) j hj;rw [show (i + 1) * 4 + j - (e.cells u).length=i * 4 + j from by simp [Rf.cells];omega,this];simp
section
variable {H:Type} {enc:TypeId × Value→H} {W:World} {held:Bool}
theorem rsl_trod {fuel:Nat} {v:Value} {y:DataW H × List MemPlace} (h:DataW.trod enc Tryz.prog W 0 (fun _=> true) held fuel 52 [v]=some y):∃es,RSl W v es:=by
 rcases Go.Deep.open_slice Tryz.underlying52 h with ⟨hcs,_⟩ | ⟨x,len,cap,m,n,D,Pl,hcs,_,hl,hm,hmm,_,hr⟩
 ·simp at hcs;subst hcs;exact ⟨[],RSl.nil W⟩
 ·simp at hcs;subst hcs;simp only [if_true] at hmm;subst hmm;rw [show Tryz.prog.cellsOf 78=4 by kernel_rfl] at hr;have key:∀i,i < len→∃q:Rf × Value,W.cell? (x.add (i * 4))=some (.int .i64 q.1.tp)∧W.cell? (x.add (i * 4 + 1))=some (.int .i64 q.1.sc)∧W.cell? (x.add (i * 4 + 2))=some (.int .i64 q.1.side)∧W.cell? (x.add (i * 4 + 3))=some q.2∧ISl W q.2 q.1.msg:=fun i hi=> by
   obtain ⟨cs',h1,h2⟩:=hr i (by omega);obtain ⟨_,hlen,hcell⟩:=World.cells?_some h1;obtain ⟨xs,k,_,_,_,hxl,hf⟩:=DataW.trod_struct Tryz.underlying78 h2
   match xs,hxl,cs',hlen with
   | [y0,y1,y2,y3],_, [v0,v1,v2,v3],_=>
    have g0:=hf 0 _ rfl;have g1:=hf 1 _ rfl;have g2:=hf 2 _ rfl;have g3:=hf 3 _ rfl;simp [show Tryz.prog.cellsOf 3=1 by kernel_rfl,show Tryz.prog.cellsOf 22=1 by kernel_rfl] at g0 g1 g2 g3;have e0:=hcell 0 (by omega);have e1:=hcell 1 (by omega);have e2:=hcell 2 (by omega);have e3:=hcell 3 (by omega);rw [Go.Deep.add_add] at e0 e1 e2 e3;obtain ⟨p0,ep0,_,_⟩:=DataW.trod_int Tryz.underlying3 g0;obtain ⟨p1,ep1,_,_⟩:=DataW.trod_int Tryz.underlying3 g1;obtain ⟨p2,ep2,_,_⟩:=DataW.trod_int Tryz.underlying3 g2;simp at ep0 ep1 ep2;subst ep0 ep1 ep2;obtain ⟨l,hl⟩:=isl_trod g3;exact ⟨(⟨p0,p1,p2,l⟩,v3),by simpa using e0,by simpa using e1,by simpa using e2,by simpa using e3,hl⟩
  haveI:Inhabited (Rf × Value):=⟨(dRf,.bool false)⟩
  obtain ⟨q,hq⟩:=Go.Deep.choose_lt key;have hL:((List.range len).map fun i=> (q i).1).length=len:=by simp
  have hO:((List.range len).map fun i=> (q i).2).length=len:=by simp
  have hgL:∀i,i < len→((List.range len).map fun i=> (q i).1).getD i dRf=(q i).1:=fun i hi=> by
   rw [List.getD_eq_getElem?_getD];simp [hi]
  have hgO:∀i,i < len→((List.range len).map fun i=> (q i).2).getD i undef=(q i).2:=fun i hi=> by
   rw [List.getD_eq_getElem?_getD];simp [hi]
  have hlen:(rfC ((List.range len).map fun i=> (q i).1) ((List.range len).map fun i=> (q i).2)).length=len * 4:=by
   rw [rfC_len _ _ (by rw [hL,hO]),hL]
  refine ⟨(List.range len).map fun i=> (q i).1,(List.range len).map fun i=> (q i).2,by rw [hL,hO],⟨by rw [hlen,hL],some x,m,by rw [hL],by rw [hL];exact hl,hm,fun hn=> ?_⟩,fun i e mv h1 h2=> ?_⟩
  ·rw [hL] at hn;have h0:=(hq 0 hn).1;have hx:=spot_none h0 (.inl ⟨_,_,rfl⟩);have hx0:(x.add (0 * 4))=x:=by simp [Addr.add]
   rw [hx0] at hx;refine ⟨x.block,x.off,congrArg some hx,fun j u hu=> ?_⟩;have hj:j < len * 4:=by
    have:=(List.getElem?_eq_some_iff.1 hu).1;rw [hlen] at this;exact this
   obtain ⟨i,r,hr3,rfl⟩:∃i r,r < 4∧j=i * 4 + r:=⟨j / 4,j % 4,Nat.mod_lt _ (by omega),by omega⟩;have hi:i < len:=by omega
   obtain ⟨k0,k1,k2,k3,_⟩:=hq i hi;rw [hx,add_off] at k0 k1 k2 k3;rw [rfC_get _ _ (by rw [hL,hO]) i (by rw [hL];exact hi) r hr3,hgL i hi,hgO i hi] at hu
   match r,hr3 with
   | 0,_=> simp [Rf.cells] at hu;rw [Nat.add_zero,←hu];exact k0
   | 1,_=> simp [Rf.cells] at hu;rw [←hu];exact k1
   | 2,_=> simp [Rf.cells] at hu;rw [←hu];exact k2
   | 3,_=> simp [Rf.cells] at hu;rw [←hu];exact k3
  ·have hi:i < len:=by have:=(List.getElem?_eq_some_iff.1 h1).1;simpa using this
   simp [hi] at h1 h2;subst h1 h2;exact (hq i hi).2.2.2.2
theorem c_code:Tryz.prog.cellsOf 47=5:=by kernel_rfl
theorem c_part:Tryz.prog.cellsOf 49=2:=by kernel_rfl
theorem c_refu:Tryz.prog.cellsOf 54=1:=by kernel_rfl
theorem c_entr:Tryz.prog.cellsOf 52=1:=by kernel_rfl
theorem c_case:Tryz.prog.cellsOf 61=6:=by kernel_rfl
theorem open_code {r:Reach} {b0:Nat} {v:Value} {d:DataW H} {p:List MemPlace} (hv:Value.okWide Tryz.prog W r b0 47 v) (h:DataW.Trod enc Tryz.prog W 0 (fun _=> true) held 47 v d p):
  ∃(c:CdV) (mv gv:Value),v=c.arg mv gv∧c.at W mv gv:=by
 obtain ⟨cs,rfl,hsz⟩:=okWide_agg Tryz.underlying47 hv;obtain ⟨c0,c1,c2,c3,c4,rfl⟩:=array5 (hsz.trans c_code);obtain ⟨fuel,hf⟩:=h;obtain ⟨xs,k,_,_,_,hxl,hff⟩:=DataW.trod_struct Tryz.underlying47 hf;have g0:=hff 0 _ rfl;have g1:=hff 1 _ rfl;have g2:=hff 2 _ rfl
 match xs,hxl with
 | [y0,y1,y2],_=>
  simp [c_int,c_fld,c_rows,Value.cells] at g0 g1 g2;obtain ⟨P,M,ml,rfl,rfl,hm⟩:=fld_cells g0;obtain ⟨N,e0,_,_⟩:=DataW.trod_int Tryz.underlying3 g1;obtain ⟨rows,hr⟩:=msl_trod g2;simp at e0;subst e0;exact ⟨⟨P,M,ml,N,rows⟩,_,_,rfl,hm,hr⟩
theorem part_cells {fuel:Nat} {c0 c1:Value} {y:DataW H × List MemPlace} (h:DataW.trod enc Tryz.prog W 0 (fun _=> true) held fuel 49 [c0,c1]=some y):
  ∃(tl sl:List Int),ISl W c0 tl∧ISl W c1 sl:=by
 obtain ⟨xs,k,_,_,_,hxl,hf⟩:=DataW.trod_struct Tryz.underlying49 h;have g0:=hf 0 _ rfl;have g1:=hf 1 _ rfl
 match xs,hxl with
 | [y0,y1],_=>
  simp [c_ints] at g0 g1;obtain ⟨l,hl⟩:=isl_trod g0;obtain ⟨l',hl'⟩:=isl_trod g1;exact ⟨l,l',hl,hl'⟩
theorem array2' {α:Type} {cs:Array α} (h:cs.size=2):∃c0 c1,cs= #[c0,c1]:=by
 obtain ⟨l⟩:=cs
 match l,h with
 | [c0,c1],_=> exact ⟨c0,c1,rfl⟩
theorem open_part {r:Reach} {b0:Nat} {v:Value} {d:DataW H} {p:List MemPlace} (hv:Value.okWide Tryz.prog W r b0 49 v) (h:DataW.Trod enc Tryz.prog W 0 (fun _=> true) held 49 v d p):
  ∃(tv sv:Value) (tl sl:List Int),v= .agg #[tv,sv]∧ISl W tv tl∧ISl W sv sl:=by
 obtain ⟨cs,rfl,hsz⟩:=okWide_agg Tryz.underlying49 hv;obtain ⟨c0,c1,rfl⟩:=array2' (hsz.trans c_part);obtain ⟨fuel,hf⟩:=h;obtain ⟨tl,sl,h1,h2⟩:=part_cells (by simpa [Value.cells] using hf);exact ⟨_,_,tl,sl,rfl,h1,h2⟩
theorem refu_cells {fuel:Nat} {c0:Value} {y:DataW H × List MemPlace} (h:DataW.trod enc Tryz.prog W 0 (fun _=> true) held fuel 54 [c0]=some y):∃es,RSl W c0 es:=by
 obtain ⟨xs,k,_,_,_,hxl,hf⟩:=DataW.trod_struct Tryz.underlying54 h;have g0:=hf 0 _ rfl
 match xs,hxl with
 | [y0],_=>
  simp [c_entr] at g0;exact rsl_trod g0
theorem open_case {r:Reach} {b0:Nat} {v:Value} {d:DataW H} {p:List MemPlace} (hv:Value.okWide Tryz.prog W r b0 61 v) (h:DataW.Trod enc Tryz.prog W 0 (fun _=> true) held 61 v d p):
  ∃(tv sv ev pv uv:Value) (tl sl:List Int) (es:List Rf) (pl ul:List Int) (fr:Int),v= .agg #[tv,sv,ev,pv,uv,.int .i64 fr]∧ISl W tv tl∧ISl W sv sl∧RSl W ev es∧ISl W pv pl∧ISl W uv ul:=by
 obtain ⟨cs,rfl,hsz⟩:=okWide_agg Tryz.underlying61 hv;obtain ⟨c0,c1,c2,c3,c4,c5,rfl⟩:=array6 (hsz.trans c_case);obtain ⟨fuel,hf⟩:=h;obtain ⟨xs,k,_,_,_,hxl,hff⟩:=DataW.trod_struct Tryz.underlying61 hf;have g0:=hff 0 _ rfl;have g1:=hff 1 _ rfl;have g2:=hff 2 _ rfl
 match xs,hxl with
 | [y0,y1,y2],_=>
  simp [c_part,c_refu,c_mon,Value.cells] at g0 g1 g2;obtain ⟨tl,sl,h1,h2⟩:=part_cells g0;obtain ⟨es,h3⟩:=refu_cells g1;obtain ⟨pl,ul,fr,h4,h5,rfl⟩:=mon_cells g2;exact ⟨_,_,_,_,_,tl,sl,es,pl,ul,fr,rfl,h1,h2,h3,h4,h5⟩
end
end
end Go.Proofs.YtgdmlmhpineibaaGreat
