/- Plain: sums over a permutation; linear combinations; the image of a word under a monomial map. -/
import Derived.Test.YtgdmlmhpineibaaGreatZf17
import Derived.Test.YtgdmlmhpineibaaGreatZf18
import Derived.Test.YtgdmlmhpineibaaGreatZf20
import Derived.Test.YtgdmlmhpineibaaGreatZf21
namespace Go.Proofs.YtgdmlmhpineibaaGreat
set_option linter.unusedVariables false
set_option linter.unusedSimpArgs false
set_option maxRecDepth 100000
set_option maxHeartbeats 8000000
section
open Go.RowKit
section
variable {p m:Nat} {ml:List Int} {N R:Nat}
def ks (p m:Nat) (g:Nat→Nat):Nat→Nat
 | 0=> 0
 | n + 1=> kadd p m (ks p m g n) (g n)
def plc (π:Nat→Nat) (v:Nat→Int):Nat→Nat→Int
 | 0=> fun _=> 0
 | k + 1=> upd (plc π v k) (π k) (v k)
end
end
section
open Go.RowKit
theorem rowsF_il {N i:Nat} {rows:List (List Int)} {r:List Int} (hr:rows[i]?=some r) (hl:r.length=N):il N (rowsF rows i)=r:=by
 apply List.ext_getElem?;intro j;by_cases h:j < N
 ·rw [il_get h];unfold rowsF;rw [List.getD_eq_getElem?_getD (l:=rows),hr,List.getD_eq_getElem?_getD];show some (r[j]?.getD 0)=r[j]?
  rw [List.getElem?_eq_getElem (by omega)];rfl
 ·rw [List.getElem?_eq_none (by rw [il_len];omega),List.getElem?_eq_none (by omega)]
theorem elo_rows {p m:Nat} {ml:List Int} {N R:Nat} {a a':Nat→Nat→Int} {piv:List Nat} (h:ElO p m ml N R a a' piv):piv.length≤R∧∀t∈rowsL N piv.length a',t.length=N∧entS (p ^ m) t=0:=by
 obtain ⟨c,hc,hP,_,hS⟩:=h;refine ⟨hP.le,fun t ht=> ?_⟩;unfold rowsL at ht;obtain ⟨i,hi,rfl⟩:=List.mem_map.1 ht;have hi:=List.mem_range.1 hi;refine ⟨il_len _ _,entS_of fun x hx=> ?_⟩;obtain ⟨j,hj,rfl⟩:=il_mem hx;exact hP.rng i (by have:=hP.le;omega) j hj
end
section
open Go.RowKit
def canE (p m:Int) (ml:List Int) (cols:Int) (rows:List (List Int)):Int:=if chkS p m ml≠0 then 1 else mchkS (p.toNat ^ m.toNat) cols rows
def CanR (p m:Int) (ml:List Int) (cols:Int) (rows:List (List Int)) (b0:Nat) (r:Ending) (w':World):Prop:=
 (canE p m ml cols rows=0∧∃(pn mn N:Nat) (piv:List Nat) (a':Nat→Nat→Int) (rv pv:Value),p=pn∧m=mn∧cols=N∧FldB p m ml∧mchkS (pn ^ mn) N rows=0∧r= .returned (.tuple #[.agg #[.int .i64 N,rv],pv,.int .i64 0])∧ElO pn mn ml N rows.length (rowsF rows) a' piv∧MSl w' rv (rowsL N piv.length a')∧ISl w' pv (pI piv)∧∃g blk cap base,b0≤base∧rv= .slice (some ⟨g,0,none⟩) piv.length piv.length∧EM w' base g rows.length N blk cap a' [])∨
 (canE p m ml cols rows≠0∧r= .returned (.tuple #[.agg #[.int .i64 0,.slice none 0 0],.slice none 0 0,.int .i64 (canE p m ml cols rows)]))
theorem Canonical_any (w:World) (p m:Int) (ml:List Int) (mv:Value) (hmv:ISl w mv ml) (cols:Int) (rows:List (List Int)) (v:Value) (hv:MSl w v rows) (h0:canE p m ml cols rows=0→1≤cols):
  Calls Tryz.prog 121 #[.agg #[.int .i64 p,.int .i64 m,mv],.agg #[.int .i64 cols,v]] w fun r w'=> CanR p m ml cols rows w.heap.size r w'∧Ex w w':=by
 have HO:=hid_ (fun w' B h1 h2 h3 h4=> open1_any p m ml mv w' h1 cols rows v h2 B h3 h4);obtain ⟨g0,g1,g2,e0,gsz⟩:=box_facts w p m mv;have HMV:=hid_ hmv;have HV:=hid_ hv;have H0:=hid_ h0;obtain ⟨za,zc,rfl,z1,z2,z3⟩:=hv.open;clear z1 z3;unfold maxLen at z2;obtain ⟨xb,hxb⟩:∃xb,w.heap.size=xb:=⟨_,rfl⟩;rw [hxb] at g0 g1 g2 gsz;clear hmv hv h0;go_enter Tryz.func121,Tryz.ntmps121
 go_wp2_with fail
 generalize w.alloc (.cells #[.int .i64 p,.int .i64 m,mv] 24)=wA at *;obtain ⟨a0,a1,ea⟩:=boxM_facts wA cols (.slice za rows.length zc);have asz:(wA.alloc (.cells #[.int .i64 cols,.slice za rows.length zc] 113)).heap.size=xb + 1 + 1:=by simp [gsz]
 rw [gsz] at a0 a1;generalize wA.alloc (.cells #[.int .i64 cols,.slice za rows.length zc] 113)=wB at *;obtain ⟨q0,q1,eb⟩:=boxM_facts wB 0 (.slice none 0 0);have qf:(wB.alloc (.cells #[.int .i64 0,.slice none 0 0] 113)).frozen? ⟨xb + 1 + 1,1,none⟩=false:=by rw [←asz];simp
 have qf0:(wB.alloc (.cells #[.int .i64 0,.slice none 0 0] 113)).frozen? ⟨xb + 1 + 1,0,none⟩=false:=by rw [←asz];simp
 have bsz:(wB.alloc (.cells #[.int .i64 0,.slice none 0 0] 113)).heap.size=xb + 1 + 1 + 1:=by simp [asz]
 rw [asz] at q0 q1;generalize wB.alloc (.cells #[.int .i64 0,.slice none 0 0] 113)=wC at *;obtain ⟨l0,l1,ec⟩:=boxM_facts wC cols (.slice za rows.length zc);rw [bsz] at l0 l1;generalize wC.alloc (.cells #[.int .i64 cols,.slice za rows.length zc] 113)=wD at *;have eD:Ex w wD:=((e0.trans ea).trans eb).trans ec;have A0:=hid_ ((eb.trans ec).cell a0);have A1:=hid_ ((eb.trans ec).cell a1);have Q0:=hid_ (ec.cell q0);have Q1:=hid_ (ec.cell q1);have QF:=hid_ (ec.frz q1 qf);have QF0:=hid_ (ec.frz q0 qf0);have HXD:=hid_ eD;refine (HO.out wD (xb + 1 + 1 + 1) (HMV.out.ex eD) (HV.out.ex eD) l0 l1).mono ?_;clear g0 g1 g2 e0 gsz ea asz a0 a1 eb bsz q0 q1 qf qf0 l0 l1 ec eD HO;rintro e w2 ⟨ho,hx2⟩;have HX2:=hid_ (HXD.out.trans hx2);have QF:=hid_ (hx2.frz Q1.out QF.out);have QF0:=hid_ (hx2.frz Q0.out QF0.out);have c0:=hx2.cell A0.out;have c1:=hx2.cell A1.out;have Q0:=hid_ (hx2.cell Q0.out);have Q1:=hid_ (hx2.cell Q1.out);have A0:=hid_ c0;clear hx2 A1;have HEE:=hid_ (fun (i:Value) (j:Value)=> ((HX2.out).setCell (p:=⟨xb + 1 + 1,0,none⟩) (by show w.heap.size≤xb + 1 + 1;omega) i).setCell (p:=⟨xb + 1 + 1,1,none⟩) (by show w.heap.size≤xb + 1 + 1;omega) j);rcases ho with ⟨pn,mn,x0,b,rfl,rfl,hg,hx01,hx02,⟨hmk,rfl⟩ | ⟨hno,rfl⟩⟩ | ⟨hno,rfl⟩
 ·have hch:chkS pn mn ml=0:=(chk_iff _ _ _).2 ⟨pn,mn,rfl,rfl,hg.sh,hg.pr,hg.isF hx01 hx02⟩;have hce:canE pn mn ml cols rows=0:=by
   unfold canE;rw [if_neg (by simp [hch]),Int.toNat_natCast,Int.toNat_natCast];exact hmk
  have hc1:=H0.out hce;obtain ⟨s1,s2,s3,s4⟩:=mchk_shape hmk;obtain ⟨N,rfl⟩:∃N:Nat,cols=N:=⟨cols.toNat,by omega⟩;have HCE:=hid_ hce;have HFB:=hid_ ((chk_iff _ _ _).1 hch);have HMK:=hid_ hmk;have HCN:=hid_ (canon_any2 w2 hg hx01 hx02 N rows.length rows _ (HV.out.ex HX2.out) rfl s3 (by omega) (by omega) fun i r h=> by
   have:=s4 r (List.mem_of_getElem? h);exact ⟨by omega,this.2⟩)
  have HS3:=hid_ s3;clear hg hch hce hc1 s1 s2 s3 s4 hmk hx01 hx02;go_wp2_with (go_at_call 125;refine HCN.out.mono ?_;rintro e w8 ⟨piv2,pv2,rv2,a2,rfl,hel2,hrv2,hpv2,hx8,g8,blk8,cap8,rfl,hem8,hpb8⟩;have a0n:=hx8.cell A0.out;have q0:=hx8.cell Q0.out;have qf0:=hx8.frz Q0.out QF0.out;have q1:=hx8.cell Q1.out;have qf1:=hx8.frz Q1.out QF.out;have HEL2:=hid_ hel2;have HEM8:=hid_ hem8;have HX8:=hid_ hx8;have HPV8:=hid_ hpv2;have HPB:=hid_ hpb8;obtain ⟨pa,pc,rfl,-,-,-⟩:=hpv2.open;clear hel2 hem8 hx8 hpb8 hrv2 hpv2)
  have hbl:xb + 1 + 1 < w2.heap.size:=World.block_lt_of_cell? _ _ Q0.out;have hp2:=(elo_rows HEL2.out).1;have HMS:=hid_ (((HEM8.out.low (A:=⟨xb + 1 + 1,0,none⟩) hbl (.int .i64 N)).low (A:=⟨xb + 1 + 1,1,none⟩) hbl (.slice (some ⟨g8,0,none⟩) piv2.length piv2.length)).msl hp2 HS3.out);have HEM9:=hid_ ((HEM8.out.low (A:=⟨xb + 1 + 1,0,none⟩) hbl (.int .i64 N)).low (A:=⟨xb + 1 + 1,1,none⟩) hbl (.slice (some ⟨g8,0,none⟩) piv2.length piv2.length));have HPN:=hid_ (fun B h=> show B≠xb + 1 + 1 from by have:=HPB.out B h;omega);have HEX:=hid_ ((((HX2.out).trans HX8.out).setCell (p:=⟨xb + 1 + 1,0,none⟩) (by show w.heap.size≤xb + 1 + 1;omega) (.int .i64 N)).setCell (p:=⟨xb + 1 + 1,1,none⟩) (by show w.heap.size≤xb + 1 + 1;omega) (.slice (some ⟨g8,0,none⟩) piv2.length piv2.length));exact bodyPost_ret (v:= .tuple #[.agg #[.int .i64 N,.slice (some ⟨g8,0,none⟩) piv2.length piv2.length],.slice pa (pI piv2).length pc,.int .i64 0]) (by simp [results,Tryz.results121,go_sem,q0,q1]) rfl ⟨.inl ⟨HCE.out,pn,mn,N,piv2,a2,_,_,rfl,rfl,rfl,HFB.out,HMK.out,rfl,HEL2.out,HMS.out,Sl.other (Sl.other HPV8.out (fun B h=> HPN.out B h) _) (fun B h=> HPN.out B h) _,g8,blk8,cap8,_,HX2.out.size,rfl,HEM9.out⟩,HEX.out⟩
 ·have hch:chkS pn mn ml=0:=(chk_iff _ _ _).2 ⟨pn,mn,rfl,rfl,hg.sh,hg.pr,hg.isF hx01 hx02⟩;have hce:canE pn mn ml cols rows=mchkS (pn ^ mn) cols rows:=by
   unfold canE;rw [if_neg (by simp [hch]),Int.toNat_natCast,Int.toNat_natCast]
  have HCE:=hid_ hce;clear hg hch hce hx01 hx02 HMV HV H0;obtain ⟨E,hE⟩:∃E,mchkS (pn ^ mn) cols rows=E:=⟨_,rfl⟩;rw [hE] at HCE hno ⊢;have hb:(E !=0)=true:=by simpa using hno
  have HNO:=hid_ hno;have q0:=Q0.out;have q1:=Q1.out;have qf0:=QF0.out;have qf1:=QF.out;clear hE hno;go_wp2_with fail
  exact bodyPost_ret (v:= .tuple #[.agg #[.int .i64 0,.slice none 0 0],.slice none 0 0,.int .i64 E]) (by simp [results,Tryz.results121,go_sem,q0,q1]) rfl ⟨.inr ⟨by rw [HCE.out];exact HNO.out,by rw [HCE.out]⟩,HEE.out _ _⟩
 ·have hce:canE p m ml cols rows=1:=by
   unfold canE;rw [if_pos (fun h=> hno ((chk_iff _ _ _).1 h))]
  have HCE:=hid_ hce;clear hno hce HMV HV H0;have q0:=Q0.out;have q1:=Q1.out;have qf0:=QF0.out;have qf1:=QF.out;go_wp2_with fail
  exact bodyPost_ret (v:= .tuple #[.agg #[.int .i64 0,.slice none 0 0],.slice none 0 0,.int .i64 1]) (by simp [results,Tryz.results121,go_sem,q0,q1]) rfl ⟨.inr ⟨by rw [HCE.out];decide,by rw [HCE.out]⟩,HEE.out _ _⟩
end
section
open Go.RowKit
theorem ElO.le {p m N R:Nat} {ml:List Int} {a a':Nat→Nat→Int} {piv:List Nat} (h:ElO p m ml N R a a' piv):piv.length≤R:=by
 obtain ⟨c,_,h,_⟩:=h;exact h.le
theorem rCanonF_any {p m:Nat} {ml:List Int} {mv:Value} (w:World) (hf:FSh p m ml) (hF:IsF p m (lw ml)) (hmv:ISl w mv ml) (N R:Nat) (hN:N≤256) (hR:R≤256) (a:Nat→Nat→Int) (hrng:Rng p m R N a) (v:Value) (hv:MSl w v (rowsL N R a)):
  Calls Tryz.prog 123 #[.agg #[.int .i64 p,.int .i64 m,mv],v,.int .i64 N] w fun r w'=> ∃piv pv rv a',r= .returned (.tuple #[rv,pv])∧ElO p m ml N R a a' piv∧MSl w' rv (rowsL N piv.length a')∧ISl w' pv (pI piv)∧Ex w w'∧MSlF w.heap.size w' rv (rowsL N piv.length a'):=by
 obtain ⟨a0,a1,a2,ea,asz⟩:=box_facts w p m mv;have HEL:=hid_ (rElim_any (w.alloc (.cells #[.int .i64 p,.int .i64 m,mv] 24)) hf hF (hmv.ex ea) N R hN hR a hrng v (hv.ex ea));have HE:=hid_ ea;obtain ⟨va,vc,hve,v1,v2,-⟩:=hv.open;rw [rowsL_len] at hve v1;subst hve;obtain ⟨ma,mc,rfl,-,-,-⟩:=hmv.open;clear hf hF hmv hv hrng ea;go_enter Tryz.func123,Tryz.ntmps123
 go_wp2_with fail
 refine HEL.out.mono ?_;rintro e w2 ⟨⟨piv,pa,pc,la,lc,a',rfl,hel,hpv,hlc,hms⟩,hx⟩;have hk:=hel.le;have HELO:=hid_ hel;have HMF:=hid_ ((hms _ hk).mono (by have:=HE.out.size;omega:w.heap.size≤_));have HMS:=hid_ HMF.out.msl;have HPV:=hid_ hpv;have HX:=hid_ (HE.out.trans hx);have l2:lc≤maxLen:=by
  obtain ⟨l3,l4,hle,l1,l2,_⟩:=(hms _ (Nat.le_refl R)).msl.open;injection hle with _ _ h3;rw [h3];exact l2
 unfold maxLen at l2;have k1:(0:Int)≤(piv.length:Int):=by omega
 have k2:(piv.length:Int)≤(lc:Int):=by omega
 clear hel hms hpv hx HEL HE a0 a1 a2 asz;go_wp2_with fail
 go_ret2;exact ⟨piv,_,_,a',rfl,HELO.out,HMS.out,HPV.out,HX.out,HMF.out⟩
theorem rCanon_any {p m:Nat} {ml:List Int} {mv:Value} (w:World) (hf:FSh p m ml) (hF:IsF p m (lw ml)) (hmv:ISl w mv ml) (N R:Nat) (hN:N≤256) (hR:R≤256) (a:Nat→Nat→Int) (hrng:Rng p m R N a) (v:Value) (hv:MSl w v (rowsL N R a)):
  Calls Tryz.prog 123 #[.agg #[.int .i64 p,.int .i64 m,mv],v,.int .i64 N] w fun r w'=> ∃piv pv rv a',r= .returned (.tuple #[rv,pv])∧ElO p m ml N R a a' piv∧MSl w' rv (rowsL N piv.length a')∧ISl w' pv (pI piv)∧Ex w w':=
 (rCanonF_any w hf hF hmv N R hN hR a hrng v hv).mono fun r w' ⟨piv,pv,rv,a',h1,h2,h3,h4,h5,_⟩=> ⟨piv,pv,rv,a',h1,h2,h3,h4,h5⟩
end
section
open Go.RowKit
def fzN:List Int→Nat
 | []=> 0
 | x :: l=> if x=0 then fzN l + 1 else 0
theorem fzN_of:∀(r:List Int) (c:Nat),(∀j,j < c→r.getD j 0=0)→c≤r.length→(c=r.length∨r.getD c 0≠0)→fzN r=c
 | [],c,_,h2,_=> by simp at h2;subst h2;rfl
 | x :: l,0,_,_,h3=> by
  rcases h3 with h3 | h3
  ·simp at h3
  ·unfold fzN;rw [if_neg (by simpa using h3)]
 | x :: l,c + 1,h1,h2,h3=> by
  have h0:x=0:=by have:=h1 0 (by omega);simpa using this
  unfold fzN;rw [if_pos h0,fzN_of l c (fun j hj=> by have:=h1 (j + 1) (by omega);simpa using this) (by simpa using h2) (by simpa using h3)]
theorem lget_D {l:List Int} {i:Nat} (hi:i < l.length):l[i]?=some (l.getD i 0):=by
 rw [List.getD_eq_getElem?_getD,List.getElem?_eq_getElem hi];rfl
def pvL (rows:List (List Int)):List Int:=rows.map fun r=> (fzN r:Int)
theorem rPiv_any (w:World) (rows:List (List Int)) (v:Value) (hv:MSl w v rows) (hR:rows.length≤1000) (hN:∀r∈rows,r.length≤1000):
  Calls Tryz.prog 185 #[v] w fun r w'=> ∃pa pc,r= .returned (.slice pa rows.length pc)∧ISl w' (.slice pa rows.length pc) (pvL rows)∧Ex w w':=by
 obtain ⟨va,vc,rfl,v1,v2,v3⟩:=hv.open;unfold maxLen at v2;have V3:=hid_ v3;have HN:=hid_ hN;clear hv v3 hN;go_enter Tryz.func185,Tryz.ntmps185
 go_wp2_with fail
 go_loopw [3,4] (fun pv i' wr=> ∃(i:Nat) (L:List Int),i≤rows.length∧i'= .int .i64 i∧Hid (L=(pvL rows).take i)∧Hid (wr.ownsRow w.heap.size 3 1 pv L.length (ints L))∧Hid (Ex w wr)) (fun _ i' _=> rows.length - (intOf i').toNat)
 case atStart=> exact ⟨0, [],by omega,rfl,hid_ rfl,hid_ (World.ownsRow_nil _ _ _ _),hid_ (Ex.refl _)⟩
 case round=>
  obtain ⟨i,L,hi,rfl,hL,ho,hx⟩:=hrel;obtain ⟨pa,pc,hpv⟩:=own_shape ho.out;subst hpv;have HPL:=hid_ (show (pvL rows).length=rows.length from by unfold pvL;simp);have HLL:=hid_ (show L.length=i from by rw [hL.out,List.length_take,HPL.out];omega);by_cases hlt:i < rows.length
  ·obtain ⟨zb,zo,rfl,hzc⟩:=V3.out (by omega);obtain ⟨uv,huc,hui⟩:=hzc i _ (List.getElem?_eq_getElem hlt);have cu:=hx.out.cell huc;have hru:=HN.out _ (List.getElem_mem hlt);obtain ⟨r,hre⟩:∃r,rows[i]'hlt=r:=⟨_,rfl⟩;rw [hre] at hui hru;have HFZ:=hid_ (fun (c:Nat) (h1:∀j,j < c→r.getD j 0=0) (h2:c≤r.length) (h3:c=r.length∨r.getD c 0≠0)=> show L ++ [(c:Int)]=(pvL rows).take (i + 1) from by
    have h:=fzN_of r c h1 h2 h3;rw [hL.out,List.take_add_one,List.getElem?_eq_getElem (by rw [HPL.out];exact hlt)];unfold pvL;simp [hre,h])
   have i1:(0:Int)≤(i:Int):=by omega
   have i2:(i:Int) < (rows.length:Int):=by omega
   have b1:decide (i < rows.length)=true:=by simpa using hlt
   obtain ⟨ua,uc,rfl,-,u2,u3⟩:=hui.open;have U3:=hid_ u3;unfold maxLen at u2;have HX:=hid_ hx.out;have HO:=hid_ ho.out;clear hzc huc hui hL ho hx u3 hre;go_wp2_with fail
   go_loop [5] (fun c'=> ∃c:Nat,c≤r.length∧c'= .int .i64 c∧Hid (∀j,j < c→r.getD j 0=0)) (fun c'=> r.length - (intOf c').toNat)
   case atStart=> exact ⟨0,by omega,rfl,hid_ (fun j h=> by omega)⟩
   case round=>
    obtain ⟨c,hc,rfl,hz⟩:=hrel;have key:∀(hend:c=r.length∨r.getD c 0≠0),L ++ [(c:Int)]=(pvL rows).take (i + 1):=fun hend=> HFZ.out c hz.out hc hend;have KEY:=hid_ key;clear key;have HSZ:=hid_ HX.out.size;by_cases hcl:c < r.length
    ·obtain ⟨ub,uo,rfl,huc⟩:=U3.out (by omega);have c1:=HX.out.cell (huc c _ (lget_D hcl));obtain ⟨x,hxx⟩:∃x,r.getD c 0=x:=⟨_,rfl⟩;rw [hxx] at c1;have HXX:=hid_ hxx;have j1:(0:Int)≤(c:Int):=by omega
     have j2:(c:Int) < (r.length:Int):=by omega
     have b2:decide (c < r.length)=true:=by simpa using hcl
     clear huc hxx;by_cases h0:x=0
     ·subst h0;have HZ:=hid_ (show ∀j,j < c + 1→r.getD j 0=0 from fun j hj=> by
       by_cases e:j=c
       ·subst e;exact HXX.out
       ·exact hz.out j (by omega))
      go_wp2_with fail
      go_round
      case rel=> exact ⟨c + 1,by omega,by go_num,HZ⟩
      case measure=> simp [intOf];omega
     ·have kb:(x==0)=false:=by simpa using h0
      have HK:=hid_ (KEY.out (.inr (by rw [HXX.out];exact h0)));clear h0;go_wp2_with (at_builtin;go_loud (refine wpList_append1 _ rfl _ _ 22 rfl w.heap.size 3 (.int .i64 0) 1 8 Tryz.underlying22 infoInt rfl (by decide) _ L.length _ rfl HO.out [.int .i64 c] 3 _ rfl (by simp) rfl (by simp [Value.oneCell']) (by have:=HLL.out;unfold maxLen;omega) (by have:=HLL.out;omega) HSZ.out ?_))
      intro v2 w9 happ;have HO9:=hid_ (show w9.ownsRow w.heap.size 3 1 v2 (L ++ [(c:Int)]).length (ints (L ++ [(c:Int)])) from by
       have:=happ.own;unfold ints at *;rw [List.length_append,List.map_append];exact this)
      have HX9:=hid_ (happ.ex HX.out (Nat.le_refl _));obtain ⟨xa,xc,hv2⟩:=own_shape happ.own;subst hv2;clear happ;go_wp2_with fail
      go_roundw
      case rel=> first | exact ⟨i + 1,_,by omega,by go_num,HK,HO9,HX9⟩ | ((repeat apply Exists.intro);exact ⟨⟨i + 1,_,by omega,by go_num,HK,HO9,HX9⟩,rfl⟩)
      case measure=> simp [intOf];omega
    ·obtain rfl:c=r.length:=by omega
     have HK:=hid_ (KEY.out (.inl rfl));have b2:decide (r.length < r.length)=false:=by simp
     go_wp2_with (at_builtin;go_loud (refine wpList_append1 _ rfl _ _ 22 rfl w.heap.size 3 (.int .i64 0) 1 8 Tryz.underlying22 infoInt rfl (by decide) _ L.length _ rfl HO.out [.int .i64 r.length] 3 _ rfl (by simp) rfl (by simp [Value.oneCell']) (by have:=HLL.out;unfold maxLen;omega) (by have:=HLL.out;omega) HSZ.out ?_))
     intro v2 w9 happ;have HO9:=hid_ (show w9.ownsRow w.heap.size 3 1 v2 (L ++ [(r.length:Int)]).length (ints (L ++ [(r.length:Int)])) from by
      have:=happ.own;unfold ints at *;rw [List.length_append,List.map_append];exact this)
     have HX9:=hid_ (happ.ex HX.out (Nat.le_refl _));obtain ⟨xa,xc,hv2⟩:=own_shape happ.own;subst hv2;clear happ;go_wp2_with fail
     go_roundw
     case rel=> first | exact ⟨i + 1,_,by omega,by go_num,HK,HO9,HX9⟩ | ((repeat apply Exists.intro);exact ⟨⟨i + 1,_,by omega,by go_num,HK,HO9,HX9⟩,rfl⟩)
     case measure=> simp [intOf];omega
  ·obtain rfl:i=rows.length:=by omega
   have HI:=hid_ (show ISl wr (.slice pa L.length pc) (pvL rows) from by
    have h:=hL.out;rw [←HPL.out,List.take_length] at h;rw [h];have:=Sl.own ho.out;rw [h] at this;exact this)
   have HX:=hid_ hx.out;have hll:=HLL.out;rw [hll] at HI;have b1:decide (rows.length < rows.length)=false:=by simp
   rw [hll];clear ho hx hL hll HLL;go_wp2_with fail
   go_ret;exact ⟨_,_,rfl,HI.out,HX.out⟩
def zerB (l:List Int):Bool:=l.all fun x=> x==0
theorem zerB_iff {l:List Int}:zerB l=true↔∀j,j < l.length→l.getD j 0=0:=by
 unfold zerB;rw [List.all_eq_true];constructor
 ·intro h j hj;have:=h (l.getD j 0) (List.mem_of_getElem? (lget_D hj));simpa using this
 ·intro h x hx;obtain ⟨j,hj,rfl⟩:=List.getElem_of_mem hx;have:=h j hj;rw [List.getD_eq_getElem?_getD,List.getElem?_eq_getElem hj] at this;simpa using this
theorem rZero_any (w:World) (l:List Int) (v:Value) (hl:ISl w v l):
  Calls Tryz.prog 170 #[v] w fun r w'=> r= .returned (.bool (zerB l))∧w=w':=by
 obtain ⟨a,cap,rfl,s1,s2,s3⟩:=hl.open;unfold maxLen at s2;have S3:=hid_ s3;have HY:=hid_ (show (∀j,j < l.length→l.getD j 0=0)→zerB l=true from zerB_iff.2);have HN:=hid_ (show ∀j,j < l.length→l.getD j 0≠0→zerB l=false from fun j hj h=> by
  cases hb:zerB l with
  | false=> rfl
  | true=> exact absurd (zerB_iff.1 hb j hj) h)
 obtain ⟨D,hD⟩:∃D,zerB l=D:=⟨_,rfl⟩;rw [hD] at HY HN;rw [hD];clear hl s3 hD;go_enter Tryz.func170,Tryz.ntmps170
 go_wp2_with fail
 go_loop [3] (fun i'=> ∃(i:Nat),i≤l.length∧i'= .int .i64 i∧Hid (∀j,j < i→l.getD j 0=0)) (fun i'=> l.length - (intOf i').toNat)
 case atStart=> exact ⟨0,by omega,rfl,hid_ (fun j h=> by omega)⟩
 case round=>
  obtain ⟨i,hi,rfl,hall⟩:=hrel;by_cases hlt:i < l.length
  ·obtain ⟨bb,o,rfl,hc⟩:=S3.out (by omega);have c1:=hc i _ (lget_D hlt);obtain ⟨x,hx⟩:∃x,l.getD i 0=x:=⟨_,rfl⟩;rw [hx] at c1;have HX:=hid_ hx;have i1:(0:Int)≤(i:Int):=by omega
   have i2:(i:Int) < (l.length:Int):=by omega
   clear hc hx;by_cases h0:x=0
   ·subst h0;have HA:=hid_ (show ∀j,j < i + 1→l.getD j 0=0 from fun j hj=> by
     by_cases e:j=i
     ·subst e;exact HX.out
     ·exact hall.out j (by omega))
    go_wp2_with fail
    go_round
    case rel=> exact ⟨i + 1,by omega,by go_num,HA⟩
    case measure=> simp [intOf];omega
   ·have kb:(x !=0)=true:=by simpa using h0
    have hr:D=false:=HN.out i hlt (by rw [HX.out];exact h0);subst hr;clear h0;go_wp2_with fail
    go_ret;exact ⟨rfl,rfl⟩
  ·obtain rfl:i=l.length:=by omega
   have hr:D=true:=HY.out hall.out;subst hr;go_wp2_with fail
   go_ret;exact ⟨rfl,rfl⟩
end
end Go.Proofs.YtgdmlmhpineibaaGreat
