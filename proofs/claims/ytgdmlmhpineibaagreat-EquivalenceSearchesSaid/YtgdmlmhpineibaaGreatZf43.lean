/- Plain: the rows of a Code value are determined; the examples of chapter 31, computed. -/
import Derived.Test.YtgdmlmhpineibaaGreatZf09
import Derived.Test.YtgdmlmhpineibaaGreatZf15
import Derived.Test.YtgdmlmhpineibaaGreatZf38
import Derived.Test.YtgdmlmhpineibaaGreatZf40
import Derived.Test.YtgdmlmhpineibaaGreatZf41
import Derived.Test.YtgdmlmhpineibaaGreatZf42
namespace Go.Proofs.YtgdmlmhpineibaaGreat
set_option linter.unusedVariables false
set_option linter.unusedSimpArgs false
section
open Go.RowKit
theorem elO_uniq {p m:Nat} {ml:List Int} {N R R2:Nat} {a b a1 a2:Nat→Nat→Int} {piv1 piv2:List Nat} (hp:2≤p) (hm:1≤m) (hab:∀x,Sol p m ml N R a x↔Sol p m ml N R2 b x) (h1:ElO p m ml N R a a1 piv1) (h2:ElO p m ml N R2 b a2 piv2):rowsL N piv1.length a1=rowsL N piv2.length a2∧piv1=piv2:=by
 obtain ⟨c1,x1,y1,z1,s1⟩:=h1;obtain ⟨c2,x2,y2,z2,s2⟩:=h2;obtain ⟨e1,e2⟩:=rr_uniq (ml:=ml) hp hm ⟨c1,x1,y1,z1⟩ ⟨c2,x2,y2,z2⟩ fun x=> ((s1 x).trans (hab x)).trans (s2 x).symm;subst e1;refine ⟨List.map_congr_left fun i hi=> List.map_congr_left fun j hj=> e2 i (List.mem_range.1 hi) j (List.mem_range.1 hj),rfl⟩
theorem elO_self {p m:Nat} {ml:List Int} {N R:Nat} {a:Nat→Nat→Int} {piv:List Nat} {c:Nat} (h:PV p m R N a piv c) (hc:c≤N) (hr:piv.length=R):ElO p m ml N R a a piv:=⟨c,hc,h,.inl hr,fun x=> Iff.rfl⟩
theorem codO_uniq {p m n:Int} {ml:List Int} {rows:List (List Int)} {e e':Int} (h:CodO p m ml n rows e) (h':CodO p m ml n rows e'):e=e':=by
 rcases h with ⟨a,rfl⟩ | ⟨a,b,rfl⟩ | ⟨a,b,h⟩ <;> rcases h' with ⟨a',rfl⟩ | ⟨a',b',rfl⟩ | ⟨a',b',h'⟩ <;> first | rfl | contradiction | skip
 rcases h with ⟨c,rfl⟩ | ⟨c,pn,mn,N,piv,a1,rfl,rfl,rfl,hF,_,hE,rfl⟩ <;> rcases h' with ⟨c',rfl⟩ | ⟨c',pn',mn',N',piv',a1',e1,e2,e3,hF',_,hE',rfl⟩ <;> first | rfl | contradiction | skip
 obtain rfl:pn'=pn:=by omega
 obtain rfl:mn'=mn:=by omega
 obtain rfl:N'=N:=by omega
 obtain ⟨p1,m1,e1,e2,hsh,_⟩:=hF;obtain rfl:p1=pn':=by omega
 obtain rfl:m1=mn':=by omega
 rw [(elO_uniq hsh.p2 hsh.m1 (fun _=> Iff.rfl) hE hE').1]
theorem pv_one {p m N q:Nat} {r:List Int} (hq:q < N) (h0:∀j,j < N→0≤r.getD j 0∧r.getD j 0 < ((p ^ m:Nat):Int)) (h1:r.getD q 0=1) (h2:∀k,k < q→r.getD k 0=0):PV p m 1 N (rowsF [r]) [q] (q + 1) where
 le:=by simp
 rng:=fun i hi j hj=> by
  obtain rfl:i=0:=by omega
  exact h0 j hj
 lt:=fun j q' h=> by
  rcases j with _ | j
  ·simp at h;omega
  ·simp at h
 one:=fun j q' h=> by
  rcases j with _ | j
  ·simp at h;subst h;exact h1
  ·simp at h
 zer:=fun j q' i h hi hne=> by
  rcases j with _ | j
  ·omega
  ·simp at h
 tail:=fun i j h hi _=> by simp at h;omega
 lead:=fun j q' k h hk=> by
  rcases j with _ | j
  ·simp at h;subst h;exact h2 k hk
  ·simp at h
 asc:=fun i j q' r' hij h h'=> by
  rcases j with _ | j
  ·omega
  ·simp at h'
theorem il_row {N:Nat} {r:List Int} (h:r.length=N):il N (rowsF [r] 0)=r:=by
 subst h;refine List.ext_getElem? fun j=> ?_;by_cases hj:j < r.length
 ·rw [il_get hj,List.getElem?_eq_getElem hj];show some (r.getD j 0)=_
  rw [List.getD_eq_getElem?_getD,List.getElem?_eq_getElem hj];rfl
 ·rw [List.getElem?_eq_none (by rw [il_len];omega),List.getElem?_eq_none (by omega)]
theorem codO_one {p m N q:Nat} {ml:List Int} {r:List Int} {e:Int} (hF:FldB p m ml) (hc:canE p m ml N [r]=0) (hl:lenE N=0) (hk:mchkS (p ^ m) N [r]=0) (hr:r.length=N) (hv:PV p m 1 N (rowsF [r]) [q] (q + 1)) (hq:q < N) (h:CodO p m ml N [r] e):e=0:=by
 have hck:chkS p m ml=0:=by
  apply Classical.byContradiction;intro h;unfold canE at hc;rw [if_pos h] at hc;cases hc
 refine codO_uniq h (.inr (.inr ⟨hck,hl,.inr ⟨hc,p,m,N, [q],rowsF [r],rfl,rfl,rfl,hF,hk,elO_self hv (by omega) rfl,?_⟩⟩));rw [if_pos];show [il N (rowsF [r] 0)]= [r]
 rw [il_row hr]
def eC:CdV:=⟨2,1, [],3, [[1,1,0]]⟩
def eD:CdV:=⟨2,1, [],3, [[0,1,1]]⟩
theorem e21:FldB 2 1 []:=⟨2,1,rfl,rfl,⟨by omega,by omega,by omega,by decide,rfl,by intro x hx;cases hx⟩,by decide,(field_iff (p:=2) (m:=1) (ml:= []) ⟨by omega,by omega,by omega,by decide,rfl,by intro x hx;cases hx⟩ (by decide)).2 (.inl rfl)⟩
theorem eC_pv:PV 2 1 1 3 (rowsF [[1,1,0]]) [0] 1:=pv_one (by omega) (by decide) rfl (by decide)
theorem eD_pv:PV 2 1 1 3 (rowsF [[0,1,1]]) [1] 2:=pv_one (by omega) (by decide) rfl (by decide)
theorem eC_cod {e:Int} (h:CodO 2 1 [] 3 [[1,1,0]] e):e=0:=codO_one (p:=2) (m:=1) (N:=3) e21 (by decide +kernel) (by decide +kernel) (by decide +kernel) rfl eC_pv (by omega) h
theorem eD_cod {e:Int} (h:CodO 2 1 [] 3 [[0,1,1]] e):e=0:=codO_one (p:=2) (m:=1) (N:=3) e21 (by decide +kernel) (by decide +kernel) (by decide +kernel) rfl eD_pv (by omega) h
def rfT (x:Rf):Int × Int × Int × List Int:=(x.tp,x.sc,x.side,x.msg)
theorem rfT_inj {l l':List Rf} (h:l.map rfT=l'.map rfT):l=l':=by
 induction l generalizing l' with
 | nil=> cases l' with
  | nil=> rfl
  | cons y t=> simp at h
 | cons x s ih=> cases l' with
  | nil=> simp at h
  | cons y t=>
   rw [List.map_cons,List.map_cons] at h;injection h with h1 h2;rw [ih h2];cases x;cases y
   simp only [rfT,Prod.mk.injEq] at h1;obtain ⟨rfl,rfl,rfl,rfl⟩:=h1;rfl
theorem e_st0:stE 0 0 (samF eC.p eC.m eC.ml eD.p eD.m eD.ml) eC.n eD.n [] [] (eC.p.toNat ^ eC.m.toNat)=0:=by decide +kernel
theorem e_st1:stE 0 0 (samF eC.p eC.m eC.ml eD.p eD.m eD.ml) eC.n eD.n [0] [1] (eC.p.toNat ^ eC.m.toNat)=0:=by decide +kernel
theorem e_st2:stE 0 0 (samF eC.p eC.m eC.ml eC.p eC.m eC.ml) eC.n eC.n [0] [1] (eC.p.toNat ^ eC.m.toNat)=0:=by decide +kernel
theorem e_find:fndE 0 (fndS eC eD [] [])=0∧(fndM 0 (fndS eC eD [] [])).perm= [1,2,0]∧(fndM 0 (fndS eC eD [] [])).scale= [1,1,1]∧(fndM 0 (fndS eC eD [] [])).frob=0:=by decide +kernel
theorem e_find1:fndE 0 (fndS eC eD [0] [1])=11:=by decide +kernel
theorem e_ref:rftE 0 (fndS eC eD [0] [1])=0:=by decide +kernel
theorem e_refL:rftL 0 (fndS eC eD [0] [1])= [⟨0,0,0, [1]⟩]:=rfT_inj (by decide +kernel)
theorem e_ref1:rftE 0 (fndS eC eD [] [])=11:=by decide +kernel
theorem e_wrd:wrdE 3 1 [] [1,0] [2,1] 0 [1,2]=0∧wrdL 3 1 [] [1,0] [2,1] 0 [1,2]= [2,2]:=by decide +kernel
theorem e_inv:monS 3 1 [] 2 [1,0] [2,1] 0=0∧(invM 3 1 [] [1,0] [2,1] 0).perm= [1,0]∧(invM 3 1 [] [1,0] [2,1] 0).scale= [1,2]∧(invM 3 1 [] [1,0] [2,1] 0).frob=0:=by decide +kernel
theorem e_cmp:cmpE 3 1 [] [1,0] [2,1] 0 [1,0] [1,2] 0=0∧(cmpM 3 1 [] [1,0] [2,1] 0 [1,0] [1,2] 0).perm= [0,1]∧(cmpM 3 1 [] [1,0] [2,1] 0 [1,0] [1,2] 0).scale= [1,1]∧(cmpM 3 1 [] [1,0] [2,1] 0 [1,0] [1,2] 0).frob=0:=by decide +kernel
theorem e_app:monS 2 1 [] 3 [1,2,0] [1,1,1] 0=0∧imA 2 1 [] [1,2,0] [1,1,1] 0 3 [[1,1,0]]= [[0,1,1]]:=by decide +kernel
theorem e_chk:ckE 0 (flS eC eD [⟨0,0,0, [1]⟩] [0] [1]) [⟨0,0,0, [1]⟩]=0:=by decide +kernel
theorem e_chk1:ckE 0 (flS eC eC [⟨0,0,0, [1]⟩] [0] [1]) [⟨0,0,0, [1]⟩]=13:=by decide +kernel
end
section
open Go.RowKit
section
variable {p m:Nat} {ml:List Int}
theorem elO_cl {N R:Nat} {a a':Nat→Nat→Int} {piv:List Nat} (hp:2≤p) (h:ElO p m ml N R a a' piv) (f:Nat→Int):Cl p m ml N piv.length a' f↔Cl p m ml N R a f:=by
 obtain ⟨c,hc,hP,hend,hS⟩:=h;have hsol:∀x,Sol p m ml N piv.length a' x↔Sol p m ml N R a x:=fun x=> by
  rw [←hS x];exact ⟨fun h i hi=> by
   by_cases hip:i < piv.length
   ·exact h i hip
   ·refine dt_zero hp fun j hj=> ?_;rcases hend with h1 | h1
    ·omega
    ·exact hP.tail i j (by omega) hi (by omega),fun h i hi=> h i (by have:=hP.le;omega)⟩
 exact ⟨fun hcl x hx=> hcl x ((hsol x).2 hx),fun hcl x hx=> hcl x ((hsol x).1 hx)⟩
theorem rInS_any {mv:Value} (w:World) (hf:FSh p m ml) (hmv:ISl w mv ml) (K:Nat) (hK:K≤64) {R:Nat} {a aa:Nat→Nat→Int} {pa:List Nat} (hR:R≤256) (hel:ElO p m ml K R a aa pa) (rv:Value) (hr:MSl w rv (rowsL K pa.length aa)) (f:Nat→Int) (hfr:EntR p m K f) (v:Value) (hv:ISl w v (il K f)):
  Calls Tryz.prog 146 #[.agg #[.int .i64 p,.int .i64 m,mv],rv,v] w fun r w'=> BolR (Cl p m ml K R a f) r∧Ex w w':=by
 have hcl:=elO_cl hf.p2 hel f;obtain ⟨c,hc,hP,hend,hS⟩:=hel;have hle:=hP.le;have hk0:1≤K∨pa.length=0:=by
  by_cases h:pa.length=0
  ·exact .inr h
  ·left;have:=hP.lt 0 (pa[0]'(by omega)) (List.getElem?_eq_getElem _);omega
 refine (rHasR_any w hf hmv K pa.length hk0 (by omega) (by omega) aa (fun i=> pa.getD i 0) (fun i hi=> hP.fz hc hi) rv hr f v hv).mono ?_;rintro r w' ⟨rfl,hx⟩;refine ⟨⟨_,rfl,?_⟩,hx⟩;rw [rst_cl hf.p2 hf.m1 hP.cut hc rfl hfr,hcl]
theorem lis_iff (hf:FSh p m ml) (msg:List Int) (R:Nat):lisG p m msg R=0↔¬(msg.length≠R∨(msg.any fun x=> !isB (p ^ m) x)=true):=by
 unfold lisG;rw [entG_entS hf,ent_any];by_cases h1:msg.length=R
 ·rw [if_neg (by omega)]
  cases h2:(msg.any fun y=> !isB (p ^ m) y) with
  | true=> simp
  | false=> simp [h1]
 ·rw [if_pos (by omega)];simp [h1]
variable {l1 l2:List (List Int)} {n:Nat} {tl sc:List Int}
theorem Two.shw0 (h:Two p m ml n l1 l2) (hf:FSh p m ml) (hr:rngB tl n=true) (msg:List Int):shwB p m ml l1 l2 tl sc 0 msg=true↔lisG p m msg l1.length=0∧¬Cl p m ml tl.length l2.length (fun i=> seF tl (rowsF l2 i)) (mpF p m ml sc (cmbK p m ml msg l1 l1.length)):=by
 have m0:=misI_neg (p:=p) (m:=m) (ml:=ml) h.hp h.hm (h.spR hr) (n:=1) (l:=fun _=> mpF p m ml sc (cmbK p m ml msg l1 l1.length)) fun i _=> mpF_rng h.hp _ _ _;have e:shwB p m ml l1 l2 tl sc 0 msg=if msg.length≠l1.length∨(msg.any fun x=> !isB (p ^ m) x)=true then false else decide (0≤misI p m ml tl.length (spn p m ml tl.length (fun i=> seF tl (rowsF l2 i)) l2.length) (fun _=> mpF p m ml sc (cmbK p m ml msg l1 l1.length)) 1):=by
  unfold shwB;simp
 rw [e,lis_iff hf];split
 ·rename_i h0;exact ⟨fun h=> (by cases h),fun h=> absurd h0 h.1⟩
 ·rename_i h0;rw [decide_eq_true_iff];exact ⟨fun h1=> ⟨h0,fun hc=> by have:=m0.2 fun _ _=> hc;omega⟩,fun h1=> Int.not_lt.1 fun h2=> h1.2 (m0.1 h2 0 (by omega))⟩
theorem Two.shw1 (h:Two p m ml n l1 l2) (hf:FSh p m ml) (hr:rngB tl n=true) (msg:List Int):shwB p m ml l1 l2 tl sc 1 msg=true↔lisG p m msg l2.length=0∧¬Cl p m ml tl.length l1.length (fun i=> mpF p m ml sc (rowsF l1 i)) (seF tl (cmbK p m ml msg l2 l2.length)):=by
 have m0:=misI_neg (p:=p) (m:=m) (ml:=ml) h.hp h.hm (h.spL tl.length sc) (n:=1) (l:=fun _=> seF tl (cmbK p m ml msg l2 l2.length)) fun i _=> seF_rng hr fun j _=> cmbK_rng h.hp _ _ _ _;have e:shwB p m ml l1 l2 tl sc 1 msg=if msg.length≠l2.length∨(msg.any fun x=> !isB (p ^ m) x)=true then false else decide (0≤misI p m ml tl.length (spn p m ml tl.length (fun i=> mpF p m ml sc (rowsF l1 i)) l1.length) (fun _=> seF tl (cmbK p m ml msg l2 l2.length)) 1):=by
  unfold shwB;simp
 rw [e,lis_iff hf];split
 ·rename_i h0;exact ⟨fun h=> (by cases h),fun h=> absurd h0 h.1⟩
 ·rename_i h0;rw [decide_eq_true_iff];exact ⟨fun h1=> ⟨h0,fun hc=> by have:=m0.2 fun _ _=> hc;omega⟩,fun h1=> Int.not_lt.1 fun h2=> h1.2 (m0.1 h2 0 (by omega))⟩
end
end
section
open Go.RowKit
inductive RKd where
 | val (g:List Value→Value)
 | new (e:TypeId) (size n:Nat) (xs:List Value→List Value)
 | app (c:Option Nat) (e:TypeId) (size n:Nat) (xs:List Value→List Value)
structure RDc where
 kd:RKd
 dp:List Nat
 eat:Nat
def RDc.says (d:RDc) (bw b0:Nat) (V:Nat→Value) (k:Nat) (w:World):Prop:=match d.kd with
 | .val g=> V k=g (d.dp.map V)
 | .new e size n xs=> w.ownsRow bw e size (V k) n (xs (d.dp.map V))
 | .app (some _) e size n xs=> w.ownsRow bw e size (V k) n (xs (d.dp.map V))
 | .app none e size n xs=> w.ownsRow b0 e size (V k) n (xs (d.dp.map V))
def RDc.isRow (d:RDc):Bool:=match d.kd with
 | .val _=> false
 | _=> true
structure RwJ (D:Nat→RDc) (m e0 b0:Nat) (w0 w:World) (v0:Value) (e:TypeId) (size n:Nat) (xs:List Value) (L:Nat→Bool) (V:Nat→Value) (w':World):Prop where
 gr:w.grownBy w' v0.ownBlock
 ex:Ex w0 w'
 lt:∀k,L k=true→k < m
 dps:∀k,L k=true→∀d∈(D k).dp,L d=true
 says:∀k,L k=true→L (D k).eat=false→(D k).says w.heap.size b0 V k w'
 ap:∀j k,L j=true→L k=true→L (D j).eat=false→L (D k).eat=false→j≠k→(D j).isRow=true→(D k).isRow=true→Aprt (V j) (V k)
 out:L e0=false→w'.ownsRow b0 e size v0 n xs∧∀k,L k=true→L (D k).eat=false→(D k).isRow=true→Aprt (V k) v0
 oat:L e0=true→(V e0).ownBlock=v0.ownBlock∨∀B,(V e0).ownBlock=some B→w.heap.size≤B
theorem ownsRow_le {w:World} {base b':Nat} {e:TypeId} {size:Nat} {v:Value} {n:Nat} {xs:List Value} (h:w.ownsRow base e size v n xs) (hb:b'≤base):w.ownsRow b' e size v n xs:=by
 obtain ⟨h1,h2⟩:=h;refine ⟨h1,?_⟩;rcases h2 with h2 | ⟨g,cap,cur,a,b,c⟩
 ·exact .inl h2
 ·exact .inr ⟨g,cap,cur,a,Nat.le_trans hb b,c⟩
theorem grown_ex {w w':World} (h:Ex w w') (ob:Option Nat):w.grownBy w' ob:=⟨h.os,h.tape,h.output,h.size,fun k hk _=> h.block k hk⟩
theorem map_upd {V:Nat→Value} {i:Nat} {u:Value} {dp:List Nat} (h:i ∉ dp):dp.map (upd V i u)=dp.map V:=by
 refine List.map_congr_left fun d hd=> ?_;exact upd_ne _ _ fun e=> h (e ▸ hd)
theorem upd_tt {L:Nat→Bool} {i k:Nat} (h:upd L i true k=true) (hk:k≠i):L k=true:=by rwa [upd_ne _ _ hk] at h
theorem upd_ff {L:Nat→Bool} {i k:Nat} (h:upd L i true k=false):L k=false:=by
 by_cases e:k=i
 ·subst e;rw [upd_same] at h;cases h
 ·rwa [upd_ne _ _ e] at h
section
variable {D:Nat→RDc} {m e0 b0:Nat} {w0 w:World} {v0:Value} {te:TypeId} {size n:Nat} {xs:List Value} {L:Nat→Bool} {V:Nat→Value} {w' w'':World}
theorem RDc.says_upd {d:RDc} {bw:Nat} {k i:Nat} {u:Value} (h:d.says bw b0 V k w') (hk:k≠i) (hd:i ∉ d.dp):d.says bw b0 (upd V i u) k w':=by
 unfold RDc.says at *;rw [map_upd hd,upd_ne _ _ hk];exact h
theorem RDc.says_ex {d:RDc} {bw:Nat} {k:Nat} (h:d.says bw b0 V k w') (hx:Ex w' w''):d.says bw b0 V k w'':=by
 unfold RDc.says at *;split at h
 ·exact h
 ·exact ownsRow_ex h hx
 ·exact ownsRow_ex h hx
 ·exact ownsRow_ex h hx
theorem RDc.says_kept {d:RDc} {bw:Nat} {k:Nat} {ob:Value} (h:d.says bw b0 V k w') (hg:w'.grownBy w'' ob.ownBlock) (ha:d.isRow=true→Aprt (V k) ob):d.says bw b0 V k w'':=by
 unfold RDc.says RDc.isRow at *;split at h
 ·exact h
 ·exact h.kept hg (ha (by simp [*]))
 ·exact h.kept hg (ha (by simp [*]))
 ·exact h.kept hg (ha (by simp [*]))
theorem RDc.says_lt {d:RDc} {bw:Nat} {k:Nat} (h:d.says bw b0 V k w') (hr:d.isRow=true):∀B,(V k).ownBlock=some B→B < w'.heap.size:=fun B hB=> by
 unfold RDc.says RDc.isRow at *;split at h
 ·simp [*] at hr
 ·exact (h.lt B hB).2
 ·exact (h.lt B hB).2
 ·exact (h.lt B hB).2
theorem aprt_new {u v:Value} {N:Nat} (h1:∀B,u.ownBlock=some B→N≤B) (h2:∀B,v.ownBlock=some B→B < N):Aprt u v:=by
 unfold Aprt
 cases hu:u.ownBlock with
 | none=> exact .inl rfl
 | some B=>
  right;intro e;have:=h1 B hu;have:=h2 B e.symm;omega
variable {l:List Oper} {i:Nat} {u:Value}
theorem RwJ.set_val (h:RwJ D m e0 b0 w0 w v0 te size n xs L V w') (him:i < m) (hne:e0≠i) (hi:L i=false) {g:List Value→Value} {dp:List Nat} {eat:Nat} (hD:D i=⟨.val g,dp,eat⟩) (hC:eat=m) (hdp:∀d∈dp,L d=true) (hx:Ex w' w'') (hu:u=g (dp.map V)):RwJ D m e0 b0 w0 w v0 te size n xs (upd L i true) (upd V i u) w'' where
 gr:=h.gr.trans (grown_ex hx _)
 ex:=h.ex.trans hx
 lt:=fun k hk=> by
  by_cases e:k=i
  ·omega
  ·exact h.lt k (upd_tt hk e)
 dps:=fun k hk d hd=> by
  by_cases e:k=i
  ·subst e;rw [hD] at hd;have:=hdp d hd;by_cases e2:d=k
   ·rw [e2,upd_same]
   ·rw [upd_ne _ _ e2];exact this
  ·have:=h.dps k (upd_tt hk e) d hd;by_cases e2:d=i
   ·rw [e2,upd_same]
   ·rw [upd_ne _ _ e2];exact this
 says:=fun k hk he=> by
  by_cases e:k=i
  ·subst e;have hn:k ∉ dp:=fun hm=> by rw [hdp k hm] at hi;cases hi
   unfold RDc.says;simp only [hD];rw [map_upd hn,upd_same];exact hu
  ·have hk':=upd_tt hk e;exact RDc.says_ex (RDc.says_upd (h.says k hk' (upd_ff he)) e (fun hm=> by rw [h.dps k hk' i hm] at hi;cases hi)) hx
 ap:=fun j k hj hk ej ek hjk rj rk=> by
  have nj:j≠i:=fun e=> by subst e;rw [hD] at rj;cases rj
  have nk:k≠i:=fun e=> by subst e;rw [hD] at rk;cases rk
  rw [upd_ne _ _ nj,upd_ne _ _ nk];exact h.ap j k (upd_tt hj nj) (upd_tt hk nk) (upd_ff ej) (upd_ff ek) hjk rj rk
 out:=fun h0=> by
  obtain ⟨a,b⟩:=h.out (upd_ff h0);refine ⟨ownsRow_ex a hx,fun k hk ek rk=> ?_⟩;have nk:k≠i:=fun e=> by subst e;rw [hD] at rk;cases rk
  rw [upd_ne _ _ nk];exact b k (upd_tt hk nk) (upd_ff ek) rk
 oat:=fun h0=> by
  rw [upd_ne _ _ hne] at h0 ⊢;exact h.oat h0
theorem RwJ.set_new (h:RwJ D m e0 b0 w0 w v0 te size n xs L V w') (him:i < m) (hne:e0≠i) (hi:L i=false) {t:TypeId} {s n':Nat} {ys:List Value→List Value} {dp:List Nat} {eat:Nat} (hD:D i=⟨.new t s n' ys,dp,eat⟩) (hdp:∀d∈dp,L d=true) (hx:Ex w' w'') (hu:w''.ownsRow w'.heap.size t s u n' (ys (dp.map V))):RwJ D m e0 b0 w0 w v0 te size n xs (upd L i true) (upd V i u) w'' where
 gr:=h.gr.trans (grown_ex hx _)
 ex:=h.ex.trans hx
 lt:=fun k hk=> by
  by_cases e:k=i
  ·omega
  ·exact h.lt k (upd_tt hk e)
 dps:=fun k hk d hd=> by
  by_cases e:k=i
  ·subst e;rw [hD] at hd;have:=hdp d hd;by_cases e2:d=k
   ·rw [e2,upd_same]
   ·rw [upd_ne _ _ e2];exact this
  ·have:=h.dps k (upd_tt hk e) d hd;by_cases e2:d=i
   ·rw [e2,upd_same]
   ·rw [upd_ne _ _ e2];exact this
 says:=fun k hk he=> by
  by_cases e:k=i
  ·subst e;have hn:k ∉ dp:=fun hm=> by rw [hdp k hm] at hi;cases hi
   unfold RDc.says;simp only [hD];rw [map_upd hn,upd_same];exact ownsRow_le hu h.gr.size
  ·have hk':=upd_tt hk e;exact RDc.says_ex (RDc.says_upd (h.says k hk' (upd_ff he)) e (fun hm=> by rw [h.dps k hk' i hm] at hi;cases hi)) hx
 ap:=fun j k hj hk ej ek hjk rj rk=> by
  by_cases e:j=i
  ·subst e;have nk:k≠j:=fun e=> hjk e.symm;rw [upd_same,upd_ne _ _ nk];exact aprt_new (fun B hB=> (hu.lt B hB).1) (RDc.says_lt (h.says k (upd_tt hk nk) (upd_ff ek)) rk)
  ·by_cases e2:k=i
   ·subst e2;rw [upd_same,upd_ne _ _ e];exact (aprt_new (fun B hB=> (hu.lt B hB).1) (RDc.says_lt (h.says j (upd_tt hj e) (upd_ff ej)) rj)).symm
   ·rw [upd_ne _ _ e,upd_ne _ _ e2];exact h.ap j k (upd_tt hj e) (upd_tt hk e2) (upd_ff ej) (upd_ff ek) hjk rj rk
 out:=fun h0=> by
  obtain ⟨a,b⟩:=h.out (upd_ff h0);refine ⟨ownsRow_ex a hx,fun k hk ek rk=> ?_⟩;by_cases e:k=i
  ·subst e;rw [upd_same];exact aprt_new (fun B hB=> (hu.lt B hB).1) fun B hB=> (a.lt B hB).2
  ·rw [upd_ne _ _ e];exact b k (upd_tt hk e) (upd_ff ek) rk
 oat:=fun h0=> by
  rw [upd_ne _ _ hne] at h0 ⊢;exact h.oat h0
theorem aprt_at {u v x:Value} {N:Nat} (h1:u.ownBlock=v.ownBlock∨u.ownBlock=some N) (h2:∀B,x.ownBlock=some B→B < N) (h3:Aprt x v):Aprt x u:=by
 unfold Aprt at *;rcases h3 with h3 | h3
 ·exact .inl h3
 ·rcases h1 with h1 | h1
  ·right;rw [h1];exact h3
  ·cases hx:x.ownBlock with
   | none=> exact .inl rfl
   | some B=>
    right;rw [h1];intro e;injection e with e;have:=h2 B hx;omega
theorem RwJ.set_app (h:RwJ D m e0 b0 w0 w v0 te size n xs L V w') (hb:w0.heap.size≤b0) (him:i < m) (hne:e0≠i) (hi:L i=false) {t:TypeId} {s n':Nat} {ys:List Value→List Value} {dp:List Nat} {c eat:Nat} (hD:D i=⟨.app (some c) t s n' ys,dp,eat⟩) (hc:L c=true) (hce:(D c).eat=i) (hcr:(D c).isRow=true) (hdp:∀d∈dp,L d=true) (hg:w'.grownBy w'' (V c).ownBlock) (hx:Ex w0 w'') (hat:u.ownBlock=(V c).ownBlock∨u.ownBlock=some w'.heap.size) (hbk:∀B,(V c).ownBlock=some B→w.heap.size≤B) (hu:w''.ownsRow w.heap.size t s u n' (ys (dp.map V))):RwJ D m e0 b0 w0 w v0 te size n xs (upd L i true) (upd V i u) w'' where
 gr:=h.gr.andThen hg fun j hj=> .inl (hbk j hj)
 ex:=hx
 lt:=fun k hk=> by
  by_cases e:k=i
  ·omega
  ·exact h.lt k (upd_tt hk e)
 dps:=fun k hk d hd=> by
  by_cases e:k=i
  ·subst e;rw [hD] at hd;have:=hdp d hd;by_cases e2:d=k
   ·rw [e2,upd_same]
   ·rw [upd_ne _ _ e2];exact this
  ·have:=h.dps k (upd_tt hk e) d hd;by_cases e2:d=i
   ·rw [e2,upd_same]
   ·rw [upd_ne _ _ e2];exact this
 says:=fun k hk he=> by
  by_cases e:k=i
  ·subst e;have hn:k ∉ dp:=fun hm=> by rw [hdp k hm] at hi;cases hi
   unfold RDc.says;simp only [hD];rw [map_upd hn,upd_same];exact hu
  ·have hk':=upd_tt hk e;have hck:k≠c:=fun e2=> by subst e2;rw [hce,upd_same] at he;cases he
   exact RDc.says_upd (RDc.says_kept (h.says k hk' (upd_ff he)) hg fun hr=> h.ap k c hk' hc (upd_ff he) (by rw [hce];exact hi) hck hr hcr) e (fun hm=> by rw [h.dps k hk' i hm] at hi;cases hi)
 ap:=fun j k hj hk ej ek hjk rj rk=> by
  have key:∀k,k≠i→upd L i true k=true→upd L i true (D k).eat=false→(D k).isRow=true→Aprt (V k) u:=fun k nk hk ek rk=> by
   have hck:k≠c:=fun e2=> by subst e2;rw [hce,upd_same] at ek;cases ek
   exact aprt_at hat (RDc.says_lt (h.says k (upd_tt hk nk) (upd_ff ek)) rk) (h.ap k c (upd_tt hk nk) hc (upd_ff ek) (by rw [hce];exact hi) hck rk hcr)
  by_cases e:j=i
  ·subst e;have nk:k≠j:=fun e=> hjk e.symm;rw [upd_same,upd_ne _ _ nk];exact (key k nk hk ek rk).symm
  ·by_cases e2:k=i
   ·subst e2;rw [upd_same,upd_ne _ _ e];exact key j e hj ej rj
   ·rw [upd_ne _ _ e,upd_ne _ _ e2];exact h.ap j k (upd_tt hj e) (upd_tt hk e2) (upd_ff ej) (upd_ff ek) hjk rj rk
 out:=fun h0=> by
  obtain ⟨a,b⟩:=h.out (upd_ff h0);have hcv:=b c hc (by rw [hce];exact hi) hcr;refine ⟨a.kept hg hcv.symm,fun k hk ek rk=> ?_⟩;by_cases e:k=i
  ·subst e;rw [upd_same];exact (aprt_at hat (fun B hB=> (a.lt B hB).2) hcv.symm).symm
  ·rw [upd_ne _ _ e];exact b k (upd_tt hk e) (upd_ff ek) rk
 oat:=fun h0=> by
  rw [upd_ne _ _ hne] at h0 ⊢;exact h.oat h0
theorem RwJ.set_out (h:RwJ D m e0 b0 w0 w v0 te size n xs L V w') (him:i < m) (hi:L i=false) (he0:e0=i) {t:TypeId} {s n':Nat} {ys:List Value→List Value} {dp:List Nat} {eat:Nat} (hD:D i=⟨.app none t s n' ys,dp,eat⟩) (hdp:∀d∈dp,L d=true) (hg:w'.grownBy w'' v0.ownBlock) (hx:Ex w0 w'') (hat:u.ownBlock=v0.ownBlock∨u.ownBlock=some w'.heap.size) (hu:w''.ownsRow b0 t s u n' (ys (dp.map V))):RwJ D m e0 b0 w0 w v0 te size n xs (upd L i true) (upd V i u) w'' where
 gr:=h.gr.trans hg
 ex:=hx
 lt:=fun k hk=> by
  by_cases e:k=i
  ·omega
  ·exact h.lt k (upd_tt hk e)
 dps:=fun k hk d hd=> by
  by_cases e:k=i
  ·subst e;rw [hD] at hd;have:=hdp d hd;by_cases e2:d=k
   ·rw [e2,upd_same]
   ·rw [upd_ne _ _ e2];exact this
  ·have:=h.dps k (upd_tt hk e) d hd;by_cases e2:d=i
   ·rw [e2,upd_same]
   ·rw [upd_ne _ _ e2];exact this
 says:=fun k hk he=> by
  by_cases e:k=i
  ·subst e;have hn:k ∉ dp:=fun hm=> by rw [hdp k hm] at hi;cases hi
   unfold RDc.says;simp only [hD];rw [map_upd hn,upd_same];exact hu
  ·have hk':=upd_tt hk e;obtain ⟨a,b⟩:=h.out (by rw [he0];exact hi);exact RDc.says_upd (RDc.says_kept (h.says k hk' (upd_ff he)) hg fun hr=> b k hk' (upd_ff he) hr) e (fun hm=> by rw [h.dps k hk' i hm] at hi;cases hi)
 ap:=fun j k hj hk ej ek hjk rj rk=> by
  obtain ⟨a,b⟩:=h.out (by rw [he0];exact hi);have key:∀k,k≠i→upd L i true k=true→upd L i true (D k).eat=false→(D k).isRow=true→Aprt (V k) u:=fun k nk hk ek rk=>
   aprt_at hat (RDc.says_lt (h.says k (upd_tt hk nk) (upd_ff ek)) rk) (b k (upd_tt hk nk) (upd_ff ek) rk)
  by_cases e:j=i
  ·subst e;have nk:k≠j:=fun e=> hjk e.symm;rw [upd_same,upd_ne _ _ nk];exact (key k nk hk ek rk).symm
  ·by_cases e2:k=i
   ·subst e2;rw [upd_same,upd_ne _ _ e];exact key j e hj ej rj
   ·rw [upd_ne _ _ e,upd_ne _ _ e2];exact h.ap j k (upd_tt hj e) (upd_tt hk e2) (upd_ff ej) (upd_ff ek) hjk rj rk
 out:=fun h0=> by rw [he0,upd_same] at h0;cases h0
 oat:=fun _=> by
  rw [he0,upd_same];rcases hat with h1 | h1
  ·exact .inl h1
  ·right;intro B hB;rw [h1] at hB;injection hB with hB;have:=h.gr.size;omega
end
section
variable {P:Program} {Q:Exit→Act→World→Prop} {l:List Oper} {a0:Act} {D:Nat→RDc} {m e0 b0:Nat} {w0 w:World} {v0:Value} {te:TypeId} {size n:Nat} {xs:List Value} {i:Nat} {o:Oper}
structure RwH (l:List Oper) (a0:Act) (D:Nat→RDc) (m e0 b0:Nat) (w0 w:World) (v0:Value) (te:TypeId) (size n:Nat) (xs:List Value) (i:Nat) (o:Oper) (L:Nat→Bool) (V:Nat→Value) (a:Act) (w':World):Prop where
 hin:∀(k t:Nat) (o':Oper),L k=true→l[k]?=some o'→o'.dst=some t→a.tmps[t]?=some (V k)
 hout:∀t,(l.all fun o=> o.dst !=some t)=true→a.tmps[t]?=a0.tmps[t]?
 hold:∀t d,((List.range l.length).all fun j=> j==d || !((l[j]?).bind (·.dst)==some t))=true→L d=false→a.tmps[t]?=a0.tmps[t]?
 hj:RwJ D m e0 b0 w0 w v0 te size n xs L V w'
 hi:L i=false
 hd:∀e∈o.after,Region.binds .any e=true→L e.on=true
 hcl:∀(k:Nat) (o':Oper),L k=true→l.toArray[k]?=some o'→∀e∈o'.after,Region.binds .any e=true→L e.on=true
def OpRw (P:Program) (Q:Exit→Act→World→Prop) (l:List Oper) (a0:Act) (D:Nat→RDc) (m e0 b0:Nat) (w0 w:World) (v0:Value) (te:TypeId) (size n:Nat) (xs:List Value) (i:Nat) (o:Oper):Prop:=
 ∀L V a w',RwH l a0 D m e0 b0 w0 w v0 te size n xs i o L V a w'→∀K:Act→World→Prop,(∀u w'',RwJ D m e0 b0 w0 w v0 te size n xs (upd L i true) (upd V i u) w''→K (a.put o.dst u) w'')→o.wp P a w' K Q
theorem OpRw.val {g:List Value→Value} {dp:List Nat} {eat:Nat} (hD:D i=⟨.val g,dp,eat⟩) (him:i < m) (hne:e0≠i) (hC:eat=m) (h:∀L V a w',RwH l a0 D m e0 b0 w0 w v0 te size n xs i o L V a w'→(∀d∈dp,L d=true)∧∀K:Act→World→Prop,(∀w'',Ex w' w''→K (a.put o.dst (g (dp.map V))) w'')→o.wp P a w' K Q):
  OpRw P Q l a0 D m e0 b0 w0 w v0 te size n xs i o:=fun L V a w' H K hK=> by
 obtain ⟨h1,h2⟩:=h L V a w' H;exact h2 K fun w'' hx=> hK _ _ (H.hj.set_val him hne H.hi hD hC h1 hx rfl)
theorem OpRw.new {t:TypeId} {s n':Nat} {ys:List Value→List Value} {dp:List Nat} {eat:Nat} (hD:D i=⟨.new t s n' ys,dp,eat⟩) (him:i < m) (hne:e0≠i) (h:∀L V a w',RwH l a0 D m e0 b0 w0 w v0 te size n xs i o L V a w'→(∀d∈dp,L d=true)∧∀K:Act→World→Prop,(∀u w'',Ex w' w''→w''.ownsRow w'.heap.size t s u n' (ys (dp.map V))→K (a.put o.dst u) w'')→o.wp P a w' K Q):
  OpRw P Q l a0 D m e0 b0 w0 w v0 te size n xs i o:=fun L V a w' H K hK=> by
 obtain ⟨h1,h2⟩:=h L V a w' H;exact h2 K fun u w'' hx hu=> hK _ _ (H.hj.set_new him hne H.hi hD h1 hx hu)
theorem OpRw.app {t:TypeId} {s n':Nat} {ys:List Value→List Value} {dp:List Nat} {c eat:Nat} (hD:D i=⟨.app (some c) t s n' ys,dp,eat⟩) (him:i < m) (hne:e0≠i) (hce:(D c).eat=i) (hcr:(D c).isRow=true) (hb:w0.heap.size≤b0) (hb2:w0.heap.size≤w.heap.size) (h:∀L V a w',RwH l a0 D m e0 b0 w0 w v0 te size n xs i o L V a w'→L c=true∧(∀d∈dp,L d=true)∧∀(K:Act→World→Prop),w.heap.size≤w'.heap.size→(D c).says w.heap.size b0 V c w'→(∀u w'',w''.ownsRow w.heap.size t s u n' (ys (dp.map V))→w'.grownBy w'' (V c).ownBlock→(u.ownBlock=(V c).ownBlock∨u.ownBlock=some w'.heap.size)→K (a.put o.dst u) w'')→o.wp P a w' K Q)
  (hbase:∀t s n ys,(D c).kd≠ .app none t s n ys):OpRw P Q l a0 D m e0 b0 w0 w v0 te size n xs i o:=fun L V a w' H K hK=> by
 obtain ⟨h1,h2,h3⟩:=h L V a w' H;have hs:=H.hj.says c h1 (by rw [hce];exact H.hi);have hbk:∀B,(V c).ownBlock=some B→w.heap.size≤B∧B < w'.heap.size:=fun B hB=> by
  have hs2:=hs;have hcr:=hcr;unfold RDc.says at hs2;unfold RDc.isRow at hcr;split at hs2
  ·simp [*] at hcr
  ·exact hs2.lt B hB
  ·exact hs2.lt B hB
  ·rename_i h;exact absurd h (hbase _ _ _ _)
 refine h3 K H.hj.gr.size hs fun u w'' hu hg hat=> hK u w'' (H.hj.set_app hb him hne H.hi hD h1 hce hcr h2 hg ?_ hat (fun B hB=> (hbk B hB).1) hu);exact Below.grown H.hj.ex hg H.hj.ex.size (fun k hk=> Nat.le_trans hb2 (hbk k hk).1)
theorem OpRw.out {t:TypeId} {s n':Nat} {ys:List Value→List Value} {dp:List Nat} {eat:Nat} (hD:D i=⟨.app none t s n' ys,dp,eat⟩) (him:i < m) (he0:e0=i) (hb:w0.heap.size≤b0) (h:∀L V a w',RwH l a0 D m e0 b0 w0 w v0 te size n xs i o L V a w'→(∀d∈dp,L d=true)∧∀(K:Act→World→Prop),w.heap.size≤w'.heap.size→w'.ownsRow b0 te size v0 n xs→(∀u w'',w''.ownsRow b0 t s u n' (ys (dp.map V))→w'.grownBy w'' v0.ownBlock→(u.ownBlock=v0.ownBlock∨u.ownBlock=some w'.heap.size)→K (a.put o.dst u) w'')→o.wp P a w' K Q):
  OpRw P Q l a0 D m e0 b0 w0 w v0 te size n xs i o:=fun L V a w' H K hK=> by
 obtain ⟨h1,h2⟩:=h L V a w' H;obtain ⟨a1,a2⟩:=H.hj.out (by rw [he0];exact H.hi);exact h2 K H.hj.gr.size a1 fun u w'' hu hg hat=> hK u w'' (H.hj.set_out him H.hi he0 hD h1 hg (Below.grown H.hj.ex hg H.hj.ex.size (fun k hk=> Nat.le_trans hb (a1.lt k hk).1)) hat hu)
theorem wp_region_rw {id:Nat} (D:Nat→RDc) (m e0 b0:Nat) (v0:Value) (te:TypeId) (size n:Nat) (xs:List Value) (hm:P.follows .mixedOrders=true) (hB:rgnG a0.tmps.size l 0 []=true) (hlm:l.length≤m) (hx:Ex w0 w) (hown:w.ownsRow b0 te size v0 n xs)
  (hs:StepAll (OpRw P Q l a0 D m e0 b0 w0 w v0 te size n xs) l 0)
  (he:∀L V w',(∀i,i < l.length→L i=true)→RwJ D m e0 b0 w0 w v0 te size n xs L V w'→Q .normal (putK l V 0 a0) w'):(Code.region id l.toArray true).wp P Q a0 w:=by
 refine wp_region_inv (RwJ D m e0 b0 w0 w v0 te size n xs) hm hB ⟨grown_ex ((Ex.refl w).drew) _,hx.drew,fun k h=> (by cases h),fun k h=> (by cases h),fun k h=> (by cases h),fun j k h=> (by cases h),fun _=> ⟨ownsRow_ex hown ((Ex.refl w).drew),fun k h=> (by cases h)⟩,fun h=> (by cases h)⟩ ?_ he;have key:∀(l':List Oper) (k0:Nat),StepAll (OpRw P Q l a0 D m e0 b0 w0 w v0 te size n xs) l' k0→StepAll (OpSt P Q (RwJ D m e0 b0 w0 w v0 te size n xs) l.toArray a0) l' k0:=fun l'=> by
  induction l' with
  | nil=> intro _ _;trivial
  | cons o l' ih=>
   intro k0 h;refine ⟨?_,ih (k0 + 1) h.2⟩;intro L V a w' hf hj hi hd hcl K hK;refine h.1 L V a w' ⟨fun k t o' hk ho' hd'=> hf.in_ k t hk ho' hd',fun t ht=> hf.out_ t ht,fun t d ht hL=> hf.old t fun j oj hj' hoj e=> ?_,hj,hi,hd,hcl⟩ K hK;have hoj':l[j]?=some oj:=by simpa using hoj
   have h1:=List.all_eq_true.1 ht j (List.mem_range.2 (List.getElem?_eq_some_iff.1 hoj').1);rw [hoj'] at h1;simp [e] at h1;rw [h1] at hj';rw [hj'] at hL;cases hL
 exact key l 0 hs
end
end
end Go.Proofs.YtgdmlmhpineibaaGreat
