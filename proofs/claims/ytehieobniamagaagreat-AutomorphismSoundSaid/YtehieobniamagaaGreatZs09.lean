/- FP with what an operation finds in its slots. -/
import Derived.Test.YtehieobniamagaaGreatZs08
namespace Go.Proofs.YtehieobniamagaaGreat
open Go.RowKit
set_option linter.all false
set_option maxRecDepth 100000
set_option maxHeartbeats 8000000
def lkA(l:List Oper)(pv:Nat->Value)(a0:Act)(m ib ia:Nat)(o:Oper)(t:Nat):Option Value:=match Wu l 0 t with
 | some j=>if (decide (j<m)&&j !=ib&&j !=ia&&(o.after.toList.any fun e=>e.on==j&&Region.binds .any e))=true then some (pv j) else none
 | none=>a0.tmps[t]?
section
variable {P:Program} {Q:Exit->Act->World->Prop} {a0:Act} {l:List Oper} {pv:Nat->Value} {wr:World} {ib ia fa m i:Nat} {o:Oper}
theorem Td{L:Nat->Bool}{a:Act}(aB:∀k t o',L k=true->k<m->k≠ib->k≠ia->l[k]?=some o'->o'.dst=some t->a.tmps[t]?=some (pv k))(aA:∀t,(l.all fun o=>o.dst !=some t)=true->a.tmps[t]?=a0.tmps[t]?)(hd:∀e∈o.after,Region.binds .any e=true->L e.on=true):
  ∀t v,lkA l pv a0 m ib ia o t=some v->a.tmps[t]?=some v:=fun t v hv=>by
 unfold lkA at hv
 cases hj:Wu l 0 t with
 | none=>rw[hj]at hv;rw[aA t (IB l 0 t hj)];exact hv
 | some j=>
  rw[hj]at hv;obtain⟨o',_,h2,h3⟩:=IA l 0 t j hj;simp only at hv;split at hv
  .rename_i h4;injection hv with hv;simp only[Bool.and_eq_true,decide_eq_true_eq,bne_iff_ne,ne_eq]at h4;obtain⟨e,he,h5⟩:=List.any_eq_true.1 h4.2;have he:=Array.mem_toList_iff.1 he;rw[Bool.and_eq_true,beq_iff_eq]at h5;have hL:=hd e he h5.2;rw[h5.1]at hL;rw[<-hv];exact aB j t o' hL h4.1.1.1 h4.1.1.2 h4.1.2 h2 h3
  .cases hv
theorem IU.go(hi:¬i=fa/\¬(i=m∨i=ia)/\¬i=ib)(h:∀(a:Act) (w:World),(∀t v,lkA l pv a0 m ib ia o t=some v->a.tmps[t]?=some v)->Ex wr w->∀K:Act->World->Prop,(∀w',Ex w w'->K (a.put o.dst (pv i)) w')->o.wp P a w K Q):IU P Q l a0 pv wr ib ia fa m i o:=by
 intro L a w aB aA hd K;rw[if_neg hi.1,if_neg hi.2.1,if_neg hi.2.2];intro hx hK;exact h a w (Td aB aA hd) hx K hK
theorem IU.gf(hi:i=fa)(h:∀(a:Act) (w:World),(∀t v,lkA l pv a0 m ib ia o t=some v->a.tmps[t]?=some v)->∀K:Act->World->Prop,K (a.put o.dst (pv i)) w->o.wp P a w K Q):IU P Q l a0 pv wr ib ia fa m i o:=by
 intro L a w aB aA hd K;rw[if_pos hi];intro hK;exact h a w (Td aB aA hd) K hK
theorem IU.sk(hi:¬i=fa/\(i=m∨i=ia∨i=ib)):IU P Q l a0 pv wr ib ia fa m i o:=by
 intro L a w hin hout hd K;rw[if_neg hi.1];by_cases h:i=m∨i=ia
 .rw[if_pos h];trivial
 .have hb:i=ib:=by
   rcases hi.2 with e|e|e
   .exact absurd (.inl e) h
   .exact absurd (.inr e) h
   .exact e
  rw[if_neg h,if_pos hb];intro _;trivial
end
def lkF(l:List Oper)(pv:Nat->Value)(a0:Act)(m ia:Nat)(o:Oper)(t:Nat):Option Value:=match Wu l 0 t with
 | some j=>if (decide (j<m)&&j !=ia&&(o.after.toList.any fun e=>e.on==j&&Region.binds .any e))=true then some (pv j) else none
 | none=>a0.tmps[t]?
section
variable {P:Program} {Q:Exit->Act->World->Prop} {a0:Act} {l:List Oper} {pv:Nat->Value} {wr:World} {ia m i:Nat} {o:Oper} {A Fin:Value->World->Prop}
theorem Oc{L:Nat->Bool}{a:Act}(aB:∀k t o',L k=true->k<m->k≠ia->l[k]?=some o'->o'.dst=some t->a.tmps[t]?=some (pv k))(aA:∀t,(l.all fun o=>o.dst !=some t)=true->a.tmps[t]?=a0.tmps[t]?)(hd:∀e∈o.after,Region.binds .any e=true->L e.on=true):
  ∀t v,lkF l pv a0 m ia o t=some v->a.tmps[t]?=some v:=fun t v hv=>by
 unfold lkF at hv
 cases hj:Wu l 0 t with
 | none=>rw[hj]at hv;rw[aA t (IB l 0 t hj)];exact hv
 | some j=>
  rw[hj]at hv;obtain⟨o',_,h2,h3⟩:=IA l 0 t j hj;simp only at hv;split at hv
  .rename_i h4;injection hv with hv;simp only[Bool.and_eq_true,decide_eq_true_eq,bne_iff_ne,ne_eq]at h4;obtain⟨e,he,h5⟩:=List.any_eq_true.1 h4.2;have he:=Array.mem_toList_iff.1 he;rw[Bool.and_eq_true,beq_iff_eq]at h5;have hL:=hd e he h5.2;rw[h5.1]at hL;rw[<-hv];exact aB j t o' hL h4.1.1 h4.1.2 h2 h3
  .cases hv
theorem IT.go(hi:¬i=ia/\¬i=m)(h:∀(a:Act) (w:World),(∀t v,lkF l pv a0 m ia o t=some v->a.tmps[t]?=some v)->Ex wr w->∀K:Act->World->Prop,(∀w',Ex w w'->K (a.put o.dst (pv i)) w')->o.wp P a w K Q):IT P Q l a0 pv wr A Fin ia m i o:=by
 intro L a w aB aA hd hx K;rw[if_neg hi.1,if_neg hi.2];exact h a w (Oc aB aA hd) hx K
theorem IT.ap(hi:i=ia)(h:∀(a:Act) (w:World),(∀t v,lkF l pv a0 m ia o t=some v->a.tmps[t]?=some v)->Ex wr w->∀K:Act->World->Prop,(∀v w',Ex w w'->A v w'->K (a.put o.dst v) w')->o.wp P a w K Q):IT P Q l a0 pv wr A Fin ia m i o:=by
 intro L a w aB aA hd hx K;rw[if_pos hi];exact h a w (Oc aB aA hd) hx K
theorem IT.st(hi:¬i=ia/\i=m)(h:∀(a:Act) (w:World),(∀t v,lkF l pv a0 m ia o t=some v->a.tmps[t]?=some v)->Ex wr w->∀(K:Act->World->Prop) (v:Value),A v w->(∀t oa,l[ia]?=some oa->oa.dst=some t->a.tmps[t]?=some v)->(∀w',Fin v w'->K (a.put o.dst undef) w')->o.wp P a w K Q):IT P Q l a0 pv wr A Fin ia m i o:=by
 intro L a w aB aA hd hx K;rw[if_neg hi.1,if_pos hi.2];intro v;exact h a w (Oc aB aA hd) hx K v
end
theorem Ji{p m:Int}{ml:List Int}{n:Int}{pl sl:List Int}{fr:Int}(h:CI p m ml n pl sl fr=0):
  Ce p m ml=0/\1<=n/\n<=64/\(pl.length:Int)=n/\(sl.length:Int)=n/\BB pl n=true/\0<=fr/\fr<m/\EH pl=false/\EU (p.toNat^m.toNat) sl=0:=by
 unfold CI at h;split at h
 .cases h
 rename_i h1;split at h
 .cases h
 rename_i h2;split at h
 .cases h
 rename_i h3;split at h
 .cases h
 rename_i h4;split at h
 .cases h
 rename_i h5;refine⟨by simpa using h1,ac,ac,ac,ac,?_,ac,ac,by simpa using h5,h⟩
 cases hr:BB pl n with
 | true=>rfl
 | false=>exact absurd (.inl hr) h4
section
variable {b p m x0:Nat} {ml:List Int}
end
theorem zaP{P:Prop}(h:P:=by
 rw[List.getElem?_eq_none (by rw[AL];omega),List.getElem?_eq_none (by omega)]):P:=h
theorem VG{N i:Nat}{rows:List (List Int)}{r:List Int}(hr:rows[i]?=some r)(hl:r.length=N):il N (Ak rows i)=r:=by
 apply List.ext_getElem?;intro j;by_cases h:j<N
 .rw[AQ h];unfold Ak;rw[List.getD_eq_getElem?_getD (l:=rows),hr,List.getD_eq_getElem?_getD];show some (r[j]?.getD 0)=r[j]?
  rw[List.getElem?_eq_getElem ac];rfl
 .exact zaP
theorem Qx{p m:Nat}{ml:List Int}{N R:Nat}{a a':Nat->Nat->Int}{piv:List Nat}(h:H7 p m ml N R a a' piv):piv.length<=R/\∀t∈Aw N piv.length a',t.length=N/\Cc (p^m) t=0:=by
 obtain⟨c,hc,hP,_,hS⟩:=h;refine⟨hP.le,fun t ht=>?_⟩;unfold Aw at ht;obtain⟨i,hi,rfl⟩:=List.mem_map.1 ht;have hi:=List.mem_range.1 hi;refine⟨AL _ _,TE fun x hx=>?_⟩;obtain⟨j,hj,rfl⟩:=Ot hx;exact hP.rng i (by have:=hP.le;omega) j hj
def DI(p m:Int)(ml:List Int)(aA:Int)(rows:List (List Int)):Int:=if Ce p m ml≠0 then 1 else B6 (p.toNat^m.toNat) aA rows
def CanR(p m:Int)(ml:List Int)(aA:Int)(rows:List (List Int))(b0:Nat)(r:Ending)(w':World):Prop:=
 (DI p m ml aA rows=0/\∃(pn mn N:Nat) (piv:List Nat) (a':Nat->Nat->Int) (rv pv:Value),p=pn/\m=mn/\aA=N/\Ga p m ml/\B6 (pn^mn) N rows=0/\r= .returned (.tuple #[.agg #[N,rv],pv,(0:Int)])/\H7 pn mn ml N rows.length (Ak rows) a' piv/\BZ w' rv (Aw N piv.length a')/\Al w' pv (pI piv)/\∃g blk cap base,b0<=base/\rv= .slice (some ⟨g,0,none⟩) piv.length piv.length/\EM w' base g rows.length N blk cap a' [])∨
 (DI p m ml aA rows≠0/\r= .returned (.tuple #[.agg #[(0:Int),.slice none 0 0],.slice none 0 0,.int .i64 (DI p m ml aA rows)]))
theorem cq{P:Prop}(h:P:=by show w.heap.size<=xb+1+1;omega):P:=h
theorem di{P:Prop}(h:P:=by simp[results,Tryz.results152,go_sem,q0,q1]):P:=h
theorem Hp(w:World)(p m:Int)(ml:List Int)(mv:Value)(aX:Al w mv ml)(aA:Int)(rows:List (List Int))(v:Value)(hv:BZ w v rows)(h0:DI p m ml aA rows=0->1<=aA):
  Calls Tryz.prog 152 #[.agg #[p,m,mv],.agg #[aA,v]] w fun r w'=>CanR p m ml aA rows w.heap.size r w'/\Ex w w':=by
 have HO:=Aa (fun w' B h1 h2 h3 h4=>Uy p m ml mv w' h1 aA rows v h2 B h3 h4);obtain⟨g0,g1,g2,e0,aQ⟩:=AA w p m mv;have aU:=Aa aX;have HV:=Aa hv;have H0:=Aa h0;obtain⟨za,zc,rfl,z1,z2,z3⟩:=hv.open;clear z1 z3;unfold maxLen at z2;obtain⟨xb,bB⟩:=nA w.heap.size;rw[bB]at g0 g1 g2 aQ;clear aX hv h0;go_enter Tryz.func152,Tryz.ntmps152
 go_wp2_with fail
 generalize w.alloc (.cells #[p,m,mv] 24)=wA at *;obtain⟨a0,a1,ea⟩:=EL wA aA (.slice za rows.length zc);have aL:(wA.alloc (.cells #[aA,.slice za rows.length zc] 137)).heap.size=xb+1+1:=by simp[aQ]
 rw[aQ]at a0 a1;generalize wA.alloc (.cells #[aA,.slice za rows.length zc] 137)=wB at *;obtain⟨q0,q1,eb⟩:=EL wB 0 (.slice none 0 0);have qf:(wB.alloc (.cells #[(0:Int),.slice none 0 0] 137)).frozen? (xb+1+1,1)=false:=dl;have aH:(wB.alloc (.cells #[(0:Int),.slice none 0 0] 137)).frozen? (xb+1+1,0)=false:=dl;have aY:(wB.alloc (.cells #[(0:Int),.slice none 0 0] 137)).heap.size=xb+1+1+1:=by simp[aL]
 rw[aL]at q0 q1;generalize wB.alloc (.cells #[(0:Int),.slice none 0 0] 137)=wC at *;obtain⟨l0,l1,ec⟩:=EL wC aA (.slice za rows.length zc);rw[aY]at l0 l1;generalize wC.alloc (.cells #[aA,.slice za rows.length zc] 137)=wD at *;have eD:Ex w wD:=((e0.trans ea).trans eb).trans ec;obtain⟨A0,A1,Q0,Q1,QF,aM,bE⟩:=OK ((eb.trans ec).cell a0) ((eb.trans ec).cell a1) (ec.cell q0) (ec.cell q1) (ec.frz q1 qf) (ec.frz q0 aH) eD;refine(HO.o wD (xb+1+1+1) (aU.o.ex eD) (HV.o.ex eD) l0 l1).mono ?_;clear g0 g1 g2 e0 aQ ea aL a0 a1 eb aY q0 q1 qf aH l0 l1 ec eD HO;rintro e w2⟨ho,aC⟩;have aR:=Aa (bE.o.trans aC);have QF:=Aa (aC.frz Q1.o QF.o);have aM:=Aa (aC.frz Q0.o aM.o);have c0:=aC.cell A0.o;have c1:=aC.cell A1.o;have Q0:=Aa (aC.cell Q0.o);have Q1:=Aa (aC.cell Q1.o);have A0:=Aa c0;clear aC A1;have bA:=Aa (fun (i:Value) (j:Value)=>((aR.o).setCell (p:=(xb+1+1,0)) cq i).setCell (p:=(xb+1+1,1)) cq j);rcases ho with⟨pn,mn,x0,b,rfl,rfl,hg,hx01,hx02,⟨hmk,rfl⟩|⟨hno,rfl⟩⟩|⟨hno,rfl⟩
 .have aG:Ce pn mn ml=0:=(Cm _ _ _).2 ⟨pn,mn,rfl,rfl,hg.sh,hg.pr,hg.isF hx01 hx02⟩;have aB:DI pn mn ml aA rows=0:=by
   unfold DI;rw[if_neg (by simp[aG]),Int.toNat_natCast,Int.toNat_natCast];exact hmk
  have bD:=H0.o aB;obtain⟨s1,s2,s3,s4⟩:=EF hmk;obtain⟨N,rfl⟩:∃N:Nat,aA=N:=⟨aA.toNat,ac⟩;have aD:=Aa aB;have bL:=Aa ((Cm _ _ _).1 aG);have bK:=Aa hmk;have bN:=Aa (Sc w2 hg hx01 hx02 N rows.length rows _ (HV.o.ex aR.o) rfl s3 ac ac fun i r h=>by
   have:=s4 r (List.mem_of_getElem? h);exact⟨ac,this.2⟩)
  have bG:=Aa s3;clear hg aG aB bD s1 s2 s3 s4 hmk hx01 hx02;go_wp2_with (go_at_call 157;refine bN.o.mono ?_;rintro e w8⟨piv2,pv2,rv2,a2,rfl,aK,aS,aF,aE,g8,blk8,cap8,rfl,aJ,aI⟩;have a0n:=aE.cell A0.o;have q0:=aE.cell Q0.o;have aH:=aE.frz Q0.o aM.o;have q1:=aE.cell Q1.o;have aW:=aE.frz Q1.o QF.o;have aO:=Aa aK;have aN:=Aa aJ;have bF:=Aa aE;have aT:=Aa aF;have bH:=Aa aI;obtain⟨pa,pc,rfl,-,-,-⟩:=aF.open;clear aK aJ aE aI aS aF)
  have aP:xb+1+1<w2.heap.size:=World.block_lt_of_cell? _ _ Q0.o;have bC:=(Qx aO.o).1;obtain⟨bJ,aV,aZ,bM⟩:=Eq (((aN.o.low (A:=⟨xb+1+1,0,none⟩) aP (.int .i64 N)).low (A:=⟨xb+1+1,1,none⟩) aP (.slice (some (g8,0)) piv2.length piv2.length)).msl bC bG.o) ((aN.o.low (A:=⟨xb+1+1,0,none⟩) aP (.int .i64 N)).low (A:=⟨xb+1+1,1,none⟩) aP (.slice (some (g8,0)) piv2.length piv2.length)) (fun B h=>show B≠xb+1+1 from by have:=bH.o B h;omega) ((((aR.o).trans bF.o).setCell (p:=(xb+1+1,0)) cq (.int .i64 N)).setCell (p:=(xb+1+1,1)) cq (.slice (some (g8,0)) piv2.length piv2.length));exact bodyPost_ret (v:= .tuple #[.agg #[N,.slice (some (g8,0)) piv2.length piv2.length],.slice pa (pI piv2).length pc,(0:Int)]) di rfl ⟨.inl ⟨aD.o,pn,mn,N,piv2,a2,_,_,rfl,rfl,rfl,bL.o,bK.o,rfl,aO.o,bJ.o,Sl.other (Sl.other aT.o (fun B h=>aZ.o B h) _) (fun B h=>aZ.o B h) _,g8,blk8,cap8,_,aR.o.size,rfl,aV.o⟩,bM.o⟩
 .have aG:Ce pn mn ml=0:=(Cm _ _ _).2 ⟨pn,mn,rfl,rfl,hg.sh,hg.pr,hg.isF hx01 hx02⟩;have aB:DI pn mn ml aA rows=B6 (pn^mn) aA rows:=by
   unfold DI;rw[if_neg (by simp[aG]),Int.toNat_natCast,Int.toNat_natCast]
  have aD:=Aa aB;clear hg aG aB hx01 hx02 aU HV H0;obtain⟨E,hE⟩:=nA (B6 (pn^mn) aA rows);rw[hE]at aD hno ⊢;have hb:(E !=0)=true:=by simpa using hno
  have bI:=Aa hno;have q0:=Q0.o;have q1:=Q1.o;have aH:=aM.o;have aW:=QF.o;clear hE hno;go_wp2_with fail
  exact bodyPost_ret (v:= .tuple #[.agg #[(0:Int),.slice none 0 0],.slice none 0 0,E]) di rfl ⟨.inr ⟨by rw[aD.o];exact bI.o,by rw[aD.o]⟩,bA.o _ _⟩
 .have aB:DI p m ml aA rows=1:=by
   unfold DI;rw[if_pos (fun h=>hno ((Cm _ _ _).1 h))]
  have aD:=Aa aB;clear hno aB aU HV H0;have q0:=Q0.o;have q1:=Q1.o;have aH:=aM.o;have aW:=QF.o;go_wp2_with fail
  exact bodyPost_ret (v:= .tuple #[.agg #[(0:Int),.slice none 0 0],.slice none 0 0,(1:Int)]) di rfl ⟨.inr ⟨by rw[aD.o];decide,by rw[aD.o]⟩,bA.o _ _⟩
theorem zcA{P:Prop}(h:P:=by
 cases l with
 | nil=>rfl
 | cons x t=>obtain⟨_,_,h,_⟩:=s3 (by simp);cases h):P:=h
theorem Gc(w:World)(l:List Int)(v:Value)(hl:Al w v l)(hn2:l.length<=1000):
  Calls Tryz.prog 154 #[v] w fun r w'=>∃v',r= .returned v'/\Al w' v' l/\(∀B,v'.ownBlock=some B->w.heap.size<=B)/\Ex w w':=by
 have HL:=Aa hl;obtain⟨a,cap,rfl,s1,s2,s3⟩:=hl.open;have aD:∀u∈Ao l,u.oneCell'=true:=by
  exact zdc
 have aG:=Aa aD;clear hl aD
 cases a with
 | none=>
  have h0:l= []:=by
   exact zcA
  subst h0;have aB:=fun w'=>AP (P:=Tryz.prog) w' 22 3 none 0 cap Tryz.underlying22;simp only[Option.isNone]at aB;clear s1 s2 s3;go_enter Tryz.func154,Tryz.ntmps154
  go_wp2_with fail
  go_ret;exact⟨_,rfl,A7 _,by simp[Value.ownBlock],Ex.refl _⟩
 | some ad=>
  have aB:=fun w'=>AP (P:=Tryz.prog) w' 22 3 (some ad) l.length cap Tryz.underlying22;simp only[Option.isNone]at aB;clear s3;go_enter Tryz.func154,Tryz.ntmps154
  go_wp2_with (at_builtin;refine Bl _ rfl _ _ 22 rfl w.heap.size 3 (.int .i64 0) 1 8 Tryz.underlying22 AC rfl ae _ 0 [] rfl (Bw w 3) (.slice (some ad) l.length cap) l.length (Ao l) rfl (HL.o.ex ((Ex.refl w).alloc _)) aG.o ai ac ag ?_)
  intro v1 w1 aA aE aF;have aC:Ex w w1:=Ex.grown ((Ex.refl w).alloc _) (Bw w 3) (Nat.le_refl _) aE;have HI:=Aa (show Al w1 v1 l from Sl.own aA);have HB:=Aa (fun B (e:v1.ownBlock=some B)=>(aA.lt B e).1);have HX:=Aa aC;clear aA aE aF aC aB;go_wp2_with fail
  go_ret;exact⟨_,rfl,HI.o,HB.o,HX.o⟩
def ET(n:Int):Int:=if n<1∨64<n then 4 else 0
theorem Lf(w:World)(n:Int):Calls Tryz.prog 148 #[n] w fun r w'=>r= .returned (.int .i64 (ET n))/\w'=w:=by
 unfold ET;go_enter Tryz.func148,Tryz.ntmps148
 by_cases h1:n<1
 .have b1:decide (n<1)=true:=by simpa using h1
  rw[if_pos (.inl h1)];exact zdm
 .have b1:decide (n<1)=false:=by simpa using h1
  by_cases h2:64<n
  .have b2:decide (64<n)=true:=by simpa using h2
   rw[if_pos (.inr h2)];exact zdm
  .have b2:decide (64<n)=false:=by simpa using h2
   rw[if_neg ac];exact zdm
theorem EN(w:World)(p m:Int)(mv:Value)(n:Int)(gv:Value):(w.alloc (.cells #[p,m,mv,n,gv] 39)).cell? (w.heap.size,0)=some (.int .i64 p)/\(w.alloc (.cells #[p,m,mv,n,gv] 39)).cell? (w.heap.size,1)=some (.int .i64 m)/\(w.alloc (.cells #[p,m,mv,n,gv] 39)).cell? (w.heap.size,2)=some mv/\(w.alloc (.cells #[p,m,mv,n,gv] 39)).cell? (w.heap.size,3)=some (.int .i64 n)/\(w.alloc (.cells #[p,m,mv,n,gv] 39)).cell? (w.heap.size,4)=some gv/\Ex w (w.alloc (.cells #[p,m,mv,n,gv] 39)):=
 ⟨ag,ag,ag,ag,ag,(Ex.refl _).alloc _⟩
theorem ZL(w:World)(p m:Int)(mv:Value)(n:Int)(rows:List (List Int))(gv:Value)(hg:BZ w gv rows):
  Calls Tryz.prog 104 #[.agg #[p,m,mv,n,gv]] w fun r w'=>r= .returned (.agg #[n,gv])/\Ex w w':=by
 obtain⟨a0,a1,a2,a3,a4,ea⟩:=EN w p m mv n gv;obtain⟨za,zc,rfl,z1,z2,z3⟩:=hg.open;clear z3;unfold maxLen at z2;go_enter Tryz.func104,Tryz.ntmps104
 go_wp2_with fail
 exact bodyPost_ret (v:= .agg #[n,.slice za rows.length zc]) (by simp[results,Tryz.results104,go_sem]) rfl ⟨rfl,ea.trans ((Ex.refl _).alloc _)⟩
theorem d8{P:Prop}(h:P:=by show w.heap.size<=xb+1;omega):P:=h
theorem Y8(w:World)(p m:Int)(ml:List Int)(mv:Value)(aD:Al w mv ml)(hn:ml.length<=1000):
  Calls Tryz.prog 159 #[.agg #[p,m,mv]] w fun r w'=>∃v',r= .returned (.agg #[p,m,v'])/\Al w' v' ml/\(∀B,v'.ownBlock=some B->w.heap.size<=B)/\Ex w w':=by
 obtain⟨a0,a1,a2,e0,aJ⟩:=AA w p m mv;obtain⟨q0,q1,q2,eb,aI⟩:=AA (w.alloc (.cells #[p,m,mv] 24)) 0 0 (.slice none 0 0);have af:(w.alloc (.cells #[p,m,mv] 24)).frozen? (w.heap.size,2)=false:=ag;have qf:((w.alloc (.cells #[p,m,mv] 24)).alloc (.cells #[(0:Int),(0:Int),.slice none 0 0] 24)).frozen? ((w.alloc (.cells #[p,m,mv] 24)).heap.size,0)=false/\((w.alloc (.cells #[p,m,mv] 24)).alloc (.cells #[(0:Int),(0:Int),.slice none 0 0] 24)).frozen? ((w.alloc (.cells #[p,m,mv] 24)).heap.size,1)=false/\((w.alloc (.cells #[p,m,mv] 24)).alloc (.cells #[(0:Int),(0:Int),.slice none 0 0] 24)).frozen? ((w.alloc (.cells #[p,m,mv] 24)).heap.size,2)=false:=⟨ag,ag,ag⟩;replace af:=eb.frz a2 af;replace a0:=eb.cell a0;replace a1:=eb.cell a1;replace a2:=eb.cell a2;rw[aJ]at q0 q1 q2 qf aI;have HE:=Aa (e0.trans eb);have aO:=Aa (aD.ex HE.o);obtain⟨ma,mc,rfl,m1',m2,m3⟩:=aD.open;unfold maxLen at m2;clear aD m3 e0 eb aJ;go_enter Tryz.func159,Tryz.ntmps159
 go_wp2_with fail
 obtain⟨xb,aA⟩:=nA w.heap.size;rw[aA]at a0 a1 a2 q0 q1 q2 qf aI af
 try simp only[aA]
 generalize (w.alloc (.cells #[p,m,.slice ma ml.length mc] 24)).alloc (.cells #[(0:Int),(0:Int),.slice none 0 0] 24)=w1 at *;have aN:=Aa aA;obtain⟨aG,aF,aE⟩:=qf;clear aA;refine(Gc w1 ml _ aO.o hn).mono ?_;rintro e w2⟨v',rfl,aC,aH,hx⟩;have HV:=Aa aC;have HB:=Aa (fun B e=>show xb+1+1<=B from by have:=aH B e;omega);have HX:=Aa hx;obtain⟨va,vc,rfl,-,-,-⟩:=aC.open;have a0':=hx.cell a0;have a1':=hx.cell a1;have af':=hx.frz a2 af;have a2':=hx.cell a2;have aM:=hx.cell q0;have aL:=hx.cell q1;have aK:=hx.cell q2;have qf0':=hx.frz q0 aG;have qf1':=hx.frz q1 aF;have qf2':=hx.frz q2 aE;clear a0 a1 a2 af q0 q1 q2 aG aF aE aC aH hx;go_wp2_with fail
 have aB:∀B,(Value.slice va ml.length vc).ownBlock=some B->B≠xb/\B≠xb+1:=fun B e=>by have:=HB.o B e;omega
 have hw:w.heap.size=xb:=aN.o;exact bodyPost_ret (v:= .agg #[p,m,.slice va ml.length vc]) (by simp[results,Tryz.results159,go_sem,aM,aL,aK]) rfl ⟨_,rfl,Sl.other (Sl.other (Sl.other (Sl.other HV.o (fun B h=>(aB B h).1) _) (fun B h=>(aB B h).2) _) (fun B h=>(aB B h).2) _) (fun B h=>(aB B h).2) _,fun B e=>by have:=HB.o B e;omega,
  ((((HE.o.trans HX.o).setCell (p:=(xb,2)) (by show w.heap.size<=xb;omega) _).setCell (p:=(xb+1,0)) d8 _).setCell (p:=(xb+1,1)) d8 _).setCell (p:=(xb+1,2)) d8 _⟩
theorem Hb(w:World)(l k:List Int)(v u:Value)(hl:Al w v l)(hk:Al w u k):
  Calls Tryz.prog 101 #[v,u] w fun r w'=>r= .returned (.bool (decide (l=k)))/\∃n,w'=w.drewN n:=by
 obtain⟨a,cap,rfl,s1,s2,s3⟩:=hl.open;obtain⟨c,cc,rfl,t1,t2,t3⟩:=hk.open;have S3:=Aa s3;have T3:=Aa t3;unfold maxLen at s2 t2;clear hl hk s3 t3;by_cases hlk:l.length=k.length
 .have hb:((l.length:Int) !=(k.length:Int))=false:=by simp;omega
  have aD:=Aa hlk;clear hlk;go_enter Tryz.func101,Tryz.ntmps101
  go_wp2_with fail
  go_loopw [13] (fun i' wr=>∃i n:Nat,i<=l.length/\i'= .int .i64 i/\wr=w.drewN n/\Hia (∀j,j<i->l[j]?=k[j]?)) (fun i' _=>l.length-(intOf i').toNat)
  case atStart=>exact⟨0,0,ac,rfl,rfl,Aa (fun j hj=>ac)⟩
  case round=>
   exact zcn
 .have hb:((l.length:Int) !=(k.length:Int))=true:=by simp;omega
  have HN:=Aa (show ¬l=k from fun e=>hlk cj);clear hlk;go_enter Tryz.func101,Tryz.ntmps101
  exact zcM
theorem D9(w:World)(l k:List (List Int))(v u:Value)(hl:BZ w v l)(hk:BZ w u k):
  Calls Tryz.prog 128 #[v,u,.func (.func 101) #[] #[]] w fun r w'=>r= .returned (.bool (decide (l=k)))/\∃n,w'=w.drewN n:=by
 obtain⟨a,cap,rfl,s1,s2,s3⟩:=hl.open;obtain⟨c,cc,rfl,t1,t2,t3⟩:=hk.open;have S3:=Aa s3;have T3:=Aa t3;unfold maxLen at s2 t2;clear hl hk s3 t3;by_cases hlk:l.length=k.length
 .have hb:((l.length:Int) !=(k.length:Int))=false:=by simp;omega
  have aI:=Aa hlk;clear hlk;go_enter Tryz.func128,Tryz.ntmps128
  go_wp2_with fail
  go_loopw [17] (fun i' wr=>∃i n:Nat,i<=l.length/\i'= .int .i64 i/\wr=w.drewN n/\Hia (∀j,j<i->l[j]?=k[j]?)) (fun i' _=>l.length-(intOf i').toNat)
  case atStart=>exact⟨0,0,ac,rfl,rfl,Aa (fun j hj=>ac)⟩
  case round=>
   obtain⟨i,n,hi,rfl,rfl,aC⟩:=hrel;by_cases hlt:i<l.length
   .obtain⟨x,hx⟩:∃x,l[i]?=some x:=⟨_,List.getElem?_eq_getElem hlt⟩;have aJ:i<k.length:=by have:=aI.o;omega
    obtain⟨y,hy⟩:∃y,k[i]?=some y:=⟨_,List.getElem?_eq_getElem aJ⟩;obtain⟨b,o,rfl,hc⟩:=S3.o ac;obtain⟨b2,o2,rfl,aG⟩:=T3.o ac;obtain⟨u1,e1,aF⟩:=hc i x hx;obtain⟨u2,e2,aE⟩:=aG i y hy;have c1:=((Ex.refl w).drewN n).cell e1;have c2:=((Ex.refl w).drewN n).cell e2;have aB:=aF.ex ((Ex.refl w).drewN n);have aA:=aE.ex ((Ex.refl w).drewN n);have i1:(0:Int)<=(i:Int):=bf;have i2:(i:Int)<(l.length:Int):=ac;have i3:(i:Int)<(k.length:Int):=ac;obtain⟨W,hW⟩:=nA (w.drewN n);rw[hW]at c1 c2 aB aA ⊢;have aH:=Aa hW;have aD:=Aa (Hb W x y u1 u2 aB aA);obtain⟨ua,uc,rfl,_,_,_⟩:=aB.open;obtain⟨va,vc,rfl,_,_,_⟩:=aA.open;by_cases hxy:x=y
    .have HA:=Aa (show ∀j,j<i+1->l[j]?=k[j]? from fun j hj=>by
      by_cases e:j=i
      .subst e;rw[hx,hy,hxy]
      .exact aC.o j ac)
     rw[decide_eq_true hxy]at aD;clear hc aG hx hy hxy hW aF aE e1 e2 aB aA;go_wp2_with (go_at_call 101;refine aD.o.mono ?_;rintro e w5⟨rfl,n5,rfl⟩)
     exact zbN
    .have HN:=Aa (show ¬l=k from fun e=>hxy (by rw[e,hy]at hx;injection hx with hx;exact hx.symm));rw[decide_eq_false hxy]at aD;clear hc aG hx hy hxy hW aF aE e1 e2 aB aA;go_wp2_with (go_at_call 101;refine aD.o.mono ?_;rintro e w5⟨rfl,n5,rfl⟩)
     exact zcl
   .exact zaz
 .have hb:((l.length:Int) !=(k.length:Int))=true:=by simp;omega
  have HN:=Aa (show ¬l=k from fun e=>hlk cj);clear hlk;go_enter Tryz.func128,Tryz.ntmps128
  exact zcM
theorem CM(w:World)(c:Int)(v:Value):(w.alloc (.cells #[c,v] 137)).cell? (w.heap.size,0)=some (.int .i64 c)/\(w.alloc (.cells #[c,v] 137)).cell? (w.heap.size,1)=some v/\Ex w (w.alloc (.cells #[c,v] 137)):=⟨ag,ag,(Ex.refl _).alloc _⟩
def Mt(p m:Int)(ml:List Int)(aA:Int)(rows:List (List Int))(e:Int):Prop:=
 (DI p m ml aA rows≠0/\e=DI p m ml aA rows)∨
 (DI p m ml aA rows=0/\∃(pn mn N:Nat) (piv:List Nat) (a':Nat->Nat->Int),p=pn/\m=mn/\aA=N/\Ga p m ml/\B6 (pn^mn) N rows=0/\H7 pn mn ml N rows.length (Ak rows) a' piv/\e=if Aw N piv.length a'=rows then 0 else 5)
structure BxV(w:World)(b:Nat):Prop where
 c0:w.cell? (b,0)=some (.pointer none)
 c1:w.cell? (b,1)=some (.int .i64 0)
 c2:w.cell? (b,2)=some (.slice none 0 0)
 c3:w.cell? (b,3)=some (.slice none 0 0)
 f0:w.frozen? (b,0)=false
 f1:w.frozen? (b,1)=false
 f2:w.frozen? (b,2)=false
 f3:w.frozen? (b,3)=false
theorem BxV.new(w:World):BxV (w.alloc (.cells #[.pointer none,(0:Int),.slice none 0 0,.slice none 0 0] 230)) w.heap.size:=⟨ag,ag,ag,ag,ag,ag,ag,ag⟩
theorem BxV.ex{w w':World}{b:Nat}(h:BxV w b)(hx:Ex w w'):BxV w' b:=⟨hx.cell h.c0,hx.cell h.c1,hx.cell h.c2,hx.cell h.c3,hx.frz h.c0 h.f0,hx.frz h.c1 h.f1,hx.frz h.c2 h.f2,hx.frz h.c3 h.f3⟩
theorem NN{w0 w:World}{q:Nat}(hx:Ex w0 w)(hq:w0.heap.size<=q)(u v z y:Value):Ex w0 ((((w.setCell (q,0) u).setCell (q,1) v).setCell (q,2) z).setCell (q,3) y):=
 (((hx.setCell (p:=(q,0)) hq _).setCell (p:=(q,1)) hq _).setCell (p:=(q,2)) hq _).setCell (p:=(q,3)) hq _
theorem cz{P:Prop}(h:P:=by simp[results,Tryz.results196,go_sem,q0,q1,q2,q3]):P:=h
theorem Mk(w:World)(p m:Int)(ml:List Int)(mv:Value)(aJ:Al w mv ml)(aA:Int)(rows:List (List Int))(v:Value)(hv:BZ w v rows)(h0:DI p m ml aA rows=0->1<=aA):
  Calls Tryz.prog 196 #[.agg #[p,m,mv],.agg #[aA,v]] w fun r w'=>(∃(g:Option Addr) (c:Int) (a1 a2:Option Addr) (n1 k1 n2 k2:Nat) (e:Int),r= .returned (.tuple #[.agg #[.pointer g,c,.slice a1 n1 k1,.slice a2 n2 k2],e])/\Mt p m ml aA rows e)/\Ex w w':=by
 obtain⟨g0,g1,g2,e0,aK⟩:=AA w p m mv;have aY:=Aa (fun (w':World) (h:Ex w w')=>Hp w' p m ml mv (aJ.ex h) aA rows v (hv.ex h) h0);have bB:=Aa (fun (w':World) (h:Ex w w')=>F8 p m ml mv w' (aJ.ex h));have HV:=Aa hv;obtain⟨za,zc,rfl,z1,z2,z3⟩:=hv.open;clear z1 z3;unfold maxLen at z2;obtain⟨ma,mc,rfl,-,m2,-⟩:=aJ.open;unfold maxLen at m2;obtain⟨xb,aZ⟩:=nA w.heap.size;rw[aZ]at g0 g1 g2 aK;clear aJ hv h0;go_enter Tryz.func196,Tryz.ntmps196
 go_wp2_with fail
 generalize w.alloc (.cells #[p,m,.slice ma ml.length mc] 24)=wA at *;obtain⟨a0,a1,ea⟩:=CM wA aA (.slice za rows.length zc);have aV:(wA.alloc (.cells #[aA,.slice za rows.length zc] 137)).heap.size=xb+1+1:=by simp[aK]
 rw[aK]at a0 a1;generalize wA.alloc (.cells #[aA,.slice za rows.length zc] 137)=wB at *;have bq:=BxV.new wB;rw[aV]at bq;have eb:Ex wB _:=(Ex.refl wB).alloc (.cells #[.pointer none,(0:Int),.slice none 0 0,.slice none 0 0] 230);obtain⟨A0,A1,G0,G1,G2,BQ,HE⟩:=OK (eb.cell a0) (eb.cell a1) ((ea.trans eb).cell g0) ((ea.trans eb).cell g1) ((ea.trans eb).cell g2) bq ((e0.trans ea).trans eb);generalize wB.alloc (.cells #[.pointer none,(0:Int),.slice none 0 0,.slice none 0 0] 230)=wC at *;refine(aY.o wC HE.o).mono ?_;clear g0 g1 g2 a0 a1 bq e0 ea eb aV aK;rintro e w2⟨hc,aC⟩;obtain⟨aI,aO,A0,A1,G0,G1,G2,aN⟩:=On (HE.o.trans aC) (BQ.o.ex aC) (aC.cell A0.o) (aC.cell A1.o) (aC.cell G0.o) (aC.cell G1.o) (aC.cell G2.o) (show w.heap.size<=xb+1+1 from ac);clear aC BQ HE aY;rcases hc with⟨hce,pn,mn,N,piv,a',rv,pv,rfl,rfl,rfl,hfb,hmk,rfl,hel,hrv,hpv,-⟩|⟨hce,rfl⟩
 .have aX:=Aa hrv;have aE:=Aa (fun e (h:e=if Aw N piv.length a'=rows then 0 else 5)=>show Mt pn mn ml N rows e from .inr ⟨hce,pn,mn,N,piv,a',rfl,rfl,rfl,hfb,hmk,hel,h⟩);have bC:=Aa hfb;obtain⟨ra,rc,rfl,-,r2,-⟩:=hrv.open;obtain⟨pa,pc,rfl,-,p2,-⟩:=hpv.open;unfold maxLen at r2 p2;obtain⟨L,hL⟩:=nA (Aw N piv.length a');obtain⟨PL,aU⟩:=nA (pI piv);rw[hL]at aX aE ⊢;rw[aU];clear hce hfb hmk hel hrv hpv hL aU;have aH:=Aa ((Ex.refl w2).alloc (.cells #[N,.slice ra L.length rc] 137));have l0:(w2.alloc (.cells #[N,.slice ra L.length rc] 137)).cell? (w2.heap.size,1)=some (.slice ra L.length rc):=by simp
  have aW:=aH.o.cell A1.o;have aL:=Aa (D9 (w2.alloc (.cells #[N,.slice ra L.length rc] 137)) L rows _ _ (aX.o.ex aH.o) (HV.o.ex (aI.o.trans aH.o)));by_cases hLR:L=rows
  .rw[decide_eq_true hLR]at aL;have aD:=Aa (aE.o 0 (by rw[if_pos hLR]));clear hLR;go_wp2_with fail
   refine aL.o.mono ?_;rintro e w3⟨rfl,n3,aG⟩;have aF:Ex (w2.alloc (.cells #[N,.slice ra L.length rc] 137)) w3:=by rw[aG];exact(Ex.refl _).drewN n3
   have aB:=Aa (aH.o.trans aF);have g0:=aB.o.cell G0.o;have g1:=aB.o.cell G1.o;have g2:=aB.o.cell G2.o;clear aF aG l0 aW;go_wp2_with fail
   refine(bB.o w3 (aI.o.trans aB.o)).mono ?_;rintro e w4⟨aM,aT⟩;rcases aM with⟨pn',mn',x,b,e1,e2,rfl,hg,-,-⟩|⟨aM,_⟩
   .have X4:=Aa (aB.o.trans aT);have a0:=X4.o.cell A0.o;have a1:=X4.o.cell A1.o;obtain⟨q0,q1,q2,q3,aS,aR,aQ,aP⟩:=aO.o.ex X4.o;clear e1 e2 hg aT g0 g1 g2;go_wp2_with fail
    exact bodyPost_ret (v:= .tuple #[.agg #[.pointer (some (b,0)),N,.slice za rows.length zc,.slice pa PL.length pc],(0:Int)]) cz rfl ⟨⟨_,_,_,_,_,_,_,_,_,rfl,aD.o⟩,NN (aI.o.trans X4.o) aN.o _ _ _ _⟩
   .exact absurd bC.o aM
  .rw[decide_eq_false hLR]at aL;have aD:=Aa (aE.o 5 (by rw[if_neg hLR]));clear hLR;go_wp2_with fail
   refine aL.o.mono ?_;rintro e w3⟨rfl,n3,aG⟩;have aF:Ex (w2.alloc (.cells #[N,.slice ra L.length rc] 137)) w3:=by rw[aG];exact(Ex.refl _).drewN n3
   have aB:=Aa (aH.o.trans aF);obtain⟨q0,q1,q2,q3,aS,aR,aQ,aP⟩:=aO.o.ex aB.o;clear aF aG l0 aW;go_wp2_with fail
   exact bodyPost_ret (v:= .tuple #[.agg #[.pointer none,(0:Int),.slice none 0 0,.slice none 0 0],(5:Int)]) cz rfl ⟨⟨_,_,_,_,_,_,_,_,_,rfl,aD.o⟩,NN (aI.o.trans aB.o) aN.o _ _ _ _⟩
 .have aE:=Aa (show Mt p m ml aA rows (DI p m ml aA rows) from .inl ⟨hce,rfl⟩);obtain⟨E,hE⟩:=nA (DI p m ml aA rows);rw[hE]at aE hce ⊢;have hb:(E !=0)=true:=by simpa using hce
  obtain⟨q0,q1,q2,q3,aS,aR,aQ,aP⟩:=aO.o.ex ((Ex.refl w2).alloc (.cells #[(0:Int),.slice none 0 0] 137));have bA:=Aa (aI.o.alloc (.cells #[(0:Int),.slice none 0 0] 137));clear hE hce;go_wp2_with fail
  exact bodyPost_ret (v:= .tuple #[.agg #[.pointer none,(0:Int),.slice none 0 0,.slice none 0 0],E]) cz rfl ⟨⟨_,_,_,_,_,_,_,_,_,rfl,aE.o⟩,NN bA.o aN.o _ _ _ _⟩
def OM(l:List Int)(n:Int):Int:=if BB l n=true then 0 else 6
theorem YK{l:List Int}{n:Int}(h:∀j,j<l.length->0<=l.getD j 0/\l.getD j 0<n):BB l n=true:=by
 unfold BB;refine List.all_eq_true.2 fun x hx=>?_;obtain⟨j,hj,rfl⟩:=List.getElem_of_mem hx;have:=h j hj;rw[List.getD_eq_getElem?_getD,List.getElem?_eq_getElem hj]at this;exact decide_eq_true this
theorem zdd{P:Prop}(h:P:=by
 go_wp2_with fail
 go_ret;exact⟨Af HR.o.symm,rfl⟩):P:=h
theorem Uq(w:World)(l:List Int)(v:Value)(hl:Al w v l)(n:Int):
  Calls Tryz.prog 97 #[v,n] w fun r w'=>r= .returned (.int .i64 (OM l n))/\w=w':=by
 obtain⟨a,cap,rfl,s1,s2,s3⟩:=hl.open;unfold maxLen at s2;have S3:=Aa s3;have HD:=Aa (show(∀j,j<l.length->0<=l.getD j 0/\l.getD j 0<n)->OM l n=0 from fun h=>by unfold OM;rw[if_pos (YK h)]);have HN:=Aa (show ∀j,j<l.length->¬(0<=l.getD j 0/\l.getD j 0<n)->OM l n=6 from fun j hj h=>by
  unfold OM;rw[if_neg fun hr=>h (Df hr hj)])
 clear hl s3;go_enter Tryz.func97,Tryz.ntmps97
 go_wp2_with fail
 go_loop [5] (fun i'=>∃(i:Nat),i<=l.length/\i'= .int .i64 i/\Hia (∀j,j<i->0<=l.getD j 0/\l.getD j 0<n)) (fun i'=>l.length-(intOf i').toNat)
 case atStart=>exact⟨0,ac,rfl,Aa (fun j h=>ac)⟩
 case round=>
  obtain⟨i,hi,rfl,aA⟩:=hrel;by_cases hlt:i<l.length
  .obtain⟨bb,o,rfl,hc⟩:=S3.o ac;have c1:=hc i _ (AS hlt);obtain⟨x,hx⟩:=nA (l.getD i 0);rw[hx]at c1;have HX:=Aa hx;have aB:=Aa (show(0<=x/\x<n)->∀j,j<i+1->0<=l.getD j 0/\l.getD j 0<n from fun h j hj=>by
    by_cases e:j=i
    .subst e;rw[hx];exact h
    .exact aA.o j ac)
   have i1:(0:Int)<=(i:Int):=ac;have i2:(i:Int)<(l.length:Int):=ac;clear hc hx;by_cases h0:x<0
   .have HR:=Aa (HN.o i hlt (by rw[HX.o];omega));have k0:decide (x<0)=true:=by simpa using h0
    exact zdd
   .have k0:decide (x<0)=false:=by simpa using h0
    by_cases h1:n<=x
    .have HR:=Aa (HN.o i hlt (by rw[HX.o];omega));have k1:decide (n<=x)=true:=by simpa using h1
     exact zdd
    .have HA:=Aa (aB.o ⟨ac,ac⟩);have k1:decide (n<=x)=false:=by simpa using h1
     exact zbW
  .obtain rfl:i=l.length:=by omega
   have HR:=Aa (HD.o aA.o);exact zdd
theorem IJ{l:List Int}:EH l=true↔∃i j,j<i/\i<l.length/\l.getD i 0=l.getD j 0:=by
 unfold EH Mq;rw[List.any_eq_true];constructor
 .rintro⟨i,hi,h⟩;have hi:=List.mem_range.1 hi;rw[List.contains_iff_mem]at h;obtain⟨j,hj,e⟩:=List.getElem_of_mem h;rw[List.length_take]at hj;refine⟨i,j,ac,hi,?_⟩;rw[<-e,List.getElem_take,List.getD_eq_getElem?_getD,List.getElem?_eq_getElem (show j<l.length by omega)];rfl
 .rintro⟨i,j,h1,h2,h3⟩;refine⟨i,List.mem_range.2 h2,?_⟩;rw[List.contains_iff_mem,h3];have hj:j<(l.take i).length:=by rw[List.length_take];omega
  have:=List.getElem_mem hj;rw[List.getElem_take]at this;rw[List.getD_eq_getElem?_getD,List.getElem?_eq_getElem (show j<l.length by omega)];exact this
theorem zbs{P:Prop}(h:P:=by
 go_wp2_with fail
 go_roundw
 case rel=>first|exact⟨j+1,by omega,by go_num,HA,aA⟩|((repeat apply Exists.intro);exact⟨⟨j+1,by omega,by go_num,HA,aA⟩,rfl⟩)
 case measure=>simp[intOf];omega):P:=h
theorem Rq(w:World)(l:List Int)(v:Value)(hl:Al w v l):
  Calls Tryz.prog 98 #[v] w fun r w'=>r= .returned (.bool (EH l))/\Ex w w':=by
 obtain⟨a,cap,rfl,s1,s2,s3⟩:=hl.open;unfold maxLen at s2;have S3:=Aa s3;have HY:=Aa (show ∀i j,j<i->i<l.length->l.getD i 0=l.getD j 0->EH l=true from fun i j h1 h2 h3=>IJ.2 ⟨i,j,h1,h2,h3⟩);have HN:=Aa (show(∀i j,j<i->i<l.length->l.getD i 0≠l.getD j 0)->EH l=false from fun h=>by
  cases hb:EH l with
  | false=>rfl
  | true=>obtain⟨i,j,h1,h2,h3⟩:=IJ.1 hb;exact absurd h3 (h i j h1 h2))
 obtain⟨D,hD⟩:=nA (EH l);rw[hD]at HY HN;rw[hD];clear hl s3 hD;go_enter Tryz.func98,Tryz.ntmps98
 go_wp2_with fail
 go_loopw [3,4] (fun i' _ wr=>∃(i:Nat),i<=l.length/\i'= .int .i64 i/\Hia (∀k j,j<k->k<i->l.getD k 0≠l.getD j 0)/\Hia (Ex w wr)) (fun i' _ _=>l.length-(intOf i').toNat)
 case atStart=>exact⟨0,ac,rfl,Aa (fun k j _ h=>ac),Aa (Ex.refl _)⟩
 case round=>
  obtain⟨i,hi,rfl,aB,aD⟩:=hrel;by_cases hlt:i<l.length
  .obtain⟨bb,o,rfl,hc⟩:=S3.o ac;have c1:=hc i _ (AS hlt);obtain⟨x,hx⟩:=nA (l.getD i 0);rw[hx]at c1;have HX:=Aa hx;have HC:=Aa hc;have C1:=Aa c1;have i1:(0:Int)<=(i:Int):=by omega
   have i2:(i:Int)<(l.length:Int):=ac;clear hc hx c1;obtain⟨w8,h8⟩:∃w8,w8=wr:=⟨_,rfl⟩;rw[<-h8]at aD ⊢;clear h8;go_wp2_with fail
   go_loopw [4] (fun j' wr=>∃(j:Nat),j<=i/\j'= .int .i64 j/\Hia (∀k,k<j->x≠l.getD k 0)/\Hia (Ex w wr)) (fun j' _=>i-(intOf j').toNat)
   case atStart=>exact⟨0,ac,rfl,Aa (fun k h=>ac),aD⟩
   case round=>
    obtain⟨j,hj,rfl,aC,aA⟩:=hrel;have c1:=aA.o.cell C1.o;by_cases hji:j<i
    .have c2:=aA.o.cell (HC.o j _ (AS ac));obtain⟨y,hy⟩:=nA (l.getD j 0);rw[hy]at c2;have aE:=Aa hy;have j1:(0:Int)<=(j:Int):=by omega
     have j2:(j:Int)<(l.length:Int):=ac;clear hy;by_cases hxy:x=y
     .have hr:D=true:=HY.o i j hji hlt (by rw[HX.o,aE.o,hxy]);subst hr;have kb:(x==y)=true:=by simpa using hxy
      clear hxy;go_upto_region 7 with fail
      go_quiet (fail)
      go_wp2_with fail
      go_ret;exact⟨rfl,aA.o.drewN _⟩
     .have kb:(x==y)=false:=by simpa using hxy
      have HA:=Aa (show ∀k,k<j+1->x≠l.getD k 0 from fun k hk=>by
       by_cases e:k=j
       .subst e;rw[aE.o];exact hxy
       .exact aC.o k ac)
      clear hxy;go_upto_region 7 with fail
      go_quiet (fail)
      go_wp2_with fail
      go_roundw
      case rel=>exact⟨j+1,ac,by go_num,HA,Aa (aA.o.drewN _)⟩
      case measure=>simp[intOf];omega
    .obtain rfl:j=i:=by omega
     have HA:=Aa (show ∀k m,m<k->k<j+1->l.getD k 0≠l.getD m 0 from fun k m hm hk=>by
      by_cases e:k=j
      .subst e;rw[HX.o];exact aC.o m hm
      .exact aB.o k m hm ac)
     exact zbs
  .obtain rfl:i=l.length:=by omega
   have hr:D=false:=HN.o fun k j h1 h2=>aB.o k j h1 h2;subst hr;go_wp2_with fail
   go_ret;exact⟨rfl,aD.o⟩
section
variable {p m:Nat} {ml:List Int} {mv:Value}
theorem Xf{q:Nat}{l:List Int}:EU q l=if Cc q l≠0 then Cc q l else if l.contains 0=true then 7 else 0:=by
 unfold EU Cc;have e:(l.any fun x=> !Gj q x)=!(l.all fun x=>Gj q x):=by rw[List.not_all_eq_any_not]
 rw[e];cases (l.all fun x=>Gj q x) <;> simp
theorem zc9{P:Prop}(h:P:=by
 go_wp2_with fail
 go_ret;exact⟨Af HR.o.symm,aB.o⟩):P:=h
theorem VU(w:World)(hf:Ha p m ml)(l:List Int)(v:Value)(hl:Al w v l):
  Calls Tryz.prog 99 #[.agg #[p,m,mv],v] w fun r w'=>r= .returned (.int .i64 (EU (p^m) l))/\Ex w w':=by
 obtain⟨d0,d1,d2,e0,aE⟩:=AA w p m mv;have HE:=Aa (Ip (mv:=mv) _ hf l v (hl.ex e0));obtain⟨a,cap,rfl,s1,s2,s3⟩:=hl.open;unfold maxLen at s2;have S3:=Aa s3;have HF:=Aa (Xf (q:=p^m) (l:=l));have aF:=Aa e0;obtain⟨F,hF⟩:=nA (EU (p^m) l);obtain⟨E,hE⟩:=nA (Cc (p^m) l);rw[hF,hE]at HF;rw[hE]at HE;rw[hF];clear hl s3 hf hF hE e0 aE;go_enter Tryz.func99,Tryz.ntmps99
 go_wp2_with fail
 generalize w.alloc (.cells #[p,m,mv] 24)=w1 at *;refine HE.o.mono ?_;rintro e w2⟨rfl,aC⟩;have aB:=Aa (aF.o.trans aC);clear d0 d1 d2;by_cases he:E=0
 .subst he;have aD:=Aa (show F=if l.contains 0=true then 7 else 0 from HF.o);clear aC;go_wp2_with fail
  go_loop [6] (fun i'=>∃(i:Nat),i<=l.length/\i'= .int .i64 i/\Hia (∀j,j<i->l.getD j 0≠0)) (fun i'=>l.length-(intOf i').toNat)
  case atStart=>exact⟨0,ac,rfl,Aa (fun j h=>ac)⟩
  case round=>
   obtain⟨i,hi,rfl,aA⟩:=hrel;by_cases hlt:i<l.length
   .obtain⟨bb,o,rfl,hc⟩:=S3.o ac;have c1:=aB.o.cell (hc i _ (AS hlt));have i1:(0:Int)<=(i:Int):=by omega
    have i2:(i:Int)<(l.length:Int):=ac;obtain⟨x,hx⟩:=nA (l.getD i 0);rw[hx]at c1;have HX:=Aa hx;clear hc hx;by_cases h0:x=0
    .subst h0;have HR:=Aa (show F=7 from by
      rw[aD.o,if_pos];rw[List.contains_iff_mem,<-HX.o,List.getD_eq_getElem?_getD,List.getElem?_eq_getElem hlt];exact List.getElem_mem hlt)
     exact zc9
    .have kb:(x==0)=false:=by simpa using h0
     have HA:=Aa (show ∀j,j<i+1->l.getD j 0≠0 from fun j hj=>by
      by_cases e:j=i
      .subst e;rw[HX.o];exact h0
      .exact aA.o j ac)
     clear h0;exact zbW
   .obtain rfl:i=l.length:=by omega
    have HR:=Aa (show F=0 from by
     rw[aD.o,if_neg];intro h;rw[List.contains_iff_mem]at h;obtain⟨j,hj,e⟩:=List.getElem_of_mem h;exact aA.o j hj (by rw[List.getD_eq_getElem?_getD,List.getElem?_eq_getElem hj];exact e))
    exact zc9
 .have HR:=Aa (show F=E from by rw[HF.o,if_pos he]);have kb:(E !=0)=true:=by simpa using he
  clear aC he;exact zc9
end
theorem Z2(p m:Int)(ml:List Int):Ce p m ml=0∨Ce p m ml=1:=by
 unfold Ce;split
 .exact .inl rfl
 .exact .inr rfl
theorem zbO{P:Prop}(h:P:=by
 go_wp2_with (go_at_call 97;refine aB.o.mono ?_;rintro e w3⟨rfl,rfl⟩)
 go_ret;exact⟨Af HE.o.symm,HX.o.trans aA.o⟩):P:=h
theorem zc0{P:Prop}(h:P:=by
 go_wp2_with fail
 go_ret;exact⟨Af HR.o.symm,HX.o.trans aA.o⟩):P:=h
theorem zc1{P:Prop}(h:P:=by
 go_wp2_with fail
 go_ret;exact⟨Af HE.o.symm,HX.o.trans aA.o⟩):P:=h
theorem PG(w:World)(p m:Int)(ml:List Int)(mv:Value)(aJ:Al w mv ml)(n:Int)(pl sl:List Int)(pv sv:Value)(hp:Al w pv pl)(hs:Al w sv sl)(fr:Int):
  Calls Tryz.prog 43 #[.agg #[p,m,mv],n,.agg #[pv,sv,fr]] w fun r w'=>r= .returned (.int .i64 (CI p m ml n pl sl fr))/\Ex w w':=by
 obtain⟨a0,a1,a2,ea⟩:=F5 w p m mv;obtain⟨b0,b1,b2,eb⟩:=Bd (w.alloc (.cells #[p,m,mv] 24)) pv sv fr;have aP:(w.alloc (.cells #[p,m,mv] 24)).heap.size=w.heap.size+1:=ag;rw[aP]at b0 b1 b2;replace a0:=eb.cell a0;replace a1:=eb.cell a1;replace a2:=eb.cell a2;obtain⟨HX,HM,HP,HS⟩:=Eq (ea.trans eb) aJ hp hs;obtain⟨ma,mc,rfl,-,-,-⟩:=aJ.open;obtain⟨pa,pc,rfl,q1,q2,-⟩:=hp.open;obtain⟨sa,sc,rfl,t1,t2,-⟩:=hs.open;unfold maxLen at q2 t2;obtain⟨M,hM⟩:=nA (CI p m ml n pl sl fr);have aC:=Aa hM;have HC:=Aa (fun (w':World) (h:Ex w w')=>Hu p m ml _ w' (aJ.ex h));rw[hM];obtain⟨B,hB⟩:=nA w.heap.size;rw[hB]at a0 a1 a2 b0 b1 b2;clear aJ hp hs ea eb aP hM;go_enter Tryz.func43,Tryz.ntmps43
 go_upto_region 1 with fail
 try simp only[hB]
 clear hB;generalize (w.alloc (.cells #[p,m,.slice ma ml.length mc] 24)).alloc (.cells #[.slice pa pl.length pc,.slice sa sl.length sc,fr] 26)=w1 at *;have aI:=Aa (fun w' (h:Ex w1 w')=>(⟨h.cell a0,h.cell a1,h.cell a2,h.cell b0,h.cell b1,h.cell b2⟩:_/\_/\_/\_/\_/\_));by_cases hc:Ce p m ml=0
 .obtain⟨pn,mn,rfl,rfl,hf,-⟩:=(Cm p m ml).1 hc;have aD:=Aa (HC.o w1 HX.o);rw[hc]at aD;have HF:=Aa hf;have H0:=Aa hc;clear hc hf;go_wp2_with fail
  refine aD.o.mono ?_;rintro e w2⟨rfl,aF⟩;have aA:=Aa aF;clear a0 a1 a2 b0 b1 b2 aF aD;obtain⟨a0,a1,a2,b0,b1,b2⟩:=aI.o w2 aA.o;by_cases hn1:n<1
  .have HR:=Aa (show M=4 from by rw[<-aC.o];unfold CI;rw[H0.o,if_neg ae,if_pos (.inl hn1)]);have k1:decide (n<1)=true:=by simpa using hn1
   exact zc0
  .have k1:decide (n<1)=false:=by simpa using hn1
   by_cases hn2:64<n
   .have HR:=Aa (show M=4 from by rw[<-aC.o];unfold CI;rw[H0.o,if_neg ae,if_pos (.inr hn2)]);have k2:decide (64<n)=true:=by simpa using hn2
    exact zc0
   .have k2:decide (64<n)=false:=by simpa using hn2
    obtain⟨N,rfl⟩:∃N:Nat,n=N:=⟨n.toNat,ac⟩;by_cases aG:pl.length=N
    .have k3:((pl.length:Int) !=(N:Int))=false:=by simp;omega
     by_cases aK:sl.length=N
     .have k4:((sl.length:Int) !=(N:Int))=false:=by simp;omega
      have aM:=Aa (show M=if BB pl N=false∨fr<0∨(mn:Int)<=fr then 6 else if EH pl=true then 18 else EU (pn^mn) sl from by
       rw[<-aC.o];unfold CI;rw[H0.o,if_neg ae,if_neg ac,if_neg ac];rfl)
      have HL:=Aa (And.intro aG aK);have aB:=Aa (Uq w2 pl _ (HP.o.ex (HX.o.trans aA.o)) N);clear aG aK;by_cases hr:BB pl N=true
      .rw[show OM pl N=0 from by unfold OM;rw[if_pos hr]]at aB;have HR:=Aa hr;clear hr;by_cases hf1:fr<0
       .have k5:decide (fr<0)=true:=by simpa using hf1
        have HE:=Aa (show M=6 from by rw[aM.o,if_pos (.inr (.inl hf1))]);exact zbO
       .have k5:decide (fr<0)=false:=by simpa using hf1
        by_cases hf2:(mn:Int)<=fr
        .have k6:decide ((mn:Int)<=fr)=true:=by simpa using hf2
         have HE:=Aa (show M=6 from by rw[aM.o,if_pos (.inr (.inr hf2))]);exact zbO
        .have k6:decide ((mn:Int)<=fr)=false:=by simpa using hf2
         have aQ:=Aa (show M=if EH pl=true then 18 else EU (pn^mn) sl from by
          rw[aM.o,if_neg];rintro (h|h|h)
          .rw[HR.o]at h;cases h
          .exact hf1 h
          .exact hf2 h)
         have aL:=Aa (Rq w2 pl _ (HP.o.ex (HX.o.trans aA.o)));have aR:=Aa (fun (w':World) (h:Ex w1 w')=>VU (mv:= .slice ma ml.length mc) w' HF.o sl _ (HS.o.ex (HX.o.trans h)));by_cases hd:EH pl=true
         .rw[hd]at aL;have HE:=Aa (show M=18 from by rw[aQ.o,if_pos hd]);clear hd;go_wp2_with (first|(go_at_call 97;refine aB.o.mono ?_;rintro e w3⟨rfl,rfl⟩)|(go_at_call 98;refine aL.o.mono ?_;rintro e w4⟨rfl,aE⟩;have aH:=Aa aE;clear aE))
          go_ret;exact⟨Af HE.o.symm,HX.o.trans (aA.o.trans aH.o)⟩
         .have hd:EH pl=false:=by simpa using hd
          rw[hd]at aL;have HE:=Aa (show M=EU (pn^mn) sl from by rw[aQ.o,hd];rfl);obtain⟨F,hF⟩:=nA (EU (pn^mn) sl);rw[hF]at HE aR;clear hd hF;go_wp2_with (first|(go_at_call 97;refine aB.o.mono ?_;rintro e w3⟨rfl,rfl⟩)|(go_at_call 98;refine aL.o.mono ?_;rintro e w4⟨rfl,aE⟩;have aH:=Aa (aA.o.trans aE);clear aE a0 a1 a2 b0 b1 b2;obtain⟨a0,a1,a2,b0,b1,b2⟩:=aI.o w4 aH.o)|(go_at_call 99;refine(aR.o w4 aH.o).mono ?_;rintro e w5⟨rfl,aN⟩;have aS:=Aa (aH.o.trans aN);clear aN))
          go_ret;exact⟨Af HE.o.symm,HX.o.trans aS.o⟩
      .have hr:BB pl N=false:=by simpa using hr
       rw[show OM pl N=6 from by unfold OM;rw[hr];rfl]at aB;have HE:=Aa (show M=6 from by rw[aM.o,if_pos (.inl hr)]);clear hr;exact zbO
     .have k4:((sl.length:Int) !=(N:Int))=true:=by simp;omega
      have HE:=Aa (show M=3 from by rw[<-aC.o];unfold CI;rw[H0.o,if_neg ae,if_neg ac,if_pos (.inr ac)]);have HL:=Aa (And.intro aG aK);clear aG aK;exact zc1
    .have k3:((pl.length:Int) !=(N:Int))=true:=by simp;omega
     have HE:=Aa (show M=3 from by rw[<-aC.o];unfold CI;rw[H0.o,if_neg ae,if_neg ac,if_pos (.inl ac)]);clear aG;exact zc1
 .have aO:Ce p m ml=1:=by rcases Z2 p m ml with h|h;exact absurd h hc;exact h
  have aD:=Aa (HC.o w1 HX.o);rw[aO]at aD;have HR:=Aa (show M=1 from by rw[<-aC.o];unfold CI;rw[if_pos hc]);clear hc aO;go_wp2_with fail
  refine aD.o.mono ?_;rintro e w2⟨rfl,aF⟩;have aA:=Aa (HX.o.trans aF);clear aF;go_wp2_with fail
  go_ret;exact⟨Af HR.o.symm,aA.o⟩
end Go.Proofs.YtehieobniamagaaGreat
