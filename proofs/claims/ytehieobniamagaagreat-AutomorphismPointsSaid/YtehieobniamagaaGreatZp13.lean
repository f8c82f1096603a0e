/- Walk of matrix.Canonical. -/
import Derived.BigQuiet
import Derived.Test.YtehieobniamagaaGreatZp12
namespace Go.Proofs.YtehieobniamagaaGreat
set_option linter.unusedVariables false
set_option linter.unusedSimpArgs false
set_option maxRecDepth 100000
set_option maxHeartbeats 8000000
section
open Go.RowKit
def Du(p m:Int)(ml:List Int)(aA:Int)(rows:List (List Int)):Int:=if BN p m ml≠0 then 1 else BV (p.toNat^m.toNat) aA rows
def Z8(p m:Int)(ml:List Int)(aA:Int)(rows:List (List Int))(b0:Nat)(r:Ending)(w':World):Prop:=
 (Du p m ml aA rows=0/\∃(pn mn N:Nat) (piv:List Nat) (a':Nat->Nat->Int) (rv pv:Value),p=pn/\m=mn/\aA=N/\F9 p m ml/\BV (pn^mn) N rows=0/\r= .returned (.tuple #[.agg #[.int .i64 N,rv],pv,.int .i64 0])/\OF pn mn ml N rows.length (AX rows) a' piv/\B6 w' rv (AM N piv.length a')/\Ak w' pv (pI piv)/\∃g blk cap base,b0<=base/\rv= .slice (some ⟨g,0,none⟩) piv.length piv.length/\EM w' base g rows.length N blk cap a' [])∨
 (Du p m ml aA rows≠0/\r= .returned (.tuple #[.agg #[.int .i64 0,.slice none 0 0],.slice none 0 0,.int .i64 (Du p m ml aA rows)]))
theorem cq{P:Prop}(h:P:=by show w.heap.size<=xb+1+1;omega):P:=h
theorem dj{P:Prop}(h:P:=by simp[results,Tryz.results152,go_sem,q0,q1]):P:=h
theorem Ge(w:World)(p m:Int)(ml:List Int)(mv:Value)(aX:Ak w mv ml)(aA:Int)(rows:List (List Int))(v:Value)(hv:B6 w v rows)(h0:Du p m ml aA rows=0->1<=aA):
  Calls Tryz.prog 152 #[.agg #[.int .i64 p,.int .i64 m,mv],.agg #[.int .i64 aA,v]] w fun r w'=>Z8 p m ml aA rows w.heap.size r w'/\Ex w w':=by
 have HO:=Aa (fun w' B h1 h2 h3 h4=>Rv p m ml mv w' h1 aA rows v h2 B h3 h4);obtain⟨g0,g1,g2,e0,aQ⟩:=AO w p m mv;have aU:=Aa aX;have HV:=Aa hv;have H0:=Aa h0;obtain⟨za,zc,rfl,z1,z2,z3⟩:=hv.open;clear z1 z3;unfold maxLen at z2;obtain⟨xb,bB⟩:=nA w.heap.size;rw[bB]at g0 g1 g2 aQ;clear aX hv h0;go_enter Tryz.func152,Tryz.ntmps152
 go_wp2_with fail
 generalize w.alloc (.cells #[.int .i64 p,.int .i64 m,mv] 24)=wA at *;obtain⟨a0,a1,ea⟩:=DY wA aA (.slice za rows.length zc);have aL:(wA.alloc (.cells #[.int .i64 aA,.slice za rows.length zc] 137)).heap.size=xb+1+1:=by simp[aQ]
 rw[aQ]at a0 a1;generalize wA.alloc (.cells #[.int .i64 aA,.slice za rows.length zc] 137)=wB at *;obtain⟨q0,q1,eb⟩:=DY wB 0 (.slice none 0 0);have qf:(wB.alloc (.cells #[.int .i64 0,.slice none 0 0] 137)).frozen? ⟨xb+1+1,1,none⟩=false:=dq;have aH:(wB.alloc (.cells #[.int .i64 0,.slice none 0 0] 137)).frozen? ⟨xb+1+1,0,none⟩=false:=dq;have aY:(wB.alloc (.cells #[.int .i64 0,.slice none 0 0] 137)).heap.size=xb+1+1+1:=by simp[aL]
 rw[aL]at q0 q1;generalize wB.alloc (.cells #[.int .i64 0,.slice none 0 0] 137)=wC at *;obtain⟨l0,l1,ec⟩:=DY wC aA (.slice za rows.length zc);rw[aY]at l0 l1;generalize wC.alloc (.cells #[.int .i64 aA,.slice za rows.length zc] 137)=wD at *;have eD:Ex w wD:=((e0.trans ea).trans eb).trans ec;have A0:=Aa ((eb.trans ec).cell a0);have A1:=Aa ((eb.trans ec).cell a1);have Q0:=Aa (ec.cell q0);have Q1:=Aa (ec.cell q1);have QF:=Aa (ec.frz q1 qf);have aM:=Aa (ec.frz q0 aH);have bE:=Aa eD;refine(HO.o wD (xb+1+1+1) (aU.o.ex eD) (HV.o.ex eD) l0 l1).mono ?_;clear g0 g1 g2 e0 aQ ea aL a0 a1 eb aY q0 q1 qf aH l0 l1 ec eD HO;rintro e w2⟨ho,aC⟩;have aR:=Aa (bE.o.trans aC);have QF:=Aa (aC.frz Q1.o QF.o);have aM:=Aa (aC.frz Q0.o aM.o);have c0:=aC.cell A0.o;have c1:=aC.cell A1.o;have Q0:=Aa (aC.cell Q0.o);have Q1:=Aa (aC.cell Q1.o);have A0:=Aa c0;clear aC A1;have bA:=Aa (fun (i:Value) (j:Value)=>((aR.o).setCell (p:=⟨xb+1+1,0,none⟩) cq i).setCell (p:=⟨xb+1+1,1,none⟩) cq j);rcases ho with⟨pn,mn,x0,b,rfl,rfl,hg,hx01,hx02,⟨hmk,rfl⟩|⟨hno,rfl⟩⟩|⟨hno,rfl⟩
 .have aG:BN pn mn ml=0:=(BH _ _ _).2 ⟨pn,mn,rfl,rfl,hg.sh,hg.pr,hg.isF hx01 hx02⟩;have aB:Du pn mn ml aA rows=0:=by
   unfold Du;rw[if_neg (by simp[aG]),Int.toNat_natCast,Int.toNat_natCast];exact hmk
  have bD:=H0.o aB;obtain⟨s1,s2,s3,s4⟩:=Gm hmk;obtain⟨N,rfl⟩:∃N:Nat,aA=N:=⟨aA.toNat,ac⟩;have aD:=Aa aB;have bL:=Aa ((BH _ _ _).1 aG);have bK:=Aa hmk;have bN:=Aa (Pz w2 hg hx01 hx02 N rows.length rows _ (HV.o.ex aR.o) rfl s3 ac ac fun i r h=>by
   have:=s4 r (List.mem_of_getElem? h);exact⟨ac,this.2⟩)
  have bG:=Aa s3;clear hg aG aB bD s1 s2 s3 s4 hmk hx01 hx02;go_wp2_with (go_at_call 157;refine bN.o.mono ?_;rintro e w8⟨piv2,pv2,rv2,a2,rfl,aK,aS,aF,aE,g8,blk8,cap8,rfl,aJ,aI⟩;have a0n:=aE.cell A0.o;have q0:=aE.cell Q0.o;have aH:=aE.frz Q0.o aM.o;have q1:=aE.cell Q1.o;have aW:=aE.frz Q1.o QF.o;have aO:=Aa aK;have aN:=Aa aJ;have bF:=Aa aE;have aT:=Aa aF;have bH:=Aa aI;obtain⟨pa,pc,rfl,-,-,-⟩:=aF.open;clear aK aJ aE aI aS aF)
  have aP:xb+1+1<w2.heap.size:=World.block_lt_of_cell? _ _ Q0.o;have bC:=(N0 aO.o).1;have bJ:=Aa (((aN.o.low (A:=⟨xb+1+1,0,none⟩) aP (.int .i64 N)).low (A:=⟨xb+1+1,1,none⟩) aP (.slice (some ⟨g8,0,none⟩) piv2.length piv2.length)).msl bC bG.o);have aV:=Aa ((aN.o.low (A:=⟨xb+1+1,0,none⟩) aP (.int .i64 N)).low (A:=⟨xb+1+1,1,none⟩) aP (.slice (some ⟨g8,0,none⟩) piv2.length piv2.length));have aZ:=Aa (fun B h=>show B≠xb+1+1 from by have:=bH.o B h;omega);have bM:=Aa ((((aR.o).trans bF.o).setCell (p:=⟨xb+1+1,0,none⟩) cq (.int .i64 N)).setCell (p:=⟨xb+1+1,1,none⟩) cq (.slice (some ⟨g8,0,none⟩) piv2.length piv2.length));exact bodyPost_ret (v:= .tuple #[.agg #[.int .i64 N,.slice (some ⟨g8,0,none⟩) piv2.length piv2.length],.slice pa (pI piv2).length pc,.int .i64 0]) dj rfl ⟨.inl ⟨aD.o,pn,mn,N,piv2,a2,_,_,rfl,rfl,rfl,bL.o,bK.o,rfl,aO.o,bJ.o,Sl.other (Sl.other aT.o (fun B h=>aZ.o B h) _) (fun B h=>aZ.o B h) _,g8,blk8,cap8,_,aR.o.size,rfl,aV.o⟩,bM.o⟩
 .have aG:BN pn mn ml=0:=(BH _ _ _).2 ⟨pn,mn,rfl,rfl,hg.sh,hg.pr,hg.isF hx01 hx02⟩;have aB:Du pn mn ml aA rows=BV (pn^mn) aA rows:=by
   unfold Du;rw[if_neg (by simp[aG]),Int.toNat_natCast,Int.toNat_natCast]
  have aD:=Aa aB;clear hg aG aB hx01 hx02 aU HV H0;obtain⟨E,hE⟩:=nA (BV (pn^mn) aA rows);rw[hE]at aD hno ⊢;have hb:(E !=0)=true:=by simpa using hno
  have bI:=Aa hno;have q0:=Q0.o;have q1:=Q1.o;have aH:=aM.o;have aW:=QF.o;clear hE hno;go_wp2_with fail
  exact bodyPost_ret (v:= .tuple #[.agg #[.int .i64 0,.slice none 0 0],.slice none 0 0,.int .i64 E]) dj rfl ⟨.inr ⟨by rw[aD.o];exact bI.o,by rw[aD.o]⟩,bA.o _ _⟩
 .have aB:Du p m ml aA rows=1:=by
   unfold Du;rw[if_pos (fun h=>hno ((BH _ _ _).1 h))]
  have aD:=Aa aB;clear hno aB aU HV H0;have q0:=Q0.o;have q1:=Q1.o;have aH:=aM.o;have aW:=QF.o;go_wp2_with fail
  exact bodyPost_ret (v:= .tuple #[.agg #[.int .i64 0,.slice none 0 0],.slice none 0 0,.int .i64 1]) dj rfl ⟨.inr ⟨by rw[aD.o];decide,by rw[aD.o]⟩,bA.o _ _⟩
end
section
open Go.RowKit
theorem E9(w:World)(l:List Int)(v:Value)(hl:Ak w v l)(hn2:l.length<=1000):
  Calls Tryz.prog 154 #[v] w fun r w'=>∃v',r= .returned v'/\Ak w' v' l/\(∀B,v'.ownBlock=some B->w.heap.size<=B)/\Ex w w':=by
 have HL:=Aa hl;obtain⟨a,cap,rfl,s1,s2,s3⟩:=hl.open;have aD:∀u∈Am l,u.oneCell'=true:=by
  intro u hu;obtain⟨z,_,rfl⟩:=List.mem_map.1 hu;rfl
 have aG:=Aa aD;clear hl aD
 cases a with
 | none=>
  have h0:l= []:=by
   cases l with
   | nil=>rfl
   | cons x t=>obtain⟨_,_,h,_⟩:=s3 ag;cases h
  subst h0;have aB:=fun w'=>AF (P:=Tryz.prog) w' 22 3 none 0 cap Tryz.underlying22;simp only[Option.isNone]at aB;clear s1 s2 s3;go_enter Tryz.func154,Tryz.ntmps154
  go_wp2_with fail
  go_ret;exact⟨_,rfl,AW _,by simp[Value.ownBlock],Ex.refl _⟩
 | some ad=>
  have aB:=fun w'=>AF (P:=Tryz.prog) w' 22 3 (some ad) l.length cap Tryz.underlying22;simp only[Option.isNone]at aB;clear s3;go_enter Tryz.func154,Tryz.ntmps154
  go_wp2_with (at_builtin;refine Bd _ rfl _ _ 22 rfl w.heap.size 3 (.int .i64 0) 1 8 Tryz.underlying22 Aw rfl ae _ 0 [] rfl (Bp w 3) (.slice (some ad) l.length cap) l.length (Am l) rfl (HL.o.ex ((Ex.refl w).alloc _)) aG.o ai ac ag ?_)
  intro v1 w1 aA aE aF;have aC:Ex w w1:=Ex.grown ((Ex.refl w).alloc _) (Bp w 3) (Nat.le_refl _) aE;have HI:=Aa (show Ak w1 v1 l from Sl.own aA);have HB:=Aa (fun B (e:v1.ownBlock=some B)=>(aA.lt B e).1);have HX:=Aa aC;clear aA aE aF aC aB;go_wp2_with fail
  go_ret;exact⟨_,rfl,HI.o,HB.o,HX.o⟩
def GK(n:Int):Int:=if n<1∨64<n then 4 else 0
theorem JB(w:World)(n:Int):Calls Tryz.prog 148 #[.int .i64 n] w fun r w'=>r= .returned (.int .i64 (GK n))/\w'=w:=by
 unfold GK;go_enter Tryz.func148,Tryz.ntmps148
 by_cases h1:n<1
 .have b1:decide (n<1)=true:=by simpa using h1
  rw[if_pos (.inl h1)];go_wp2_with fail
  go_ret;exact⟨rfl,rfl⟩
 .have b1:decide (n<1)=false:=by simpa using h1
  by_cases h2:64<n
  .have b2:decide (64<n)=true:=by simpa using h2
   rw[if_pos (.inr h2)];go_wp2_with fail
   go_ret;exact⟨rfl,rfl⟩
  .have b2:decide (64<n)=false:=by simpa using h2
   rw[if_neg ac];go_wp2_with fail
   go_ret;exact⟨rfl,rfl⟩
theorem Gu(w:World)(p m:Int)(mv:Value)(n:Int)(gv:Value):(w.alloc (.cells #[.int .i64 p,.int .i64 m,mv,.int .i64 n,gv] 39)).cell? ⟨w.heap.size,0,none⟩=some (.int .i64 p)/\(w.alloc (.cells #[.int .i64 p,.int .i64 m,mv,.int .i64 n,gv] 39)).cell? ⟨w.heap.size,1,none⟩=some (.int .i64 m)/\(w.alloc (.cells #[.int .i64 p,.int .i64 m,mv,.int .i64 n,gv] 39)).cell? ⟨w.heap.size,2,none⟩=some mv/\(w.alloc (.cells #[.int .i64 p,.int .i64 m,mv,.int .i64 n,gv] 39)).cell? ⟨w.heap.size,3,none⟩=some (.int .i64 n)/\(w.alloc (.cells #[.int .i64 p,.int .i64 m,mv,.int .i64 n,gv] 39)).cell? ⟨w.heap.size,4,none⟩=some gv/\Ex w (w.alloc (.cells #[.int .i64 p,.int .i64 m,mv,.int .i64 n,gv] 39)):=
 ⟨ag,ag,ag,ag,ag,(Ex.refl _).alloc _⟩
theorem Wb(w:World)(p m:Int)(mv:Value)(n:Int)(rows:List (List Int))(gv:Value)(hg:B6 w gv rows):
  Calls Tryz.prog 104 #[.agg #[.int .i64 p,.int .i64 m,mv,.int .i64 n,gv]] w fun r w'=>r= .returned (.agg #[.int .i64 n,gv])/\Ex w w':=by
 obtain⟨a0,a1,a2,a3,a4,ea⟩:=Gu w p m mv n gv;obtain⟨za,zc,rfl,z1,z2,z3⟩:=hg.open;clear z3;unfold maxLen at z2;go_enter Tryz.func104,Tryz.ntmps104
 go_wp2_with fail
 exact bodyPost_ret (v:= .agg #[.int .i64 n,.slice za rows.length zc]) (by simp[results,Tryz.results104,go_sem]) rfl ⟨rfl,ea.trans ((Ex.refl _).alloc _)⟩
theorem ee{P:Prop}(h:P:=by show w.heap.size<=xb+1;omega):P:=h
theorem Vx(w:World)(p m:Int)(ml:List Int)(mv:Value)(aD:Ak w mv ml)(hn:ml.length<=1000):
  Calls Tryz.prog 159 #[.agg #[.int .i64 p,.int .i64 m,mv]] w fun r w'=>∃v',r= .returned (.agg #[.int .i64 p,.int .i64 m,v'])/\Ak w' v' ml/\(∀B,v'.ownBlock=some B->w.heap.size<=B)/\Ex w w':=by
 obtain⟨a0,a1,a2,e0,aJ⟩:=AO w p m mv;obtain⟨q0,q1,q2,eb,aI⟩:=AO (w.alloc (.cells #[.int .i64 p,.int .i64 m,mv] 24)) 0 0 (.slice none 0 0);have af:(w.alloc (.cells #[.int .i64 p,.int .i64 m,mv] 24)).frozen? ⟨w.heap.size,2,none⟩=false:=ag;have qf:((w.alloc (.cells #[.int .i64 p,.int .i64 m,mv] 24)).alloc (.cells #[.int .i64 0,.int .i64 0,.slice none 0 0] 24)).frozen? ⟨(w.alloc (.cells #[.int .i64 p,.int .i64 m,mv] 24)).heap.size,0,none⟩=false/\((w.alloc (.cells #[.int .i64 p,.int .i64 m,mv] 24)).alloc (.cells #[.int .i64 0,.int .i64 0,.slice none 0 0] 24)).frozen? ⟨(w.alloc (.cells #[.int .i64 p,.int .i64 m,mv] 24)).heap.size,1,none⟩=false/\((w.alloc (.cells #[.int .i64 p,.int .i64 m,mv] 24)).alloc (.cells #[.int .i64 0,.int .i64 0,.slice none 0 0] 24)).frozen? ⟨(w.alloc (.cells #[.int .i64 p,.int .i64 m,mv] 24)).heap.size,2,none⟩=false:=⟨ag,ag,ag⟩;replace af:=eb.frz a2 af;replace a0:=eb.cell a0;replace a1:=eb.cell a1;replace a2:=eb.cell a2;rw[aJ]at q0 q1 q2 qf aI;have HE:=Aa (e0.trans eb);have aO:=Aa (aD.ex HE.o);obtain⟨ma,mc,rfl,m1',m2,m3⟩:=aD.open;unfold maxLen at m2;clear aD m3 e0 eb aJ;go_enter Tryz.func159,Tryz.ntmps159
 go_wp2_with fail
 obtain⟨xb,aA⟩:=nA w.heap.size;rw[aA]at a0 a1 a2 q0 q1 q2 qf aI af
 try simp only[aA]
 generalize (w.alloc (.cells #[.int .i64 p,.int .i64 m,.slice ma ml.length mc] 24)).alloc (.cells #[.int .i64 0,.int .i64 0,.slice none 0 0] 24)=w1 at *;have aN:=Aa aA;obtain⟨aG,aF,aE⟩:=qf;clear aA;refine(E9 w1 ml _ aO.o hn).mono ?_;rintro e w2⟨v',rfl,aC,aH,hx⟩;have HV:=Aa aC;have HB:=Aa (fun B e=>show xb+1+1<=B from by have:=aH B e;omega);have HX:=Aa hx;obtain⟨va,vc,rfl,-,-,-⟩:=aC.open;have a0':=hx.cell a0;have a1':=hx.cell a1;have af':=hx.frz a2 af;have a2':=hx.cell a2;have aM:=hx.cell q0;have aL:=hx.cell q1;have aK:=hx.cell q2;have qf0':=hx.frz q0 aG;have qf1':=hx.frz q1 aF;have qf2':=hx.frz q2 aE;clear a0 a1 a2 af q0 q1 q2 aG aF aE aC aH hx;go_wp2_with fail
 have aB:∀B,(Value.slice va ml.length vc).ownBlock=some B->B≠xb/\B≠xb+1:=fun B e=>by have:=HB.o B e;omega
 have hw:w.heap.size=xb:=aN.o;exact bodyPost_ret (v:= .agg #[.int .i64 p,.int .i64 m,.slice va ml.length vc]) (by simp[results,Tryz.results159,go_sem,aM,aL,aK]) rfl ⟨_,rfl,Sl.other (Sl.other (Sl.other (Sl.other HV.o (fun B h=>(aB B h).1) _) (fun B h=>(aB B h).2) _) (fun B h=>(aB B h).2) _) (fun B h=>(aB B h).2) _,fun B e=>by have:=HB.o B e;omega,
  ((((HE.o.trans HX.o).setCell (p:=⟨xb,2,none⟩) (by show w.heap.size<=xb;omega) _).setCell (p:=⟨xb+1,0,none⟩) ee _).setCell (p:=⟨xb+1,1,none⟩) ee _).setCell (p:=⟨xb+1,2,none⟩) ee _⟩
end
section
open Go.RowKit
theorem Hu(w:World)(l k:List Int)(v u:Value)(hl:Ak w v l)(hk:Ak w u k):
  Calls Tryz.prog 101 #[v,u] w fun r w'=>r= .returned (.bool (decide (l=k)))/\∃n,w'=w.drewN n:=by
 obtain⟨a,cap,rfl,s1,s2,s3⟩:=hl.open;obtain⟨c,cc,rfl,t1,t2,t3⟩:=hk.open;have S3:=Aa s3;have T3:=Aa t3;unfold maxLen at s2 t2;clear hl hk s3 t3;by_cases hlk:l.length=k.length
 .have hb:((l.length:Int) !=(k.length:Int))=false:=by simp;omega
  have aD:=Aa hlk;clear hlk;go_enter Tryz.func101,Tryz.ntmps101
  go_wp2_with fail
  go_loopw [13] (fun i' wr=>∃i n:Nat,i<=l.length/\i'= .int .i64 i/\wr=w.drewN n/\Hia (∀j,j<i->l[j]?=k[j]?)) (fun i' _=>l.length-(intOf i').toNat)
  case atStart=>exact⟨0,0,ac,rfl,rfl,Aa (fun j hj=>ac)⟩
  case round=>
   obtain⟨i,n,hi,rfl,rfl,aA⟩:=hrel;by_cases hlt:i<l.length
   .exact zae
   .exact zay
 .have hb:((l.length:Int) !=(k.length:Int))=true:=by simp;omega
  have HN:=Aa (show ¬l=k from fun e=>hlk cj);clear hlk;go_enter Tryz.func101,Tryz.ntmps101
  exact zbH
theorem Dn(w:World)(l k:List (List Int))(v u:Value)(hl:B6 w v l)(hk:B6 w u k):
  Calls Tryz.prog 128 #[v,u,.func (.func 101) #[] #[]] w fun r w'=>r= .returned (.bool (decide (l=k)))/\∃n,w'=w.drewN n:=by
 obtain⟨a,cap,rfl,s1,s2,s3⟩:=hl.open;obtain⟨c,cc,rfl,t1,t2,t3⟩:=hk.open;have S3:=Aa s3;have T3:=Aa t3;unfold maxLen at s2 t2;clear hl hk s3 t3;by_cases hlk:l.length=k.length
 .have hb:((l.length:Int) !=(k.length:Int))=false:=by simp;omega
  have aI:=Aa hlk;clear hlk;go_enter Tryz.func128,Tryz.ntmps128
  go_wp2_with fail
  go_loopw [17] (fun i' wr=>∃i n:Nat,i<=l.length/\i'= .int .i64 i/\wr=w.drewN n/\Hia (∀j,j<i->l[j]?=k[j]?)) (fun i' _=>l.length-(intOf i').toNat)
  case atStart=>exact⟨0,0,ac,rfl,rfl,Aa (fun j hj=>ac)⟩
  case round=>
   obtain⟨i,n,hi,rfl,rfl,aC⟩:=hrel;by_cases hlt:i<l.length
   .obtain⟨x,hx⟩:∃x,l[i]?=some x:=⟨_,List.getElem?_eq_getElem hlt⟩;have aJ:i<k.length:=by have:=aI.o;omega
    obtain⟨y,hy⟩:∃y,k[i]?=some y:=⟨_,List.getElem?_eq_getElem aJ⟩;obtain⟨b,o,rfl,hc⟩:=S3.o ac;obtain⟨b2,o2,rfl,aG⟩:=T3.o ac;obtain⟨u1,e1,aF⟩:=hc i x hx;obtain⟨u2,e2,aE⟩:=aG i y hy;have c1:=((Ex.refl w).drewN n).cell e1;have c2:=((Ex.refl w).drewN n).cell e2;have aB:=aF.ex ((Ex.refl w).drewN n);have aA:=aE.ex ((Ex.refl w).drewN n);have i1:(0:Int)<=(i:Int):=c9;have i2:(i:Int)<(l.length:Int):=ac;have i3:(i:Int)<(k.length:Int):=ac;obtain⟨W,hW⟩:=nA (w.drewN n);rw[hW]at c1 c2 aB aA ⊢;have aH:=Aa hW;have aD:=Aa (Hu W x y u1 u2 aB aA);obtain⟨ua,uc,rfl,_,_,_⟩:=aB.open;obtain⟨va,vc,rfl,_,_,_⟩:=aA.open;by_cases hxy:x=y
    .have HA:=Aa (show ∀j,j<i+1->l[j]?=k[j]? from fun j hj=>by
      by_cases e:j=i
      .subst e;rw[hx,hy,hxy]
      .exact aC.o j ac)
     rw[decide_eq_true hxy]at aD;clear hc aG hx hy hxy hW aF aE e1 e2 aB aA;go_wp2_with (go_at_call 101;refine aD.o.mono ?_;rintro e w5⟨rfl,n5,rfl⟩)
     exact zbp
    .have HN:=Aa (show ¬l=k from fun e=>hxy (by rw[e,hy]at hx;injection hx with hx;exact hx.symm));rw[decide_eq_false hxy]at aD;clear hc aG hx hy hxy hW aF aE e1 e2 aB aA;go_wp2_with (go_at_call 101;refine aD.o.mono ?_;rintro e w5⟨rfl,n5,rfl⟩)
     go_ret;exact⟨Ao (decide_eq_false HN.o).symm,_,by rw[<-aH.o,World.drewN_drewN]⟩
   .exact zaz
 .have hb:((l.length:Int) !=(k.length:Int))=true:=by simp;omega
  have HN:=Aa (show ¬l=k from fun e=>hlk cj);clear hlk;go_enter Tryz.func128,Tryz.ntmps128
  exact zbH
theorem Ee(w:World)(c:Int)(v:Value):(w.alloc (.cells #[.int .i64 c,v] 137)).cell? ⟨w.heap.size,0,none⟩=some (.int .i64 c)/\(w.alloc (.cells #[.int .i64 c,v] 137)).cell? ⟨w.heap.size,1,none⟩=some v/\Ex w (w.alloc (.cells #[.int .i64 c,v] 137)):=⟨ag,ag,(Ex.refl _).alloc _⟩
def R6(p m:Int)(ml:List Int)(aA:Int)(rows:List (List Int))(e:Int):Prop:=
 (Du p m ml aA rows≠0/\e=Du p m ml aA rows)∨
 (Du p m ml aA rows=0/\∃(pn mn N:Nat) (piv:List Nat) (a':Nat->Nat->Int),p=pn/\m=mn/\aA=N/\F9 p m ml/\BV (pn^mn) N rows=0/\OF pn mn ml N rows.length (AX rows) a' piv/\e=if AM N piv.length a'=rows then 0 else 5)
structure Yz(w:World)(b:Nat):Prop where
 c0:w.cell? ⟨b,0,none⟩=some (.pointer none)
 c1:w.cell? ⟨b,1,none⟩=some (.int .i64 0)
 c2:w.cell? ⟨b,2,none⟩=some (.slice none 0 0)
 c3:w.cell? ⟨b,3,none⟩=some (.slice none 0 0)
 f0:w.frozen? ⟨b,0,none⟩=false
 f1:w.frozen? ⟨b,1,none⟩=false
 f2:w.frozen? ⟨b,2,none⟩=false
 f3:w.frozen? ⟨b,3,none⟩=false
theorem Yz.new(w:World):Yz (w.alloc (.cells #[.pointer none,.int .i64 0,.slice none 0 0,.slice none 0 0] 230)) w.heap.size:=⟨ag,ag,ag,ag,ag,ag,ag,ag⟩
theorem Yz.ex{w w':World}{b:Nat}(h:Yz w b)(hx:Ex w w'):Yz w' b:=⟨hx.cell h.c0,hx.cell h.c1,hx.cell h.c2,hx.cell h.c3,hx.frz h.c0 h.f0,hx.frz h.c1 h.f1,hx.frz h.c2 h.f2,hx.frz h.c3 h.f3⟩
theorem LH{w0 w:World}{q:Nat}(hx:Ex w0 w)(hq:w0.heap.size<=q)(u v z y:Value):Ex w0 ((((w.setCell ⟨q,0,none⟩ u).setCell ⟨q,1,none⟩ v).setCell ⟨q,2,none⟩ z).setCell ⟨q,3,none⟩ y):=
 (((hx.setCell (p:=⟨q,0,none⟩) hq _).setCell (p:=⟨q,1,none⟩) hq _).setCell (p:=⟨q,2,none⟩) hq _).setCell (p:=⟨q,3,none⟩) hq _
theorem db{P:Prop}(h:P:=by simp[results,Tryz.results196,go_sem,q0,q1,q2,q3]):P:=h
theorem Kf(w:World)(p m:Int)(ml:List Int)(mv:Value)(aJ:Ak w mv ml)(aA:Int)(rows:List (List Int))(v:Value)(hv:B6 w v rows)(h0:Du p m ml aA rows=0->1<=aA):
  Calls Tryz.prog 196 #[.agg #[.int .i64 p,.int .i64 m,mv],.agg #[.int .i64 aA,v]] w fun r w'=>(∃(g:Option Addr) (c:Int) (a1 a2:Option Addr) (n1 k1 n2 k2:Nat) (e:Int),r= .returned (.tuple #[.agg #[.pointer g,.int .i64 c,.slice a1 n1 k1,.slice a2 n2 k2],.int .i64 e])/\R6 p m ml aA rows e)/\Ex w w':=by
 obtain⟨g0,g1,g2,e0,aK⟩:=AO w p m mv;have aY:=Aa (fun (w':World) (h:Ex w w')=>Ge w' p m ml mv (aJ.ex h) aA rows v (hv.ex h) h0);have bB:=Aa (fun (w':World) (h:Ex w w')=>E4 p m ml mv w' (aJ.ex h));have HV:=Aa hv;obtain⟨za,zc,rfl,z1,z2,z3⟩:=hv.open;clear z1 z3;unfold maxLen at z2;obtain⟨ma,mc,rfl,-,m2,-⟩:=aJ.open;unfold maxLen at m2;obtain⟨xb,aZ⟩:=nA w.heap.size;rw[aZ]at g0 g1 g2 aK;clear aJ hv h0;go_enter Tryz.func196,Tryz.ntmps196
 go_wp2_with fail
 generalize w.alloc (.cells #[.int .i64 p,.int .i64 m,.slice ma ml.length mc] 24)=wA at *;obtain⟨a0,a1,ea⟩:=Ee wA aA (.slice za rows.length zc);have aV:(wA.alloc (.cells #[.int .i64 aA,.slice za rows.length zc] 137)).heap.size=xb+1+1:=by simp[aK]
 rw[aK]at a0 a1;generalize wA.alloc (.cells #[.int .i64 aA,.slice za rows.length zc] 137)=wB at *;have bq:=Yz.new wB;rw[aV]at bq;have eb:Ex wB _:=(Ex.refl wB).alloc (.cells #[.pointer none,.int .i64 0,.slice none 0 0,.slice none 0 0] 230);have A0:=Aa (eb.cell a0);have A1:=Aa (eb.cell a1);have G0:=Aa ((ea.trans eb).cell g0);have G1:=Aa ((ea.trans eb).cell g1);have G2:=Aa ((ea.trans eb).cell g2);have BQ:=Aa bq;have HE:=Aa ((e0.trans ea).trans eb);generalize wB.alloc (.cells #[.pointer none,.int .i64 0,.slice none 0 0,.slice none 0 0] 230)=wC at *;refine(aY.o wC HE.o).mono ?_;clear g0 g1 g2 a0 a1 bq e0 ea eb aV aK;rintro e w2⟨hc,aC⟩;have aI:=Aa (HE.o.trans aC);have aO:=Aa (BQ.o.ex aC);have A0:=Aa (aC.cell A0.o);have A1:=Aa (aC.cell A1.o);have G0:=Aa (aC.cell G0.o);have G1:=Aa (aC.cell G1.o);have G2:=Aa (aC.cell G2.o);have aN:=Aa (show w.heap.size<=xb+1+1 from ac);clear aC BQ HE aY;rcases hc with⟨hce,pn,mn,N,piv,a',rv,pv,rfl,rfl,rfl,hfb,hmk,rfl,hel,hrv,hpv,-⟩|⟨hce,rfl⟩
 .have aX:=Aa hrv;have aE:=Aa (fun e (h:e=if AM N piv.length a'=rows then 0 else 5)=>show R6 pn mn ml N rows e from .inr ⟨hce,pn,mn,N,piv,a',rfl,rfl,rfl,hfb,hmk,hel,h⟩);have bC:=Aa hfb;obtain⟨ra,rc,rfl,-,r2,-⟩:=hrv.open;obtain⟨pa,pc,rfl,-,p2,-⟩:=hpv.open;unfold maxLen at r2 p2;obtain⟨L,hL⟩:=nA (AM N piv.length a');obtain⟨PL,aU⟩:=nA (pI piv);rw[hL]at aX aE ⊢;rw[aU];clear hce hfb hmk hel hrv hpv hL aU;have aH:=Aa ((Ex.refl w2).alloc (.cells #[.int .i64 N,.slice ra L.length rc] 137));have l0:(w2.alloc (.cells #[.int .i64 N,.slice ra L.length rc] 137)).cell? ⟨w2.heap.size,1,none⟩=some (.slice ra L.length rc):=by simp
  have aW:=aH.o.cell A1.o;have aL:=Aa (Dn (w2.alloc (.cells #[.int .i64 N,.slice ra L.length rc] 137)) L rows _ _ (aX.o.ex aH.o) (HV.o.ex (aI.o.trans aH.o)));by_cases hLR:L=rows
  .rw[decide_eq_true hLR]at aL;have aD:=Aa (aE.o 0 (by rw[if_pos hLR]));clear hLR;go_wp2_with fail
   refine aL.o.mono ?_;rintro e w3⟨rfl,n3,aG⟩;have aF:Ex (w2.alloc (.cells #[.int .i64 N,.slice ra L.length rc] 137)) w3:=by rw[aG];exact(Ex.refl _).drewN n3
   have aB:=Aa (aH.o.trans aF);have g0:=aB.o.cell G0.o;have g1:=aB.o.cell G1.o;have g2:=aB.o.cell G2.o;clear aF aG l0 aW;go_wp2_with fail
   refine(bB.o w3 (aI.o.trans aB.o)).mono ?_;rintro e w4⟨aM,aT⟩;rcases aM with⟨pn',mn',x,b,e1,e2,rfl,hg,-,-⟩|⟨aM,_⟩
   .have X4:=Aa (aB.o.trans aT);have a0:=X4.o.cell A0.o;have a1:=X4.o.cell A1.o;obtain⟨q0,q1,q2,q3,aS,aR,aQ,aP⟩:=aO.o.ex X4.o;clear e1 e2 hg aT g0 g1 g2;go_wp2_with fail
    exact bodyPost_ret (v:= .tuple #[.agg #[.pointer (some ⟨b,0,none⟩),.int .i64 N,.slice za rows.length zc,.slice pa PL.length pc],.int .i64 0]) db rfl ⟨⟨_,_,_,_,_,_,_,_,_,rfl,aD.o⟩,LH (aI.o.trans X4.o) aN.o _ _ _ _⟩
   .exact absurd bC.o aM
  .rw[decide_eq_false hLR]at aL;have aD:=Aa (aE.o 5 (by rw[if_neg hLR]));clear hLR;go_wp2_with fail
   refine aL.o.mono ?_;rintro e w3⟨rfl,n3,aG⟩;have aF:Ex (w2.alloc (.cells #[.int .i64 N,.slice ra L.length rc] 137)) w3:=by rw[aG];exact(Ex.refl _).drewN n3
   have aB:=Aa (aH.o.trans aF);obtain⟨q0,q1,q2,q3,aS,aR,aQ,aP⟩:=aO.o.ex aB.o;clear aF aG l0 aW;go_wp2_with fail
   exact bodyPost_ret (v:= .tuple #[.agg #[.pointer none,.int .i64 0,.slice none 0 0,.slice none 0 0],.int .i64 5]) db rfl ⟨⟨_,_,_,_,_,_,_,_,_,rfl,aD.o⟩,LH (aI.o.trans aB.o) aN.o _ _ _ _⟩
 .have aE:=Aa (show R6 p m ml aA rows (Du p m ml aA rows) from .inl ⟨hce,rfl⟩);obtain⟨E,hE⟩:=nA (Du p m ml aA rows);rw[hE]at aE hce ⊢;have hb:(E !=0)=true:=by simpa using hce
  obtain⟨q0,q1,q2,q3,aS,aR,aQ,aP⟩:=aO.o.ex ((Ex.refl w2).alloc (.cells #[.int .i64 0,.slice none 0 0] 137));have bA:=Aa (aI.o.alloc (.cells #[.int .i64 0,.slice none 0 0] 137));clear hE hce;go_wp2_with fail
  exact bodyPost_ret (v:= .tuple #[.agg #[.pointer none,.int .i64 0,.slice none 0 0,.slice none 0 0],.int .i64 E]) db rfl ⟨⟨_,_,_,_,_,_,_,_,_,rfl,aE.o⟩,LH bA.o aN.o _ _ _ _⟩
end
end Go.Proofs.YtehieobniamagaaGreat
