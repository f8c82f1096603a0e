/- Walk of automorphism.Group. -/
import Derived.Test.YtehieobniamagaaGreatZp31
namespace Go.Proofs.YtehieobniamagaaGreat
set_option linter.unusedVariables false
set_option linter.unusedSimpArgs false
set_option maxRecDepth 100000
set_option maxHeartbeats 8000000
section
open Go.RowKit
def AD(c:AZ):List B9:=DA c.n.toNat (c.p.toNat^c.m.toNat)
def JV(c:AZ):Nat:=c.n.toNat*(c.p.toNat^c.m.toNat-1)
theorem SN{c:AZ}{gs:List B9}(h:Nm c gs=none):UN c gs=0:=by unfold UN;rw[h]
theorem Xl{c:AZ}{gs:List B9}(h:Nm c gs≠none):UN c gs≠0:=by
 unfold UN
 cases hb:Nm c gs with
 | none=>exact absurd hb h
 | some g=>
  unfold Nm at hb;have:=List.find?_some hb;intro e;have e2:gE c g=0:=e;simp[e2]at this
def JI(c:AZ)(e0:Int):Int:=if Ii c e0≠0 then Ii c e0 else UN c (AD c)
def Z4(c:AZ)(r:Ending)(w':World):Prop:=∃e0:Int,Cm c.p c.m c.ml c.n c.rows e0/\
 ((JI c e0≠0/\r= .returned (.tuple #[.agg #[.int .i64 0,.slice none 0 0],.int .i64 (JI c e0)]))∨(JI c e0=0/\WF (JV c:Int) (Eo c.p.toNat c.m.toNat c.ml (Dr c (AD c))) r w'))
def RnO(b0:Nat)(c:AZ)(r:Ending)(w':World):Prop:=∃e0:Int,Cm c.p c.m c.ml c.n c.rows e0/\
 ((JI c e0≠0/\r= .returned (.tuple #[.pointer none,.slice none 0 0,.slice none 0 0,.int .i64 (JI c e0)]))∨
 (JI c e0=0/\Nm c (AD c)=none/\∃(pn mn N b x0:Nat) (mv nv:Value),c.p=pn/\c.m=mn/\c.n=N/\1<=N/\N<=64/\N*(pn^mn-1)<=64/\r= .returned (.tuple #[.pointer (some ⟨b,0,none⟩),mv,nv,.int .i64 0])/\
   AR w' b pn mn c.ml x0/\1<=x0/\x0<pn^mn/\MT w' mv (Dr c (AD c))/\US b0 w' nv (Ia c (AD c))))
theorem OR{b0:Nat}{c:AZ}{r:Ending}{w':World}(h:Wy b0 c r w'):RnO b0 c r w':=by
 obtain⟨e0,h1,h2|⟨h2,h3,h4⟩|⟨h2,h3,h4⟩⟩:=h
 .have:JI c e0=Ii c e0:=by unfold JI;rw[if_pos h2.1]
  exact⟨e0,h1,.inl ⟨by rw[this];exact h2.1,by rw[this];exact h2.2⟩⟩
 .have:JI c e0=UN c (AD c):=by unfold JI;rw[if_neg (by rw[h2];simp)]
  exact⟨e0,h1,.inl ⟨by rw[this];exact Xl h3,by rw[this];exact h4⟩⟩
 .have:JI c e0=0:=by unfold JI;rw[if_neg (by rw[h2];simp)];exact SN h3
  exact⟨e0,h1,.inr ⟨this,h3,h4⟩⟩
theorem It(w:World)(c:AZ)(m1 v1:Value)(hc:c.at w m1 v1)(aC:(Dr c (AD c)).length<=1000)(aO:∀M∈Dr c (AD c),R9 c.n.toNat M):
  Calls Tryz.prog 22 #[c.arg m1 v1] w fun r w'=>Z4 c r w'/\Ex w w':=by
 obtain⟨c0,c1,c2,c3,c4⟩:=Dv w c m1 v1;have aJ:=AI w (c.obj m1 v1);obtain⟨x1,y1,aN,-,z1,-⟩:=hc.g.open;obtain⟨x3,y3,aM,-,z3,-⟩:=hc.m.open;unfold maxLen at z1 z3;obtain⟨B,hB⟩:=nA w.heap.size;have aW:(w.alloc (c.obj m1 v1)).heap.size=B+1:=dy;have aF:=Yr.new (w.alloc (c.obj m1 v1));have aB:Ex (w.alloc (c.obj m1 v1)) ((w.alloc (c.obj m1 v1)).alloc (.cells #[.int .i64 0,.slice none 0 0] 43)):=(Ex.refl _).alloc _;have aD:=Aa (G8 ((w.alloc (c.obj m1 v1)).alloc (.cells #[.int .i64 0,.slice none 0 0] 43)) c m1 v1 (hc.ex (aJ.trans aB)));rw[aW]at aF;rw[hB]at c0 c1 c2 c3 c4;replace c0:=aB.cell c0;replace c1:=aB.cell c1;replace c2:=aB.cell c2;replace c3:=aB.cell c3;replace c4:=aB.cell c4;have aG:=Aa (aJ.trans aB);have aH:=Aa aF;obtain⟨C,hC⟩:∃C:AZ,C=c:=⟨_,rfl⟩;have bN:=Aa hC;have aY:=Aa (show ∀r w',Z4 C r w'->Z4 c r w' from fun r w' h=>by rw[<-hC];exact h);rw[<-hC]at aC aO;obtain⟨cp,cm,bG,cn,bF⟩:=c;unfold AZ.arg at aD ⊢;unfold AZ.obj at aG aD aH c0 c1 c2 c3 c4;dsimp only at aG aD aH c0 c1 c2 c3 c4 aN aM ⊢;rw[aN,aM]at aG aD aH c0 c1 c2 c3 c4 ⊢;rw[<-hC]at aD;have bL:=Aa aC;have bK:=Aa aO;clear hc aJ hC aN aM aB aF aW aC aO;have aZ:=Aa (show w.heap.size<=B+1 from ac);go_enter Tryz.func22,Tryz.ntmps22
 go_upto_region 1 with fail
 try simp only[hB]
 clear hB;generalize (w.alloc (.cells #[.int .i64 cp,.int .i64 cm,.slice x3 bG.length y3,.int .i64 cn,.slice x1 bF.length y1] 39)).alloc (.cells #[.int .i64 0,.slice none 0 0] 43)=w1 at *;go_wp2_with fail
 refine aD.o.mono ?_;rintro e w2⟨aE,aA⟩;have aR:=Aa aA;obtain⟨e0,aX,ho⟩:=OR aE;have bC:=Aa aX;replace c0:=aA.cell c0;replace c1:=aA.cell c1;replace c2:=aA.cell c2;replace c3:=aA.cell c3;replace c4:=aA.cell c4;obtain⟨q0,q1,q2,aV,aU⟩:=aH.o.ex aA;obtain⟨GE,aQ⟩:∃x,JI C e0=x:=⟨_,rfl⟩;rw[aQ]at ho;have aS:=Aa aQ;clear aE aA aX aD aQ;rcases ho with⟨h0,rfl⟩|⟨h0,aF,pn,mn,N,b,x0,mv,nv,hp,hm,hn,hN1,hN64,hD,rfl,hg,hx1,aA,hms,hns⟩
 .have hb:(GE !=0)=true:=by simpa using h0
  have H0:=Aa h0;clear h0;go_wp2_with fail
  exact bodyPost_ret (v:= .tuple #[.agg #[.int .i64 0,.slice none 0 0],.int .i64 GE]) (by simp[results,Tryz.results22,go_sem,q0,q1]) rfl ⟨aY.o _ _ ⟨e0,bC.o,.inl ⟨by rw[aS.o];exact H0.o,by rw[aS.o]⟩⟩,IB (aG.o.trans aR.o) aZ.o _ _⟩
 .subst h0;have bE:cn=(N:Int):=by have:=bN.o;rw[this]at hn;exact hn
  subst bE;have bB:=Aa (show JV C=N*(pn^mn-1)/\Eo C.p.toNat C.m.toNat C.ml (Dr C (AD C))=Eo pn mn C.ml (Dr C (AD C)) from by unfold JV;rw[hp,hm,hn];exact⟨rfl,rfl⟩);have bJ:=Aa (show C.n.toNat=N from by rw[hn];rfl);have bA:=Aa (Il w2 hg N hN64 hD (Dr C (AD C)) mv hms (fun M hM=>by have:=bK.o M hM;rwa[bJ.o]at this) bL.o);obtain⟨ma,mc,rfl,-,-,-⟩:=hms.open;obtain⟨na,nc,rfl,-,-,-⟩:=hns.open;obtain⟨BS,aI⟩:∃x,C7 ((N*(pn^mn-1):Nat):Int) (Eo pn mn C.ml (Dr C (AD C)))=x:=⟨_,rfl⟩;have bO:=Aa aI;obtain⟨⟨bd,bl⟩,be⟩:=BS;obtain⟨LM,aP⟩:∃x,(Dr C (AD C)).length=x:=⟨_,rfl⟩;have aT:=Aa (show Calls Tryz.prog 64 #[.pointer (some ⟨b,0,none⟩),.int .i64 (N:Int),.slice ma LM mc] w2 fun r w'=>(∃v,r= .returned (.tuple #[.agg #[.int .i64 bd,v],.int .i64 be])/\Eh w' v bl)/\Ex w2 w' from by
   rw[<-aP];exact bA.o.mono (by
    rintro r w'⟨⟨v,h1,h2⟩,h3⟩;rw[aI]at h1 h2;exact⟨⟨v,h1,h2⟩,h3⟩))
  have bP:=Aa (show ∀l∈bl,2<=l.orb.length/\2<=l.reps.length/\∀r∈l.reps,2<=r.length from fun l hl=>J0 (n:=((N*(pn^mn-1):Nat):Int)) (rows:=Eo pn mn C.ml (Dr C (AD C))) (by rw[aI];exact hl));rw[aP];clear aF hp hm hn hN1 hN64 hD hg hx1 aA hms hns aI aP bA;go_wp2_with (go_at_call 64;refine aT.o.mono ?_;rintro e w6⟨⟨v6,rfl,aL⟩,aK⟩;obtain⟨la,lc,bD,_,_,_⟩:=aL.open;subst bD;clear q0 q1 q2 aV aU;obtain⟨q0,q1,q2,aV,aU⟩:=aH.o.ex (aR.o.trans aK);have bI:=Aa aL;have bH:=Aa aK;clear aL aK)
  have bM:=Aa (bI.o.set2 q0 q1 q2 bP.o (.int .i64 bd) (.slice la bl.length lc));exact bodyPost_ret (v:= .tuple #[.agg #[.int .i64 bd,.slice la bl.length lc],.int .i64 be]) (by simp[results,Tryz.results22,go_sem,q0,q1]) rfl ⟨aY.o _ _ ⟨e0,bC.o,.inr ⟨aS.o,by rw[bB.o.1,bB.o.2];exact IX bO.o bM.o⟩⟩,IB (aG.o.trans (aR.o.trans bH.o)) aZ.o _ _⟩
end
section
def Bo:Nat:=4294967296
theorem GQ:0<Bo:=ae
def vS(f:Nat->Nat):Nat->Nat
 | 0=>0
 | n+1=>vS f n+f n*Bo^n
theorem Gy{f g:Nat->Nat}:∀ {n},(∀k,k<n->f k=g k)->vS f n=vS g n
 | 0,_=>rfl
 | n+1,h=>by unfold vS;rw[Gy fun k hk=>h k (by omega),h n (by omega)]
theorem Nb{f:Nat->Nat}:∀n,(∀k,k<n->f k<Bo)->vS f n<Bo^n
 | 0,_=>by unfold vS;decide
 | n+1,h=>by
  have h1:=Nb n fun k hk=>h k ac;have h2:f n+1<=Bo:=h n ac;have h3:=Nat.mul_le_mul_right (Bo^n) h2;rw[Nat.add_mul,Nat.one_mul]at h3;unfold vS;rw[Nat.pow_succ,Nat.mul_comm (Bo^n) Bo];omega
theorem OI{f:Nat->Nat}{j x:Nat}:∀ {n},j<n->vS (Ax f j x) n+f j*Bo^j=vS f n+x*Bo^j
 | 0,h=>by omega
 | n+1,h=>by
  by_cases e:j=n
  .subst e;unfold vS;have h1:vS (Ax f j x) j=vS f j:=Gy fun k hk=>by unfold Ax;rw[if_neg ac]
   have h2:Ax f j x j=x:=by unfold Ax;rw[if_pos rfl]
   rw[h1,h2];omega
  .have h1:=OI (f:=f) (x:=x) (n:=n) (j:=j) ac;have h2:Ax f j x n=f n:=by unfold Ax;rw[if_neg ac]
   unfold vS;rw[h2];omega
theorem LC{f:Nat->Nat}:∀ {n m},m<=n->(∀k,m<=k->k<n->f k=0)->vS f n=vS f m
 | 0,m,h,_=>by rw[show m=0 by omega]
 | n+1,m,h,h0=>by
  by_cases e:m=n+1
  .rw[e]
  .show vS f n+f n*Bo^n=vS f m
   rw[h0 n (by omega) (by omega),Nat.zero_mul,Nat.add_zero];exact LC (by omega) fun k h1 h2=>h0 k h1 (by omega)
structure H4(n:Nat)(f:Nat->Nat):Prop where
 lt:∀k,k<n->f k<Bo
 top:∀m,n=m+1->f m≠0
theorem H4.ge{m:Nat}{f:Nat->Nat}(h:H4 (m+1) f):Bo^m<=vS f (m+1):=by
 have h1:1<=f m:=Nat.one_le_iff_ne_zero.2 (h.top m rfl);have:=Nat.mul_le_mul_right (Bo^m) h1;unfold vS;omega
theorem H4.len{n m:Nat}{f:Nat->Nat}(h:H4 n f)(hv:vS f n<Bo^m):n<=m:=by
 cases n with
 | zero=>omega
 | succ k=>
  have h1:=h.ge;have h2:Bo^k<Bo^m:=ac;have:=(Nat.pow_lt_pow_iff_right (by decide:1<Bo)).1 h2;omega
theorem Ss{f g:Nat->Nat}:∀n,(∀k,k<n->f k<Bo)->(∀k,k<n->g k<Bo)->vS f n=vS g n->∀k,k<n->f k=g k
 | 0,_,_,_,k,hk=>by omega
 | n+1,hf,hg,h,k,hk=>by
  have h1:=Nb n fun k hk=>hf k ac;have h2:=Nb n fun k hk=>hg k ac;unfold vS at h;have e:f n=g n:=by
   apply Classical.byContradiction;intro aA;rcases Nat.lt_or_gt_of_ne aA with h3|h3
   .have h3:f n+1<=g n:=h3;have:=Nat.mul_le_mul_right (Bo^n) h3;rw[Nat.add_mul,Nat.one_mul]at this;omega
   .have h3:g n+1<=f n:=h3;have:=Nat.mul_le_mul_right (Bo^n) h3;rw[Nat.add_mul,Nat.one_mul]at this;omega
  by_cases e2:k=n
  .subst e2;exact e
  .rw[e]at h;exact Ss n (fun k hk=>hf k ac) (fun k hk=>hg k ac) ac k ac
theorem H4.uniq{n m:Nat}{f g:Nat->Nat}(hf:H4 n f)(hg:H4 m g)(h:vS f n=vS g m):n=m/\∀k,k<n->f k=g k:=by
 have h1:n<=m:=hf.len (by rw[h];exact Nb m hg.lt);have h2:m<=n:=hg.len (by rw[<-h];exact Nb n hf.lt);have e:n=m:=by omega
 subst e;exact⟨rfl,Ss n hf.lt hg.lt h⟩
structure PP(N i m:Nat)(a b:Nat->Nat)(f:Nat->Nat)(c j:Nat):Prop where
 lt:∀k,k<N->f k<Bo
 zero:∀k,i+m<=k->f k=0
 cl:c<Bo
 val:vS f N+c*Bo^(i+j)=vS a i*vS b m+a i*vS b j*Bo^i
structure PR(N i m:Nat)(a b:Nat->Nat)(f:Nat->Nat):Prop where
 lt:∀k,k<N->f k<Bo
 zero:∀k,i+m<=k->f k=0
 val:vS f N=vS a i*vS b m
theorem PR.start(N m:Nat)(a b:Nat->Nat):PR N 0 m a b (fun _=>0):=
 ⟨fun _ _=>GQ,fun _ _=>rfl,by rw[LC (m:=0) (Nat.zero_le _) fun _ _ _=>rfl];unfold vS;rw[Nat.zero_mul]⟩
theorem PR.inner{N i m:Nat}{a b f:Nat->Nat}(h:PR N i m a b f):PP N i m a b f 0 0:=
 ⟨h.lt,h.zero,GQ,by rw[h.val,Nat.zero_mul];show _=_+a i*0*_;rw[Nat.mul_zero,Nat.zero_mul]⟩
theorem KV{x y u c:Nat}(hx:x<Bo)(hy:y<Bo)(hu:u<Bo)(hc:c<Bo):x*y+u+c<Bo*Bo:=by
 have h1:x<=Bo-1:=ac;have h2:y<=Bo-1:=ac;have h3:=Nat.mul_le_mul h1 h2;have h4:(Bo-1)*(Bo-1)+(Bo-1)+(Bo-1)<Bo*Bo:=ae;omega
theorem PP.step{N i m:Nat}{a b f:Nat->Nat}{c j:Nat}(h:PP N i m a b f c j)(hj:j<m)(hN:i+m<=N)(ha:a i<Bo)(hb:b j<Bo):
  PP N i m a b (Ax f (i+j) ((a i*b j+f (i+j)+c)%Bo)) ((a i*b j+f (i+j)+c)/Bo) (j+1):=by
 refine⟨fun k hk=>?_,fun k hk=>?_,?_,?_⟩
 .unfold Ax;split
  .exact Nat.mod_lt _ GQ
  .exact h.lt k hk
 .unfold Ax;rw[if_neg ac];exact h.zero k hk
 .exact Nat.div_lt_of_lt_mul (KV ha hb (h.lt (i+j) ac) h.cl)
 .have h1:=OI (f:=f) (j:=i+j) (x:=(a i*b j+f (i+j)+c)%Bo) (n:=N) ac;have h2:=h.val;have h3:=Nat.div_add_mod (a i*b j+f (i+j)+c) Bo;generalize (a i*b j+f (i+j)+c)/Bo=q at *;generalize (a i*b j+f (i+j)+c)%Bo=r at *;generalize vS (Ax f (i+j) r) N=V at *;have h4:(Bo*q+r)*Bo^(i+j)=(a i*b j+f (i+j)+c)*Bo^(i+j):=by rw[h3]
  have h5:Bo^(i+(j+1))=Bo^(i+j)*Bo:=by rw[<-Nat.add_assoc,Nat.pow_succ]
  have h6:Bo^(i+j)=Bo^j*Bo^i:=by rw[Nat.add_comm,Nat.pow_add]
  have h7:vS b (j+1)=vS b j+b j*Bo^j:=rfl;rw[h5,h7];rw[Nat.add_mul]at h4;rw[Nat.add_mul,Nat.add_mul]at h4;have h8:Bo*q*Bo^(i+j)=q*(Bo^(i+j)*Bo):=by rw[Nat.mul_comm Bo q,Nat.mul_assoc,Nat.mul_comm Bo]
  have h9:a i*(vS b j+b j*Bo^j)*Bo^i=a i*vS b j*Bo^i+a i*b j*Bo^(i+j):=by
   rw[Nat.mul_add,Nat.add_mul,h6];simp only[Nat.mul_assoc]
  rw[h9];rw[h8]at h4;omega
theorem PP.fin{N i m:Nat}{a b f:Nat->Nat}{c:Nat}(h:PP N i m a b f c m)(hN:i+m<N):PR N (i+1) m a b (Ax f (i+m) c):=by
 refine⟨fun k hk=>?_,fun k hk=>?_,?_⟩
 .unfold Ax;split
  .exact h.cl
  .exact h.lt k hk
 .unfold Ax;rw[if_neg ac];exact h.zero k ac
 .have h1:=OI (f:=f) (j:=i+m) (x:=c) (n:=N) hN;rw[h.zero (i+m) (Nat.le_refl _),Nat.zero_mul,Nat.add_zero]at h1;rw[h1,h.val];show _=(vS a i+a i*Bo^i)*vS b m
  rw[Nat.add_mul,Nat.mul_right_comm]
structure Ll(f:Nat->Nat)(N n:Nat):Prop where
 le:n<=N
 val:vS f n=vS f N
theorem Ll.step{f:Nat->Nat}{N n:Nat}(h:Ll f N (n+1))(h0:f n=0):Ll f N n:=
 ⟨by have:=h.le;omega,by rw[<-h.val,show vS f (n+1)=vS f n+f n*Bo^n from rfl,h0];omega⟩
theorem Ll.fin{f:Nat->Nat}{N n:Nat}(h:Ll f N n)(hl:∀k,k<N->f k<Bo)(h0:∀m,n=m+1->f m≠0):H4 n f:=⟨fun k hk=>hl k (by have:=h.le;omega),h0⟩
end
section
open Go.RowKit
theorem Qw:(Tryz.prog.info? 91).map (fun i=>(i.zero,i.size,i.bytes))=some (some (.int .u32 0),1,4):=ah
def uv(f:Nat->Nat):Nat->Value:=fun j=> .int .u32 (f j:Int)
theorem Su(f:Nat->Nat)(k:Nat)(y:Nat):Ax (uv f) k (.int .u32 (y:Int))=uv (Ax f k y):=by
 funext j;unfold Ax uv;by_cases h:j=k <;> simp[h]
def NL(w:World)(v:Value)(n:Nat)(f:Nat->Nat):Prop:=Sl w v n 1 (vs n (uv f))
def GU(w:World)(v:Value)(x:Nat):Prop:=∃n f,H4 n f/\vS f n=x/\NL w v n f
theorem NL.ex{w w':World}{v:Value}{n:Nat}{f:Nat->Nat}(h:NL w v n f)(hx:Ex w w'):NL w' v n f:=Sl.ex h hx
theorem GU.ex{w w':World}{v:Value}{x:Nat}(h:GU w v x)(hx:Ex w w'):GU w' v x:=by
 obtain⟨n,f,h1,h2,h3⟩:=h;exact⟨n,f,h1,h2,h3.ex hx⟩
theorem NL.open{w:World}{v:Value}{n:Nat}{f:Nat->Nat}(h:NL w v n f):∃a cap,v= .slice a n cap/\n<=cap/\cap<=maxLen/\
  (0<n->∃b o,a=some ⟨b,o,none⟩/\∀j,j<n->w.cell? ⟨b,o+j,none⟩=some (.int .u32 (f j:Int))):=by
 obtain⟨h1,a,cap,rfl,h3,h4,h5⟩:=h;refine⟨a,cap,rfl,h3,h4,fun hn=>?_⟩;obtain⟨b,o,rfl,h6⟩:=h5 hn;exact⟨b,o,rfl,fun j hj=>h6 j _ (Dy hj (uv f))⟩
theorem NL.mk{w:World}{a:Option Addr}{n cap:Nat}{f:Nat->Nat}(h1:n<=cap)(h2:cap<=maxLen)(h3:0<n->∃b o,a=some ⟨b,o,none⟩/\∀j,j<n->w.cell? ⟨b,o+j,none⟩=some (.int .u32 (f j:Int))):NL w (.slice a n cap) n f:=by
 refine⟨by rw[Bm,Nat.mul_one],a,cap,rfl,h1,h2,fun hn=>?_⟩;obtain⟨b,o,rfl,h4⟩:=h3 hn;refine⟨b,o,rfl,fun j u hu=>?_⟩;have hj:j<n:=by have:=(List.getElem?_eq_some_iff.1 hu).1;rwa[Bm]at this
 rw[Dy hj]at hu;injection hu with hu;rw[h4 j hj,<-hu];rfl
theorem NL.take{w:World}{a:Option Addr}{n cap m:Nat}{f:Nat->Nat}(h:NL w (.slice a n cap) n f)(hm:m<=n){c:Nat}(hc:m<=c)(aA:c<=cap):NL w (.slice a m c) m f:=by
 obtain⟨a',cap',e,h1,h2,h3⟩:=h.open;injection e with e1 e2 e3;subst e1 e3;exact NL.mk hc (Nat.le_trans aA h2) fun hn=>by
  obtain⟨b,o,rfl,h4⟩:=h3 ac;exact⟨b,o,rfl,fun j hj=>h4 j ac⟩
theorem Fr(w:World)(n:Nat)(f:Nat->Nat)(v:Value)(hv:NL w v n f)(aA:∀k,k<n->f k<Bo):
  Calls Tryz.prog 87 #[v] w fun r w'=>(∃u m,r= .returned u/\m<=n/\H4 m f/\vS f m=vS f n/\NL w u m f)/\w'=w:=by
 obtain⟨a,cap,rfl,s1,s2,s3⟩:=hv.open;have HV:=Aa hv;have S3:=Aa s3;have aC:=Aa aA;have HCM:=Aa s2;unfold maxLen at s2;clear hv s3 aA;go_enter Tryz.func87,Tryz.ntmps87
 go_wp2_with fail
 go_loopw [3] (fun m' wr=>∃m:Nat,m'= .int .i64 m/\wr=w/\Hia (Ll f n m)) (fun m' _=>(intOf m').toNat)
 case atStart=>exact⟨n,rfl,rfl,⟨Nat.le_refl _,rfl⟩⟩
 case round=>
  obtain⟨m,rfl,rfl,hs⟩:=hrel;have aB:=hs.o.le
  cases m with
  | zero=>
   have HC:=Aa (hs.o.fin aC.o (fun m h=>by cases h));go_wp2_with fail
   go_ret;exact⟨⟨_,0,rfl,Nat.zero_le _,HC.o,hs.o.val,HV.o.take (Nat.zero_le _) (Nat.le_refl _) (Nat.zero_le _)⟩,rfl⟩
  | succ k=>
   have i1:(0:Int)<=(k:Int):=ac;have i2:(k:Int)<(n:Int):=ac;obtain⟨b,o,rfl,hc⟩:=S3.o ac;have c1:=hc k ac;have hw1:((k+1:Nat):Int)-1=(k:Int):=c9;by_cases h0:f k=0
   .have HS:=Aa (hs.o.step h0);rw[h0]at c1;clear hc h0;go_wp2_with fail
    go_roundw
    case rel=>exact⟨k,by go_num,trivial,HS⟩
    case measure=>simp[intOf]
   .have HC:=Aa (hs.o.fin aC.o (fun m h=>by injection h with h;subst h;exact h0));have hb:((f k:Int)==0)=false:=by simpa using h0
    clear hc h0;go_wp2_with fail
    go_ret;exact⟨⟨_,k+1,rfl,aB,HC.o,hs.o.val,HV.o.take aB (Nat.le_refl _) ac⟩,rfl⟩
theorem NL.cells{w:World}{v:Value}{n:Nat}{f:Nat->Nat}(h:NL w v n f):∀u∈vs n (uv f),u.oneCell'=true:=fun u hu=>by
 unfold vs uv at hu;obtain⟨j,_,rfl⟩:=List.mem_map.1 hu;rfl
theorem Om(w:World)(n:Nat)(f:Nat->Nat)(v:Value)(hv:NL w v n f)(aC:∀k,k<n->f k<Bo)(hn:n<=100000):
  Calls Tryz.prog 96 #[v] w fun r w'=>(∃u,r= .returned u/\GU w' u (vS f n))/\Ex w w':=by
 obtain⟨a,cap,rfl,s1,s2,s3⟩:=hv.open;have HS:=Aa (Fr w n f _ hv aC);have HN:=Aa hn;clear hv s3 aC hn;go_enter Tryz.func96,Tryz.ntmps96
 go_wp2_with (first|(go_at_call 87;refine HS.o.mono ?_;rintro e w2⟨⟨u,m,rfl,hm,hc,aB,hu⟩,rfl⟩;obtain⟨ua,uc,rfl,_,_,_⟩:=hu.open;have HU:=Aa hu;have HM:=Aa hm;have HC:=Aa hc;have aE:=Aa aB;clear hu hm hc aB;have hm2:m<=100000:=Nat.le_trans HM.o HN.o)
                        | (at_builtin;refine Bd _ rfl _ _ 56 rfl w2.heap.size 91 (.int .u32 0) 1 4 Tryz.underlying56 Qw rfl ae (.slice none 0 0) 0 [] rfl (World.ownsRow_nil _ _ _ _) (.slice ua m uc) m _ rfl HU.o HU.o.cells ai ac ag ?_;intro v' w' aA hg hb;obtain⟨oa,oc,rfl⟩:=Ac aA;have HO:=Aa aA;have aD:=Aa (Below.grown (Below.refl _ _) hg (Nat.le_refl _) (fun k hk=>by cases hk));clear aA hg hb))
 go_ret;exact⟨⟨_,rfl,m,f,HC.o,aE.o,by have:=Sl.own HO.o;rw[Nat.zero_add,List.nil_append]at this;exact this⟩,aD.o⟩
theorem Uy:Bo=4294967296:=rfl
theorem Ws(S:Nat):(S:Int)%4294967296=((S%Bo:Nat):Int):=by rw[Uy];omega
theorem Wt(S:Nat):(S:Int)/4294967296=((S/Bo:Nat):Int):=by rw[Uy];omega
def XO(x:Nat):Nat->Nat:=fun k=>if k=0 then x%Bo else x/Bo
theorem Wf(x:Nat):vS (XO x) 2=x:=by
 show 0+x%Bo*1+x/Bo*Bo^1=x
 have:=Nat.div_add_mod x Bo;rw[Nat.pow_one,Nat.mul_comm (x/Bo)];omega
theorem XN{x:Nat}(hx:x<18446744073709551616):∀k,k<2->XO x k<Bo:=fun k hk=>by
 unfold XO;split
 .exact Nat.mod_lt _ GQ
 .unfold Bo;omega
theorem XM(w:World)(x:Nat)(t:TypeId):NL (w.alloc (.cells #[.int .u32 ((x:Int)%4294967296),.int .u32 ((x:Int)/4294967296)] t)) (.slice (some ⟨w.heap.size,0,none⟩) 2 2) 2 (XO x):=
 NL.mk (Nat.le_refl _) ai fun _=>⟨_,0,rfl,fun j hj=>by
  match j,hj with
  | 0,_=>simp[XO,Bo]
  | 1,_=>simp[XO,Bo]⟩
theorem UG(w:World)(x:Nat)(hx:x<18446744073709551616):
  Calls Tryz.prog 42 #[.int .u64 x] w fun r w'=>(∃u,r= .returned u/\GU w' u x)/\Ex w w':=by
 have HT:=Aa (Om (w.alloc (.cells #[.int .u32 ((x:Int)%4294967296),.int .u32 ((x:Int)/4294967296)] 91)) 2 (XO x) _ (XM w x _) (XN hx) ac);have EA:=Aa ((Ex.refl w).alloc (.cells #[.int .u32 ((x:Int)%4294967296),.int .u32 ((x:Int)/4294967296)] 91));rw[Wf]at HT;go_enter Tryz.func42,Tryz.ntmps42
 go_wp2_with (go_at_call 96;refine HT.o.mono ?_;rintro e w2⟨⟨u,rfl,hu⟩,hx⟩;obtain⟨n,f,_,_,aA⟩:=id hu;obtain⟨ua,uc,rfl,_,_,_⟩:=aA.open;have HU:=Aa hu;have HX:=Aa hx;clear hu aA hx)
 go_ret;exact⟨⟨_,rfl,HU.o⟩,EA.o.trans HX.o⟩
theorem bm{P:Prop}(h:P:=by rw[IntKind.wrap_u64];omega):P:=h
theorem Rd(w:World)(n m:Nat)(a b:Nat->Nat)(u v:Value)(hu:NL w u n a)(hv:NL w v m b)(ha:∀k,k<n->a k<Bo)(hb:∀k,k<m->b k<Bo)(hn:n<=10000)(hm:m<=10000):
  Calls Tryz.prog 95 #[u,v] w fun r w'=>(∃u,r= .returned u/\GU w' u (vS a n*vS b m))/\Ex w w':=by
 obtain⟨ua,uc,rfl,s1,s2,s3⟩:=hu.open;obtain⟨va,vc,rfl,t1,t2,t3⟩:=hv.open;unfold maxLen at s2 t2;have S3:=Aa s3;have T3:=Aa t3;have HA:=Aa ha;have HB:=Aa hb;have hw0:wrap64 ((n:Int)+(m:Int))=((n+m:Nat):Int):=by rw[<-Int.natCast_add];exact Zh ac ac
 clear hu hv s3 t3 ha hb;go_enter Tryz.func95,Tryz.ntmps95
 go_wp2_with (at_make;refine Ap _ rfl _ _ 56 rfl 91 (.int .u32 0) 4 Tryz.underlying56 Qw rfl _ (n+m) rfl rfl (by first|rfl|omega) ac ai ?_)
 intro w3 aF aP;obtain⟨g,hg⟩:=nA w.heap.size;have aZ:=Aa (show AG w3 w.heap.size 91 g (n+m) (uv fun _=>0) from by rw[<-hg];exact aF);have aY:=Aa aP;have HGG:=Aa hg
 try simp only[hg]
 clear aF aP hg;go_wp2_with fail
 go_loopw [20] (fun i' wr=>∃(i:Nat) (f:Nat->Nat),i<=n/\i'= .int .i64 i/\Hia (AG wr w.heap.size 91 g (n+m) (uv f))/\Hia (PR (n+m) i m a b f)/\Hia (Ex w wr)) (fun i' _=>n-(intOf i').toNat)
 case atStart=>exact⟨0,_,ac,rfl,aZ,Aa (PR.start _ _ _ _),aY⟩
 case round=>
  clear aZ aY;obtain⟨i,f,hi,rfl,ho,aH,aB⟩:=hrel;by_cases hin:i<n
  .obtain⟨sb,so,rfl,aR⟩:=S3.o ac;have c1:=aB.o.cell (aR i hin);have i1:(0:Int)<=(i:Int):=by omega
   have i2:(i:Int)<(n:Int):=ac;have aO:=Aa (HA.o i hin);obtain⟨A,hA⟩:=nA (a i);rw[hA]at c1;have bI:=Aa hA;clear hA aR;go_wp2_with fail
   go_loopw [8,27] (fun c' j' wr=>∃(c j:Nat) (f:Nat->Nat),j<=m/\c'= .int .u64 c/\j'= .int .i64 j/\Hia (AG wr w.heap.size 91 g (n+m) (uv f))/\Hia (PP (n+m) i m a b f c j)/\Hia (Ex w wr)) (fun _ j' _=>m-(intOf j').toNat)
   case atStart=>exact⟨0,0,f,ac,rfl,rfl,ho,Aa aH.o.inner,aB⟩
   case round=>
    clear c1 ho aH aB;obtain⟨c,j,f,hj,rfl,rfl,ho,aC,aB⟩:=hrel;by_cases hjm:j<m
    .obtain⟨tb,tp,rfl,aQ⟩:=T3.o ac;have c2:=aB.o.cell (aQ j hjm);have aK:i+j<n+m:=by omega
     have c3:=ho.o.cell aK;have bC:=ho.o.frz (i+j);have i3:(0:Int)<=(j:Int):=ac;have i4:(j:Int)<(m:Int):=ac;have i5:(0:Int)<=(i:Int)+(j:Int):=Int.add_nonneg i1 i3;have i6:(i:Int)+(j:Int)<(n:Int)+(m:Int):=Int.add_lt_add i2 i4;have aA:=Aa (aC.o.step hjm ac aO.o (HB.o j hjm));have aG:=KV aO.o (HB.o j hjm) (aC.o.lt (i+j) aK) aC.o.cl;have aE:=fun y:Nat=>ho.o.set (i+j) (.int .u32 (y:Int));have aX:=fun y:Nat=>ho.o.exSet (Nat.le_refl _) aB.o (i+j) (.int .u32 (y:Int));simp only[Su]at aE;have aU:a i<4294967296:=aO.o;have aT:b j<4294967296:=HB.o j hjm;have aS:f (i+j)<4294967296:=aC.o.lt (i+j) aK;have aI:c<4294967296:=aC.o.cl;have aD:a i*b j+f (i+j)+c<18446744073709551616:=aG;clear aG;unfold uv at c3;rw[bI.o]at aA aD aU;obtain⟨B,hB⟩:=nA (b j);obtain⟨F,hF⟩:=nA (f (i+j));rw[hB]at aA aD c2 aT;simp only[hF]at c3;rw[hF]at aA aD aS;obtain⟨P,hP⟩:=nA (A*B);rw[hP]at aA aD;obtain⟨T,hT⟩:=nA (P+F);rw[hT]at aA aD;obtain⟨S,hS⟩:=nA (T+c);rw[hS]at aA aD;have e1:IntKind.u64.wrap ((A:Int)*(B:Int))=(P:Int):=by rw[<-Int.natCast_mul,hP,IntKind.wrap_u64];omega
     have e2:IntKind.u64.wrap ((P:Int)+(F:Int))=(T:Int):=bm;have e3:IntKind.u64.wrap ((T:Int)+(c:Int))=(S:Int):=bm;have e7:IntKind.u64.wrap (A:Int)=(A:Int):=bm;have e8:IntKind.u64.wrap (B:Int)=(B:Int):=bm;have e9:IntKind.u64.wrap (F:Int)=(F:Int):=bm;have e5:(S:Int)%4294967296=((S%Bo:Nat):Int):=Ws S;have e6:(S:Int)/4294967296=((S/Bo:Nat):Int):=Wt S;obtain⟨r,hr⟩:=nA (S%Bo);obtain⟨k,hk⟩:=nA (S/Bo);rw[hr]at e5 aA;rw[hk]at e6 aA;have aM:=Aa (aE r);have aN:=Aa (aX r);clear aE aX aQ hP hT hS hB hF hr hk aD aU aT aS aI;go_wp2_with fail
     clear e1 e2 e3 e5 e6 e7 e8 e9;go_roundw
     case rel=>exact⟨k,j+1,_,ac,rfl,by go_num,aM,aA,aN⟩
     case measure=>simp[intOf];omega
    .obtain rfl:j=m:=by omega
     have bH:=Aa (aC.o.fin ac);have bB:i+j<n+j:=c9;have c3:=ho.o.cell bB;have bC:=ho.o.frz (i+j);have aE:=ho.o.set (i+j) (.int .u32 (c:Int));have aN:=Aa (ho.o.exSet (Nat.le_refl _) aB.o (i+j) (.int .u32 (c:Int)));rw[Su]at aE;have aM:=Aa aE;have k5:(0:Int)<=(i:Int)+(j:Int):=Int.add_nonneg i1 (Int.natCast_nonneg j);have k6:(i:Int)+(j:Int)<(n:Int)+(j:Int):=Int.add_lt_add_right i2 _;have hc:c<4294967296:=aC.o.cl;have bA:=Aa (show(c:Int)%4294967296=(c:Int) from ac);have e2:=bA.o;unfold uv at c3;clear hc aE;go_wp2_with fail
     clear e2;go_roundw
     case rel=>exact⟨i+1,_,ac,by go_num,aM,bH,aN⟩
     case measure=>simp[intOf];omega
  .obtain rfl:i=n:=by omega
   have aL:=Fr wr (i+m) f _ (show NL wr (.slice (some ⟨g,0,none⟩) (i+m) (i+m)) (i+m) f from ho.o.sl) aH.o.lt;rw[aH.o.val]at aL;have bD:=Aa aL;clear aL;go_wp2_with (go_at_call 87;refine bD.o.mono ?_;rintro e w5⟨⟨u,k,rfl,hk1,aW,aV,aJ⟩,rfl⟩;obtain⟨oa,oc,rfl,_,_,_⟩:=aJ.open;have bG:=Aa aW;have bF:=Aa aV;have bE:=Aa aJ;clear aW aV aJ)
   go_ret;exact⟨⟨_,rfl,k,f,bG.o,bF.o,bE.o⟩,aB.o⟩
end
end Go.Proofs.YtehieobniamagaaGreat
