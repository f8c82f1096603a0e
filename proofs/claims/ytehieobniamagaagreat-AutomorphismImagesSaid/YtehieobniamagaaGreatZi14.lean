/- Walk of equivalence.image. -/
import Derived.Test.YtehieobniamagaaGreatZi13
namespace Go.Proofs.YtehieobniamagaaGreat
open List renaming all_eq_true→υ,getD_eq_getElem?_getD→δ,getElem?_eq_getElem→γ,mem_range→κ,any_eq_true→ϗ,contains_iff_mem→γv,length_take→δr,getElem_take→ηp
open Nat renaming le_trans→μ,le_refl→ζ
open Int renaming toNat_natCast→ώ
open Go.RowKit
set_option linter.all false
set_option maxRecDepth 100000
set_option maxHeartbeats 8000000
def BJ(pl:List Int)(i:Nat):Nat:=(pl.getD i 0).toNat
def vF(p m:Nat)(ml sl:List Int)(fr:Nat)(x:List Int)(i:Nat):Int:=
 ((Am p m (lw ml) (Av (p^m) (sl.getD i 0)) (TT p m (lw ml) (Av (p^m) (x.getD i 0)) fr):Nat):Int)
def Lk(p m:Nat)(ml pl sl:List Int)(fr:Nat)(x:List Int)(N:Nat):Nat->Int:=plc (BJ pl) (vF p m ml sl fr x) N
theorem dw{P:Prop}(h:P:=by rw[List.getD_eq_getElem?_getD,List.getElem?_eq_getElem hi];exact List.getElem_mem _):P:=h
theorem EV{l:List Int}{n:Int}(h:BW l n=true){i:Nat}(hi:i<l.length):0<=l.getD i 0/\l.getD i 0<n:=by
 unfold BW at h;have:=υ.1 h (l.getD i 0) dw;simpa using this
theorem AZ{l:List Int}{i:Nat}(hi:i<l.length):l[i]?=some (l.getD i 0):=by
 rw[δ,γ hi];rfl
section
variable {b p m x0:Nat} {ml:List Int}
theorem Vn(w:World)(hg:Bh w b p m ml x0)(N:Nat)(hN:N<=64)(pl sl x:List Int)(pv sv xv:Value)(hp:Ak w pv pl)(hs:Ak w sv sl)(hx:Ak w xv x)(fr:Nat)(bE:fr<m)(aH:pl.length=N)(aG:sl.length=N)(aK:x.length=N)(hr:BW pl N=true):
  Calls Tryz.prog 92 #[(b,0),.agg #[pv,sv,fr],xv] w fun r w'=>∃g,r= .returned (.slice (some ⟨g,0,none⟩) N N)/\AJ w' w.heap.size 3 g N (iv (Lk p m ml pl sl fr x N))/\Ex w w':=by
 obtain⟨b0,b1,b2,eb⟩:=BA w pv sv fr;have p2:=hg.sh.p2;have m1:=hg.sh.m1;have bO:=Aa (fun (w1:World) (h1:Ex w w1) (y:Int)=>MN w1 (hg.ex h1) y fr bE);have bK:=Aa (fun (w1:World) (h1:Ex w w1) (y z:Int)=>EZ w1 (hg.ex h1) y z);obtain⟨pa,pc,rfl,_,q2,p3⟩:=hp.open;obtain⟨sa,sc,rfl,_,s2,s3⟩:=hs.open;obtain⟨xa,xc,rfl,_,x2,x3⟩:=hx.open;unfold maxLen at q2 s2 x2;rw[aH]at p3;rw[aG]at s3;rw[aK]at x3;rw[aH,aG,aK];rw[aH,aG]at b0 b1 eb b2;obtain⟨P3,S3,X3,bI,bN,bM,bL,aE⟩:=OK p3 s3 x3 (fun i (hi:i<N)=>EV hr (i:=i) ac) (fun i (hi:i<N)=>AZ (l:=pl) (i:=i) ac) (fun i (hi:i<N)=>AZ (l:=sl) (i:=i) ac) (fun i (hi:i<N)=>AZ (l:=x) (i:=i) ac) eb;clear hg hp hs hx p3 s3 x3 eb aH aG aK hr;go_enter Tryz.func92,Tryz.ntmps92
 go_wp2_with (at_make;refine Ar _ rfl _ _ 22 rfl 3 (.int .i64 0) 8 Tryz.underlying22 Az rfl _ N rfl rfl rfl ac ai ?_)
 obtain⟨B,hB⟩:=nA w.heap.size;rw[hB]at b0 b1 b2
 try simp only[hB]
 have bQ:=Aa hB;have aT:(w.alloc (.cells #[(pa,N,pc),(sa,N,sc),fr] 26)).heap.size=B+1:=by simp[hB]
 clear hB;generalize w.alloc (.cells #[(pa,N,pc),(sa,N,sc),fr] 26)=w1 at *;intro w3 aA aR;have B0:=Aa b0;have B1:=Aa b1;have B2:=Aa b2;obtain⟨g,aI⟩:=nA (B+1);have aW:Hia (AJ w3 g 3 g N (iv (plc (BJ pl) (vF p m ml sl fr x) 0))):=Aa (by rw[<-aI];exact aA)
 try simp only[aI]
 have bG:=Aa aR;have aY:Hia (w1.heap.size=g):=Aa (by rw[<-aI,<-aT]);clear aA aR b0 b1 b2 aI aT;go_wp2_with fail
 go_loopw [15] (fun i' wr=>∃(i:Nat),i<=N/\i'= .int .i64 i/\Hia (AJ wr g 3 g N (iv (plc (BJ pl) (vF p m ml sl fr x) i)))/\Hia (Ex w1 wr)) (fun i' _=>N-(intOf i').toNat)
 case atStart=>exact⟨0,ac,rfl,aW,bG⟩
 case round=>
  clear aW;obtain⟨i,hi,rfl,aA,aB⟩:=hrel;by_cases hin:i<N
  .obtain⟨pb,po,rfl,aV⟩:=P3.o ac;obtain⟨sb,so,rfl,aU⟩:=S3.o ac;obtain⟨xb,xo,rfl,aQ⟩:=X3.o ac;have bD:=bI.o i hin;have aF:=Aa (aE.o.trans aB.o);obtain⟨y,hy⟩:=nA (BJ pl i);have aP:pl.getD i 0=(y:Int):=by rw[<-hy];unfold BJ;omega
   have bC:y<N:=ac;have aN:=bN.o i hin;rw[aP]at aN;have bB:=Aa (aV i _ aN);have cp:=aF.o.cell bB.o;obtain⟨s,hs⟩:=nA (sl.getD i 0);have aM:=bM.o i hin;rw[hs]at aM;have bA:=Aa (aU i _ aM);have cs:=aF.o.cell bA.o;obtain⟨z,hz⟩:=nA (x.getD i 0);have aL:=bL.o i hin;rw[hz]at aL;have cx:=aF.o.cell (aQ i _ aL);have i1:(0:Int)<=(i:Int):=ac;have i2:(i:Int)<(N:Int):=ac;have i3:(0:Int)<=(y:Int):=ac;have i4:(y:Int)<(N:Int):=ac;have aZ:=Aa (fun (w5:World) (h5:Ex wr w5)=>bO.o w5 (aF.o.trans h5) z);obtain⟨t,ht⟩:=nA (TT p m (lw ml) (Av (p^m) z) fr);have aS:t<p^m:=by rw[<-ht];exact OJ p2 m1 (Cb (Nat.pow_pos ac) _) _
   rw[ht]at aZ;have aX:=Aa (fun (w5:World) (h5:Ex wr w5)=>by
    have:=bK.o w5 (aF.o.trans h5) s (t:Int);rw[AE aS]at this;exact this)
   obtain⟨u,hu⟩:=nA (Am p m (lw ml) (Av (p^m) s) t);rw[hu]at aX;have bH:Hia (Ay (plc (BJ pl) (vF p m ml sl fr x) i) y (u:Int)=plc (BJ pl) (vF p m ml sl fr x) (i+1)):=Aa (by
    show _=Ay (plc (BJ pl) (vF p m ml sl fr x) i) (BJ pl i) (vF p m ml sl fr x i)
    rw[hy]
    congr 1
    unfold vF;rw[hs,hz,ht,hu])
   have d0:=aB.o.cell B0.o;have d1:=aB.o.cell B1.o;have d2:=aB.o.cell B2.o;have aJ:=Aa aA.o;have bP:=Aa aB.o;have aD:=Aa (fun (w5:World) (h5:Ex wr w5)=>(aJ.o.ex h5).exSet (a:=w1) (Nat.le_of_eq aY.o) (bP.o.trans h5) y (.int .i64 (u:Int)));have bJ:=Aa (fun (w5:World) (h5:Ex wr w5)=>show AJ (w5.setCell (g,y) (.int .i64 (u:Int))) g 3 g N (iv (plc (BJ pl) (vF p m ml sl fr x) (i+1))) from by
    rw[<-bH.o,<-CF];exact(aJ.o.ex h5).set y _)
   obtain⟨CP,CS,CX,bF⟩:=Of cp cs cx bC;clear bD hy aP aN hs aM hz aL ht aS hu aV aU aQ aA aB;go_wp2_with fail
   have bT:=Aa d0;have bS:=Aa d1;have bR:=Aa d2;have aC:=Aa (fun (w5:World) (h5:Ex wr w5)=>(⟨h5.cell CP.o,h5.cell CS.o,h5.cell bT.o,h5.cell bS.o,h5.cell bR.o⟩:w5.cell? (pb,po+i)=some (.int .i64 (y:Int))/\w5.cell? (sb,so+i)=some (.int .i64 s)/\w5.cell? (B,0)=some (.slice (some (pb,po)) N pc)/\w5.cell? (B,1)=some (.slice (some (sb,so)) N sc)/\w5.cell? (B,2)=some (.int .i64 (fr:Int))));have aO:=Aa (fun (w5:World) (h5:Ex wr w5)=>(⟨(aE.o.trans (aD.o w5 h5)).cell bB.o,(aE.o.trans (aD.o w5 h5)).cell bA.o,(aD.o w5 h5).cell B0.o,(aD.o w5 h5).cell B1.o,(aD.o w5 h5).cell B2.o⟩:(w5.setCell (g,y) (.int .i64 (u:Int))).cell? (pb,po+i)=some (.int .i64 (y:Int))/\(w5.setCell (g,y) (.int .i64 (u:Int))).cell? (sb,so+i)=some (.int .i64 s)/\(w5.setCell (g,y) (.int .i64 (u:Int))).cell? (B,0)=some (.slice (some (pb,po)) N pc)/\(w5.setCell (g,y) (.int .i64 (u:Int))).cell? (B,1)=some (.slice (some (sb,so)) N sc)/\(w5.setCell (g,y) (.int .i64 (u:Int))).cell? (B,2)=some (.int .i64 (fr:Int))));clear d0 d1 d2 cp cs;have G0:Ex wr wr.drew:=(Ex.refl wr).drew
   go_region_held3 (fun w'=>w'.cell? (pb,po+i)=some (.int .i64 (y:Int))/\w'.cell? (sb,so+i)=some (.int .i64 s)/\w'.cell? (B,0)=some (.slice (some (pb,po)) N pc)/\w'.cell? (B,1)=some (.slice (some (sb,so)) N sc)/\w'.cell? (B,2)=some (.int .i64 (fr:Int)))
    (first|with_reducible exact aC.o _ G0|with_reducible exact aC.o _ X5|with_reducible exact aC.o _ X6|with_reducible exact aO.o _ X6)
    (first|(go_at_call 107;(with_reducible refine(aZ.o _ G0).mono ?_);rintro e w5⟨rfl,h5⟩;have X5:=G0.trans h5;clear h5)|(go_at_call 106;(with_reducible refine(aX.o _ X5).mono ?_);rintro e w6⟨rfl,n6,rfl⟩;have X6:=X5.drewN n6;have co6:=(aJ.o.ex X6).cell bF.o;have cf6:=(aJ.o.ex X6).frz y))
   go_wp2_with fail
   go_roundw
   case rel=>exact⟨i+1,ac,by go_num,Aa (bJ.o _ X6),Aa (aD.o _ X6)⟩
   case measure=>exact Ωm
  .obtain rfl:i=N:=by omega
   go_wp2_with fail
   go_ret;exact⟨g,rfl,aA.o.mono (by have:=aY.o;have:=bQ.o;have:=aE.o.size;omega),aE.o.trans aB.o⟩
end
inductive RKd where
 | val (g:List Value->Value)
 | new (e:TypeId) (size n:Nat) (xs:List Value->List Value)
 | app (c:Option Nat) (e:TypeId) (size n:Nat) (xs:List Value->List Value)
structure Fg where
 kd:RKd
 dp:List Nat
 eat:Nat
def Fg.says(d:Fg)(bw b0:Nat)(V:Nat->Value)(k:Nat)(w:World):Prop:=match d.kd with
 | .val g=>V k=g (d.dp.map V)
 | .new e size n xs=>w.ownsRow bw e size (V k) n (xs (d.dp.map V))
 | .app (some _) e size n xs=>w.ownsRow bw e size (V k) n (xs (d.dp.map V))
 | .app none e size n xs=>w.ownsRow b0 e size (V k) n (xs (d.dp.map V))
def Fg.isRow(d:Fg):Bool:=match d.kd with
 | .val _=>false
 | _=>true
structure Q9(D:Nat->Fg)(m e0 b0:Nat)(w0 w:World)(v0:Value)(e:TypeId)(size n:Nat)(xs:List Value)(L:Nat->Bool)(V:Nat->Value)(w':World):Prop where
 gr:w.grownBy w' v0.ownBlock
 ex:Ex w0 w'
 lt:∀k,L k=true->k<m
 dps:∀k,L k=true->∀d∈(D k).dp,L d=true
 says:∀k,L k=true->L (D k).eat=false->(D k).says w.heap.size b0 V k w'
 ap:∀j k,L j=true->L k=true->L (D j).eat=false->L (D k).eat=false->j≠k->(D j).isRow=true->(D k).isRow=true->AD (V j) (V k)
 o:L e0=false->w'.ownsRow b0 e size v0 n xs/\∀k,L k=true->L (D k).eat=false->(D k).isRow=true->AD (V k) v0
 oat:L e0=true->(V e0).ownBlock=v0.ownBlock∨∀B,(V e0).ownBlock=some B->w.heap.size<=B
theorem Cx{w:World}{base b':Nat}{e:TypeId}{size:Nat}{v:Value}{n:Nat}{xs:List Value}(h:w.ownsRow base e size v n xs)(hb:b'<=base):w.ownsRow b' e size v n xs:=by
 obtain⟨h1,h2⟩:=h;refine⟨h1,?_⟩;rcases h2 with h2|⟨g,cap,cur,a,b,c⟩
 .exact .inl h2
 .exact .inr ⟨g,cap,cur,a,μ hb b,c⟩
theorem EF{w w':World}(h:Ex w w')(ob:Option Nat):w.grownBy w' ob:=⟨h.os,h.tape,h.output,h.size,fun k hk _=>h.block k hk⟩
theorem Iq{V:Nat->Value}{i:Nat}{u:Value}{dp:List Nat}(h:i ∉ dp):dp.map (Ay V i u)=dp.map V:=by
 refine List.map_congr_left fun d hd=>?_;exact Ac _ _ fun e=>h (e ▸ hd)
theorem Bp{L:Nat->Bool}{i k:Nat}(h:Ay L i true k=true)(hk:k≠i):L k=true:=by rwa[Ac _ _ hk]at h
theorem BG{L:Nat->Bool}{i k:Nat}(h:Ay L i true k=false):L k=false:=by
 by_cases e:k=i
 .subst e;rw[Ab]at h;cases h
 .rwa[Ac _ _ e]at h
section
variable {D:Nat->Fg} {m e0 b0:Nat} {w0 w:World} {v0:Value} {te:TypeId} {size n:Nat} {xs:List Value} {L:Nat->Bool} {V:Nat->Value} {w' w'':World}
theorem Fg.says_upd{d:Fg}{bw:Nat}{k i:Nat}{u:Value}(h:d.says bw b0 V k w')(hk:k≠i)(hd:i ∉ d.dp):d.says bw b0 (Ay V i u) k w':=by
 unfold Fg.says at *;rw[Iq hd,Ac _ _ hk];exact h
theorem Fg.says_ex{d:Fg}{bw:Nat}{k:Nat}(h:d.says bw b0 V k w')(hx:Ex w' w''):d.says bw b0 V k w'':=by
 unfold Fg.says at *;split at h
 .exact h
 .exact Ag h hx
 .exact Ag h hx
 .exact Ag h hx
theorem Fg.says_kept{d:Fg}{bw:Nat}{k:Nat}{ob:Value}(h:d.says bw b0 V k w')(hg:w'.grownBy w'' ob.ownBlock)(ha:d.isRow=true->AD (V k) ob):d.says bw b0 V k w'':=by
 unfold Fg.says Fg.isRow at *;split at h
 .exact h
 .exact h.kept hg (ha (by simp[*]))
 .exact h.kept hg (ha (by simp[*]))
 .exact h.kept hg (ha (by simp[*]))
theorem Fg.says_lt{d:Fg}{bw:Nat}{k:Nat}(h:d.says bw b0 V k w')(hr:d.isRow=true):∀B,(V k).ownBlock=some B->B<w'.heap.size:=fun B hB=>by
 unfold Fg.says Fg.isRow at *;split at h
 .simp[*]at hr
 .exact(h.lt B hB).2
 .exact(h.lt B hB).2
 .exact(h.lt B hB).2
theorem BO{u v:Value}{N:Nat}(h1:∀B,u.ownBlock=some B->N<=B)(h2:∀B,v.ownBlock=some B->B<N):AD u v:=by
 unfold AD
 cases hu:u.ownBlock with
 | none=>exact .inl rfl
 | some B=>
  right;intro e;have:=h1 B hu;have:=h2 B e.symm;omega
variable {l:List Oper} {i:Nat} {u:Value}
theorem zaH{P:Prop}(h:P:=by
 have aA:=Bp hk e;exact Fg.says_ex (Fg.says_upd (h.says k aA (BG he)) e (fun hm=>by rw[h.dps k aA i hm]at hi;cases hi)) hx):P:=h
theorem zbe{P:Prop}(h:P:=by
 rw[Ac _ _ e2];exact this):P:=h
theorem zaQ{P:Prop}(h:P:=by
 have:=h.dps k (Bp hk e) d hd;by_cases e2:d=i
 .rw[e2,Ab]
 .exact zbe):P:=h
theorem Q9.set_val(h:Q9 D m e0 b0 w0 w v0 te size n xs L V w')(him:i<m)(aC:e0≠i)(hi:L i=false){g:List Value->Value}{dp:List Nat}{eat:Nat}(hD:D i=⟨.val g,dp,eat⟩)(hC:eat=m)(aB:∀d∈dp,L d=true)(hx:Ex w' w'')(hu:u=g (dp.map V)):Q9 D m e0 b0 w0 w v0 te size n xs (Ay L i true) (Ay V i u) w'' where
 gr:=h.gr.trans (EF hx _)
 ex:=h.ex.trans hx
 lt:=fun k hk=>by
  by_cases e:k=i
  .omega
  .exact h.lt k (Bp hk e)
 dps:=fun k hk d hd=>by
  by_cases e:k=i
  .subst e;rw[hD]at hd;have:=aB d hd;by_cases e2:d=k
   .rw[e2,Ab]
   .exact zbe
  .exact zaQ
 says:=fun k hk he=>by
  by_cases e:k=i
  .subst e;have hn:k ∉ dp:=fun hm=>by rw[aB k hm]at hi;cases hi
   unfold Fg.says;simp only[hD];rw[Iq hn,Ab];exact hu
  .exact zaH
 ap:=fun j k hj hk ej ek aD rj rk=>by
  have nj:j≠i:=fun e=>by subst e;rw[hD]at rj;cases rj
  have nk:k≠i:=fun e=>by subst e;rw[hD]at rk;cases rk
  rw[Ac _ _ nj,Ac _ _ nk];exact h.ap j k (Bp hj nj) (Bp hk nk) (BG ej) (BG ek) aD rj rk
 o:=fun h0=>by
  obtain⟨a,b⟩:=h.o (BG h0);refine⟨Ag a hx,fun k hk ek rk=>?_⟩;have nk:k≠i:=fun e=>by subst e;rw[hD]at rk;cases rk
  rw[Ac _ _ nk];exact b k (Bp hk nk) (BG ek) rk
 oat:=fun h0=>by
  rw[Ac _ _ aC]at h0 ⊢;exact h.oat h0
theorem Q9.set_new(h:Q9 D m e0 b0 w0 w v0 te size n xs L V w')(him:i<m)(aD:e0≠i)(hi:L i=false){t:TypeId}{s n':Nat}{ys:List Value->List Value}{dp:List Nat}{eat:Nat}(hD:D i=⟨.new t s n' ys,dp,eat⟩)(aC:∀d∈dp,L d=true)(hx:Ex w' w'')(hu:w''.ownsRow w'.heap.size t s u n' (ys (dp.map V))):Q9 D m e0 b0 w0 w v0 te size n xs (Ay L i true) (Ay V i u) w'' where
 gr:=h.gr.trans (EF hx _)
 ex:=h.ex.trans hx
 lt:=fun k hk=>by
  by_cases e:k=i
  .omega
  .exact h.lt k (Bp hk e)
 dps:=fun k hk d hd=>by
  by_cases e:k=i
  .subst e;rw[hD]at hd;have:=aC d hd;by_cases e2:d=k
   .rw[e2,Ab]
   .exact zbe
  .exact zaQ
 says:=fun k hk he=>by
  by_cases e:k=i
  .subst e;have hn:k ∉ dp:=fun hm=>by rw[aC k hm]at hi;cases hi
   unfold Fg.says;simp only[hD];rw[Iq hn,Ab];exact Cx hu h.gr.size
  .exact zaH
 ap:=fun j k hj hk ej ek aB rj rk=>by
  by_cases e:j=i
  .subst e;have nk:k≠j:=fun e=>aB e.symm;rw[Ab,Ac _ _ nk];exact BO (fun B hB=>(hu.lt B hB).1) (Fg.says_lt (h.says k (Bp hk nk) (BG ek)) rk)
  .by_cases e2:k=i
   .subst e2;rw[Ab,Ac _ _ e];exact(BO (fun B hB=>(hu.lt B hB).1) (Fg.says_lt (h.says j (Bp hj e) (BG ej)) rj)).symm
   .rw[Ac _ _ e,Ac _ _ e2];exact h.ap j k (Bp hj e) (Bp hk e2) (BG ej) (BG ek) aB rj rk
 o:=fun h0=>by
  obtain⟨a,b⟩:=h.o (BG h0);refine⟨Ag a hx,fun k hk ek rk=>?_⟩;by_cases e:k=i
  .subst e;rw[Ab];exact BO (fun B hB=>(hu.lt B hB).1) fun B hB=>(a.lt B hB).2
  .rw[Ac _ _ e];exact b k (Bp hk e) (BG ek) rk
 oat:=fun h0=>by
  rw[Ac _ _ aD]at h0 ⊢;exact h.oat h0
theorem O3{u v x:Value}{N:Nat}(h1:u.ownBlock=v.ownBlock∨u.ownBlock=some N)(h2:∀B,x.ownBlock=some B->B<N)(h3:AD x v):AD x u:=by
 unfold AD at *;rcases h3 with h3|h3
 .exact .inl h3
 .rcases h1 with h1|h1
  .right;rw[h1];exact h3
  .cases hx:x.ownBlock with
   | none=>exact .inl rfl
   | some B=>
    right;rw[h1];intro e;injection e with e;have:=h2 B hx;omega
theorem eq{P:Prop}(h:P:=by rw[aA];exact hi):P:=h
theorem Q9.set_app(h:Q9 D m e0 b0 w0 w v0 te size n xs L V w')(hb:w0.heap.size<=b0)(him:i<m)(aI:e0≠i)(hi:L i=false){t:TypeId}{s n':Nat}{ys:List Value->List Value}{dp:List Nat}{c eat:Nat}(hD:D i=⟨.app (some c) t s n' ys,dp,eat⟩)(hc:L c=true)(aA:(D c).eat=i)(aC:(D c).isRow=true)(aF:∀d∈dp,L d=true)(hg:w'.grownBy w'' (V c).ownBlock)(hx:Ex w0 w'')(aH:u.ownBlock=(V c).ownBlock∨u.ownBlock=some w'.heap.size)(aJ:∀B,(V c).ownBlock=some B->w.heap.size<=B)(hu:w''.ownsRow w.heap.size t s u n' (ys (dp.map V))):Q9 D m e0 b0 w0 w v0 te size n xs (Ay L i true) (Ay V i u) w'' where
 gr:=h.gr.andThen hg fun j hj=> .inl (aJ j hj)
 ex:=hx
 lt:=fun k hk=>by
  by_cases e:k=i
  .omega
  .exact h.lt k (Bp hk e)
 dps:=fun k hk d hd=>by
  by_cases e:k=i
  .subst e;rw[hD]at hd;have:=aF d hd;by_cases e2:d=k
   .rw[e2,Ab]
   .exact zbe
  .exact zaQ
 says:=fun k hk he=>by
  by_cases e:k=i
  .subst e;have hn:k ∉ dp:=fun hm=>by rw[aF k hm]at hi;cases hi
   unfold Fg.says;simp only[hD];rw[Iq hn,Ab];exact hu
  .have aB:=Bp hk e;have aD:k≠c:=fun e2=>by subst e2;rw[aA,Ab]at he;cases he
   exact Fg.says_upd (Fg.says_kept (h.says k aB (BG he)) hg fun hr=>h.ap k c aB hc (BG he) eq aD hr aC) e (fun hm=>by rw[h.dps k aB i hm]at hi;cases hi)
 ap:=fun j k hj hk ej ek aE rj rk=>by
  have key:∀k,k≠i->Ay L i true k=true->Ay L i true (D k).eat=false->(D k).isRow=true->AD (V k) u:=fun k nk hk ek rk=>by
   have aD:k≠c:=fun e2=>by subst e2;rw[aA,Ab]at ek;cases ek
   exact O3 aH (Fg.says_lt (h.says k (Bp hk nk) (BG ek)) rk) (h.ap k c (Bp hk nk) hc (BG ek) eq aD rk aC)
  by_cases e:j=i
  .subst e;have nk:k≠j:=fun e=>aE e.symm;rw[Ab,Ac _ _ nk];exact(key k nk hk ek rk).symm
  .by_cases e2:k=i
   .subst e2;rw[Ab,Ac _ _ e];exact key j e hj ej rj
   .rw[Ac _ _ e,Ac _ _ e2];exact h.ap j k (Bp hj e) (Bp hk e2) (BG ej) (BG ek) aE rj rk
 o:=fun h0=>by
  obtain⟨a,b⟩:=h.o (BG h0);have aG:=b c hc eq aC;refine⟨a.kept hg aG.symm,fun k hk ek rk=>?_⟩;by_cases e:k=i
  .subst e;rw[Ab];exact(O3 aH (fun B hB=>(a.lt B hB).2) aG.symm).symm
  .rw[Ac _ _ e];exact b k (Bp hk e) (BG ek) rk
 oat:=fun h0=>by
  rw[Ac _ _ aI]at h0 ⊢;exact h.oat h0
theorem Q9.set_out(h:Q9 D m e0 b0 w0 w v0 te size n xs L V w')(him:i<m)(hi:L i=false)(aA:e0=i){t:TypeId}{s n':Nat}{ys:List Value->List Value}{dp:List Nat}{eat:Nat}(hD:D i=⟨.app none t s n' ys,dp,eat⟩)(aD:∀d∈dp,L d=true)(hg:w'.grownBy w'' v0.ownBlock)(hx:Ex w0 w'')(aE:u.ownBlock=v0.ownBlock∨u.ownBlock=some w'.heap.size)(hu:w''.ownsRow b0 t s u n' (ys (dp.map V))):Q9 D m e0 b0 w0 w v0 te size n xs (Ay L i true) (Ay V i u) w'' where
 gr:=h.gr.trans hg
 ex:=hx
 lt:=fun k hk=>by
  by_cases e:k=i
  .omega
  .exact h.lt k (Bp hk e)
 dps:=fun k hk d hd=>by
  by_cases e:k=i
  .subst e;rw[hD]at hd;have:=aD d hd;by_cases e2:d=k
   .rw[e2,Ab]
   .exact zbe
  .exact zaQ
 says:=fun k hk he=>by
  by_cases e:k=i
  .subst e;have hn:k ∉ dp:=fun hm=>by rw[aD k hm]at hi;cases hi
   unfold Fg.says;simp only[hD];rw[Iq hn,Ab];exact hu
  .have aB:=Bp hk e;obtain⟨a,b⟩:=h.o eq;exact Fg.says_upd (Fg.says_kept (h.says k aB (BG he)) hg fun hr=>b k aB (BG he) hr) e (fun hm=>by rw[h.dps k aB i hm]at hi;cases hi)
 ap:=fun j k hj hk ej ek aC rj rk=>by
  obtain⟨a,b⟩:=h.o eq;have key:∀k,k≠i->Ay L i true k=true->Ay L i true (D k).eat=false->(D k).isRow=true->AD (V k) u:=fun k nk hk ek rk=>
   O3 aE (Fg.says_lt (h.says k (Bp hk nk) (BG ek)) rk) (b k (Bp hk nk) (BG ek) rk)
  by_cases e:j=i
  .subst e;have nk:k≠j:=fun e=>aC e.symm;rw[Ab,Ac _ _ nk];exact(key k nk hk ek rk).symm
  .by_cases e2:k=i
   .subst e2;rw[Ab,Ac _ _ e];exact key j e hj ej rj
   .rw[Ac _ _ e,Ac _ _ e2];exact h.ap j k (Bp hj e) (Bp hk e2) (BG ej) (BG ek) aC rj rk
 o:=fun h0=>by rw[aA,Ab]at h0;cases h0
 oat:=fun _=>by
  rw[aA,Ab];rcases aE with h1|h1
  .exact .inl h1
  .right;intro B hB;rw[h1]at hB;injection hB with hB;have:=h.gr.size;omega
end
section
variable {P:Program} {Q:Exit->Act->World->Prop} {l:List Oper} {a0:Act} {D:Nat->Fg} {m e0 b0:Nat} {w0 w:World} {v0:Value} {te:TypeId} {size n:Nat} {xs:List Value} {i:Nat} {o:Oper}
structure RwH(l:List Oper)(a0:Act)(D:Nat->Fg)(m e0 b0:Nat)(w0 w:World)(v0:Value)(te:TypeId)(size n:Nat)(xs:List Value)(i:Nat)(o:Oper)(L:Nat->Bool)(V:Nat->Value)(a:Act)(w':World):Prop where
 hin:∀(k t:Nat) (o':Oper),L k=true->l[k]?=some o'->o'.dst=some t->a.tmps[t]?=some (V k)
 hout:∀t,(l.all fun o=>o.dst !=some t)=true->a.tmps[t]?=a0.tmps[t]?
 hold:∀t d,((List.range l.length).all fun j=>j==d || !((l[j]?).bind (·.dst)==some t))=true->L d=false->a.tmps[t]?=a0.tmps[t]?
 hj:Q9 D m e0 b0 w0 w v0 te size n xs L V w'
 hi:L i=false
 hd:∀e∈o.after,Region.binds .any e=true->L e.on=true
 hcl:∀(k:Nat) (o':Oper),L k=true->l.toArray[k]?=some o'->∀e∈o'.after,Region.binds .any e=true->L e.on=true
def DK(P:Program)(Q:Exit->Act->World->Prop)(l:List Oper)(a0:Act)(D:Nat->Fg)(m e0 b0:Nat)(w0 w:World)(v0:Value)(te:TypeId)(size n:Nat)(xs:List Value)(i:Nat)(o:Oper):Prop:=
 ∀L V a w',RwH l a0 D m e0 b0 w0 w v0 te size n xs i o L V a w'->∀K:Act->World->Prop,(∀u w'',Q9 D m e0 b0 w0 w v0 te size n xs (Ay L i true) (Ay V i u) w''->K (a.put o.dst u) w'')->o.wp P a w' K Q
theorem DK.val{g:List Value->Value}{dp:List Nat}{aA:Nat}(hD:D i=⟨.val g,dp,aA⟩)(aC:i<m)(aB:e0≠i)(hC:aA=m)(h:∀L V a w',RwH l a0 D m e0 b0 w0 w v0 te size n xs i o L V a w'->(∀d∈dp,L d=true)/\∀K:Act->World->Prop,(∀w'',Ex w' w''->K (a.put o.dst (g (dp.map V))) w'')->o.wp P a w' K Q):
  DK P Q l a0 D m e0 b0 w0 w v0 te size n xs i o:=fun L V a w' H K hK=>by
 obtain⟨h1,h2⟩:=h L V a w' H;exact h2 K fun w'' hx=>hK _ _ (H.hj.set_val aC aB H.hi hD hC h1 hx rfl)
theorem DK.new{t:TypeId}{s n':Nat}{ys:List Value->List Value}{dp:List Nat}{aC:Nat}(hD:D i=⟨.new t s n' ys,dp,aC⟩)(aB:i<m)(aA:e0≠i)(h:∀L V a w',RwH l a0 D m e0 b0 w0 w v0 te size n xs i o L V a w'->(∀d∈dp,L d=true)/\∀K:Act->World->Prop,(∀u w'',Ex w' w''->w''.ownsRow w'.heap.size t s u n' (ys (dp.map V))->K (a.put o.dst u) w'')->o.wp P a w' K Q):
  DK P Q l a0 D m e0 b0 w0 w v0 te size n xs i o:=fun L V a w' H K hK=>by
 obtain⟨h1,h2⟩:=h L V a w' H;exact h2 K fun u w'' hx hu=>hK _ _ (H.hj.set_new aB aA H.hi hD h1 hx hu)
theorem DK.app{t:TypeId}{s n':Nat}{ys:List Value->List Value}{dp:List Nat}{c aJ:Nat}(hD:D i=⟨.app (some c) t s n' ys,dp,aJ⟩)(aG:i<m)(aF:e0≠i)(aD:(D c).eat=i)(aA:(D c).isRow=true)(hb:w0.heap.size<=b0)(aH:w0.heap.size<=w.heap.size)(h:∀L V a w',RwH l a0 D m e0 b0 w0 w v0 te size n xs i o L V a w'->L c=true/\(∀d∈dp,L d=true)/\∀(K:Act->World->Prop),w.heap.size<=w'.heap.size->(D c).says w.heap.size b0 V c w'->(∀u w'',w''.ownsRow w.heap.size t s u n' (ys (dp.map V))->w'.grownBy w'' (V c).ownBlock->(u.ownBlock=(V c).ownBlock∨u.ownBlock=some w'.heap.size)->K (a.put o.dst u) w'')->o.wp P a w' K Q)
  (aB:∀t s n ys,(D c).kd≠ .app none t s n ys):DK P Q l a0 D m e0 b0 w0 w v0 te size n xs i o:=fun L V a w' H K hK=>by
 obtain⟨h1,h2,h3⟩:=h L V a w' H;have hs:=H.hj.says c h1 (by rw[aD];exact H.hi);have aE:∀B,(V c).ownBlock=some B->w.heap.size<=B/\B<w'.heap.size:=fun B hB=>by
  have aC:=hs;have aA:=aA;unfold Fg.says at aC;unfold Fg.isRow at aA;split at aC
  .simp[*]at aA
  .exact aC.lt B hB
  .exact aC.lt B hB
  .rename_i h;exact absurd h (aB _ _ _ _)
 refine h3 K H.hj.gr.size hs fun u w'' hu hg aI=>hK u w'' (H.hj.set_app hb aG aF H.hi hD h1 aD aA h2 hg ?_ aI (fun B hB=>(aE B hB).1) hu);exact Below.grown H.hj.ex hg H.hj.ex.size (fun k hk=>μ aH (aE k hk).1)
theorem DK.out{t:TypeId}{s n':Nat}{ys:List Value->List Value}{dp:List Nat}{aD:Nat}(hD:D i=⟨.app none t s n' ys,dp,aD⟩)(aB:i<m)(aA:e0=i)(hb:w0.heap.size<=b0)(h:∀L V a w',RwH l a0 D m e0 b0 w0 w v0 te size n xs i o L V a w'->(∀d∈dp,L d=true)/\∀(K:Act->World->Prop),w.heap.size<=w'.heap.size->w'.ownsRow b0 te size v0 n xs->(∀u w'',w''.ownsRow b0 t s u n' (ys (dp.map V))->w'.grownBy w'' v0.ownBlock->(u.ownBlock=v0.ownBlock∨u.ownBlock=some w'.heap.size)->K (a.put o.dst u) w'')->o.wp P a w' K Q):
  DK P Q l a0 D m e0 b0 w0 w v0 te size n xs i o:=fun L V a w' H K hK=>by
 obtain⟨h1,h2⟩:=h L V a w' H;obtain⟨a1,a2⟩:=H.hj.o (by rw[aA];exact H.hi);exact h2 K H.hj.gr.size a1 fun u w'' hu hg aC=>hK u w'' (H.hj.set_out aB H.hi aA hD h1 hg (Below.grown H.hj.ex hg H.hj.ex.size (fun k hk=>μ hb (a1.lt k hk).1)) aC hu)
theorem NK{id:Nat}(D:Nat->Fg)(m e0 b0:Nat)(v0:Value)(te:TypeId)(size n:Nat)(xs:List Value)(hm:P.follows .mixedOrders=true)(hB:Mm a0.tmps.size l 0 []=true)(hlm:l.length<=m)(hx:Ex w0 w)(aB:w.ownsRow b0 te size v0 n xs)
  (hs:AH (DK P Q l a0 D m e0 b0 w0 w v0 te size n xs) l 0)
  (he:∀L V w',(∀i,i<l.length->L i=true)->Q9 D m e0 b0 w0 w v0 te size n xs L V w'->Q .normal (Cg l V 0 a0) w'):(Code.region id l.toArray true).wp P Q a0 w:=by
 refine CD (Q9 D m e0 b0 w0 w v0 te size n xs) hm hB ⟨EF ((Ex.refl w).drew) _,hx.drew,fun k h=>az,fun k h=>az,fun k h=>az,fun j k h=>az,fun _=>⟨Ag aB ((Ex.refl w).drew),fun k h=>az⟩,fun h=>az⟩ ?_ he;have aD:∀(l':List Oper) (k0:Nat),AH (DK P Q l a0 D m e0 b0 w0 w v0 te size n xs) l' k0->AH (SO P Q (Q9 D m e0 b0 w0 w v0 te size n xs) l.toArray a0) l' k0:=fun l'=>by
  induction l' with
  | nil=>intro _ _;trivial
  | cons o l' ih=>
   intro k0 h;refine⟨?_,ih (k0+1) h.2⟩;intro L V a w' hf hj hi hd aH K hK;refine h.1 L V a w' ⟨fun k t o' hk aF aG=>hf.in_ k t hk aF aG,fun t ht=>hf.out_ t ht,fun t d ht hL=>hf.old t fun j oj aC aE e=>?_,hj,hi,hd,aH⟩ K hK;have aA:l[j]?=some oj:=by simpa using aE
   have h1:=υ.1 ht j (κ.2 (List.getElem?_eq_some_iff.1 aA).1);rw[aA]at h1;simp[e]at h1;rw[h1]at aC;rw[aC]at hL;cases hL
 exact aD l 0 hs
end
theorem RY{p m:Int}{ml:List Int}{n:Int}{pl sl:List Int}{fr:Int}(h:Ef p m ml n pl sl fr=0):
  Cm p m ml=0/\1<=n/\n<=64/\(pl.length:Int)=n/\(sl.length:Int)=n/\BW pl n=true/\0<=fr/\fr<m/\G8 pl=false/\Iz (p.toNat^m.toNat) sl=0:=by
 unfold Ef at h;split at h
 .cases h
 rename_i h1;split at h
 .cases h
 rename_i h2;split at h
 .cases h
 rename_i h3;split at h
 .cases h
 rename_i h4;split at h
 .cases h
 rename_i h5;refine⟨by simpa using h1,ac,ac,ac,ac,?_,ac,ac,by simpa using h5,h⟩
 cases hr:BW pl n with
 | true=>rfl
 | false=>exact absurd (.inl hr) h4
section
variable {b p m x0:Nat} {ml:List Int}
end
theorem fac_at{q:Nat}{l:List Int}(h:Iz q l=0){i:Nat}(hi:i<l.length):∃z:Nat,l.getD i 0=(z:Int)/\1<=z/\z<q:=by
 unfold Iz at h;split at h
 .cases h
 rename_i h1;split at h
 .cases h
 rename_i h2;have hm:l.getD i 0∈l:=dw;have ha:GU q (l.getD i 0)=true:=by
  cases hb:GU q (l.getD i 0) with
  | true=>rfl
  | false=>exact absurd (ϗ.2 ⟨_,hm,by rw[hb];rfl⟩) h1
 have hz:l.getD i 0≠0:=fun e=>h2 (γv.2 (e ▸ hm));clear hm;generalize l.getD i 0=z at *;unfold GU at ha;simp at ha;exact⟨z.toNat,ac,ac,ac⟩
def ivS(p m:Nat)(ml sl:List Int)(bk i:Nat):Int:=((TT p m (lw ml) (Eg p m ml (Av (p^m) (sl.getD i 0))) bk:Nat):Int)
structure C7 where
 perm:List Int
 scale:List Int
 frob:Int
def MoR(M:C7)(e:Int)(r:Ending)(w':World):Prop:=∃u v,r= .returned (.tuple #[.agg #[u,v,M.frob],e])/\Ak w' u M.perm/\Ak w' v M.scale
structure BxM(w:World)(b:Nat):Prop where
 c0:w.cell? (b,0)=some (.slice none 0 0)
 c1:w.cell? (b,1)=some (.slice none 0 0)
 c2:w.cell? (b,2)=some (.int .i64 0)
 f0:w.frozen? (b,0)=false
 f1:w.frozen? (b,1)=false
 f2:w.frozen? (b,2)=false
theorem BxM.new(w:World):BxM (w.alloc (.cells #[(),(),Ω] 26)) w.heap.size:=⟨ag,ag,ag,ag,ag,ag⟩
theorem BxM.ex{w w':World}{b:Nat}(h:BxM w b)(hx:Ex w w'):BxM w' b:=⟨hx.cell h.c0,hx.cell h.c1,hx.cell h.c2,hx.frz h.c0 h.f0,hx.frz h.c1 h.f1,hx.frz h.c2 h.f2⟩
theorem Co{w0 w:World}{q:Nat}(hx:Ex w0 w)(hq:w0.heap.size<=q)(u v z:Value):Ex w0 (((w.setCell (q,0) u).setCell (q,1) v).setCell (q,2) z):=
 ((hx.setCell (p:=⟨q,0,none⟩) hq _).setCell (p:=⟨q,1,none⟩) hq _).setCell (p:=⟨q,2,none⟩) hq _
theorem Fj{w:World}{q:Nat}{v:Value}{l:List Int}(h:Ak w v l)(hq:∀B,v.ownBlock=some B->B≠q)(a b c:Value):Ak (((w.setCell (q,0) a).setCell (q,1) b).setCell (q,2) c) v l:=
 Sl.other (Sl.other (Sl.other h (fun B e=>hq B e) _) (fun B e=>hq B e) _) (fun B e=>hq B e) _
theorem zaU{P:Prop}(h:P:=by
 rw[List.getElem?_eq_none (by rw[AM];omega),List.getElem?_eq_none (by omega)]):P:=h
theorem Wl{N i:Nat}{rows:List (List Int)}{r:List Int}(hr:rows[i]?=some r)(hl:r.length=N):il N (An rows i)=r:=by
 apply List.ext_getElem?;intro j;by_cases h:j<N
 .rw[AT h];unfold An;rw[δ (l:=rows),hr,δ];show some (r[j]?.getD 0)=r[j]?
  rw[γ ac];rfl
 .exact zaU
theorem Gy{p m:Nat}{ml:List Int}{N R:Nat}{a a':Nat->Nat->Int}{piv:List Nat}(h:Ia p m ml N R a a' piv):piv.length<=R/\∀t∈Au N piv.length a',t.length=N/\Ct (p^m) t=0:=by
 obtain⟨c,hc,hP,_,hS⟩:=h;refine⟨hP.le,fun t ht=>?_⟩;unfold Au at ht;obtain⟨i,hi,rfl⟩:=List.mem_map.1 ht;have hi:=κ.1 hi;refine⟨AM _ _,T6 fun x hx=>?_⟩;obtain⟨j,hj,rfl⟩:=Oz hx;exact hP.rng i (by have:=hP.le;omega) j hj
def Dx(p m:Int)(ml:List Int)(aA:Int)(rows:List (List Int)):Int:=if Cm p m ml≠0 then 1 else BV (p.toNat^m.toNat) aA rows
def CanR(p m:Int)(ml:List Int)(aA:Int)(rows:List (List Int))(b0:Nat)(r:Ending)(w':World):Prop:=
 (Dx p m ml aA rows=0/\∃(pn mn N:Nat) (piv:List Nat) (a':Nat->Nat->Int) (rv pv:Value),p=pn/\m=mn/\aA=N/\FD p m ml/\BV (pn^mn) N rows=0/\r= .returned (.tuple #[.agg #[N,rv],pv,Ω])/\Ia pn mn ml N rows.length (An rows) a' piv/\B6 w' rv (Au N piv.length a')/\Ak w' pv (pI piv)/\∃g blk cap base,b0<=base/\rv= .slice (some ⟨g,0,none⟩) piv.length piv.length/\EM w' base g rows.length N blk cap a' [])∨
 (Dx p m ml aA rows≠0/\r= .returned (.tuple #[.agg #[Ω,()],(),.int .i64 (Dx p m ml aA rows)]))
theorem cz{P:Prop}(h:P:=by show w.heap.size<=xb+1+1;omega):P:=h
theorem du{P:Prop}(h:P:=by simp[results,Tryz.results152,go_sem,q0,q1]):P:=h
theorem Hn(w:World)(p m:Int)(ml:List Int)(mv:Value)(aX:Ak w mv ml)(aA:Int)(rows:List (List Int))(v:Value)(hv:B6 w v rows)(h0:Dx p m ml aA rows=0->1<=aA):
  Calls Tryz.prog 152 #[.agg #[p,m,mv],.agg #[aA,v]] w fun r w'=>CanR p m ml aA rows w.heap.size r w'/\Ex w w':=by
 have HO:=Aa (fun w' B h1 h2 h3 h4=>U1 p m ml mv w' h1 aA rows v h2 B h3 h4);obtain⟨g0,g1,g2,e0,aQ⟩:=AA w p m mv;have aU:=Aa aX;have HV:=Aa hv;have H0:=Aa h0;obtain⟨za,zc,rfl,z1,z2,z3⟩:=hv.open;clear z1 z3;unfold maxLen at z2;obtain⟨xb,bB⟩:=nA w.heap.size;rw[bB]at g0 g1 g2 aQ;clear aX hv h0;go_enter Tryz.func152,Tryz.ntmps152
 go_wp2_with fail
 generalize w.alloc (.cells #[p,m,mv] 24)=wA at *;obtain⟨a0,a1,ea⟩:=EI wA aA (.slice za rows.length zc);have aL:(wA.alloc (.cells #[aA,(za,rows.length,zc)] 137)).heap.size=xb+1+1:=by simp[aQ]
 rw[aQ]at a0 a1;generalize wA.alloc (.cells #[aA,(za,rows.length,zc)] 137)=wB at *;obtain⟨q0,q1,eb⟩:=EI wB 0 (.slice none 0 0);have qf:(wB.alloc (.cells #[Ω,()] 137)).frozen? (xb+1+1,1)=false:=dy;have aH:(wB.alloc (.cells #[Ω,()] 137)).frozen? (xb+1+1,0)=false:=dy;have aY:(wB.alloc (.cells #[Ω,()] 137)).heap.size=xb+1+1+1:=by simp[aL]
 rw[aL]at q0 q1;generalize wB.alloc (.cells #[Ω,()] 137)=wC at *;obtain⟨l0,l1,ec⟩:=EI wC aA (.slice za rows.length zc);rw[aY]at l0 l1;generalize wC.alloc (.cells #[aA,(za,rows.length,zc)] 137)=wD at *;have eD:Ex w wD:=((e0.trans ea).trans eb).trans ec;obtain⟨A0,A1,Q0,Q1,QF,aM,bE⟩:=To ((eb.trans ec).cell a0) ((eb.trans ec).cell a1) (ec.cell q0) (ec.cell q1) (ec.frz q1 qf) (ec.frz q0 aH) eD;refine(HO.o wD (xb+1+1+1) (aU.o.ex eD) (HV.o.ex eD) l0 l1).mono ?_;clear g0 g1 g2 e0 aQ ea aL a0 a1 eb aY q0 q1 qf aH l0 l1 ec eD HO;rintro e w2⟨ho,aC⟩;have aR:=Aa (bE.o.trans aC);have QF:=Aa (aC.frz Q1.o QF.o);have aM:=Aa (aC.frz Q0.o aM.o);have c0:=aC.cell A0.o;have c1:=aC.cell A1.o;have Q0:=Aa (aC.cell Q0.o);have Q1:=Aa (aC.cell Q1.o);have A0:=Aa c0;clear aC A1;have bA:=Aa (fun (i:Value) (j:Value)=>((aR.o).setCell (p:=⟨xb+1+1,0,none⟩) cz i).setCell (p:=⟨xb+1+1,1,none⟩) cz j);rcases ho with⟨pn,mn,x0,b,rfl,rfl,hg,hx01,hx02,⟨hmk,rfl⟩|⟨hno,rfl⟩⟩|⟨hno,rfl⟩
 .have aG:Cm pn mn ml=0:=(BU _ _ _).2 ⟨pn,mn,rfl,rfl,hg.sh,hg.pr,hg.isF hx01 hx02⟩;have aB:Dx pn mn ml aA rows=0:=by
   unfold Dx;rw[if_neg (by simp[aG]),ώ,ώ];exact hmk
  have bD:=H0.o aB;obtain⟨s1,s2,s3,s4⟩:=ED hmk;obtain⟨N,rfl⟩:∃N:Nat,aA=N:=⟨aA.toNat,ac⟩;have aD:=Aa aB;have bL:=Aa ((BU _ _ _).1 aG);have bK:=Aa hmk;have bN:=Aa (Sy w2 hg hx01 hx02 N rows.length rows _ (HV.o.ex aR.o) rfl s3 ac ac fun i r h=>by
   have:=s4 r (List.mem_of_getElem? h);exact⟨ac,this.2⟩)
  have bG:=Aa s3;clear hg aG aB bD s1 s2 s3 s4 hmk hx01 hx02;go_wp2_with (go_at_call 157;refine bN.o.mono ?_;rintro e w8⟨piv2,pv2,rv2,a2,rfl,aK,aS,aF,aE,g8,blk8,cap8,rfl,aJ,aI⟩;have a0n:=aE.cell A0.o;have q0:=aE.cell Q0.o;have aH:=aE.frz Q0.o aM.o;have q1:=aE.cell Q1.o;have aW:=aE.frz Q1.o QF.o;have aO:=Aa aK;have aN:=Aa aJ;have bF:=Aa aE;have aT:=Aa aF;have bH:=Aa aI;obtain⟨pa,pc,rfl,-,-,-⟩:=aF.open;clear aK aJ aE aI aS aF)
  have aP:xb+1+1<w2.heap.size:=World.block_lt_of_cell? _ _ Q0.o;have bC:=(Gy aO.o).1;obtain⟨bJ,aV,aZ,bM⟩:=Of (((aN.o.low (A:=⟨xb+1+1,0,none⟩) aP (.int .i64 N)).low (A:=⟨xb+1+1,1,none⟩) aP (.slice (some (g8,0)) piv2.length piv2.length)).msl bC bG.o) ((aN.o.low (A:=⟨xb+1+1,0,none⟩) aP (.int .i64 N)).low (A:=⟨xb+1+1,1,none⟩) aP (.slice (some (g8,0)) piv2.length piv2.length)) (fun B h=>show B≠xb+1+1 from by have:=bH.o B h;omega) ((((aR.o).trans bF.o).setCell (p:=⟨xb+1+1,0,none⟩) cz (.int .i64 N)).setCell (p:=⟨xb+1+1,1,none⟩) cz (.slice (some (g8,0)) piv2.length piv2.length));exact bodyPost_ret (v:= .tuple #[.agg #[N,.slice (some ⟨g8,0,none⟩) piv2.length piv2.length],.slice pa (pI piv2).length pc,Ω]) du rfl ⟨.inl ⟨aD.o,pn,mn,N,piv2,a2,_,_,rfl,rfl,rfl,bL.o,bK.o,rfl,aO.o,bJ.o,Sl.other (Sl.other aT.o (fun B h=>aZ.o B h) _) (fun B h=>aZ.o B h) _,g8,blk8,cap8,_,aR.o.size,rfl,aV.o⟩,bM.o⟩
 .have aG:Cm pn mn ml=0:=(BU _ _ _).2 ⟨pn,mn,rfl,rfl,hg.sh,hg.pr,hg.isF hx01 hx02⟩;have aB:Dx pn mn ml aA rows=BV (pn^mn) aA rows:=by
   unfold Dx;rw[if_neg (by simp[aG]),ώ,ώ]
  have aD:=Aa aB;clear hg aG aB hx01 hx02 aU HV H0;obtain⟨E,hE⟩:=nA (BV (pn^mn) aA rows);rw[hE]at aD hno ⊢;have hb:(E !=0)=true:=by simpa using hno
  have bI:=Aa hno;have q0:=Q0.o;have q1:=Q1.o;have aH:=aM.o;have aW:=QF.o;clear hE hno;go_wp2_with fail
  exact bodyPost_ret (v:= .tuple #[.agg #[Ω,()],(),E]) du rfl ⟨.inr ⟨by rw[aD.o];exact bI.o,by rw[aD.o]⟩,bA.o _ _⟩
 .have aB:Dx p m ml aA rows=1:=by
   unfold Dx;rw[if_pos (fun h=>hno ((BU _ _ _).1 h))]
  have aD:=Aa aB;clear hno aB aU HV H0;have q0:=Q0.o;have q1:=Q1.o;have aH:=aM.o;have aW:=QF.o;go_wp2_with fail
  exact bodyPost_ret (v:= .tuple #[.agg #[Ω,()],(),(1:Int)]) du rfl ⟨.inr ⟨by rw[aD.o];decide,by rw[aD.o]⟩,bA.o _ _⟩
theorem zcC{P:Prop}(h:P:=by
 cases l with
 | nil=>rfl
 | cons x t=>obtain⟨_,_,h,_⟩:=s3 (by simp);cases h):P:=h
theorem FZ(w:World)(l:List Int)(v:Value)(hl:Ak w v l)(hn2:l.length<=1000):
  Calls Tryz.prog 154 #[v] w fun r w'=>∃v',r= .returned v'/\Ak w' v' l/\(∀B,v'.ownBlock=some B->w.heap.size<=B)/\Ex w w':=by
 have HL:=Aa hl;obtain⟨a,cap,rfl,s1,s2,s3⟩:=hl.open;have aD:∀u∈Aj l,u.oneCell'=true:=by
  exact zdb
 have aG:=Aa aD;clear hl aD
 cases a with
 | none=>
  have h0:l= []:=by
   exact zcC
  subst h0;have aB:=fun w'=>AS (P:=Tryz.prog) w' 22 3 none 0 cap Tryz.underlying22;simp only[Option.isNone]at aB;clear s1 s2 s3;go_enter Tryz.func154,Tryz.ntmps154
  go_wp2_with fail
  go_ret;exact⟨_,rfl,Bd _,by simp[Value.ownBlock],Ex.refl _⟩
 | some ad=>
  have aB:=fun w'=>AS (P:=Tryz.prog) w' 22 3 (some ad) l.length cap Tryz.underlying22;simp only[Option.isNone]at aB;clear s3;go_enter Tryz.func154,Tryz.ntmps154
  go_wp2_with (at_builtin;refine A6 _ rfl _ _ 22 rfl w.heap.size 3 (.int .i64 0) 1 8 Tryz.underlying22 Az rfl ae _ 0 [] rfl (Bm w 3) (.slice (some ad) l.length cap) l.length (Aj l) rfl (HL.o.ex ((Ex.refl w).alloc _)) aG.o ai ac ag ?_)
  intro v1 w1 aA aE aF;have aC:Ex w w1:=Ex.grown ((Ex.refl w).alloc _) (Bm w 3) (ζ _) aE;have HI:Hia (Ak w1 v1 l):=Aa (Sl.own aA);have HB:=Aa (fun B (e:v1.ownBlock=some B)=>(aA.lt B e).1);have HX:=Aa aC;clear aA aE aF aC aB;go_wp2_with fail
  go_ret;exact⟨_,rfl,HI.o,HB.o,HX.o⟩
def Eo(n:Int):Int:=if n<1∨64<n then 4 else 0
theorem Ld(w:World)(n:Int):Calls Tryz.prog 148 #[n] w fun r w'=>r= .returned (.int .i64 (Eo n))/\w'=w:=by
 unfold Eo;go_enter Tryz.func148,Tryz.ntmps148
 by_cases h1:n<1
 .have b1:decide (n<1)=true:=by simpa using h1
  rw[if_pos (.inl h1)];exact zdj
 .have b1:decide (n<1)=false:=by simpa using h1
  by_cases h2:64<n
  .have b2:decide (64<n)=true:=by simpa using h2
   rw[if_pos (.inr h2)];exact zdj
  .have b2:decide (64<n)=false:=by simpa using h2
   rw[if_neg ac];exact zdj
theorem EJ(w:World)(p m:Int)(mv:Value)(n:Int)(gv:Value):(w.alloc (.cells #[p,m,mv,n,gv] 39)).cell? (w.heap.size,0)=some (.int .i64 p)/\(w.alloc (.cells #[p,m,mv,n,gv] 39)).cell? (w.heap.size,1)=some (.int .i64 m)/\(w.alloc (.cells #[p,m,mv,n,gv] 39)).cell? (w.heap.size,2)=some mv/\(w.alloc (.cells #[p,m,mv,n,gv] 39)).cell? (w.heap.size,3)=some (.int .i64 n)/\(w.alloc (.cells #[p,m,mv,n,gv] 39)).cell? (w.heap.size,4)=some gv/\Ex w (w.alloc (.cells #[p,m,mv,n,gv] 39)):=
 ⟨ag,ag,ag,ag,ag,(Ex.refl _).alloc _⟩
theorem gen_any(w:World)(p m:Int)(mv:Value)(n:Int)(rows:List (List Int))(gv:Value)(hg:B6 w gv rows):
  Calls Tryz.prog 104 #[.agg #[p,m,mv,n,gv]] w fun r w'=>r= .returned (.agg #[n,gv])/\Ex w w':=by
 obtain⟨a0,a1,a2,a3,a4,ea⟩:=EJ w p m mv n gv;obtain⟨za,zc,rfl,z1,z2,z3⟩:=hg.open;clear z3;unfold maxLen at z2;go_enter Tryz.func104,Tryz.ntmps104
 go_wp2_with fail
 exact bodyPost_ret (v:= .agg #[n,(za,rows.length,zc)]) (by simp[results,Tryz.results104,go_sem]) rfl ⟨rfl,ea.trans ((Ex.refl _).alloc _)⟩
theorem ez{P:Prop}(h:P:=by show w.heap.size<=xb+1;omega):P:=h
theorem ZD(w:World)(p m:Int)(ml:List Int)(mv:Value)(aD:Ak w mv ml)(hn:ml.length<=1000):
  Calls Tryz.prog 159 #[.agg #[p,m,mv]] w fun r w'=>∃v',r= .returned (.agg #[p,m,v'])/\Ak w' v' ml/\(∀B,v'.ownBlock=some B->w.heap.size<=B)/\Ex w w':=by
 obtain⟨a0,a1,a2,e0,aJ⟩:=AA w p m mv;obtain⟨q0,q1,q2,eb,aI⟩:=AA (w.alloc (.cells #[p,m,mv] 24)) 0 0 (.slice none 0 0);have af:(w.alloc (.cells #[p,m,mv] 24)).frozen? (w.heap.size,2)=false:=ag;have qf:((w.alloc (.cells #[p,m,mv] 24)).alloc (.cells #[Ω,Ω,()] 24)).frozen? ((w.alloc (.cells #[p,m,mv] 24)).heap.size,0)=false/\((w.alloc (.cells #[p,m,mv] 24)).alloc (.cells #[Ω,Ω,()] 24)).frozen? ((w.alloc (.cells #[p,m,mv] 24)).heap.size,1)=false/\((w.alloc (.cells #[p,m,mv] 24)).alloc (.cells #[Ω,Ω,()] 24)).frozen? ((w.alloc (.cells #[p,m,mv] 24)).heap.size,2)=false:=⟨ag,ag,ag⟩;replace af:=eb.frz a2 af;replace a0:=eb.cell a0;replace a1:=eb.cell a1;replace a2:=eb.cell a2;rw[aJ]at q0 q1 q2 qf aI;have HE:=Aa (e0.trans eb);have aO:=Aa (aD.ex HE.o);obtain⟨ma,mc,rfl,m1',m2,m3⟩:=aD.open;unfold maxLen at m2;clear aD m3 e0 eb aJ;go_enter Tryz.func159,Tryz.ntmps159
 go_wp2_with fail
 obtain⟨xb,aA⟩:=nA w.heap.size;rw[aA]at a0 a1 a2 q0 q1 q2 qf aI af
 try simp only[aA]
 generalize (w.alloc (.cells #[p,m,(ma,ml.length,mc)] 24)).alloc (.cells #[Ω,Ω,()] 24)=w1 at *;have aN:=Aa aA;obtain⟨aG,aF,aE⟩:=qf;clear aA;refine(FZ w1 ml _ aO.o hn).mono ?_;rintro e w2⟨v',rfl,aC,aH,hx⟩;have HV:=Aa aC;have HB:=Aa (fun B e=>show xb+1+1<=B from by have:=aH B e;omega);have HX:=Aa hx;obtain⟨va,vc,rfl,-,-,-⟩:=aC.open;have a0':=hx.cell a0;have a1':=hx.cell a1;have af':=hx.frz a2 af;have a2':=hx.cell a2;have aM:=hx.cell q0;have aL:=hx.cell q1;have aK:=hx.cell q2;have qf0':=hx.frz q0 aG;have qf1':=hx.frz q1 aF;have qf2':=hx.frz q2 aE;clear a0 a1 a2 af q0 q1 q2 aG aF aE aC aH hx;go_wp2_with fail
 have aB:∀B,(Value.slice va ml.length vc).ownBlock=some B->B≠xb/\B≠xb+1:=fun B e=>by have:=HB.o B e;omega
 have hw:w.heap.size=xb:=aN.o;exact bodyPost_ret (v:= .agg #[p,m,(va,ml.length,vc)]) (by simp[results,Tryz.results159,go_sem,aM,aL,aK]) rfl ⟨_,rfl,Sl.other (Sl.other (Sl.other (Sl.other HV.o (fun B h=>(aB B h).1) _) (fun B h=>(aB B h).2) _) (fun B h=>(aB B h).2) _) (fun B h=>(aB B h).2) _,fun B e=>by have:=HB.o B e;omega,
  ((((HE.o.trans HX.o).setCell (p:=⟨xb,2,none⟩) (by show w.heap.size<=xb;omega) _).setCell (p:=⟨xb+1,0,none⟩) ez _).setCell (p:=⟨xb+1,1,none⟩) ez _).setCell (p:=⟨xb+1,2,none⟩) ez _⟩
theorem Js(w:World)(l k:List Int)(v u:Value)(hl:Ak w v l)(hk:Ak w u k):
  Calls Tryz.prog 101 #[v,u] w fun r w'=>r= .returned (.bool (decide (l=k)))/\∃n,w'=w.drewN n:=by
 obtain⟨a,cap,rfl,s1,s2,s3⟩:=hl.open;obtain⟨c,cc,rfl,t1,t2,t3⟩:=hk.open;have S3:=Aa s3;have T3:=Aa t3;unfold maxLen at s2 t2;clear hl hk s3 t3;by_cases hlk:l.length=k.length
 .have hb:((l.length:Int) !=(k.length:Int))=false:=by simp;omega
  have aD:=Aa hlk;clear hlk;go_enter Tryz.func101,Tryz.ntmps101
  go_wp2_with fail
  go_loopw [13] (fun i' wr=>∃i n:Nat,i<=l.length/\i'= .int .i64 i/\wr=w.drewN n/\Hia (∀j,j<i->l[j]?=k[j]?)) (fun i' _=>l.length-(intOf i').toNat)
  case atStart=>exact⟨0,0,ac,rfl,rfl,Aa (fun j hj=>ac)⟩
  case round=>
   exact zcq
 .have hb:((l.length:Int) !=(k.length:Int))=true:=by simp;omega
  have HN:Hia (¬l=k):=Aa (fun e=>hlk cw);clear hlk;go_enter Tryz.func101,Tryz.ntmps101
  exact zcP
theorem D7(w:World)(l k:List (List Int))(v u:Value)(hl:B6 w v l)(hk:B6 w u k):
  Calls Tryz.prog 128 #[v,u,.func (.func 101) #[] #[]] w fun r w'=>r= .returned (.bool (decide (l=k)))/\∃n,w'=w.drewN n:=by
 obtain⟨a,cap,rfl,s1,s2,s3⟩:=hl.open;obtain⟨c,cc,rfl,t1,t2,t3⟩:=hk.open;have S3:=Aa s3;have T3:=Aa t3;unfold maxLen at s2 t2;clear hl hk s3 t3;by_cases hlk:l.length=k.length
 .have hb:((l.length:Int) !=(k.length:Int))=false:=by simp;omega
  have aI:=Aa hlk;clear hlk;go_enter Tryz.func128,Tryz.ntmps128
  go_wp2_with fail
  go_loopw [17] (fun i' wr=>∃i n:Nat,i<=l.length/\i'= .int .i64 i/\wr=w.drewN n/\Hia (∀j,j<i->l[j]?=k[j]?)) (fun i' _=>l.length-(intOf i').toNat)
  case atStart=>exact⟨0,0,ac,rfl,rfl,Aa (fun j hj=>ac)⟩
  case round=>
   obtain⟨i,n,hi,rfl,rfl,aC⟩:=hrel;by_cases hlt:i<l.length
   .obtain⟨x,hx⟩:∃x,l[i]?=some x:=⟨_,γ hlt⟩;have aJ:i<k.length:=by have:=aI.o;omega
    obtain⟨y,hy⟩:∃y,k[i]?=some y:=⟨_,γ aJ⟩;obtain⟨b,o,rfl,hc⟩:=S3.o ac;obtain⟨b2,o2,rfl,aG⟩:=T3.o ac;obtain⟨u1,e1,aF⟩:=hc i x hx;obtain⟨u2,e2,aE⟩:=aG i y hy;have c1:=((Ex.refl w).drewN n).cell e1;have c2:=((Ex.refl w).drewN n).cell e2;have aB:=aF.ex ((Ex.refl w).drewN n);have aA:=aE.ex ((Ex.refl w).drewN n);have i1:(0:Int)<=(i:Int):=bz;have i2:(i:Int)<(l.length:Int):=ac;have i3:(i:Int)<(k.length:Int):=ac;obtain⟨W,hW⟩:=nA (w.drewN n);rw[hW]at c1 c2 aB aA ⊢;have aH:=Aa hW;have aD:=Aa (Js W x y u1 u2 aB aA);obtain⟨ua,uc,rfl,_,_,_⟩:=aB.open;obtain⟨va,vc,rfl,_,_,_⟩:=aA.open;by_cases hxy:x=y
    .have HA:Hia (∀j,j<i+1->l[j]?=k[j]?):=Aa (fun j hj=>by
      by_cases e:j=i
      .subst e;rw[hx,hy,hxy]
      .exact aC.o j ac)
     rw[decide_eq_true hxy]at aD;clear hc aG hx hy hxy hW aF aE e1 e2 aB aA;go_wp2_with (go_at_call 101;refine aD.o.mono ?_;rintro e w5⟨rfl,n5,rfl⟩)
     exact zbQ
    .have HN:Hia (¬l=k):=Aa (fun e=>hxy (by rw[e,hy]at hx;injection hx with hx;exact hx.symm));rw[decide_eq_false hxy]at aD;clear hc aG hx hy hxy hW aF aE e1 e2 aB aA;go_wp2_with (go_at_call 101;refine aD.o.mono ?_;rintro e w5⟨rfl,n5,rfl⟩)
     exact zco
   .exact zaD
 .have hb:((l.length:Int) !=(k.length:Int))=true:=by simp;omega
  have HN:Hia (¬l=k):=Aa (fun e=>hlk cw);clear hlk;go_enter Tryz.func128,Tryz.ntmps128
  exact zcP
theorem Du(w:World)(c:Int)(v:Value):(w.alloc (.cells #[c,v] 137)).cell? (w.heap.size,0)=some (.int .i64 c)/\(w.alloc (.cells #[c,v] 137)).cell? (w.heap.size,1)=some v/\Ex w (w.alloc (.cells #[c,v] 137)):=⟨ag,ag,(Ex.refl _).alloc _⟩
def Mu(p m:Int)(ml:List Int)(aA:Int)(rows:List (List Int))(e:Int):Prop:=
 (Dx p m ml aA rows≠0/\e=Dx p m ml aA rows)∨
 (Dx p m ml aA rows=0/\∃(pn mn N:Nat) (piv:List Nat) (a':Nat->Nat->Int),p=pn/\m=mn/\aA=N/\FD p m ml/\BV (pn^mn) N rows=0/\Ia pn mn ml N rows.length (An rows) a' piv/\e=if Au N piv.length a'=rows then 0 else 5)
structure BxV(w:World)(b:Nat):Prop where
 c0:w.cell? (b,0)=some (.pointer none)
 c1:w.cell? (b,1)=some (.int .i64 0)
 c2:w.cell? (b,2)=some (.slice none 0 0)
 c3:w.cell? (b,3)=some (.slice none 0 0)
 f0:w.frozen? (b,0)=false
 f1:w.frozen? (b,1)=false
 f2:w.frozen? (b,2)=false
 f3:w.frozen? (b,3)=false
theorem BxV.new(w:World):BxV (w.alloc (.cells #[.pointer none,Ω,(),()] 230)) w.heap.size:=⟨ag,ag,ag,ag,ag,ag,ag,ag⟩
theorem BxV.ex{w w':World}{b:Nat}(h:BxV w b)(hx:Ex w w'):BxV w' b:=⟨hx.cell h.c0,hx.cell h.c1,hx.cell h.c2,hx.cell h.c3,hx.frz h.c0 h.f0,hx.frz h.c1 h.f1,hx.frz h.c2 h.f2,hx.frz h.c3 h.f3⟩
theorem NW{w0 w:World}{q:Nat}(hx:Ex w0 w)(hq:w0.heap.size<=q)(u v z y:Value):Ex w0 ((((w.setCell (q,0) u).setCell (q,1) v).setCell (q,2) z).setCell (q,3) y):=
 (((hx.setCell (p:=⟨q,0,none⟩) hq _).setCell (p:=⟨q,1,none⟩) hq _).setCell (p:=⟨q,2,none⟩) hq _).setCell (p:=⟨q,3,none⟩) hq _
theorem di{P:Prop}(h:P:=by simp[results,Tryz.results196,go_sem,q0,q1,q2,q3]):P:=h
theorem Mk(w:World)(p m:Int)(ml:List Int)(mv:Value)(aJ:Ak w mv ml)(aA:Int)(rows:List (List Int))(v:Value)(hv:B6 w v rows)(h0:Dx p m ml aA rows=0->1<=aA):
  Calls Tryz.prog 196 #[.agg #[p,m,mv],.agg #[aA,v]] w fun r w'=>(∃(g:Option Addr) (c:Int) (a1 a2:Option Addr) (n1 k1 n2 k2:Nat) (e:Int),r= .returned (.tuple #[.agg #[.pointer g,c,(a1,n1,k1),(a2,n2,k2)],e])/\Mu p m ml aA rows e)/\Ex w w':=by
 obtain⟨g0,g1,g2,e0,aK⟩:=AA w p m mv;have aY:=Aa (fun (w':World) (h:Ex w w')=>Hn w' p m ml mv (aJ.ex h) aA rows v (hv.ex h) h0);have bB:=Aa (fun (w':World) (h:Ex w w')=>FV p m ml mv w' (aJ.ex h));have HV:=Aa hv;obtain⟨za,zc,rfl,z1,z2,z3⟩:=hv.open;clear z1 z3;unfold maxLen at z2;obtain⟨ma,mc,rfl,-,m2,-⟩:=aJ.open;unfold maxLen at m2;obtain⟨xb,aZ⟩:=nA w.heap.size;rw[aZ]at g0 g1 g2 aK;clear aJ hv h0;go_enter Tryz.func196,Tryz.ntmps196
 go_wp2_with fail
 generalize w.alloc (.cells #[p,m,(ma,ml.length,mc)] 24)=wA at *;obtain⟨a0,a1,ea⟩:=Du wA aA (.slice za rows.length zc);have aV:(wA.alloc (.cells #[aA,(za,rows.length,zc)] 137)).heap.size=xb+1+1:=by simp[aK]
 rw[aK]at a0 a1;generalize wA.alloc (.cells #[aA,(za,rows.length,zc)] 137)=wB at *;have bq:=BxV.new wB;rw[aV]at bq;have eb:Ex wB _:=(Ex.refl wB).alloc (.cells #[.pointer none,Ω,(),()] 230);obtain⟨A0,A1,G0,G1,G2,BQ,HE⟩:=To (eb.cell a0) (eb.cell a1) ((ea.trans eb).cell g0) ((ea.trans eb).cell g1) ((ea.trans eb).cell g2) bq ((e0.trans ea).trans eb);generalize wB.alloc (.cells #[.pointer none,Ω,(),()] 230)=wC at *;refine(aY.o wC HE.o).mono ?_;clear g0 g1 g2 a0 a1 bq e0 ea eb aV aK;rintro e w2⟨hc,aC⟩;obtain⟨aI,aO,A0,A1,G0,G1,G2,aN⟩:=OK (HE.o.trans aC) (BQ.o.ex aC) (aC.cell A0.o) (aC.cell A1.o) (aC.cell G0.o) (aC.cell G1.o) (aC.cell G2.o) (show w.heap.size<=xb+1+1 from ac);clear aC BQ HE aY;rcases hc with⟨hce,pn,mn,N,piv,a',rv,pv,rfl,rfl,rfl,hfb,hmk,rfl,hel,hrv,hpv,-⟩|⟨hce,rfl⟩
 .have aX:=Aa hrv;have aE:=Aa (fun e (h:e=if Au N piv.length a'=rows then 0 else 5)=>show Mu pn mn ml N rows e from .inr ⟨hce,pn,mn,N,piv,a',rfl,rfl,rfl,hfb,hmk,hel,h⟩);have bC:=Aa hfb;obtain⟨ra,rc,rfl,-,r2,-⟩:=hrv.open;obtain⟨pa,pc,rfl,-,p2,-⟩:=hpv.open;unfold maxLen at r2 p2;obtain⟨L,hL⟩:=nA (Au N piv.length a');obtain⟨PL,aU⟩:=nA (pI piv);rw[hL]at aX aE ⊢;rw[aU];clear hce hfb hmk hel hrv hpv hL aU;have aH:=Aa ((Ex.refl w2).alloc (.cells #[N,(ra,L.length,rc)] 137));have l0:(w2.alloc (.cells #[N,(ra,L.length,rc)] 137)).cell? (w2.heap.size,1)=some (.slice ra L.length rc):=by simp
  have aW:=aH.o.cell A1.o;have aL:=Aa (D7 (w2.alloc (.cells #[N,(ra,L.length,rc)] 137)) L rows _ _ (aX.o.ex aH.o) (HV.o.ex (aI.o.trans aH.o)));by_cases hLR:L=rows
  .rw[decide_eq_true hLR]at aL;have aD:=Aa (aE.o 0 (by rw[if_pos hLR]));clear hLR;go_wp2_with fail
   refine aL.o.mono ?_;rintro e w3⟨rfl,n3,aG⟩;have aF:Ex (w2.alloc (.cells #[N,(ra,L.length,rc)] 137)) w3:=by rw[aG];exact(Ex.refl _).drewN n3
   have aB:=Aa (aH.o.trans aF);have g0:=aB.o.cell G0.o;have g1:=aB.o.cell G1.o;have g2:=aB.o.cell G2.o;clear aF aG l0 aW;go_wp2_with fail
   refine(bB.o w3 (aI.o.trans aB.o)).mono ?_;rintro e w4⟨aM,aT⟩;rcases aM with⟨pn',mn',x,b,e1,e2,rfl,hg,-,-⟩|⟨aM,_⟩
   .have X4:=Aa (aB.o.trans aT);have a0:=X4.o.cell A0.o;have a1:=X4.o.cell A1.o;obtain⟨q0,q1,q2,q3,aS,aR,aQ,aP⟩:=aO.o.ex X4.o;clear e1 e2 hg aT g0 g1 g2;go_wp2_with fail
    exact bodyPost_ret (v:= .tuple #[.agg #[.pointer (some ⟨b,0,none⟩),N,(za,rows.length,zc),(pa,PL.length,pc)],Ω]) di rfl ⟨⟨_,_,_,_,_,_,_,_,_,rfl,aD.o⟩,NW (aI.o.trans X4.o) aN.o _ _ _ _⟩
   .exact absurd bC.o aM
  .rw[decide_eq_false hLR]at aL;have aD:=Aa (aE.o 5 (by rw[if_neg hLR]));clear hLR;go_wp2_with fail
   refine aL.o.mono ?_;rintro e w3⟨rfl,n3,aG⟩;have aF:Ex (w2.alloc (.cells #[N,(ra,L.length,rc)] 137)) w3:=by rw[aG];exact(Ex.refl _).drewN n3
   have aB:=Aa (aH.o.trans aF);obtain⟨q0,q1,q2,q3,aS,aR,aQ,aP⟩:=aO.o.ex aB.o;clear aF aG l0 aW;go_wp2_with fail
   exact bodyPost_ret (v:= .tuple #[.agg #[.pointer none,Ω,(),()],(5:Int)]) di rfl ⟨⟨_,_,_,_,_,_,_,_,_,rfl,aD.o⟩,NW (aI.o.trans aB.o) aN.o _ _ _ _⟩
 .have aE:Hia (Mu p m ml aA rows (Dx p m ml aA rows)):=Aa (.inl ⟨hce,rfl⟩);obtain⟨E,hE⟩:=nA (Dx p m ml aA rows);rw[hE]at aE hce ⊢;have hb:(E !=0)=true:=by simpa using hce
  obtain⟨q0,q1,q2,q3,aS,aR,aQ,aP⟩:=aO.o.ex ((Ex.refl w2).alloc (.cells #[Ω,()] 137));have bA:=Aa (aI.o.alloc (.cells #[Ω,()] 137));clear hE hce;go_wp2_with fail
  exact bodyPost_ret (v:= .tuple #[.agg #[.pointer none,Ω,(),()],E]) di rfl ⟨⟨_,_,_,_,_,_,_,_,_,rfl,aE.o⟩,NW bA.o aN.o _ _ _ _⟩
theorem LB{l:List Int}:G8 l=true↔∃i j,j<i/\i<l.length/\l.getD i 0=l.getD j 0:=by
 unfold G8 Mr;rw[ϗ];constructor
 .rintro⟨i,hi,h⟩;have hi:=κ.1 hi;rw[γv]at h;obtain⟨j,hj,e⟩:=List.getElem_of_mem h;rw[δr]at hj;refine⟨i,j,ac,hi,?_⟩;rw[<-e,ηp,δ,γ (show j<l.length by omega)];rfl
 .rintro⟨i,j,h1,h2,h3⟩;refine⟨i,κ.2 h2,?_⟩;rw[γv,h3];have hj:j<(l.take i).length:=by rw[δr];omega
  have:=List.getElem_mem hj;rw[ηp]at this;rw[δ,γ (show j<l.length by omega)];exact this
section
variable {p m:Nat} {ml:List Int} {mv:Value}
end
theorem Ia.le{p m N R:Nat}{ml:List Int}{a a':Nat->Nat->Int}{piv:List Nat}(h:Ia p m ml N R a a' piv):piv.length<=R:=by
 obtain⟨c,_,h,_⟩:=h;exact h.le
theorem PS{p m:Nat}{ml:List Int}{mv:Value}(w:World)(hf:Gg p m ml)(hF:Hc p m (lw ml))(aB:Ak w mv ml)(N R:Nat)(hN:N<=256)(hR:R<=256)(a:Nat->Nat->Int)(aA:Ra p m R N a)(v:Value)(hv:B6 w v (Au N R a)):
  Calls Tryz.prog 146 #[.agg #[p,m,mv],v,N] w fun r w'=>∃piv pv rv a',r= .returned (.tuple #[rv,pv])/\Ia p m ml N R a a' piv/\B6 w' rv (Au N piv.length a')/\Ak w' pv (pI piv)/\Ex w w'/\Hb w.heap.size w' rv (Au N piv.length a'):=by
 obtain⟨a0,a1,a2,ea,aK⟩:=AA w p m mv;have aI:=Aa (US (w.alloc (.cells #[p,m,mv] 24)) hf hF (aB.ex ea) N R hN hR a aA v (hv.ex ea));have HE:=Aa ea;obtain⟨va,vc,aF,v1,v2,-⟩:=hv.open;rw[AI]at aF v1;subst aF;obtain⟨ma,mc,rfl,-,-,-⟩:=aB.open;clear hf hF aB hv aA ea;go_enter Tryz.func146,Tryz.ntmps146
 go_wp2_with fail
 refine aI.o.mono ?_;rintro e w2⟨⟨piv,pa,pc,la,lc,a',rfl,aD,aG,hlc,aC⟩,hx⟩;have hk:=aD.le;have aE:=Aa aD;have aH:=Aa ((aC _ hk).mono (by have:=HE.o.size;omega:w.heap.size<=_));have aM:=Aa aH.o.msl;have aL:=Aa aG;have HX:=Aa (HE.o.trans hx);have l2:lc<=maxLen:=by
  obtain⟨l3,l4,aJ,l1,l2,_⟩:=(aC _ (ζ R)).msl.open;injection aJ with _ _ h3;rw[h3];exact l2
 unfold maxLen at l2;have k1:(0:Int)<=(piv.length:Int):=ac;have k2:(piv.length:Int)<=(lc:Int):=ac;clear aD aC aG hx aI HE a0 a1 a2 aK;go_wp2_with fail
 go_ret2;exact⟨piv,_,_,a',rfl,aE.o,aM.o,aL.o,HX.o,aH.o⟩
theorem RD{p m:Nat}{ml:List Int}{mv:Value}(w:World)(hf:Gg p m ml)(hF:Hc p m (lw ml))(aB:Ak w mv ml)(N R:Nat)(hN:N<=256)(hR:R<=256)(a:Nat->Nat->Int)(aA:Ra p m R N a)(v:Value)(hv:B6 w v (Au N R a)):
  Calls Tryz.prog 146 #[.agg #[p,m,mv],v,N] w fun r w'=>∃piv pv rv a',r= .returned (.tuple #[rv,pv])/\Ia p m ml N R a a' piv/\B6 w' rv (Au N piv.length a')/\Ak w' pv (pI piv)/\Ex w w':=
 (PS w hf hF aB N R hN hR a aA v hv).mono fun r w' ⟨piv,pv,rv,a',h1,h2,h3,h4,h5,_⟩=>⟨piv,pv,rv,a',h1,h2,h3,h4,h5⟩
end Go.Proofs.YtehieobniamagaaGreat
