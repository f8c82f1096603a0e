/- Plain: the search finds the first map. -/
import Derived.Test.YtehieobniamagaaGreatZd21
namespace Go.Proofs.YtehieobniamagaaGreat
open Go.RowKit
set_option linter.all false
set_option maxRecDepth 100000
set_option maxHeartbeats 4000000
def OC(B:Nat):Nat->Nat
 | 0=>1
 | d+1=>1+B*OC B d
theorem Mo(B:Nat):∀d,OC B d<=OC B (d+1)
 | 0=>by simp[OC]
 | d+1=>by
  show 1+B*OC B d<=1+B*OC B (d+1)
  have:=Nat.mul_le_mul_left B (Mo B d);omega
theorem Vu(B:Nat){d e:Nat}(h:d<=e):OC B d<=OC B e:=by
 obtain⟨k,rfl⟩:=Nat.exists_eq_add_of_le h
 induction k with
 | zero=>exact Nat.le_refl _
 | succ k ih=>exact Nat.le_trans (ih ac) (Mo B _)
theorem SS{l:List Int}{x:Int}{i:Nat}(h:i<l.length):(l ++ [x]).getD i 0=l.getD i 0:=by
 rw[List.getD_eq_getElem?_getD,List.getElem?_append_left h,<-List.getD_eq_getElem?_getD]
theorem JN{l:List Int}{x:Int}:(l ++ [x]).getD l.length 0=x:=by
 exact zcr
structure W8(q n:Nat)(tl sc:List Int):Prop where
 len:sc.length=tl.length
 rng:∀i,i<tl.length->0<=tl.getD i 0/\tl.getD i 0<n
 inj:∀i j,i<tl.length->j<i->tl.getD j 0≠tl.getD i 0
 sc:∀i,i<tl.length->∃z:Nat,sc.getD i 0=z/\1<=z/\z<q
theorem W8.snoc{q n:Nat}{tl sc:List Int}(h:W8 q n tl sc){j a:Nat}(hj:j<n)(hc:tl.contains (j:Int)=false)(h1:1<=a)(h2:a<q):W8 q n (tl ++ [(j:Int)]) (sc ++ [(a:Int)]):=by
 have hl:(tl ++ [(j:Int)]).length=tl.length+1:=ag;refine⟨by simp[h.len],fun i hi=>?_,fun i k hi hk=>?_,fun i hi=>?_⟩
 .rw[hl]at hi;by_cases e:i=tl.length
  .rw[e,JN];omega
  .rw[SS ac];exact h.rng i ac
 .rw[hl]at hi;rw[SS (l:=tl) (i:=k) ac];by_cases e:i=tl.length
  .rw[e,JN];intro e2;have:tl.contains (j:Int)=true:=List.contains_iff_mem.2 (by
    rw[<-e2,List.getD_eq_getElem?_getD,List.getElem?_eq_getElem ac];exact List.getElem_mem _)
   rw[hc]at this;cases this
  .rw[SS ac];exact h.inj i k ac hk
 .rw[hl]at hi;by_cases e:i=tl.length
  .rw[e,<-h.len,JN];exact⟨a,rfl,h1,h2⟩
  .rw[SS (by rw[h.len];omega)];exact h.sc i ac
theorem W8.rngB{q n:Nat}{tl sc:List Int}(h:W8 q n tl sc):BU tl n=true:=by
 unfold Go.Proofs.YtehieobniamagaaGreat.BU;refine List.all_eq_true.2 fun x hx=>?_;obtain⟨i,hi,rfl⟩:=List.getElem_of_mem hx;have h1:=h.rng i hi;have e:tl.getD i 0=tl[i]:=aw;rw[e]at h1;simp;omega
theorem W8.injN{q n:Nat}{tl sc:List Int}(h:W8 q n tl sc)(hl:tl.length=n):FO n (BV tl):=by
 refine⟨fun i hi=>?_,fun i j hi hj e=>Classical.byContradiction fun aA=>?_⟩
 .have:=h.rng i ac;unfold BV;omega
 .have h1:=h.rng i ac;have h2:=h.rng j ac;unfold BV at e;rcases Nat.lt_or_gt_of_ne aA with g|g
  .exact h.inj j i ac g ac
  .exact h.inj i j ac g ac
structure Xa(p m:Nat)(ml:List Int)(l1 l2:List (List Int))(n:Nat)(nd:Nd)(tl sc:List Int):Prop where
 v:W8 (p^m) n nd.tl nd.sc
 len:nd.tl.length=n
 t:nd.tl.take tl.length=tl
 s:nd.sc.take tl.length=sc
 c:Oy p m ml l1 l2 nd.tl nd.sc
def MU(n:Nat)(nd:Nd)(pl sl:List Int):Prop:=
 ∃i,i<=n/\(∀k,k<i->nd.tl.getD k 0=pl.getD k 0/\nd.sc.getD k 0=sl.getD k 0)/\(i=n∨nd.tl.getD i 0<pl.getD i 0∨(nd.tl.getD i 0=pl.getD i 0/\nd.sc.getD i 0<sl.getD i 0))
theorem Mb{l t:List Int}{x:Int}(h:l.take (t.length+1)=t ++ [x]):l.take t.length=t/\l.getD t.length 0=x:=by
 constructor
 .have:(l.take (t.length+1)).take t.length=(t ++ [x]).take t.length:=by rw[h]
  rw[List.take_take,show min t.length (t.length+1)=t.length from ac,List.take_left]at this;exact this
 .have h2:(l.take (t.length+1)).getD t.length 0=l.getD t.length 0:=Ch ac;rw[<-h2,h,JN]
section
variable {p m:Nat} {ml:List Int} {n:Nat} {l1 l2:List (List Int)} {pl sl tl sc:List Int} {nd:Nd}
theorem Xa.back{j a:Int}(h:Xa p m ml l1 l2 n nd (tl ++ [j]) (sc ++ [a]))(hl:sc.length=tl.length):Xa p m ml l1 l2 n nd tl sc/\nd.tl.getD tl.length 0=j/\nd.sc.getD tl.length 0=a:=by
 have h1:=h.t;have h2:=h.s;rw[List.length_append]at h1 h2;obtain⟨a1,a2⟩:=Mb (t:=tl) h1;obtain⟨b1,b2⟩:=Mb (t:=sc) (by rw[hl];exact h2);rw[hl]at b1 b2;exact⟨⟨h.v,h.len,a1,b1,h.c⟩,a2,b2⟩
theorem Xa.lex{j a:Int}(h:Xa p m ml l1 l2 n nd (tl ++ [j]) (sc ++ [a]))(hl:sc.length=tl.length)(hK:tl.length<n)(hp:pl.take tl.length=tl)(hs:sl.take tl.length=sc)(aA:j<pl.getD tl.length 0∨(j=pl.getD tl.length 0/\a<sl.getD tl.length 0)):MU n nd pl sl:=by
 obtain⟨h0,h1,h2⟩:=h.back hl;refine⟨tl.length,ac,fun k hk=>?_,.inr (by rw[h1,h2];exact aA)⟩;have e1:nd.tl.getD k 0=tl.getD k 0:=by rw[<-Ch (l:=nd.tl) hk,h0.t]
 have e2:nd.sc.getD k 0=sc.getD k 0:=by rw[<-Ch (l:=nd.sc) hk,h0.s]
 have e3:pl.getD k 0=tl.getD k 0:=by rw[<-Ch (l:=pl) hk,hp]
 have e4:sl.getD k 0=sc.getD k 0:=by rw[<-Ch (l:=sl) hk,hs]
 rw[e1,e2,e3,e4];exact⟨rfl,rfl⟩
structure WO(p m:Nat)(ml:List Int)(l1 l2:List (List Int))(n b s0:Nat)(tl sc:List Int)(r:(Nat × List Nd) × Int):Prop where
 cnt:r.1.1<=s0+b
 res:r.2=0∨(r.2=18/\Xa p m ml l1 l2 n (Cm r.1.2) tl sc)
 fnd:∀pl sl,Bd p m ml n l1 l2 pl sl->pl.take tl.length=tl->sl.take tl.length=sc->r.2=18/\MU n (Cm r.1.2) pl sl
variable {step:Nat × List Nd->List Int->List Int->(Nat × List Nd) × Int} {b:Nat}
theorem O5(hl:sc.length=tl.length)(hK:tl.length<n){j:Nat}(aA:∀(a:Nat) s,1<=a->a<=p^m-1->s.1+b<=65536->WO p m ml l1 l2 n b s.1 (tl ++ [(j:Int)]) (sc ++ [(a:Int)]) (step s (tl ++ [(j:Int)]) (sc ++ [(a:Int)]))):
  ∀c,c<=p^m-1->∀s,s.1+c*b<=65536->(FV step tl sc j c s).1.1<=s.1+c*b/\((FV step tl sc j c s).2=0∨((FV step tl sc j c s).2=18/\∃a:Nat,1<=a/\a<=c/\Xa p m ml l1 l2 n (Cm (FV step tl sc j c s).1.2) (tl ++ [(j:Int)]) (sc ++ [(a:Int)])))/\
   ∀pl sl,Bd p m ml n l1 l2 pl sl->pl.take tl.length=tl->sl.take tl.length=sc->pl.getD tl.length 0=j->sl.getD tl.length 0<=c->(FV step tl sc j c s).2=18/\MU n (Cm (FV step tl sc j c s).1.2) pl sl
 | 0,_,s,_=>by
  refine⟨by show s.1<=_;omega,.inl rfl,fun pl sl hT h1 h2 h3 h4=>?_⟩;obtain⟨z,hz,h5,_⟩:=hT.sc tl.length hK;rw[hz]at h4;omega
 | c+1,hc,s,hs=>by
  have hm:(c+1)*b=c*b+b:=by rw[Nat.add_mul,Nat.one_mul]
  obtain⟨i1,i2,i3⟩:=O5 hl hK aA c ac s ac;by_cases h0:(FV step tl sc j c s).2=0
  .have e:FV step tl sc j (c+1) s=step (FV step tl sc j c s).1 (tl ++ [(j:Int)]) (sc ++ [((c+1:Nat):Int)]):=by
    show(if _ then _ else _)=_
    rw[if_neg (fun h=>h h0)]
   rw[e];have ho:=aA (c+1) (FV step tl sc j c s).1 ac hc ac;refine⟨by have:=ho.cnt;omega,?_,fun pl sl hT h1 h2 h3 h4=>?_⟩
   .rcases ho.res with h|⟨h,hf⟩
    .exact .inl h
    .exact .inr ⟨h,c+1,ac,ac,hf⟩
   .by_cases h5:sl.getD tl.length 0<=c
    .have:=(i3 pl sl hT h1 h2 h3 h5).1;rw[h0]at this;cases this
    .obtain⟨a,a1,a2,b1,b2,_,_,c1,c2⟩:=hT.step hK;have ea:a=c+1:=by omega
     have ej:((BV pl tl.length:Nat):Int)=j:=by rw[<-b1,h3]
     refine ho.fnd pl sl hT ?_ ?_
     .rw[List.length_append];show pl.take (tl.length+1)=_
      rw[c1,h1,ej]
     .rw[List.length_append];show sl.take (tl.length+1)=_
      rw[c2,h2,ea]
  .have e:FV step tl sc j (c+1) s=FV step tl sc j c s:=by
    show(if _ then _ else _)=_
    rw[if_pos h0]
   rw[e];rcases i2 with h|⟨h,a,a1,a2,hf⟩
   .exact absurd h h0
   .refine⟨ac,.inr ⟨h,a,a1,ac,hf⟩,fun pl sl hT h1 h2 h3 h4=>?_⟩;by_cases h5:sl.getD tl.length 0<=c
    .exact i3 pl sl hT h1 h2 h3 h5
    .exact⟨h,hf.lex hl hK h1 h2 (.inr ⟨h3.symm,ac⟩)⟩
theorem O0(hl:sc.length=tl.length)(hK:tl.length<n)(aA:∀(j a:Nat) s,j<n->tl.contains (j:Int)=false->1<=a->a<=p^m-1->s.1+b<=65536->WO p m ml l1 l2 n b s.1 (tl ++ [(j:Int)]) (sc ++ [(a:Int)]) (step s (tl ++ [(j:Int)]) (sc ++ [(a:Int)]))):
  ∀J,J<=n->∀s,s.1+J*((p^m-1)*b)<=65536->(D9 step (p^m) tl sc J s).1.1<=s.1+J*((p^m-1)*b)/\((D9 step (p^m) tl sc J s).2=0∨((D9 step (p^m) tl sc J s).2=18/\∃j a:Nat,j<J/\Xa p m ml l1 l2 n (Cm (D9 step (p^m) tl sc J s).1.2) (tl ++ [(j:Int)]) (sc ++ [(a:Int)])))/\
   ∀pl sl,Bd p m ml n l1 l2 pl sl->pl.take tl.length=tl->sl.take tl.length=sc->pl.getD tl.length 0<J->(D9 step (p^m) tl sc J s).2=18/\MU n (Cm (D9 step (p^m) tl sc J s).1.2) pl sl
 | 0,_,s,_=>by
  refine⟨by show s.1<=_;omega,.inl rfl,fun pl sl hT h1 h2 h3=>?_⟩;have:=hT.nn tl.length hK;omega
 | J+1,hJ,s,hs=>by
  have hm:(J+1)*((p^m-1)*b)=J*((p^m-1)*b)+(p^m-1)*b:=by rw[Nat.add_mul,Nat.one_mul]
  obtain⟨i1,i2,i3⟩:=O0 hl hK aA J ac s ac;by_cases h0:(D9 step (p^m) tl sc J s).2=0
  .cases hc:tl.contains (J:Int) with
   | true=>
    have e:D9 step (p^m) tl sc (J+1) s=D9 step (p^m) tl sc J s:=by
     show(if _ then _ else if _ then _ else _)=_
     rw[if_neg (fun h=>h h0),if_pos hc]
    rw[e];refine⟨ac,.inl h0,fun pl sl hT h1 h2 h3=>?_⟩;by_cases h5:pl.getD tl.length 0<J
    .exact i3 pl sl hT h1 h2 h5
    .obtain⟨a,a1,a2,b1,b2,_,d1,c1,c2⟩:=hT.step hK;have ej:((BV pl tl.length:Nat):Int)=J:=by rw[<-b1];omega
     rw[h1,ej,hc]at d1;cases d1
   | false=>
    have e:D9 step (p^m) tl sc (J+1) s=FV step tl sc J (p^m-1) (D9 step (p^m) tl sc J s).1:=by
     show(if _ then _ else if _ then _ else _)=_
     rw[if_neg (fun h=>h h0),if_neg (by rw[hc];decide)]
    rw[e];obtain⟨k1,k2,k3⟩:=O5 (p:=p) (m:=m) (ml:=ml) (l1:=l1) (l2:=l2) (step:=step) (b:=b) hl hK (j:=J) (fun a s h1 h2 h3=>aA J a s ac hc h1 h2 h3) (p^m-1) (Nat.le_refl _) (D9 step (p^m) tl sc J s).1 ac;refine⟨ac,?_,fun pl sl hT h1 h2 h3=>?_⟩
    .rcases k2 with h|⟨h,a,a1,a2,hf⟩
     .exact .inl h
     .exact .inr ⟨h,J,a,ac,hf⟩
    .by_cases h5:pl.getD tl.length 0<J
     .have:=(i3 pl sl hT h1 h2 h5).1;rw[h0]at this;cases this
     .obtain⟨a,a1,a2,b1,b2,_,_,c1,c2⟩:=hT.step hK;exact k3 pl sl hT h1 h2 ac ac
  .have e:D9 step (p^m) tl sc (J+1) s=D9 step (p^m) tl sc J s:=by
    show(if _ then _ else if _ then _ else _)=_
    rw[if_pos h0]
   rw[e];rcases i2 with h|⟨h,j,a,hj,hf⟩
   .exact absurd h h0
   .refine⟨ac,.inr ⟨h,j,a,ac,hf⟩,fun pl sl hT h1 h2 h3=>?_⟩;by_cases h5:pl.getD tl.length 0<J
    .exact i3 pl sl hT h1 h2 h5
    .exact⟨h,hf.lex hl hK h1 h2 (.inl ac)⟩
theorem R8(hW:UA p m ml n l1 l2):∀d tl sc s,W8 (p^m) n tl sc->tl.length+d=n->s.1+OC (n*(p^m-1)) d<=65536->WO p m ml l1 l2 n (OC (n*(p^m-1)) d) s.1 tl sc (Lq p m ml l1 l2 n d s tl sc)
 | d,tl,sc,s,hv,hd,hs=>by
  have hb1:1<=OC (n*(p^m-1)) d:=by cases d <;> simp[OC]
  have aA:=hW.wit (sc:=sc) hv.rngB;unfold Lq;rw[if_neg ac];simp only;by_cases h1:0<=(EV p m ml l1 l2 tl sc).1
  .rw[if_pos h1];refine⟨by show s.1+1<=_;omega,.inl rfl,fun pl sl hT e1 e2=>?_⟩;have hc:=hT.compat hW.hp (K:=tl.length) ac;rw[e1,e2]at hc;have:=aA.2 hc;omega
  .have hc:=aA.1 ac;rw[if_neg h1];by_cases h2:tl.length=n
   .rw[if_pos h2];refine⟨by show s.1+1<=_;omega,.inr ⟨rfl,?_⟩,fun pl sl hT e1 e2=>⟨rfl,?_⟩⟩
    .simp only[Fl];exact⟨hv,h2,List.take_length,by rw[<-hv.len];exact List.take_length,hc⟩
    .simp only[Fl];refine⟨n,Nat.le_refl _,fun k hk=>⟨?_,?_⟩,.inl rfl⟩
     .show tl.getD k 0=_
      rw[<-e1,Ch ac]
     .show sc.getD k 0=_
      rw[<-e2,Ch ac]
   .rw[if_neg h2]
    cases d with
    | zero=>omega
    | succ d=>
     simp only;have hB:OC (n*(p^m-1)) (d+1)=1+n*((p^m-1)*OC (n*(p^m-1)) d):=by
      show 1+n*(p^m-1)*OC (n*(p^m-1)) d=_
      rw[Nat.mul_assoc]
     have hK:tl.length<n:=ac;obtain⟨k1,k2,k3⟩:=O0 (p:=p) (m:=m) (ml:=ml) (l1:=l1) (l2:=l2) (n:=n) (step:=Lq p m ml l1 l2 n d) (b:=OC (n*(p^m-1)) d) hv.len hK (fun j a s hj aB h1 h2 h3=>R8 hW d _ _ s (hv.snoc hj aB h1 ac) (by rw[List.length_append];show tl.length+1+d=n;omega) h3) n (Nat.le_refl _) (s.1+1,s.2 ++ [⟨tl,sc,(EV p m ml l1 l2 tl sc).1,Jr l1.length l2.length (EV p m ml l1 l2 tl sc)⟩]) (by show s.1+1+_<=_;omega);refine⟨by rw[hB];have k1':_<=s.1+1+_:=k1;omega,?_,fun pl sl hT e1 e2=>?_⟩
     .rcases k2 with h|⟨h,j,a,hj,hf⟩
      .exact .inl h
      .exact .inr ⟨h,(hf.back hv.len).1⟩
     .have:=hT.inj.lt tl.length hK;have hnn:=hT.nn tl.length hK;unfold BV at this;exact k3 pl sl hT e1 e2 ac
end
theorem Zf{w w':World}{o:Obj}{base:Nat}{e:TypeId}{size:Nat}{v v':Value}{n:Nat}{xs news:List Value}(aB:w.ownsRow base e size v n xs)(aA:w'.ownsRow base e size v' (n+1) (xs++news))
  (hg:((w.alloc o).drew).grownBy w' v.ownBlock) (ha:v'.ownBlock=v.ownBlock∨v'.ownBlock=some ((w.alloc o).drew).heap.size):Bn w w' base e size v v' n xs news:=
 ⟨aA,⟨o,⟨hg.os,hg.tape,hg.output,hg.size,hg.block⟩⟩,by simpa using ha,aB⟩
def Ur(w:World)(base n tb rb gb:Nat)(rr:Nat->Nat)(mb:List Nat)(t:Tw):Prop:=∃gv V,RJ w base n tb rb gb rr gv V mb t
def GH(n:Nat)(t:Tw)(b:Nat):Nat:=(List.range n).countP fun x=>(t.R b x).isNone
def Sr(n:Nat)(t:Tw)(b:Nat):Nat:=(n-b)*(n+1)+GH n t b
theorem Sq(n:Nat)(t:Tw)(b:Nat):GH n t b<=n:=by
 unfold GH;have:=List.countP_le_length (p:=fun x=>(t.R b x).isNone) (l:=List.range n);simpa using this
theorem Gv{t t':Tw}(h:RS t t')(b:Nat):∀n,GH n t' b<=GH n t b
 | 0=>Nat.le_refl _
 | n+1=>by
  have ih:=Gv h b n;unfold GH at *;rw[List.range_succ,List.countP_append,List.countP_append,List.countP_singleton,List.countP_singleton]
  cases h1:t.R b n with
  | none=>simp;split <;> omega
  | some r=>rw[h b n r h1];simp;exact ih
theorem Pj{n:Nat}{t t':Tw}(h:RS t t')(b:Nat):Sr n t' b<=Sr n t b:=Nat.add_le_add_left (Gv h b n) _
theorem Ph{t:Tw}{b x:Nat}{q:Nat->Nat}(h:t.R b x=none):∀n,(x<n->GH n (Lu t b x q) b+1=GH n t b)/\(n<=x->GH n (Lu t b x q) b=GH n t b)
 | 0=>⟨fun h=>by omega,fun _=>rfl⟩
 | n+1=>by
  obtain⟨h1,h2⟩:=Ph (q:=q) h n;unfold GH at *;have aA:(Lu t b x q).R b n=if n=x then some q else t.R b n:=by
   show(if b=b/\n=x then some q else t.R b n)=_
   by_cases e:n=x <;> simp[e]
  rw[List.range_succ,List.countP_append,List.countP_append,List.countP_singleton,List.countP_singleton,aA];constructor
  .intro hx;by_cases e:n=x
   .rw[if_pos e];subst e;rw[h,h2 (Nat.le_refl _)];simp
   .rw[if_neg e];have:=h1 ac;omega
  .intro hx;have e:¬n=x:=by omega
   rw[if_neg e,h2 ac]
theorem Yi{n:Nat}{t:Tw}{b x:Nat}{q:Nat->Nat}(h:t.R b x=none)(hx:x<n):Sr n (Lu t b x q) b+1=Sr n t b:=by
 unfold Sr;have:=(Ph (q:=q) h n).1 hx;omega
theorem muT_up{n:Nat}{t:Tw}{b:Nat}(hb:b+1<n):Sr n t (b+1)+1<=Sr n t b:=by
 unfold Sr;have h1:=Sq n t (b+1);rw[show n-b=n-(b+1)+1 by omega,Nat.succ_mul];omega
def Pg(n:Nat)(t:Tw)(c:Nat):Nat:=((List.range n).map fun d=>if c<=d then GH n t d else 0).sum
theorem Fx{f g:Nat->Nat}:∀l:List Nat,(∀d∈l,f d<=g d)->(l.map f).sum<=(l.map g).sum
 | [],_=>Nat.le_refl _
 | d :: l,h=>by
  have h1:=h d (List.mem_cons_self ..);have h2:=Fx l fun e he=>h e (List.mem_cons_of_mem _ he);simp only[List.map_cons,List.sum_cons];omega
theorem TX{n:Nat}{t t':Tw}(h:RS t t')(c:Nat):Pg n t' c<=Pg n t c:=
 Fx _ fun d _=>by
  split
  .exact Gv h d n
  .exact Nat.le_refl _
theorem Yf(n:Nat)(t:Tw)(c:Nat):Pg n t c<=n*n:=by
 have h1:=Fx (f:=fun d=>if c<=d then GH n t d else 0) (g:=fun _=>n) (List.range n) fun d _=>by
  split
  .exact Sq n t d
  .exact Nat.zero_le _
 have h2:((List.range n).map fun _=>n).sum=n*n:=by
  rw[List.map_const',List.sum_replicate_nat,List.length_range]
 unfold Pg;omega
theorem JU{f g:Nat->Nat}:∀l:List Nat,(∀d∈l,f d<=g d)->(l.map g).sum<=(l.map f).sum->∀d∈l,f d=g d
 | [],_,_,d,hd=>absurd hd (List.not_mem_nil)
 | e :: l,h,hs,d,hd=>by
  have h1:=h e (List.mem_cons_self ..);have h2:=Fx l fun e he=>h e (List.mem_cons_of_mem _ he);simp only[List.map_cons,List.sum_cons]at hs;rcases List.mem_cons.1 hd with h3|h3
  .subst h3;omega
  .exact JU l (fun e he=>h e (List.mem_cons_of_mem _ he)) ac d h3
theorem MJ{p q:Nat->Bool}:∀l:List Nat,(∀x∈l,q x=true->p x=true)->l.countP p<=l.countP q->∀x∈l,p x=q x
 | [],_,_,x,hx=>absurd hx (List.not_mem_nil)
 | e :: l,h,hs,x,hx=>by
  have h2:l.countP q<=l.countP p:=List.countP_mono_left fun y hy=>h y (List.mem_cons_of_mem _ hy);have h1:=h e (List.mem_cons_self ..);rw[List.countP_cons,List.countP_cons]at hs;have aA:p e=q e/\l.countP p<=l.countP q:=by
   cases hp:p e <;> cases hq:q e <;> simp[hp,hq]at hs h1 ⊢ <;> omega
  rcases List.mem_cons.1 hx with h3|h3
  .subst h3;exact aA.1
  .exact MJ l (fun y hy=>h y (List.mem_cons_of_mem _ hy)) aA.2 x h3
theorem Ye{n:Nat}{t t':Tw}(hG:CQ n t)(aA:CQ n t')(h:RS t t'){b:Nat}{p:Nat->Nat}(h1:¬Sf n t.R (n-b) b p)(h2:Sf n t'.R (n-b) b p):Pg n t' b+1<=Pg n t b:=by
 apply Classical.byContradiction;intro hn;refine h1 (Sf.congr (c:=b) (R:=t'.R) (fun c x hc=>?_) (Nat.le_refl _) h2);by_cases hcx:c<n/\x<n
 .have e1:=JU (f:=fun d=>if b<=d then GH n t' d else 0) (g:=fun d=>if b<=d then GH n t d else 0) (List.range n) (fun d _=>by
   split
   .exact Gv h d n
   .exact Nat.le_refl _) (by unfold Pg at hn;omega) c (List.mem_range.2 hcx.1)
  simp only[if_pos hc]at e1;have e2:=MJ (p:=fun x=>(t.R c x).isNone) (q:=fun x=>(t'.R c x).isNone) (List.range n) (fun y _ hy=>by
   cases hr:t.R c y with
   | none=>rfl
   | some r=>rw[h c y r hr]at hy;cases hy) (by unfold GH at e1;omega) x (List.mem_range.2 hcx.2)
  cases hr:t.R c x with
  | some r=>exact h c x r hr
  | none=>
   simp only[hr,Option.isNone]at e2
   cases hr':t'.R c x with
   | none=>rfl
   | some r=>rw[hr']at e2;cases e2
 .cases hr:t.R c x with
  | some r=>exact absurd ⟨(hG.rep _ _ _ hr).1,(hG.rep _ _ _ hr).2.1⟩ hcx
  | none=>
   cases hr':t'.R c x with
   | none=>rfl
   | some r=>exact absurd ⟨(aA.rep _ _ _ hr').1,(aA.rep _ _ _ hr').2.1⟩ hcx
def QA(n:Nat)(t:Tw)(b:Nat):Prop:=∀c,b<=c->c<n->(t.g c).length+Pg n t c<=n*n
theorem QA.up{n:Nat}{t:Tw}{b c:Nat}(h:QA n t b)(hc:b<=c):QA n t c:=fun d hd=>h d ac
theorem QA.mono{n:Nat}{t t':Tw}{b:Nat}(h:QA n t b)(hl:RS t t')(hg:∀c,b<=c->t'.g c=t.g c):QA n t' b:=fun c hc aA=>by
 rw[hg c hc];have:=h c hc aA;have:=TX (n:=n) hl c;omega
def Ti(base n tb rb gb:Nat)(rr:Nat->Nat)(m:Nat):Prop:=∀(w:World) (mb:List Nat) (t:Tw) (q:Nat->Nat) (u:Value) (b:Nat),Sr n t b<=m->b<n->Ur w base n tb rb gb rr mb t->CQ n t->(∀c,b+1<=c->c<n->Dz n t c)->Cv w mb n u q->Bw n q->AW b q->base<=w.heap.size->(t.g b).length<=n*n+1->QA n t (b+1)->
 Calls Tryz.prog 210 #[.pointer (some ⟨tb,0,none⟩),u,.int .i64 b] w fun r w'=>(∃z,r= .returned z)/\∃aA t',Ur w' base n tb rb gb rr aA t'/\WM n b q t t'/\Mx mb aA w w'/\QA n t' (b+1)
def WS(base n tb rb gb:Nat)(rr:Nat->Nat)(m:Nat):Prop:=∀(w:World) (mb:List Nat) (t:Tw) (p:Nat->Nat) (u:Value) (b:Nat),(b<n->Sr n t b<=m)->b<=n->Ur w base n tb rb gb rr mb t->CQ n t->(∀c,b<=c->c<n->Dz n t c)->Cv w mb n u p->Bw n p->AW b p->base<=w.heap.size->QA n t b->
 Calls Tryz.prog 174 #[.pointer (some ⟨tb,0,none⟩),u,.int .i64 b] w fun r w'=>(∃z,r= .returned z)/\∃aA t',Ur w' base n tb rb gb rr aA t'/\Qv n b p t t'/\Mx mb aA w w'/\QA n t' b
theorem Lg.one{w:World}{mb:List Nat}{n:Nat}{o:Option (Nat->Nat)}{u:Value}(h:Lg w mb n o u):u.oneCell'=true:=by
 cases o with
 | none=>have h:u= .slice none 0 0:=h;rw[h];rfl
 | some r=>
  have h:Cv w mb n u r:=h;obtain⟨b,o,cap,rfl,_⟩:=h.at_;rfl
theorem KC{base n tb rb gb:Nat}{rr:Nat->Nat}(bJ:1<=n)(hn:n<=64)(m:Nat)(hv:Ti base n tb rb gb rr m):WS base n tb rb gb rr m:=by
 intro w mb t p u b bV hb aL hG hC hu hP hF cA cB;have HV:=Aa hv;have aZ:=Aa cB;have hnn:n*n<=4096:=Nat.mul_le_mul hn hn;obtain⟨gv,V,hM⟩:=aL;obtain⟨HM,HG,HC,HU,HP,HF,dE,bN⟩:=On hM hG hC hu hP hF bV (Tx w hM hG bJ hn u p b hb hu.sl hP);obtain⟨ub,uo,uc,rfl,_,_,_,_⟩:=hu.at_;obtain⟨E,hE⟩:=nA ((DC n t.R (n-b) b p).2);have HE:=Aa hE;have cL:=Aa (Mc n t.R (n-b) b p);rw[hE]at bN cL;clear hv cB hM hG hC hu hP hF bV hE;by_cases hen:E=n
 .have cS:((E:Int)==(n:Int))=true:=by simp;omega
  have cR:(E==n)=true:=by simpa using hen
  have aN:=Aa (Qv.same HG.o HC.o ((QL n t.R (n-b) b p).2 (by rw[HE.o];omega)));clear hen;go_enter Tryz.func174,Tryz.ntmps174
  go_wp2_with fail
  refine bN.o.mono ?_;rintro e w1⟨z,rfl,aH⟩;have c0:=aH.cell HM.o.c0;have bD:=Aa aH;clear aH;go_wp2_with fail
  ((try simp only[Exit.inBlock,Exit.then]);refine bodyPost_ret (results_none rfl _ _ _) rfl ?_)
  exact⟨⟨_,rfl⟩,mb,t,⟨gv,V,HM.o.ex bD.o⟩,aN.o,Mx.ofEx bD.o mb,aZ.o⟩
 .have aB:b<n:=by
   apply Classical.byContradiction;intro h;have h1:=cL.o;omega
  have cS:((E:Int)==(n:Int))=false:=aq;have cR:(E==n)=false:=by simpa using hen
  have dI:=Aa (show(t.g b).length<=4096 from by have:=aZ.o b (Nat.le_refl _) aB;omega);have dC:=Aa (show ¬Sf n t.R (n-b) b p from fun h=>hen (by have:=(QL n t.R (n-b) b p).1 h;rw[HE.o]at this;omega));clear hen;go_enter Tryz.func174,Tryz.ntmps174
  go_wp2_with fail
  refine bN.o.mono ?_;rintro e w1⟨z,rfl,aH⟩;obtain⟨bD,HM,HU,dP⟩:=Eq aH (HM.o.ex aH) (HU.o.ex aH) (Nat.le_trans cA aH.size);clear aH;obtain⟨vals,bX,bW⟩:=HM.o.gro b aB;have bR:=Aa bX;have cK:=Aa bW;clear bX bW;have hgl:=dI.o;have c0:=HM.o.c0;have c2:=HM.o.c2;have c4:=HM.o.go.cell aB;have i1:(0:Int)<=(b:Int):=ac;have i2:(b:Int)<(n:Int):=ac;have EA:=(Ex.refl w1).alloc (.cells #[.slice (some ⟨ub,uo,none⟩) n uc] 22);have cV:=EA.cell c2;have cT:=EA.cell c4;have bQ:=Aa (show(gv b).ownBlock≠some gb from fun e=>(HM.o.gvm b _ aB e).2.1 rfl);have cI:=Aa (show some tb≠(gv b).ownBlock from fun e=>HM.o.tm (HM.o.gvm b tb aB e.symm).1);have cO:=Aa (show base<=((w1.alloc (.cells #[.slice (some ⟨ub,uo,none⟩) n uc] 22)).drew).heap.size from by have:=dP.o;simp;omega);go_upto_region 2 with fail
  go_cut [2] from 23 to 39 (fun s2 wx=>s2= .int .i64 b/\Hia (∃aK,Ur wx base n tb rb gb rr aK (RI t b p)/\Mx mb aK w1 wx))
  case first=>
   go_region_law
   ((refine Ci bp _ _ _ bp base 22 (.slice none 0 0) 1 24 Tryz.underlying37 BH rfl ae (gv b) (t.g b).length vals bp (Aj bR.o (((Ex.refl w1).alloc (.cells #[.slice (some ⟨ub,uo,none⟩) n uc] 22)).drew)) _ 1 [.slice (some ⟨ub,uo,none⟩) n uc] bp (Sl.own (Fi w1 (.slice (some ⟨ub,uo,none⟩) n uc) 22)) aj ai ac (cO.o) ?_;intro v8 w8 aD bY cC;have bH:=Aa (Zf bR.o aD bY cC);have dN:=(bH.o.arr HM.o.go bQ.o).1.cell aB;have dM:=(bH.o.arr HM.o.go bQ.o).1.frz b;have cU:=bH.o.cell c2 cI.o;obtain⟨va,vc,cP⟩:=Ad aD;subst cP;clear aD bY cC))
   all_goals
   have bO:=Aa (show ∃aK,Ur (w8.setCell ⟨gb,b,none⟩ (.slice va ((t.g b).length+1) vc)) base n tb rb gb rr aK (RI t b p)/\Mx mb aK w1 (w8.setCell ⟨gb,b,none⟩ (.slice va ((t.g b).length+1) vc)) from by
    obtain⟨aK,h1,h2⟩:=HM.o.addGen aB HU.o cK.o bH.o;exact⟨aK,⟨_,_,h1⟩,h2⟩)
   clear dN dM cU;go_wp2_with fail
   go_meet
   exact⟨rfl,bO⟩
  case rest=>
   obtain⟨rfl,aR⟩:=hcut;obtain⟨aM,⟨gv1,V1,cD⟩,aI⟩:=aR.o;have aJ:=Aa cD;have bF:=Aa aI;have cG:=Aa (HU.o.mx aI);clear aR cD aI c0 c2 c4 cV cT bR cK bQ cI cO HM HU EA;have c1:=aJ.o.c1;have c3:=aJ.o.ro b aB;have cM:=Aa (RW wc n (V1 b) _ (aJ.o.row b aB).sl bJ ac (fun j hj=>(aJ.o.rep b j aB hj).one));have bG:=Aa (Jx.start HG.o (fun c h1 h2=>HC.o c ac h2) HP.o HF.o);have dF:=Aa (show Sr n t b<=m from dE.o aB);have cN:=Aa (show QA n (RI t b p) (b+1) from(aZ.o.up (by omega:b<=b+1)).mono (fun _ _ _ h=>h) fun c hc=>by
    show(if c=b then t.g c ++ [p] else t.g c)=t.g c
    rw[if_neg ac])
   go_wp2_with (go_at_call 209;refine cM.o.mono ?_;rintro e w9⟨g9,cap9,rfl,aE,bT⟩;have bP:=Aa aE;have aV:=Aa bT;clear aE bT)
   obtain⟨aY,aX,bE,cF,cH,aW⟩:=To (show ∀j,j<n->w9.cell? ⟨g9,j,none⟩=some (V1 b j) from fun j hj=>bP.o.cell hj) (show g9 ∉ aM from fun h=>by have:=aJ.o.low g9 h;have:=bP.o.lt.1;omega) (show ∀y,y<n->Lg w9 aM n (t.R b y) (V1 b y) from fun y hy=>(aJ.o.rep b y aB hy).mx (Mx.ofEx aV.o aM)) (cG.o.ex aV.o) (show Ur w9 base n tb rb gb rr aM (RI t b p) from⟨_,_,aJ.o.ex aV.o⟩) ((Mx.ofEx bD.o mb).trans (bF.o.trans (Mx.ofEx aV.o aM)));clear c1 c3 cM bP aJ bF cG aV
   go_loopw [48,9] (fun x' r' wr=>∃(x:Nat) (aC:List Nat) (tc:Tw),x<=n/\x'= .int .i64 x/\Hia (Ur wr base n tb rb gb rr aC tc)/\Hia (Jx n b p t tc x)/\Hia (Mx mb aC w wr)/\Hia (∀j,j<n->wr.cell? ⟨g9,j,none⟩=some (V1 b j))/\Hia (g9 ∉ aC)/\Hia (∀y,y<n->Lg wr aC n (t.R b y) (V1 b y))/\Hia (Cv wr aC n (.slice (some ⟨ub,uo,none⟩) n uc) p)/\Hia (QA n tc (b+1))) (fun x' _ _=>n-(intOf x').toNat)
   case atStart=>exact⟨0,aM,RI t b p,ac,rfl,cH,bG,aW,aY,aX,bE,cF,cN⟩
   case round=>
    clear cH bG aW aY aX bE cF cN;obtain⟨x,aC,tc,hx,rfl,aL,aF,aI,bC,bK,bB,bA,aT⟩:=hrel;by_cases hxn:x<n
    .have d1:=bC.o x hxn;have aA:=bB.o x hxn;have i3:(0:Int)<=(x:Int):=by omega
     have i4:(x:Int)<(n:Int):=ac
     cases hR:t.R b x with
     | none=>
      rw[hR]at aA;have aA:V1 b x= .slice none 0 0:=aA;rw[aA]at d1;have dK:=Aa (aF.o.skip hR);clear aA hR aF;go_wp2_with fail
      go_roundw
      case rel=>exact⟨x+1,aC,tc,ac,by go_num,aL,dK,aI,bC,bK,bB,bA,aT⟩
      case measure=>simp[intOf];omega
     | some r=>
      rw[hR]at aA;have aA:Cv wr aC n (V1 b x) r:=aA;obtain⟨vb,vo,vc,hV,_,_,_,_⟩:=aA.at_;obtain⟨_,_,bI,bU,cQ⟩:=HG.o.rep _ _ _ hR;have cJ:=Aa aA.sl;rw[hV]at d1 cJ;obtain⟨cZ,cW,dH,dA,bG,bF,aY,aX,bE,cX⟩:=Ha1 (F5 wr n r p _ _ cJ.o bA.o.sl ac bI.lt) (fun w2 (aO:Ex wr w2) z (hz:Cv w2 aC n z (Ar r p))=>HV.o w2 aC tc (Ar r p) z b (Nat.le_trans (Pj aF.o.le b) dF.o) aB (by obtain⟨gv',V',h⟩:=aL.o;exact⟨gv',V',h.ex aO⟩) aF.o.good aF.o.comp hz (bI.comp HP.o) (bU.comp HF.o) (Nat.le_trans cA (Nat.le_trans aI.o.size aO.size)) (by have h1:=aZ.o b (Nat.le_refl _) aB;rw[aF.o.gb,List.length_append];simp;omega) aT.o) (show ∀B∈aC,B<wr.heap.size from by obtain⟨gv',V',h⟩:=aL.o;exact h.low) hR aF.o aI.o bC.o bK.o bB.o bA.o;clear aA hR aF aI bC bK bB bA aT hV bI bU cQ aL;go_wp2_with (first|(go_at_call 108;refine cZ.o.mono ?_;rintro e w2⟨g2,rfl,aE,aO⟩;have dD:=Aa (Cv.new bJ aE dH.o);have cE:=Aa aO;clear aE aO)|(go_at_call 210;refine(cW.o _ cE.o _ dD.o).mono ?_;rintro e w3⟨⟨zz,rfl⟩,mb3,t3,aQ,aP,aS,aU⟩;have bS:=Aa aU;clear aU;have bM:=Aa aQ;have bL:=Aa aP;have aG:=Aa ((Mx.ofEx cE.o aC).trans aS);clear aQ aP aS))
      have dJ:=Aa (bG.o.step dA.o bL.o);have dO:=Aa (show ∀j,j<n->w3.cell? ⟨g9,j,none⟩=some (V1 b j) from fun j hj=>aG.o.cell (aY.o j hj) aX.o);have dL:=Aa (show g9 ∉ mb3 from fun h=>by
       rcases aG.o.mb g9 h with h1|h1
       .exact aX.o h1
       .have:=World.block_lt_of_cell? _ _ (aY.o 0 ac);dsimp only at this;omega)
      have dB:=Aa (show ∀y,y<n->Lg w3 mb3 n (t.R b y) (V1 b y) from fun y hy=>(bE.o y hy).mx aG.o);have cY:=Aa (cX.o.mx aG.o);have dG:=Aa (bF.o.trans aG.o);go_roundw
      case rel=>exact⟨x+1,mb3,t3,ac,by go_num,bM,dJ,dG,dO,dL,dB,cY,bS⟩
      case measure=>simp[intOf];omega
    .obtain rfl:x=n:=by omega
     have aN:=Aa (aF.o.fin aB HG.o HC.o HP.o HF.o (Nat.le_refl _));have dQ:=Aa (show QA x tc b from fun c hc bZ=>by
      by_cases e:c=b
      .subst e;have h1:=aZ.o c (Nat.le_refl _) bZ;have h2:=Ye HG.o aN.o.good aN.o.le dC.o aN.o.mem;rw[aF.o.gb,List.length_append];simp;omega
      .exact aT.o c ac bZ)
     clear aF aT;go_wp2_with fail
     ((try simp only[Exit.inBlock,Exit.then]);first|refine bodyPost_ret (results_none rfl _ _ _) rfl ?_|refine bodyPost_end (results_none rfl _ _ _) rfl ?_)
     exact⟨⟨_,rfl⟩,aC,tc,aL.o,aN.o,aI.o,dQ.o⟩
theorem UG{base n tb rb gb:Nat}{rr:Nat->Nat}(cF:1<=n)(hn:n<=64)(m:Nat)(hv:Ti base n tb rb gb rr m)(hi:WS base n tb rb gb rr m):Ti base n tb rb gb rr (m+1):=by
 intro w mb t q u b cG aC aQ hG hC hu hP hF aJ bE bF;have hnn:n*n<=4096:=Nat.mul_le_mul hn hn;have HV:=Aa hv;have HI:=Aa hi;obtain⟨gv,V,hM⟩:=aQ;obtain⟨HM,HG,HC,HU,HP,HF,dE,cO⟩:=On hM hG hC hu hP hF bF bE;obtain⟨ub,uo,uc,rfl,_,_,_,bJ⟩:=hu.at_;have bC:=hP.lt b aC;have d1:=bJ b aC;have c1:=hM.c1;have c3:=hM.ro b aC;have d3:=(hM.row b aC).cell bC;have aA:=hM.rep b (q b) aC bC;have i1:(0:Int)<=(b:Int):=ac;have i2:(b:Int)<(n:Int):=ac;have i3:(0:Int)<=(q b:Int):=ac;have i4:(q b:Int)<(n:Int):=ac
 cases hR:t.R b (q b) with
 | some r=>
  rw[hR]at aA;have aA:Cv w mb n (V b (q b)) r:=aA;obtain⟨vb,vo,vc,hV,_,_,_,_⟩:=aA.at_;obtain⟨_,_,bB,cE,cD⟩:=hG.rep _ _ _ hR;have cM:=Aa aA.sl;rw[hV]at d3 cM;obtain⟨cZ,bR,bU,cN,cU⟩:=Of (Jl w n r _ cM.o ac bB) (fun w1 (cP:Ex w w1) z hz=>F5 w1 n q (A8 n r) _ z (HU.o.sl.ex cP) hz ac hP.lt) hM.low (fun w2 (aD:Ex w w2) z (hz:Cv w2 mb n z (Ar q (A8 n r)))=>HI.o w2 mb t (Ar q (A8 n r)) z (b+1) (fun h=>by have:=muT_up (t:=t) h;omega) aC ⟨gv,V,HM.o.ex aD⟩ HG.o HC.o hz (hP.comp bB.inv) (hF.div bB cE cD) (Nat.le_trans aJ aD.size) dE.o) hR;have i5:IntKind.i64.wrap ((b:Int)+1)=(b:Int)+1:=IntWalk.i64_in _ ac;have aH:((b+1:Nat):Int)=(b:Int)+1:=by omega
  rw[aH]at cN;clear aA hR hV bB cE cD hG hC hu hP hF bF bE bJ hM hv hi aH cG;go_enter Tryz.func210,Tryz.ntmps210
  go_wp2_with (first|(go_at_call 109;refine cZ.o.mono ?_;rintro e w2⟨g2,rfl,aB,aD⟩;have dB:=Aa aB.li;have aM:=Aa aD;clear aB aD)|(go_at_call 108;refine(bR.o _ aM.o _ dB.o).mono ?_;rintro e w3⟨g3,rfl,aB,cA⟩;have dA:=Aa (Cv.new cF aB (fun B hB=>Nat.lt_of_lt_of_le (bU.o B hB) aM.o.size));have cJ:=Aa (aM.o.trans cA);clear aB cA)|(go_at_call 174;refine(cN.o _ cJ.o _ dA.o).mono ?_;rintro e w4⟨⟨zz,rfl⟩,mb4,t4,aO,aT,aR,aV⟩;have bP:=Aa aO;have bW:=Aa aT;have bT:=Aa ((Mx.ofEx cJ.o mb).trans aR);have bY:=Aa aV;clear aO aT aR aV))
  ((try simp only[Exit.inBlock,Exit.then]);first|refine bodyPost_ret (results_none rfl _ _ _) rfl ?_|refine bodyPost_end (results_none rfl _ _ _) rfl ?_)
  exact⟨⟨_,rfl⟩,mb4,t4,bP.o,bW.o.vis aC HG.o cU.o,bT.o,bY.o⟩
 | none=>
  rw[hR]at aA;have aA:V b (q b)= .slice none 0 0:=aA;rw[aA]at d3;have f3:=(hM.row b aC).frz (q b);obtain⟨cI,aI⟩:=hM.setRep aC bC HU.o;obtain⟨aZ,aL,cK,aX⟩:=Eq (show Ur (w.setCell ⟨rr b,q b,none⟩ (.slice (some ⟨ub,uo,none⟩) n uc)) base n tb rb gb rr mb (Lu t b (q b) q) from⟨_,_,cI⟩) aI (HU.o.mx aI) (Ol.start aC hG hC hP hF hR);have bA:=Aa (bF.mono aX.o.le fun _ _=>rfl);have cX:=Aa (show Sr n (Lu t b (q b) q) b<=m from by have:=Yi (q:=q) hR bC;omega);have dD:=Aa aJ;clear aA hR hG hC hu hP hF bF bE bJ hM hv hi cG cI aI aJ;go_enter Tryz.func210,Tryz.ntmps210
  go_wp2_with fail
  have cL:=Aa (show base<=(w.setCell ⟨rr b,q b,none⟩ (.slice (some ⟨ub,uo,none⟩) n uc)).heap.size from Nat.le_trans dD.o aL.o.size);generalize w.setCell ⟨rr b,q b,none⟩ (.slice (some ⟨ub,uo,none⟩) n uc)=w1 at *;clear d1 c1 c3 d3 f3
  go_loopw [7] (fun k' wr=>∃(k:Nat) (aE:List Nat) (tc:Tw),k<=(t.g b).length/\k'= .int .i64 k/\Hia (Ur wr base n tb rb gb rr aE tc)/\Hia (Ol n b q t tc k)/\Hia (RS (Lu t b (q b) q) tc)/\Hia (Mx mb aE w wr)/\Hia (Cv wr aE n (.slice (some ⟨ub,uo,none⟩) n uc) q)/\Hia (QA n tc (b+1))/\Hia (base<=wr.heap.size)) (fun k' _=>(t.g b).length-(intOf k').toNat)
  case atStart=>exact⟨0,mb,_,ac,rfl,aZ,aX,Aa (fun _ _ _ h=>h),aL,cK,bA,cL⟩
  case round=>
   clear aZ aX aL cK bA cL;obtain⟨k,aE,tc,hk,rfl,aQ,aF,bL,bK,bH,bM,aJ⟩:=hrel;obtain⟨gv,V,hM⟩:=aQ.o;obtain⟨vals,aG,bD⟩:=hM.gro b aC;rw[aF.o.gb]at aG bD;have c2:=hM.c2;have c4:=hM.go.cell aC;have bE:=cO.o;by_cases hkn:k<(t.g b).length
   .obtain⟨s,hs⟩:∃s,(t.g b)[k]?=some s:=⟨_,List.getElem?_eq_getElem hkn⟩;obtain⟨v,bG⟩:∃v,vals[k]?=some v:=⟨_,List.getElem?_eq_getElem (by have:=aG.1;omega)⟩;have bI:=bD k s v hs bG;obtain⟨sb,so,sc,rfl,_,_,_,_⟩:=bI.at_;obtain⟨cR,gc,aU,_,cQ⟩:=Fh aG ac;unfold maxLen at cQ;rw[aU]at aG c4;have d5:wr.cell? ⟨cR,k,none⟩=some (.slice (some ⟨sb,so,none⟩) n sc):=by
     rw[World.ownsRow.cellAt aG k ac];exact bG
    have i5:(0:Int)<=(k:Int):=ac;have i6:(k:Int)<((t.g b).length:Int):=ac;obtain⟨cB,cC⟩:=HG.o.gen b s (List.mem_of_getElem? hs);obtain⟨bR,bU,cS,aX,HS,cY,cW,cT,bX⟩:=Ty (F5 wr n q s _ _ bH.o.sl bI.sl ac HP.o.lt) hM.low (fun w2 (aD:Ex wr w2) z (hz:Cv w2 aE n z (Ar q s))=>HV.o w2 aE tc (Ar q s) z b (Nat.le_trans (Pj bL.o b) cX.o) aC ⟨gv,V,hM.ex aD⟩ aF.o.good aF.o.comp hz (HP.o.comp cB) (HF.o.comp cC) (Nat.le_trans aJ.o aD.size) (by rw[aF.o.gb];exact cO.o) bM.o) aF.o hs bL.o bK.o bH.o aJ.o;clear aF bL bK bH bM aJ hs bG bI aG bD cB cC aQ hM aU;go_wp2_with (first|(go_at_call 108;refine bR.o.mono ?_;rintro e w2⟨g2,rfl,aB,aD⟩;have cV:=Aa (Cv.new cF aB bU.o);have aM:=Aa aD;clear aB aD)|(go_at_call 210;refine(cS.o _ aM.o _ cV.o).mono ?_;rintro e w3⟨⟨zz,rfl⟩,mb3,t3,aP,aN,aS,aW⟩;have bQ:=Aa aP;have aY:=Aa aN;have aK:=Aa ((Mx.ofEx aM.o aE).trans aS);have bZ:=Aa aW;clear aP aN aS aW))
    obtain⟨bN,bV,bS,bO,dF⟩:=Of (aX.o.step HS.o aY.o) (cY.o.trans aY.o.le) (cW.o.trans aK.o) (cT.o.mx aK.o) (Nat.le_trans bX.o aK.o.size);go_roundw
    case rel=>exact⟨k+1,mb3,t3,ac,by go_num,bQ,bN,bV,bS,bO,bZ,dF⟩
    case measure=>simp[intOf];omega
   .obtain rfl:k=(t.g b).length:=by omega
    obtain⟨ga,gc,cH⟩:=Ad aG;rw[cH]at c4;have dC:=Aa (aF.o.fin aC HP.o (Nat.le_refl _));clear aF aG bD cH hM;go_wp2_with fail
    ((try simp only[Exit.inBlock,Exit.then]);first|refine bodyPost_ret (results_none rfl _ _ _) rfl ?_|refine bodyPost_end (results_none rfl _ _ _) rfl ?_)
    exact⟨⟨_,rfl⟩,aE,tc,aQ.o,dC.o,bK.o,bM.o⟩
theorem M6{base n tb rb gb:Nat}{rr:Nat->Nat}(aA:1<=n)(hn:n<=64):∀m,Ti base n tb rb gb rr m
 | 0=>fun w mb t q u b aB hb=>by
  have h1:1*(n+1)<=(n-b)*(n+1):=Nat.mul_le_mul_right _ ac;unfold Sr at aB;omega
 | m+1=>UG aA hn m (M6 aA hn m) (KC aA hn m (M6 aA hn m))
theorem Yz{base n tb rb gb:Nat}{rr:Nat->Nat}(aA:1<=n)(hn:n<=64)(m:Nat):WS base n tb rb gb rr m:=KC aA hn m (M6 aA hn m)
theorem Rk:(Tryz.prog.info? 37).map (fun i=>(i.zero,i.size,i.bytes))=some (some (.slice none 0 0),1,24):=ah
structure NT(w0 wr:World)(n tb rb gb b:Nat)(rr:Nat->Nat)(V:Nat->Nat->Value):Prop where
 c0:wr.cell? ⟨tb,0,none⟩=some (.int .i64 n)
 c1:wr.cell? ⟨tb,1,none⟩=some (.slice (some ⟨rb,0,none⟩) n n)
 c2:wr.cell? ⟨tb,2,none⟩=some (.slice (some ⟨gb,0,none⟩) n n)
 ro:AG wr w0.heap.size 37 rb n (fun c=>if c<b then .slice (some ⟨rr c,0,none⟩) n n else .slice none 0 0)
 row:∀c,c<b->AG wr w0.heap.size 22 (rr c) n (V c)
 nilv:∀c x,c<b->x<n->x≠c->V c x= .slice none 0 0
 idv:∀c,c<b->∃g,V c c= .slice (some ⟨g,0,none⟩) n n/\AG wr w0.heap.size 3 g n (iv fun i=>(EN i:Int))/\g≠gb/\g≠rb/\∀d,d<b->g≠rr d
 go:AG wr w0.heap.size 37 gb n (fun _=> .slice none 0 0)
 d1:tb≠rb/\tb≠gb/\rb≠gb
 d2:∀c,c<b->rr c≠tb/\rr c≠rb/\rr c≠gb
 d3:∀c d,c<b->d<b->rr c=rr d->c=d
 ex:Ex w0 wr
theorem NT.next{w0 wr w2 w4:World}{n tb rb gb b rx gi:Nat}{rr:Nat->Nat}{V:Nat->Nat->Value}(h:NT w0 wr n tb rb gb b rr V)(hb:b<n)
  (aB:Ex wr w2) (hr:AG w2 wr.heap.size 22 rx n (fun _=> .slice none 0 0))
  (aA:Ex (w2.setCell ⟨rb,b,none⟩ (.slice (some ⟨rx,0,none⟩) n n)) w4) (hi:AG w4 (w2.setCell ⟨rb,b,none⟩ (.slice (some ⟨rx,0,none⟩) n n)).heap.size 3 gi n (iv fun i=>(EN i:Int))):
  NT w0 (w4.setCell ⟨rx,b,none⟩ (.slice (some ⟨gi,0,none⟩) n n)) n tb rb gb (b+1) (Az rr b rx) (fun c=>if c=b then Az (fun _=> .slice none 0 0) b (.slice (some ⟨gi,0,none⟩) n n) else V c):=by
 have aG:(w2.setCell ⟨rb,b,none⟩ (.slice (some ⟨rx,0,none⟩) n n)).heap.size=w2.heap.size:=b8;have hrl:=hr.lt;have aL:=hi.lt;rw[aG]at aL;have hz2:=aB.size;have aJ:=h.ex.size;have aI:∀ {a:Addr} {u:Value},wr.cell? a=some u->a.block<wr.heap.size:=fun k=>World.block_lt_of_cell? _ _ k;have aK:=aI h.c0;have hrb:=h.ro.lt.2;have hgb:=h.go.lt.2;have aD:rx≠tb/\rx≠rb/\rx≠gb:=by dsimp only at aK;omega
 have aC:∀ {a:Addr} {u:Value},wr.cell? a=some u->a.block≠rb->(w4.setCell ⟨rx,b,none⟩ (.slice (some ⟨gi,0,none⟩) n n)).cell? a=some u:=fun {a u} k k2=>by
  have k3:=aI k;rw[World.cell?_setCell_other _ _ _ _ (by
    intro e;have:rx=a.block:=by rw[<-e]
    omega)]
  refine aA.cell ?_;rw[World.cell?_setCell_other _ _ _ _ (by intro e;exact k2 (by rw[<-e]))];exact aB.cell k
 have own:∀ {e:TypeId} {g m:Nat} {c:Nat->Value},AG wr w0.heap.size e g m c->g≠rb->AG (w4.setCell ⟨rx,b,none⟩ (.slice (some ⟨gi,0,none⟩) n n)) w0.heap.size e g m c:=fun {e g m c} k k2=>by
  have k3:=k.lt.2;exact(((k.ex aB).other (a:=⟨rb,b,none⟩) k2 _).ex aA).other (a:=⟨rx,b,none⟩) (by show g≠rx;omega) _
 have aE:AG w4 w0.heap.size 22 rx n (fun _=> .slice none 0 0):=((hr.other (a:=⟨rb,b,none⟩) aD.2.1 _).ex aA).mono aJ;have aM:Ex w0 w4:=((h.ex.trans aB).setCell (p:=⟨rb,b,none⟩) h.ro.lt.1 _).trans aA;refine⟨aC h.c0 h.d1.1,aC h.c1 h.d1.1,aC h.c2 h.d1.1,?_,fun c hc=>?_,fun c x hc hx aF=>?_,fun c hc=>?_,own h.go (Ne.symm h.d1.2.2),h.d1,fun c hc=>?_,fun c d hc hd e=>?_,aE.exSet (Nat.le_refl _) aM b _⟩
 .have k:=(((h.ro.ex aB).set b (.slice (some ⟨rx,0,none⟩) n n)).ex aA).other (a:=⟨rx,b,none⟩) (by show rb≠rx;exact Ne.symm aD.2.1) (.slice (some ⟨gi,0,none⟩) n n);refine k.congr fun j hj=>?_;unfold Az;dsimp only;by_cases e:j=b
  .subst e;rw[if_pos rfl,if_pos ac,if_pos rfl]
  .rw[if_neg e,if_neg e];by_cases e2:j<b
   .rw[if_pos e2,if_pos ac]
   .rw[if_neg e2,if_neg ac]
 .by_cases e:c=b
  .subst e;rw[Ab,if_pos rfl];exact aE.set c _
  .rw[Ae _ _ e,if_neg e];exact own (h.row c ac) (h.d2 c ac).2.1
 .show(if c=b then Az (fun _=> .slice none 0 0) b (.slice (some ⟨gi,0,none⟩) n n) else V c) x=_
  by_cases e:c=b
  .subst e;rw[if_pos rfl,Ae _ _ aF]
  .rw[if_neg e];exact h.nilv c x ac hx aF
 .show ∃g,(if c=b then Az (fun _=> .slice none 0 0) b (.slice (some ⟨gi,0,none⟩) n n) else V c) c=_/\_
  have aH:gi≠rx:=ac;by_cases e:c=b
  .subst e;rw[if_pos rfl,Ab];refine⟨gi,rfl,(hi.mono (by rw[aG];omega)).other (a:=⟨rx,c,none⟩) aH _,ac,ac,fun d hd=>?_⟩;unfold Az;split
   .exact aH
   .have:=(h.row d ac).lt.2;omega
  .rw[if_neg e];obtain⟨g,g1,g2,g3,g4,g5⟩:=h.idv c ac;refine⟨g,g1,own g2 g4,g3,g4,fun d hd=>?_⟩;unfold Az;split
   .have:=g2.lt.2;omega
   .exact g5 d ac
 .unfold Az;split
  .exact aD
  .exact h.d2 c ac
 .unfold Az at e;split at e <;> split at e
  .omega
  .have:=(h.row d ac).lt.2;omega
  .have:=(h.row c ac).lt.2;omega
  .exact h.d3 c d ac ac e
theorem NT.fin{w0 wr:World}{n tb rb gb:Nat}{rr:Nat->Nat}{V:Nat->Nat->Value}(hn:1<=n)(h:NT w0 wr n tb rb gb n rr V):∃mb,RJ wr w0.heap.size n tb rb gb rr (fun _=> .slice none 0 0) V mb (Nw n):=by
 have aA:∀B,B∈gb :: (List.range n).map rr↔B=gb∨∃c,c<n/\rr c=B:=fun B=>by
  rw[List.mem_cons,List.mem_map];simp only[List.mem_range]
 refine⟨gb :: (List.range n).map rr,h.c0,h.c1,h.c2,fun hm=>?_,fun b hb=>?_,fun hm=>?_,h.row,fun b x hb hx=>?_,h.go,fun b hb=>⟨[],World.ownsRow_nil _ _ _ _,fun i f u h1=>by simp[Nw]at h1⟩,(aA gb).2 (.inl rfl),fun b hb=>(aA _).2 (.inr ⟨b,hb,rfl⟩),fun b B hb e=>(by cases e),fun b hb=>Ne.symm (h.d2 b hb).2.2,h.d3,fun b c B hb hc e=>(by cases e),fun B hB=>?_⟩
 .rcases (aA tb).1 hm with e|⟨c,hc,e⟩
  .exact h.d1.2.1 e
  .exact(h.d2 c hc).1 e
 .have:=h.ro.cell hb;rw[this,if_pos hb]
 .rcases (aA rb).1 hm with e|⟨c,hc,e⟩
  .exact h.d1.2.2 e
  .exact(h.d2 c hc).2.1 e
 .show Lg wr _ n (if b<n/\x=b then some EN else none) (V b x)
  by_cases e:x=b
  .subst e;rw[if_pos ⟨hb,rfl⟩];obtain⟨g,g1,g2,g3,g4,g5⟩:=h.idv x hb;rw[g1];exact Cv.of g2.li hn fun B e=>by
    injection e with e;have e:g=B:=e;subst e;intro hm;rcases (aA g).1 hm with e|⟨c,hc,e⟩
    .exact g3 e
    .exact g5 c hc e.symm
  .rw[if_neg (fun h=>e h.2)];exact h.nilv b x hb hx e
 .rcases (aA B).1 hB with e|⟨c,hc,e⟩
  .subst e;exact h.go.lt
  .subst e;exact(h.row c hc).lt
theorem NT.start{w a c:World}{n rb gb:Nat}(aB:Ex w a)(aA:Ex a c)(hr:AG c w.heap.size 37 rb n (fun _=> .slice none 0 0))(hg:AG c w.heap.size 37 gb n (fun _=> .slice none 0 0))(aC:rb≠gb):
  NT w (c.alloc (.cells #[.int .i64 n,.slice (some ⟨rb,0,none⟩) n n,.slice (some ⟨gb,0,none⟩) n n] 243)) n c.heap.size rb gb 0 (fun _=>0) (fun _ _=> .slice none 0 0):=by
 have h1:=hr.lt.2;have h2:=hg.lt.2;refine⟨ag,ag,ag,(hr.alloc _).congr fun j hj=>by rw[if_neg ac],fun c hc=>ac,fun c x hc=>ac,fun c hc=>ac,hg.alloc _,⟨ac,ac,aC⟩,fun c hc=>ac,fun c d hc=>ac,(aB.trans aA).alloc _⟩
theorem Nv(w:World)(n:Nat)(aK:1<=n)(hn:n<=64):
  Calls Tryz.prog 173 #[.int .i64 n] w fun r w'=>∃tb rb gb rr mb,r= .returned (.pointer (some ⟨tb,0,none⟩))/\Ur w' w.heap.size n tb rb gb rr mb (Nw n)/\Ex w w':=by
 go_enter Tryz.func173,Tryz.ntmps173
 go_upto_region 1 with fail
 go_cut [3] from 5 to 12 (fun s3 wx=>∃tb rb gb,s3= .pointer (some ⟨tb,0,none⟩)/\Hia (NT w wx n tb rb gb 0 (fun _=>0) (fun _ _=> .slice none 0 0)))
 case first=>
  have H0:Hia True:=trivial
  go_region_held3 (fun w'=>True) (exact trivial)
   ((refine EW 241 37 (.slice none 0 0) 24 Tryz.underlying241 Rk rfl n ac ai ?_;intro wm aA hx;(first|(clear H0;have O1:=Aa aA;have X1:=Aa hx;clear aA hx)|(have O2:=Aa aA;have X2:=Aa hx;clear aA hx));go_simp))
  all_goals
   have Y1:=((Ex.refl w).drew).trans X1.o;have L1:=O1.o.lt.2;have P1:=O1.o.ex X2.o;have P2:=O2.o.mono (Y1.size);go_wp2_with fail
   go_meet
   first
      | exact⟨_,_,_,rfl,Aa (NT.start Y1 X2.o P1 P2 (by show w.heap.size≠_;have:=Y1.size;have h9:w.heap.size<_:=L1;omega))⟩
      | exact⟨_,_,_,rfl,Aa (NT.start Y1 X2.o P2 P1 (by show _≠w.heap.size;have:=Y1.size;have h9:w.heap.size<_:=L1;omega))⟩
 case rest=>
  obtain⟨tb,rb,gb,rfl,aB⟩:=hcut;go_wp2_with fail
  go_loopw [13] (fun b' wr=>∃(b:Nat) (rr:Nat->Nat) (V:Nat->Nat->Value),b<=n/\b'= .int .i64 b/\Hia (NT w wr n tb rb gb b rr V)) (fun b' _=>n-(intOf b').toNat)
  case atStart=>exact⟨0,_,_,ac,rfl,aB⟩
  case round=>
   clear aB;obtain⟨b,rr,V,hb,rfl,aB⟩:=hrel;by_cases hbn:b<n
   .have c1:=aB.o.c1;have c3:wr.cell? ⟨rb,b,none⟩=some (.slice none 0 0):=by rw[aB.o.ro.cell hbn,if_neg ac]
    have f3:=aB.o.ro.frz b;have i1:(0:Int)<=(b:Int):=ac;have i2:(b:Int)<(n:Int):=ac;have E0:Ex wr wr.drew:=(Ex.refl wr).drew;go_upto_region 5 with fail
    go_cut [4] from 16 to 24 (fun s4 wx=>s4= .int .i64 b/\Hia (∃rx w2,wx=w2.setCell ⟨rb,b,none⟩ (.slice (some ⟨rx,0,none⟩) n n)/\Ex wr w2/\AG w2 wr.heap.size 22 rx n (fun _=> .slice none 0 0)))
    case first=>
     go_region_with (refine EW 37 22 (.slice none 0 0) 24 Tryz.underlying37 BH rfl n ac ai ?_;intro wm aA hx;have E1:=E0.trans hx;have aE:=Aa aA;have k1:=E1.cell c1;have k3:=E1.cell c3;have g3:=E1.frz c3 f3;clear aA;go_simp)
     all_goals
      go_wp2_with fail
      go_meet
      exact⟨rfl,Aa ⟨wr.heap.size,wm,rfl,E1,aE.o⟩⟩
    case rest=>
     obtain⟨rfl,aF⟩:=hcut;obtain⟨rx,w2,rfl,aC,hr⟩:=aF.o;have aL:=Aa aC;have HR:=Aa hr;have aM:=Aa aB.o;have hrx:=hr.lt;have aJ:rx≠rb:=by have:=aB.o.ro.lt.2;omega
     have c1:=aC.cell c1;have c6:(w2.setCell ⟨rb,b,none⟩ (.slice (some ⟨rx,0,none⟩) n n)).cell? ⟨tb,1,none⟩=some (.slice (some ⟨rb,0,none⟩) n n):=by
      rw[World.cell?_setCell_other _ _ _ _ (by intro e;exact aB.o.d1.1 (by injection e with e;exact e.symm))];exact c1
     have c7:(w2.setCell ⟨rb,b,none⟩ (.slice (some ⟨rx,0,none⟩) n n)).cell? ⟨rb,b,none⟩=some (.slice (some ⟨rx,0,none⟩) n n):=by
      rw[((aB.o.ro.ex aC).set b _).cell hbn,Ab]
     have aD:=hr.other (a:=⟨rb,b,none⟩) aJ (.slice (some ⟨rx,0,none⟩) n n);have c8:=aD.cell hbn;have f8:=aD.frz b;clear aF aC hr c1 c3 f3 E0;generalize hW3:w2.setCell ⟨rb,b,none⟩ (.slice (some ⟨rx,0,none⟩) n n)=w3 at *;have aG:=Aa hW3;have E0:Ex w3 w3.drew:=(Ex.refl w3).drew;have aN:=Aa (fun w4=>NO w4 n ac);clear hW3;go_wp2_with fail
     go_region_with (go_at_call 102;(with_reducible refine(aN.o _).mono ?_);rintro e wx1⟨gi,rfl,aA,aI⟩;have E1:=E0.trans aI;have aE:=Aa aA;have k6:=E1.cell c6;have k7:=E1.cell c7;have k8:=E1.cell c8;have g8:=E1.frz c8 f8;clear aA)
     all_goals
      have aH:=Aa (aM.o.next (gi:=gi) (w4:=wx1) hbn aL.o HR.o (by rw[aG.o];exact E1) (by rw[aG.o];exact aE.o));clear c6 c7 c8 f8 k6 k7 k8 g8 aD;go_wp2_with fail
      go_roundw
      case rel=>first|exact⟨b+1,_,_,ac,by go_num,aH⟩|((repeat apply Exists.intro);exact⟨⟨b+1,_,_,ac,by go_num,aH⟩,rfl⟩)
      case measure=>simp[intOf];omega
   .obtain rfl:b=n:=by omega
    have aO:=Aa (aB.o.fin aK);have HX:=Aa aB.o.ex;clear aB;go_wp2_with fail
    go_ret;obtain⟨mb,hm⟩:=aO.o;exact⟨tb,rb,gb,rr,mb,rfl,⟨_,_,hm⟩,HX.o⟩
end Go.Proofs.YtehieobniamagaaGreat
