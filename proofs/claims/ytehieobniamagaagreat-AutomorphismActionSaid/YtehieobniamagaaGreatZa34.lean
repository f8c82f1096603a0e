/- Plain: sifting through the canonical chain; the chain of the representatives from a level on. -/
import Derived.Test.YtehieobniamagaaGreatZa33
namespace Go.Proofs.YtehieobniamagaaGreat
open Go.RowKit
set_option linter.all false
set_option maxRecDepth 100000
set_option maxHeartbeats 8000000
theorem RG{P:(Nat->Nat)->Prop}(h:∃f,P f)(n:Nat):∃f,P f/\∀g,P g->DW n f g:=by
 have aC:∀i,∃f,P f/\∀g,P g->(∀j,j<i->f j=g j)∨∃k,k<i/\(∀j,j<k->f j=g j)/\f k<g k:=by
  intro i
  induction i with
  | zero=>
   obtain⟨f,hf⟩:=h;exact⟨f,hf,fun g _=> .inl fun j hj=>ac⟩
  | succ i ih=>
   obtain⟨f,hf,hl⟩:=ih;have aA:∀N f',P f'->(∀j,j<i->f j=f' j)->f' i<=N->∃aB,P aB/\(∀j,j<i->f j=aB j)/\∀g,P g->(∀j,j<i->f j=g j)->aB i<=g i:=by
    intro N
    induction N with
    | zero=>exact fun f' h1 h2 h3=>⟨f',h1,h2,fun g _ _=>ac⟩
    | succ N ihN=>
     intro f' h1 h2 h3;by_cases hex:∃g,P g/\(∀j,j<i->f j=g j)/\g i<=N
     .obtain⟨g,g1,g2,g3⟩:=hex;exact ihN g g1 g2 g3
     .refine⟨f',h1,h2,fun g g1 g2=>?_⟩;apply Classical.byContradiction;intro hn;exact hex ⟨g,g1,g2,ac⟩
   obtain⟨f',h1,h2,h3⟩:=aA (f i) f hf (fun _ _=>rfl) (Nat.le_refl _);refine⟨f',h1,fun g hg=>?_⟩;rcases hl g hg with h4|⟨k,k1,k2,k3⟩
   .have h5:=h3 g hg h4;by_cases e:f' i=g i
    .exact .inl fun j hj=>by
      by_cases e2:j=i
      .subst e2;exact e
      .rw[<-h2 j ac,h4 j ac]
    .exact .inr ⟨i,ac,fun j hj=>by rw[<-h2 j hj,h4 j hj],ac⟩
   .exact .inr ⟨k,ac,fun j hj=>by rw[<-h2 j ac,k2 j hj],by rw[<-h2 k k1];exact k3⟩
 obtain⟨f,hf,hl⟩:=aC n;exact⟨f,hf,hl⟩
open Classical in
theorem DI {S:List (Nat->Nat)} {b m x:Nat}:x∈Be S b m↔x<m/\∃f,Gn S f/\AY b f/\f b=x:=by
 unfold Be;rw[List.mem_filter,List.mem_range,decide_eq_true_eq]
theorem Gm{n:Nat}{S:List (Nat->Nat)}(hS:∀s∈S,A7 n s){b x:Nat}(h:∃f,Gn S f/\AY b f/\f b=x):DQ n S b x (FX n S b x):=by
 obtain⟨f,⟨h1,h2,h3⟩,h4⟩:=RG (P:=fun f=>Gn S f/\AY b f/\f b=x) h n;have hl:DQ n S b x f:=⟨h1,h2,h3,fun g k1 k2 k3=>h4 g ⟨k1,k2,k3⟩⟩;rw[IG hS hl];exact hl
inductive J6(n:Nat)(S:List (Nat->Nat)):Nat->List Nat->Prop
 | nil:J6 n S n []
  | skip {b:Nat} {bs:List Nat}:b<n->(Be S b n).length<=1->J6 n S (b+1) bs->J6 n S b bs
 | cons {b:Nat} {bs:List Nat}:b<n->1<(Be S b n).length->J6 n S (b+1) bs->J6 n S b (b :: bs)
theorem J6.le{n:Nat}{S:List (Nat->Nat)}{b:Nat}{bs:List Nat}(h:J6 n S b bs):b<=n:=by
 cases h <;> omega
theorem J6.ge{n:Nat}{S:List (Nat->Nat)}{b:Nat}{bs:List Nat}(h:J6 n S b bs):∀c∈bs,b<=c/\c<n:=by
 induction h with
 | nil=>intro c hc;cases hc
 | skip h1 _ _ ih=>intro c hc;have:=ih c hc;omega
 | cons h1 _ _ ih=>
  intro c hc;rcases List.mem_cons.1 hc with e|e
  .subst e;omega
  .have:=ih c e;omega
noncomputable def Dx(n:Nat)(S:List (Nat->Nat))(k:Nat):List Nat:=((List.range k).map fun i=>n-k+i).filter fun b=>decide (1<(Be S b n).length)
theorem Sv(n:Nat)(S:List (Nat->Nat)):∀k,k<=n->J6 n S (n-k) (Dx n S k)
 | 0,_=>by
  rw[Nat.sub_zero];exact .nil
 | k+1,hk=>by
  have ih:=Sv n S k ac;have he:((List.range (k+1)).map fun i=>n-(k+1)+i)=(n-(k+1)) :: ((List.range k).map fun i=>n-k+i):=by
   rw[List.range_succ_eq_map,List.map_cons,List.map_map]
   congr 1
   exact List.map_congr_left fun i _=>by show n-(k+1)+(i+1)=n-k+i;omega
  have hb:n-k=n-(k+1)+1:=ac;rw[hb]at ih;by_cases h:1<(Be S (n-(k+1)) n).length
  .have:Dx n S (k+1)=(n-(k+1)) :: Dx n S k:=by
    unfold Dx;rw[he,List.filter_cons,if_pos (decide_eq_true h)]
   rw[this];exact .cons ac h ih
  .have:Dx n S (k+1)=Dx n S k:=by
    unfold Dx;rw[he,List.filter_cons,if_neg ay]
   rw[this];exact .skip ac ac ih
noncomputable def Nq(n:Nat)(S:List (Nat->Nat)):List Nat:=(List.range n).filter fun b=>decide (1<(Be S b n).length)
theorem P7(n:Nat)(S:List (Nat->Nat)):J6 n S 0 (Nq n S):=by
 have h:=Sv n S n (Nat.le_refl _);rw[Nat.sub_self]at h;have:Dx n S n=Nq n S:=by
  unfold Dx Nq
  congr 1
  rw[Nat.sub_self];simp
 rwa[this]at h
theorem JW(n:Nat)(S:List (Nat->Nat)):Cd n S n=(Nq n S).map (E9 n S):=by
 unfold Cd Nq;rw[List.filter_map]
 congr 1
 apply List.filter_congr;intro b _;show decide (1<(CZ (Be S b n)).length)=_
 rw[Cc]
theorem Vv{n:Nat}{S:List (Nat->Nat)}{b:Nat}(hb:b<n)(h:(Be S b n).length<=1){f:Nat->Nat}(hf:Gn S f)(hP:A7 n f)(hF:AY b f):AY (b+1) f:=fun i hi=>by
 by_cases e:i=b
 .subst e;have h1:i∈Be S i n:=DI.2 ⟨hb,DY,.one,JJ _,rfl⟩;have h2:f i∈Be S i n:=DI.2 ⟨hP.lt i hb,f,hf,hF,rfl⟩;obtain⟨j,hj,e1⟩:=List.getElem_of_mem h1;obtain⟨k,hk,e2⟩:=List.getElem_of_mem h2;have:j=k:=by omega
  subst this;rw[<-e2,e1]
 .exact hF i ac
noncomputable def Xa(n:Nat)(S:List (Nat->Nat)):List Nat->(Nat->Nat)->Nat->(Nat->Nat) × Nat
 | [],f,k=>(f,k)
 | b :: bs,f,k=>if f b∈Be S b n then Xa n S bs (An f (AW n (FX n S b (f b)))) (k+1) else(f,k)
noncomputable def BJ(n:Nat)(S:List (Nat->Nat))(bs:List Nat):List (Nat->Nat):=bs.flatMap fun b=>(Be S b n).map (FX n S b)
theorem K3(n:Nat)(S:List (Nat->Nat))(bs:List Nat):A6 (bs.map (E9 n S))=(BJ n S bs).map (li n):=by
 unfold A6 BJ;rw[List.flatMap_map,List.map_flatMap]
 congr 1
 funext b;show Dk n S b n=_
 unfold Dk;rw[List.map_map];rfl
theorem KE{n:Nat}{S:List (Nat->Nat)}(hS:∀s∈S,A7 n s){bs:List Nat}{r:Nat->Nat}(h:r∈BJ n S bs):∃b∈bs,Gn S r/\AY b r:=by
 unfold BJ at h;obtain⟨b,hb,h1⟩:=List.mem_flatMap.1 h;obtain⟨x,hx,rfl⟩:=List.mem_map.1 h1;have:=Gm hS (DI.1 hx).2;exact⟨b,hb,this.gn,this.fix⟩
theorem Gf{n:Nat}{S:List (Nat->Nat)}(hS:∀s∈S,A7 n s)(bs:List Nat):∀r∈BJ n S bs,A7 n r:=fun r hr=>by
 obtain⟨_,_,h,_⟩:=KE hS hr;exact h.isP hS
theorem Rh{n:Nat}{S:List (Nat->Nat)}(hS:∀s∈S,A7 n s){b:Nat}(hb:b<n){f:Nat->Nat}(hf:Gn S f)(hF:AY b f):
  f b∈Be S b n/\Gn S (An f (AW n (FX n S b (f b))))/\AY (b+1) (An f (AW n (FX n S b (f b))))/\An (An f (AW n (FX n S b (f b)))) (FX n S b (f b))=f:=by
 have hP:=hf.isP hS;have hm:f b∈Be S b n:=DI.2 ⟨hP.lt b hb,f,hf,hF,rfl⟩;have hl:=Gm hS (DI.1 hm).2;have aA:=hl.gn.isP hS;exact⟨hm,hf.mul (hl.gn.inv hS),hF.div aA hl.fix hl.at_,aA.cancel⟩
theorem Sy{n:Nat}{S:List (Nat->Nat)}(hS:∀s∈S,A7 n s){b:Nat}{bs:List Nat}(h:J6 n S b bs):∀(f:Nat->Nat) (k:Nat),Gn S f->AY b f->Xa n S bs f k=(DY,k+bs.length)/\Gn (BJ n S bs) f:=by
 induction h with
 | nil=>
  intro f k hf hF;have:=AY.all (hf.isP hS) hF;subst this;exact⟨rfl,.one⟩
 | skip h1 h2 _ ih=>exact fun f k hf hF=>ih f k hf (Vv h1 h2 hf (hf.isP hS) hF)
 | @cons b bs h1 h2 _ ih=>
  intro f k hf hF;obtain⟨k1,k2,k3,k4⟩:=Rh hS h1 hf hF;obtain⟨m1,m2⟩:=ih _ (k+1) k2 k3;constructor
  .unfold Xa;rw[if_pos k1,m1,List.length_cons,show k+1+bs.length=k+(bs.length+1) by omega]
  .rw[<-k4];refine Gn.mul (m2.mono fun s hs=>Gn.of ?_) (Gn.of ?_)
   .unfold BJ at hs ⊢;rw[List.flatMap_cons];exact List.mem_append_right _ hs
   .unfold BJ;rw[List.flatMap_cons];exact List.mem_append_left _ (List.mem_map.2 ⟨_,k1,rfl⟩)
theorem DH{n:Nat}{S:List (Nat->Nat)}(hS:∀s∈S,A7 n s){b:Nat}{bs:List Nat}(h:J6 n S b bs)(f:Nat->Nat):Gn (BJ n S bs) f↔Gn S f/\AY b f:=by
 constructor
 .intro hf
  induction hf with
  | one=>exact⟨.one,JJ _⟩
  | step _ hs ih=>
   obtain⟨c,hc,h1,h2⟩:=KE hS hs;have:=h.ge c hc;exact⟨ih.1.mul h1,ih.2.comp fun i hi=>h2 i ac⟩
 .rintro⟨h1,h2⟩;exact(Sy hS h f 0 h1 h2).2
open Classical in
theorem Hj {n:Nat} {S:List (Nat->Nat)} (hS:∀s∈S,A7 n s) {b:Nat} {bs:List Nat} (h:J6 n S b bs) {c:Nat} (hc:b<=c) (m:Nat):Be (BJ n S bs) c m=Be S c m:=by
 unfold Be;apply List.filter_congr;intro x _;rw[decide_eq_decide];constructor
 .rintro⟨f,h1,h2,h3⟩;exact⟨f,((DH hS h f).1 h1).1,h2,h3⟩
 .rintro⟨f,h1,h2,h3⟩;exact⟨f,(DH hS h f).2 ⟨h1,fun i hi=>h2 i ac⟩,h2,h3⟩
theorem S7{n:Nat}{S:List (Nat->Nat)}(hS:∀s∈S,A7 n s){b:Nat}{bs:List Nat}(h:J6 n S b bs){c:Nat}(hc:c<b):(Be (BJ n S bs) c n).length<=1:=by
 have aA:∀x∈Be (BJ n S bs) c n,x=c:=fun x hx=>by
  obtain⟨_,f,h1,_,h3⟩:=DI.1 hx;rw[<-h3];exact((DH hS h f).1 h1).2 c hc
 have aB:(Be (BJ n S bs) c n).Nodup:=List.Nodup.sublist List.filter_sublist List.nodup_range
 match hq:Be (BJ n S bs) c n with
 | []=>simp
 | [x]=>simp
 | x :: y :: q=>
  exfalso;rw[hq]at aB aA;have h1:=aA x ag;have h2:=aA y ag;rw[h1,h2]at aB;simp at aB
theorem RH{n:Nat}{S:List (Nat->Nat)}(hS:∀s∈S,A7 n s){b:Nat}{bs:List Nat}(h:J6 n S b bs){c:Nat}(hc:b<=c):E9 n (BJ n S bs) c=E9 n S c:=by
 have hL:∀x,x∈Be S c n->FX n (BJ n S bs) c x=FX n S c x:=fun x hx=>by
  have hl:=Gm hS (DI.1 hx).2;refine IG (Gf hS bs) ⟨(DH hS h _).2 ⟨hl.gn,fun i hi=>hl.fix i ac⟩,hl.fix,hl.at_,fun g h1 h2 h3=>hl.le g ((DH hS h g).1 h1).1 h2 h3⟩
 unfold E9 Dk;rw[Hj hS h hc]
 congr 1
 exact List.map_congr_left fun x hx=>by rw[hL x hx]
theorem Up{n:Nat}{S:List (Nat->Nat)}(hS:∀s∈S,A7 n s){b:Nat}{bs:List Nat}(h:J6 n S b bs):Cd n (BJ n S bs) n=bs.map (E9 n S):=by
 rw[JW];have aA:∀ {b':Nat} {bs':List Nat},J6 n S b' bs'->b<=b'->∀bs'',J6 n (BJ n S bs) b' bs''->bs''=bs':=by
  intro b' bs' h'
  induction h' with
  | nil=>
   intro hb bs'' h2
   cases h2 with
   | nil=>rfl
   | skip h _ _=>omega
   | cons h _ _=>omega
  | skip h1 h2 _ ih=>
   intro hb bs'' h3
   cases h3 with
   | nil=>omega
   | skip k1 k2 k3=>exact ih ac _ k3
   | cons k1 k2 k3=>rw[Hj hS h hb]at k2;omega
  | cons h1 h2 _ ih=>
   intro hb bs'' h3
   cases h3 with
   | nil=>omega
   | skip k1 k2 k3=>rw[Hj hS h hb]at k2;omega
   | cons k1 k2 k3=>rw[ih ac _ k3]
 have low:∀d c,c+d=b->∀bs'',J6 n (BJ n S bs) c bs''->J6 n (BJ n S bs) b bs'':=by
  intro d
  induction d with
  | zero=>intro c hc bs'' h2;rw[<-hc];exact h2
  | succ d ih=>
   intro c hc bs'' h2;have hle:=h.le
   cases h2 with
   | nil=>omega
   | skip k1 k2 k3=>exact ih (c+1) ac bs'' k3
   | cons k1 k2 k3=>have:=S7 hS h (c:=c) ac;omega
 rw[aA h (Nat.le_refl _) _ (low b 0 ac _ (P7 n _))];exact List.map_congr_left fun c hc=>RH hS h (h.ge c hc).1
theorem Wm{n:Nat}{S:List (Nat->Nat)}(h1:1<=n)(h2:n<=64)(hS:∀s∈S,A7 n s){b:Nat}{bs:List Nat}(h:J6 n S b bs):A9 n (bs.map (E9 n S))=0:=by
 unfold A9;rw[if_neg ac];refine if_pos ⟨?_,?_⟩
 .rw[K3];exact V6 h1 h2 (Gf hS bs)
 .rw[K3,IF (Gf hS bs)];exact(Up hS h).symm
theorem QV{d:Int}{L:List Lv}(h:A9 d L=0):∃n:Nat,d=n/\1<=n/\n<=64/\∃S:List (Nat->Nat),(∀s∈S,A7 n s)/\A6 L=S.map (li n)/\L=(Nq n S).map (E9 n S):=by
 unfold A9 at h;split at h
 .cases h
 .split at h
  .rename_i h1 h2;obtain⟨N,rfl,h3,h4,S,h5,h6⟩:=IT h2.1;refine⟨N,rfl,h3,h4,S,h6,h5,?_⟩;rw[<-JW];have:=h2.2
   rwa[h5,IF h6]at this
  .cases h
def Bl:Nat:=4294967296
theorem GR:0<Bl:=ae
def vS(f:Nat->Nat):Nat->Nat
 | 0=>0
 | n+1=>vS f n+f n*Bl^n
theorem Gx{f g:Nat->Nat}:∀ {n},(∀k,k<n->f k=g k)->vS f n=vS g n
 | 0,_=>rfl
 | n+1,h=>by unfold vS;rw[Gx fun k hk=>h k (by omega),h n (by omega)]
theorem M7{f:Nat->Nat}:∀n,(∀k,k<n->f k<Bl)->vS f n<Bl^n
 | 0,_=>by unfold vS;decide
 | n+1,h=>by
  have h1:=M7 n fun k hk=>h k ac;have h2:f n+1<=Bl:=h n ac;have h3:=Nat.mul_le_mul_right (Bl^n) h2;rw[Nat.add_mul,Nat.one_mul]at h3;unfold vS;rw[Nat.pow_succ,Nat.mul_comm (Bl^n) Bl];omega
theorem OL{f:Nat->Nat}{j x:Nat}:∀ {n},j<n->vS (Ax f j x) n+f j*Bl^j=vS f n+x*Bl^j
 | 0,h=>by omega
 | n+1,h=>by
  by_cases e:j=n
  .subst e;unfold vS;have h1:vS (Ax f j x) j=vS f j:=Gx fun k hk=>by unfold Ax;rw[if_neg ac]
   have h2:Ax f j x j=x:=by unfold Ax;rw[if_pos rfl]
   rw[h1,h2];omega
  .have h1:=OL (f:=f) (x:=x) (n:=n) (j:=j) ac;have h2:Ax f j x n=f n:=by unfold Ax;rw[if_neg ac]
   unfold vS;rw[h2];omega
theorem Lq{f:Nat->Nat}:∀ {n m},m<=n->(∀k,m<=k->k<n->f k=0)->vS f n=vS f m
 | 0,m,h,_=>by rw[show m=0 by omega]
 | n+1,m,h,h0=>by
  by_cases e:m=n+1
  .rw[e]
  .show vS f n+f n*Bl^n=vS f m
   rw[h0 n (by omega) (by omega),Nat.zero_mul,Nat.add_zero];exact Lq (by omega) fun k h1 h2=>h0 k h1 (by omega)
structure H6(n:Nat)(f:Nat->Nat):Prop where
 lt:∀k,k<n->f k<Bl
 top:∀m,n=m+1->f m≠0
theorem H6.ge{m:Nat}{f:Nat->Nat}(h:H6 (m+1) f):Bl^m<=vS f (m+1):=by
 have h1:1<=f m:=Nat.one_le_iff_ne_zero.2 (h.top m rfl);have:=Nat.mul_le_mul_right (Bl^m) h1;unfold vS;omega
theorem H6.len{n m:Nat}{f:Nat->Nat}(h:H6 n f)(hv:vS f n<Bl^m):n<=m:=by
 cases n with
 | zero=>omega
 | succ k=>
  have h1:=h.ge;have h2:Bl^k<Bl^m:=ac;have:=(Nat.pow_lt_pow_iff_right (by decide:1<Bl)).1 h2;omega
theorem zcb{P:Prop}(h:P:=by
 have:=Nat.mul_le_mul_right (Bl^n) h3;rw[Nat.add_mul,Nat.one_mul]at this;omega):P:=h
theorem So{f g:Nat->Nat}:∀n,(∀k,k<n->f k<Bl)->(∀k,k<n->g k<Bl)->vS f n=vS g n->∀k,k<n->f k=g k
 | 0,_,_,_,k,hk=>by omega
 | n+1,hf,hg,h,k,hk=>by
  have h1:=M7 n fun k hk=>hf k ac;have h2:=M7 n fun k hk=>hg k ac;unfold vS at h;have e:f n=g n:=by
   apply Classical.byContradiction;intro aA;rcases Nat.lt_or_gt_of_ne aA with h3|h3
   .have h3:f n+1<=g n:=h3;exact zcb
   .have h3:g n+1<=f n:=h3;exact zcb
  by_cases e2:k=n
  .subst e2;exact e
  .rw[e]at h;exact So n (fun k hk=>hf k ac) (fun k hk=>hg k ac) ac k ac
theorem H6.uniq{n m:Nat}{f g:Nat->Nat}(hf:H6 n f)(hg:H6 m g)(h:vS f n=vS g m):n=m/\∀k,k<n->f k=g k:=by
 have h1:n<=m:=hf.len (by rw[h];exact M7 m hg.lt);have h2:m<=n:=hg.len (by rw[<-h];exact M7 n hf.lt);have e:n=m:=by omega
 subst e;exact⟨rfl,So n hf.lt hg.lt h⟩
structure PM(N i m:Nat)(a b:Nat->Nat)(f:Nat->Nat)(c j:Nat):Prop where
 lt:∀k,k<N->f k<Bl
 zero:∀k,i+m<=k->f k=0
 cl:c<Bl
 val:vS f N+c*Bl^(i+j)=vS a i*vS b m+a i*vS b j*Bl^i
structure PP(N i m:Nat)(a b:Nat->Nat)(f:Nat->Nat):Prop where
 lt:∀k,k<N->f k<Bl
 zero:∀k,i+m<=k->f k=0
 val:vS f N=vS a i*vS b m
theorem PP.start(N m:Nat)(a b:Nat->Nat):PP N 0 m a b (fun _=>0):=
 ⟨fun _ _=>GR,fun _ _=>rfl,by rw[Lq (m:=0) (Nat.zero_le _) fun _ _ _=>rfl];unfold vS;rw[Nat.zero_mul]⟩
theorem PP.inner{N i m:Nat}{a b f:Nat->Nat}(h:PP N i m a b f):PM N i m a b f 0 0:=
 ⟨h.lt,h.zero,GR,by rw[h.val,Nat.zero_mul];show _=_+a i*0*_;rw[Nat.mul_zero,Nat.zero_mul]⟩
theorem KL{x y u c:Nat}(hx:x<Bl)(hy:y<Bl)(hu:u<Bl)(hc:c<Bl):x*y+u+c<Bl*Bl:=by
 have h1:x<=Bl-1:=ac;have h2:y<=Bl-1:=ac;have h3:=Nat.mul_le_mul h1 h2;have h4:(Bl-1)*(Bl-1)+(Bl-1)+(Bl-1)<Bl*Bl:=ae;omega
theorem PM.step{N i m:Nat}{a b f:Nat->Nat}{c j:Nat}(h:PM N i m a b f c j)(hj:j<m)(hN:i+m<=N)(ha:a i<Bl)(hb:b j<Bl):
  PM N i m a b (Ax f (i+j) ((a i*b j+f (i+j)+c)%Bl)) ((a i*b j+f (i+j)+c)/Bl) (j+1):=by
 refine⟨fun k hk=>?_,fun k hk=>?_,?_,?_⟩
 .unfold Ax;split
  .exact Nat.mod_lt _ GR
  .exact h.lt k hk
 .unfold Ax;rw[if_neg ac];exact h.zero k hk
 .exact Nat.div_lt_of_lt_mul (KL ha hb (h.lt (i+j) ac) h.cl)
 .have h1:=OL (f:=f) (j:=i+j) (x:=(a i*b j+f (i+j)+c)%Bl) (n:=N) ac;have h2:=h.val;have h3:=Nat.div_add_mod (a i*b j+f (i+j)+c) Bl;generalize (a i*b j+f (i+j)+c)/Bl=q at *;generalize (a i*b j+f (i+j)+c)%Bl=r at *;generalize vS (Ax f (i+j) r) N=V at *;have h4:(Bl*q+r)*Bl^(i+j)=(a i*b j+f (i+j)+c)*Bl^(i+j):=by rw[h3]
  have h5:Bl^(i+(j+1))=Bl^(i+j)*Bl:=by rw[<-Nat.add_assoc,Nat.pow_succ]
  have h6:Bl^(i+j)=Bl^j*Bl^i:=by rw[Nat.add_comm,Nat.pow_add]
  have h7:vS b (j+1)=vS b j+b j*Bl^j:=rfl;rw[h5,h7];rw[Nat.add_mul]at h4;rw[Nat.add_mul,Nat.add_mul]at h4;have h8:Bl*q*Bl^(i+j)=q*(Bl^(i+j)*Bl):=by rw[Nat.mul_comm Bl q,Nat.mul_assoc,Nat.mul_comm Bl]
  have h9:a i*(vS b j+b j*Bl^j)*Bl^i=a i*vS b j*Bl^i+a i*b j*Bl^(i+j):=by
   rw[Nat.mul_add,Nat.add_mul,h6];simp only[Nat.mul_assoc]
  rw[h9];rw[h8]at h4;omega
theorem PM.fin{N i m:Nat}{a b f:Nat->Nat}{c:Nat}(h:PM N i m a b f c m)(hN:i+m<N):PP N (i+1) m a b (Ax f (i+m) c):=by
 refine⟨fun k hk=>?_,fun k hk=>?_,?_⟩
 .unfold Ax;split
  .exact h.cl
  .exact h.lt k hk
 .unfold Ax;rw[if_neg ac];exact h.zero k ac
 .have h1:=OL (f:=f) (j:=i+m) (x:=c) (n:=N) hN;rw[h.zero (i+m) (Nat.le_refl _),Nat.zero_mul,Nat.add_zero]at h1;rw[h1,h.val];show _=(vS a i+a i*Bl^i)*vS b m
  rw[Nat.add_mul,Nat.mul_right_comm]
structure Lf(f:Nat->Nat)(N n:Nat):Prop where
 le:n<=N
 val:vS f n=vS f N
theorem Lf.step{f:Nat->Nat}{N n:Nat}(h:Lf f N (n+1))(h0:f n=0):Lf f N n:=
 ⟨by have:=h.le;omega,by rw[<-h.val,show vS f (n+1)=vS f n+f n*Bl^n from rfl,h0];omega⟩
theorem Lf.fin{f:Nat->Nat}{N n:Nat}(h:Lf f N n)(hl:∀k,k<N->f k<Bl)(h0:∀m,n=m+1->f m≠0):H6 n f:=⟨fun k hk=>hl k (by have:=h.le;omega),h0⟩
theorem Qu:(Tryz.prog.info? 91).map (fun i=>(i.zero,i.size,i.bytes))=some (some (.int .u32 0),1,4):=ah
def uv(f:Nat->Nat):Nat->Value:=fun j=> .int .u32 (f j:Int)
theorem Sp(f:Nat->Nat)(k:Nat)(y:Nat):Ax (uv f) k (.int .u32 (y:Int))=uv (Ax f k y):=by
 funext j;unfold Ax uv;by_cases h:j=k <;> simp[h]
def NL(w:World)(v:Value)(n:Nat)(f:Nat->Nat):Prop:=Sl w v n 1 (vs n (uv f))
def GU(w:World)(v:Value)(x:Nat):Prop:=∃n f,H6 n f/\vS f n=x/\NL w v n f
theorem NL.ex{w w':World}{v:Value}{n:Nat}{f:Nat->Nat}(h:NL w v n f)(hx:Ex w w'):NL w' v n f:=Sl.ex h hx
theorem GU.ex{w w':World}{v:Value}{x:Nat}(h:GU w v x)(hx:Ex w w'):GU w' v x:=by
 obtain⟨n,f,h1,h2,h3⟩:=h;exact⟨n,f,h1,h2,h3.ex hx⟩
theorem NL.open{w:World}{v:Value}{n:Nat}{f:Nat->Nat}(h:NL w v n f):∃a cap,v= .slice a n cap/\n<=cap/\cap<=maxLen/\
  (0<n->∃b o,a=some ⟨b,o,none⟩/\∀j,j<n->w.cell? ⟨b,o+j,none⟩=some (.int .u32 (f j:Int))):=by
 obtain⟨h1,a,cap,rfl,h3,h4,h5⟩:=h;refine⟨a,cap,rfl,h3,h4,fun hn=>?_⟩;obtain⟨b,o,rfl,h6⟩:=h5 hn;exact⟨b,o,rfl,fun j hj=>h6 j _ (DF hj (uv f))⟩
theorem NL.mk{w:World}{a:Option Addr}{n cap:Nat}{f:Nat->Nat}(h1:n<=cap)(h2:cap<=maxLen)(h3:0<n->∃b o,a=some ⟨b,o,none⟩/\∀j,j<n->w.cell? ⟨b,o+j,none⟩=some (.int .u32 (f j:Int))):NL w (.slice a n cap) n f:=by
 refine⟨by rw[Bu,Nat.mul_one],a,cap,rfl,h1,h2,fun hn=>?_⟩;obtain⟨b,o,rfl,h4⟩:=h3 hn;refine⟨b,o,rfl,fun j u hu=>?_⟩;have hj:j<n:=by have:=(List.getElem?_eq_some_iff.1 hu).1;rwa[Bu]at this
 rw[DF hj]at hu;injection hu with hu;rw[h4 j hj,<-hu];rfl
theorem NL.take{w:World}{a:Option Addr}{n cap m:Nat}{f:Nat->Nat}(h:NL w (.slice a n cap) n f)(hm:m<=n){c:Nat}(hc:m<=c)(aA:c<=cap):NL w (.slice a m c) m f:=by
 obtain⟨a',cap',e,h1,h2,h3⟩:=h.open;injection e with e1 e2 e3;subst e1 e3;exact NL.mk hc (Nat.le_trans aA h2) fun hn=>by
  obtain⟨b,o,rfl,h4⟩:=h3 ac;exact⟨b,o,rfl,fun j hj=>h4 j ac⟩
theorem Fi(w:World)(n:Nat)(f:Nat->Nat)(v:Value)(hv:NL w v n f)(aA:∀k,k<n->f k<Bl):
  Calls Tryz.prog 87 #[v] w fun r w'=>(∃u m,r= .returned u/\m<=n/\H6 m f/\vS f m=vS f n/\NL w u m f)/\w'=w:=by
 obtain⟨a,cap,rfl,s1,s2,s3⟩:=hv.open;obtain⟨HV,S3,aC,HCM⟩:=Eq hv s3 aA s2;unfold maxLen at s2;clear hv s3 aA;go_enter Tryz.func87,Tryz.ntmps87
 go_wp2_with fail
 go_loopw [3] (fun m' wr=>∃m:Nat,m'= .int .i64 m/\wr=w/\Hia (Lf f n m)) (fun m' _=>(intOf m').toNat)
 case atStart=>exact⟨n,rfl,rfl,⟨Nat.le_refl _,rfl⟩⟩
 case round=>
  obtain⟨m,rfl,rfl,hs⟩:=hrel;have aB:=hs.o.le
  cases m with
  | zero=>
   have HC:=Aa (hs.o.fin aC.o (fun m h=>by cases h));go_wp2_with fail
   go_ret;exact⟨⟨_,0,rfl,Nat.zero_le _,HC.o,hs.o.val,HV.o.take (Nat.zero_le _) (Nat.le_refl _) (Nat.zero_le _)⟩,rfl⟩
  | succ k=>
   have i1:(0:Int)<=(k:Int):=ac;have i2:(k:Int)<(n:Int):=ac;obtain⟨b,o,rfl,hc⟩:=S3.o ac;have c1:=hc k ac;have hw1:((k+1:Nat):Int)-1=(k:Int):=db;by_cases h0:f k=0
   .have HS:=Aa (hs.o.step h0);rw[h0]at c1;clear hc h0;go_wp2_with fail
    go_roundw
    case rel=>exact⟨k,by go_num,trivial,HS⟩
    case measure=>simp[intOf]
   .have HC:=Aa (hs.o.fin aC.o (fun m h=>by injection h with h;subst h;exact h0));have hb:((f k:Int)==0)=false:=by simpa using h0
    clear hc h0;go_wp2_with fail
    go_ret;exact⟨⟨_,k+1,rfl,aB,HC.o,hs.o.val,HV.o.take aB (Nat.le_refl _) ac⟩,rfl⟩
theorem NL.cells{w:World}{v:Value}{n:Nat}{f:Nat->Nat}(h:NL w v n f):∀u∈vs n (uv f),u.oneCell'=true:=fun u hu=>by
 unfold vs uv at hu;obtain⟨j,_,rfl⟩:=List.mem_map.1 hu;rfl
theorem Ol(w:World)(n:Nat)(f:Nat->Nat)(v:Value)(hv:NL w v n f)(aC:∀k,k<n->f k<Bl)(hn:n<=100000):
  Calls Tryz.prog 96 #[v] w fun r w'=>(∃u,r= .returned u/\GU w' u (vS f n))/\Ex w w':=by
 obtain⟨a,cap,rfl,s1,s2,s3⟩:=hv.open;have HS:=Aa (Fi w n f _ hv aC);have HN:=Aa hn;clear hv s3 aC hn;go_enter Tryz.func96,Tryz.ntmps96
 go_wp2_with (first|(go_at_call 87;refine HS.o.mono ?_;rintro e w2⟨⟨u,m,rfl,hm,hc,aB,hu⟩,rfl⟩;obtain⟨ua,uc,rfl,_,_,_⟩:=hu.open;have HU:=Aa hu;have HM:=Aa hm;have HC:=Aa hc;have aE:=Aa aB;clear hu hm hc aB;have hm2:m<=100000:=Nat.le_trans HM.o HN.o)
                        | (at_builtin;refine A8 _ rfl _ _ 56 rfl w2.heap.size 91 (.int .u32 0) 1 4 Tryz.underlying56 Qu rfl ae (.slice none 0 0) 0 [] rfl (World.ownsRow_nil _ _ _ _) (.slice ua m uc) m _ rfl HU.o HU.o.cells ai ac ag ?_;intro v' w' aA hg hb;obtain⟨oa,oc,rfl⟩:=Ab aA;have HO:=Aa aA;have aD:=Aa (Below.grown (Below.refl _ _) hg (Nat.le_refl _) (fun k hk=>by cases hk));clear aA hg hb))
 go_ret;exact⟨⟨_,rfl,m,f,HC.o,aE.o,by have:=Sl.own HO.o;rw[Nat.zero_add,List.nil_append]at this;exact this⟩,aD.o⟩
theorem Ut:Bl=4294967296:=rfl
theorem Wo(S:Nat):(S:Int)%4294967296=((S%Bl:Nat):Int):=by rw[Ut];omega
theorem Wp(S:Nat):(S:Int)/4294967296=((S/Bl:Nat):Int):=by rw[Ut];omega
def XG(x:Nat):Nat->Nat:=fun k=>if k=0 then x%Bl else x/Bl
theorem Wa(x:Nat):vS (XG x) 2=x:=by
 show 0+x%Bl*1+x/Bl*Bl^1=x
 have:=Nat.div_add_mod x Bl;rw[Nat.pow_one,Nat.mul_comm (x/Bl)];omega
theorem XF{x:Nat}(hx:x<18446744073709551616):∀k,k<2->XG x k<Bl:=fun k hk=>by
 unfold XG;split
 .exact Nat.mod_lt _ GR
 .unfold Bl;omega
theorem XE(w:World)(x:Nat)(t:TypeId):NL (w.alloc (.cells #[.int .u32 ((x:Int)%4294967296),.int .u32 ((x:Int)/4294967296)] t)) (.slice (some ⟨w.heap.size,0,none⟩) 2 2) 2 (XG x):=
 NL.mk (Nat.le_refl _) ai fun _=>⟨_,0,rfl,fun j hj=>by
  match j,hj with
  | 0,_=>simp[XG,Bl]
  | 1,_=>simp[XG,Bl]⟩
theorem UA(w:World)(x:Nat)(hx:x<18446744073709551616):
  Calls Tryz.prog 42 #[.int .u64 x] w fun r w'=>(∃u,r= .returned u/\GU w' u x)/\Ex w w':=by
 have HT:=Aa (Ol (w.alloc (.cells #[.int .u32 ((x:Int)%4294967296),.int .u32 ((x:Int)/4294967296)] 91)) 2 (XG x) _ (XE w x _) (XF hx) ac);have EA:=Aa ((Ex.refl w).alloc (.cells #[.int .u32 ((x:Int)%4294967296),.int .u32 ((x:Int)/4294967296)] 91));rw[Wa]at HT;go_enter Tryz.func42,Tryz.ntmps42
 go_wp2_with (go_at_call 96;refine HT.o.mono ?_;rintro e w2⟨⟨u,rfl,hu⟩,hx⟩;obtain⟨n,f,_,_,aA⟩:=id hu;obtain⟨ua,uc,rfl,_,_,_⟩:=aA.open;have HU:=Aa hu;have HX:=Aa hx;clear hu aA hx)
 go_ret;exact⟨⟨_,rfl,HU.o⟩,EA.o.trans HX.o⟩
theorem bp{P:Prop}(h:P:=by rw[IntKind.wrap_u64];omega):P:=h
theorem Rb(w:World)(n m:Nat)(a b:Nat->Nat)(u v:Value)(hu:NL w u n a)(hv:NL w v m b)(ha:∀k,k<n->a k<Bl)(hb:∀k,k<m->b k<Bl)(hn:n<=10000)(hm:m<=10000):
  Calls Tryz.prog 95 #[u,v] w fun r w'=>(∃u,r= .returned u/\GU w' u (vS a n*vS b m))/\Ex w w':=by
 obtain⟨ua,uc,rfl,s1,s2,s3⟩:=hu.open;obtain⟨va,vc,rfl,t1,t2,t3⟩:=hv.open;unfold maxLen at s2 t2;obtain⟨S3,T3,HA,HB⟩:=Eq s3 t3 ha hb;have hw0:wrap64 ((n:Int)+(m:Int))=((n+m:Nat):Int):=by rw[<-Int.natCast_add];exact Zc ac ac
 clear hu hv s3 t3 ha hb;go_enter Tryz.func95,Tryz.ntmps95
 go_wp2_with (at_make;refine Aq _ rfl _ _ 56 rfl 91 (.int .u32 0) 4 Tryz.underlying56 Qu rfl _ (n+m) rfl rfl (by first|rfl|omega) ac ai ?_)
 intro w3 aF aP;obtain⟨g,hg⟩:=nA w.heap.size;have aZ:=Aa (show AI w3 w.heap.size 91 g (n+m) (uv fun _=>0) from by rw[<-hg];exact aF);have aY:=Aa aP;have HGG:=Aa hg
 try simp only[hg]
 clear aF aP hg;go_wp2_with fail
 go_loopw [20] (fun i' wr=>∃(i:Nat) (f:Nat->Nat),i<=n/\i'= .int .i64 i/\Hia (AI wr w.heap.size 91 g (n+m) (uv f))/\Hia (PP (n+m) i m a b f)/\Hia (Ex w wr)) (fun i' _=>n-(intOf i').toNat)
 case atStart=>exact⟨0,_,ac,rfl,aZ,Aa (PP.start _ _ _ _),aY⟩
 case round=>
  clear aZ aY;obtain⟨i,f,hi,rfl,ho,aH,aB⟩:=hrel;by_cases hin:i<n
  .obtain⟨sb,so,rfl,aR⟩:=S3.o ac;have c1:=aB.o.cell (aR i hin);have i1:(0:Int)<=(i:Int):=by omega
   have i2:(i:Int)<(n:Int):=ac;have aO:=Aa (HA.o i hin);obtain⟨A,hA⟩:=nA (a i);rw[hA]at c1;have bI:=Aa hA;clear hA aR;go_wp2_with fail
   go_loopw [8,27] (fun c' j' wr=>∃(c j:Nat) (f:Nat->Nat),j<=m/\c'= .int .u64 c/\j'= .int .i64 j/\Hia (AI wr w.heap.size 91 g (n+m) (uv f))/\Hia (PM (n+m) i m a b f c j)/\Hia (Ex w wr)) (fun _ j' _=>m-(intOf j').toNat)
   case atStart=>exact⟨0,0,f,ac,rfl,rfl,ho,Aa aH.o.inner,aB⟩
   case round=>
    clear c1 ho aH aB;obtain⟨c,j,f,hj,rfl,rfl,ho,aC,aB⟩:=hrel;by_cases hjm:j<m
    .obtain⟨tb,tp,rfl,aQ⟩:=T3.o ac;have c2:=aB.o.cell (aQ j hjm);have aK:i+j<n+m:=by omega
     have c3:=ho.o.cell aK;have bC:=ho.o.frz (i+j);have i3:(0:Int)<=(j:Int):=ac;have i4:(j:Int)<(m:Int):=ac;have i5:(0:Int)<=(i:Int)+(j:Int):=Int.add_nonneg i1 i3;have i6:(i:Int)+(j:Int)<(n:Int)+(m:Int):=Int.add_lt_add i2 i4;have aA:=Aa (aC.o.step hjm ac aO.o (HB.o j hjm));have aG:=KL aO.o (HB.o j hjm) (aC.o.lt (i+j) aK) aC.o.cl;have aE:=fun y:Nat=>ho.o.set (i+j) (.int .u32 (y:Int));have aX:=fun y:Nat=>ho.o.exSet (Nat.le_refl _) aB.o (i+j) (.int .u32 (y:Int));simp only[Sp]at aE;have aU:a i<4294967296:=aO.o;have aT:b j<4294967296:=HB.o j hjm;have aS:f (i+j)<4294967296:=aC.o.lt (i+j) aK;have aI:c<4294967296:=aC.o.cl;have aD:a i*b j+f (i+j)+c<18446744073709551616:=aG;clear aG;unfold uv at c3;rw[bI.o]at aA aD aU;obtain⟨B,hB⟩:=nA (b j);obtain⟨F,hF⟩:=nA (f (i+j));rw[hB]at aA aD c2 aT;simp only[hF]at c3;rw[hF]at aA aD aS;obtain⟨P,hP⟩:=nA (A*B);rw[hP]at aA aD;obtain⟨T,hT⟩:=nA (P+F);rw[hT]at aA aD;obtain⟨S,hS⟩:=nA (T+c);rw[hS]at aA aD;have e1:IntKind.u64.wrap ((A:Int)*(B:Int))=(P:Int):=by rw[<-Int.natCast_mul,hP,IntKind.wrap_u64];omega
     have e2:IntKind.u64.wrap ((P:Int)+(F:Int))=(T:Int):=bp;have e3:IntKind.u64.wrap ((T:Int)+(c:Int))=(S:Int):=bp;have e7:IntKind.u64.wrap (A:Int)=(A:Int):=bp;have e8:IntKind.u64.wrap (B:Int)=(B:Int):=bp;have e9:IntKind.u64.wrap (F:Int)=(F:Int):=bp;have e5:(S:Int)%4294967296=((S%Bl:Nat):Int):=Wo S;have e6:(S:Int)/4294967296=((S/Bl:Nat):Int):=Wp S;obtain⟨r,hr⟩:=nA (S%Bl);obtain⟨k,hk⟩:=nA (S/Bl);rw[hr]at e5 aA;rw[hk]at e6 aA;have aM:=Aa (aE r);have aN:=Aa (aX r);clear aE aX aQ hP hT hS hB hF hr hk aD aU aT aS aI;go_wp2_with fail
     clear e1 e2 e3 e5 e6 e7 e8 e9;go_roundw
     case rel=>exact⟨k,j+1,_,ac,rfl,by go_num,aM,aA,aN⟩
     case measure=>simp[intOf];omega
    .obtain rfl:j=m:=by omega
     have bH:=Aa (aC.o.fin ac);have bB:i+j<n+j:=db;have c3:=ho.o.cell bB;have bC:=ho.o.frz (i+j);have aE:=ho.o.set (i+j) (.int .u32 (c:Int));have aN:=Aa (ho.o.exSet (Nat.le_refl _) aB.o (i+j) (.int .u32 (c:Int)));rw[Sp]at aE;have aM:=Aa aE;have k5:(0:Int)<=(i:Int)+(j:Int):=Int.add_nonneg i1 (Int.natCast_nonneg j);have k6:(i:Int)+(j:Int)<(n:Int)+(j:Int):=Int.add_lt_add_right i2 _;have hc:c<4294967296:=aC.o.cl;have bA:=Aa (show(c:Int)%4294967296=(c:Int) from ac);have e2:=bA.o;unfold uv at c3;clear hc aE;go_wp2_with fail
     clear e2;go_roundw
     case rel=>exact⟨i+1,_,ac,by go_num,aM,bH,aN⟩
     case measure=>simp[intOf];omega
  .obtain rfl:i=n:=by omega
   have aL:=Fi wr (i+m) f _ (show NL wr (.slice (some ⟨g,0,none⟩) (i+m) (i+m)) (i+m) f from ho.o.sl) aH.o.lt;rw[aH.o.val]at aL;have bD:=Aa aL;clear aL;go_wp2_with (go_at_call 87;refine bD.o.mono ?_;rintro e w5⟨⟨u,k,rfl,hk1,aW,aV,aJ⟩,rfl⟩;obtain⟨oa,oc,rfl,_,_,_⟩:=aJ.open;have bG:=Aa aW;have bF:=Aa aV;have bE:=Aa aJ;clear aW aV aJ)
   go_ret;exact⟨⟨_,rfl,k,f,bG.o,bF.o,bE.o⟩,aB.o⟩
def CG(x:Nat):Prop:=x<Bl^200
theorem CG.len{x n:Nat}{f:Nat->Nat}(h:CG x)(hc:H6 n f)(hv:vS f n=x):n<=1000:=Nat.le_trans (hc.len (by rw[hv];exact h)) ac
theorem FA{x:Nat}(h:x<18446744073709551616):CG x:=by
 have h1:(18446744073709551616:Nat)=Bl^2:=ae;have h2:Bl^2<=Bl^200:=Nat.pow_le_pow_right GR ac;unfold CG;omega
theorem Uq:H6 1 fun _=>1:=⟨fun _ _=>ae,fun _ _=>ac⟩
theorem WY:vS (fun _=>1) 1=1:=ae
def Zl(w:World)(v:Value)(xs:List Nat):Prop:=∃vals:List Value,Sl w v xs.length 1 vals/\∀(i x:Nat) (u:Value),xs[i]?=some x->vals[i]?=some u->GU w u x
theorem Zl.open{w:World}{v:Value}{xs:List Nat}(h:Zl w v xs):∃a cap,v= .slice a xs.length cap/\xs.length<=cap/\cap<=maxLen/\
  (0<xs.length->∃b o,a=some ⟨b,o,none⟩/\∀(i x:Nat),xs[i]?=some x->∃u,w.cell? ⟨b,o+i,none⟩=some u/\GU w u x):=by
 obtain⟨vals,⟨h1,a,cap,h2,h3,h4,h5⟩,h6⟩:=h;refine⟨a,cap,h2,h3,h4,fun hn=>?_⟩;obtain⟨b,o,h7,h8⟩:=h5 hn;refine⟨b,o,h7,fun i x hx=>?_⟩;have hi:=(List.getElem?_eq_some_iff.1 hx).1;have hu:vals[i]?=some vals[i]:=List.getElem?_eq_getElem ac;exact⟨_,h8 i _ hu,h6 i x _ hx hu⟩
def Ih:List Nat->Nat:=fun xs=>xs.foldl (·* ·) 1
theorem Jl{xs:List Nat}{k x:Nat}(h:xs[k]?=some x):Ih (xs.take (k+1))=Ih (xs.take k)*x:=by
 unfold Ih;rw[List.take_add_one,h,List.foldl_append];rfl
theorem Ta(w:World)(xs:List Nat)(v:Value)(hv:Zl w v xs)(aM:∀x∈xs,CG x)(hp:∀k,k<=xs.length->CG (Ih (xs.take k))):
  Calls Tryz.prog 41 #[v] w fun r w'=>(∃u,r= .returned u/\GU w' u (Ih xs))/\Ex w w':=by
 obtain⟨a,cap,rfl,s1,s2,s3⟩:=hv.open;unfold maxLen at s2;have S3:=Aa s3;have aT:=Aa aM;have HP:=Aa hp;clear hv s3 aM hp;have ea:=(Ex.refl w).alloc (.cells #[.int .u32 1] 91);have q0:(w.alloc (.cells #[.int .u32 1] 91)).cell? ⟨w.heap.size,0,none⟩=some (.int .u32 1):=ag;have H1:=Aa (show GU (w.alloc (.cells #[.int .u32 1] 91)) (.slice (some ⟨w.heap.size,0,none⟩) 1 1) 1 from⟨1,_,Uq,WY,NL.mk (Nat.le_refl _) ai fun _=>⟨_,0,rfl,fun j hj=>by
  obtain rfl:j=0:=ac;exact q0⟩⟩)
 have EA:=Aa ea;clear ea q0;go_enter Tryz.func41,Tryz.ntmps41
 go_wp2_with fail
 go_loopw [3,9] (fun p' k' wr=>∃(k:Nat),k<=xs.length/\k'= .int .i64 k/\Hia (GU wr p' (Ih (xs.take k)))/\Hia (Ex w wr)) (fun _ k' _=>xs.length-(intOf k').toNat)
 case atStart=>exact⟨0,ac,rfl,H1,EA⟩
 case round=>
  clear H1 EA;obtain⟨k,hk,rfl,hn,aF⟩:=hrel;have aV:=Aa (HP.o k hk);obtain⟨n,f,aE,aD,aC⟩:=hn.o;have hn1:=aV.o.len aE aD;obtain⟨pa,pc,rfl,_,_,_⟩:=aC.open;by_cases hkn:k<xs.length
  .obtain⟨x,hx⟩:∃x,xs[k]?=some x:=⟨_,List.getElem?_eq_getElem hkn⟩;obtain⟨b,o,rfl,hc⟩:=S3.o ac;obtain⟨u,hu,aR⟩:=hc k x hx;have c1:=aF.o.cell hu;obtain⟨m,g,aJ,aI,aH⟩:=aR;have hm1:=(aT.o x (List.mem_of_getElem? hx)).len aJ aI;have i1:(0:Int)<=(k:Int):=by omega
   have i2:(k:Int)<(xs.length:Int):=ac;obtain⟨aW,aU,aX,aZ,aY⟩:=Of (Fi _ m g u (aH.ex aF.o) aJ.lt) (fun u' m' (aN:m'<=m) (aS:H6 m' g) (h:NL _ u' m' g)=>Rb _ n m' f g _ _ aC h aE.lt aS.lt ac ac) (Jl hx) aD aI;obtain⟨ya,yc,rfl,_,_,_⟩:=aH.open;clear hc hu hx aE aD aC aJ aI aH;go_wp2_with (first|(go_at_call 87;refine aW.o.mono ?_;rintro e w5⟨⟨u,m',rfl,aN,aP,aO,aG⟩,rfl⟩;obtain⟨oa,oc,rfl,_,_,_⟩:=aG.open;have aQ:=Aa (aU.o _ m' aN aP aG);rw[aZ.o,aO,aY.o]at aQ;clear aP aO aG)|(go_at_call 95;refine aQ.o.mono ?_;rintro e w6⟨⟨u6,rfl,aA⟩,aB⟩;obtain⟨_,_,_,_,h6⟩:=id aA;obtain⟨oa,oc,rfl,_,_,_⟩:=h6.open;have aL:=Aa aA;have aK:=Aa (aF.o.trans aB);clear aA h6 aB))
   go_roundw
   case rel=>exact⟨k+1,ac,by go_num,by rw[aX.o];exact aL,aK⟩
   case measure=>simp[intOf];omega
  .obtain rfl:k=xs.length:=by omega
   have hT:=Ol wr n f _ aC aE.lt ac;rw[aD,List.take_length]at hT;have HT:=Aa hT;clear hT aE aD aC;go_wp2_with (go_at_call 96;refine HT.o.mono ?_;rintro e w6⟨⟨u6,rfl,aA⟩,aB⟩;obtain⟨_,_,_,_,h6⟩:=id aA;obtain⟨oa,oc,rfl,_,_,_⟩:=h6.open;have aL:=Aa aA;have aK:=Aa (aF.o.trans aB);clear aA h6 aB)
   go_ret;exact⟨⟨_,rfl,aL.o⟩,aK.o⟩
theorem zci{P:Prop}(h:P:=by
 go_enter Tryz.func110,Tryz.ntmps110
 exact zcT):P:=h
theorem NC(w:World)(n i:Nat)(f:Nat->Nat)(v:Value)(hv:NL w v n f)(aA:∀k,k<n->f k<Bl)(hi:i<=10000):
  Calls Tryz.prog 110 #[v,.int .i64 i] w fun r w'=>r= .returned (.int .u64 ((if i<n then f i else 0:Nat):Int))/\w'=w:=by
 obtain⟨a,cap,rfl,s1,s2,s3⟩:=hv.open;have S3:=Aa s3;unfold maxLen at s2;clear hv s3;by_cases hin:i<n
 .obtain⟨b,o,rfl,hc⟩:=S3.o ac;have c1:=hc i hin;rw[if_pos hin];have hb:f i<4294967296:=aA i hin;have e1:IntKind.u64.wrap (f i:Int)=(f i:Int):=by rw[IntKind.wrap_u64];omega
  have i1:(0:Int)<=(i:Int):=ac;have i2:(i:Int)<(n:Int):=ac;clear hc aA hb;exact zci
 .rw[if_neg hin];have i2:¬(i:Int)<(n:Int):=by omega
  clear aA;exact zci
def NE(n:Nat)(f:Nat->Nat)(i:Nat):Nat:=if i<n then f i else 0
theorem Tm{n m:Nat}(f:Nat->Nat)(h:n<=m):vS (NE n f) m=vS f n:=by
 rw[Lq h fun k h1 _=>by unfold NE;rw[if_neg ac]];exact Gx fun k hk=>by unfold NE;rw[if_pos hk]
theorem SU(w:World)(x y:Nat)(u v:Value)(hu:GU w u x)(hv:GU w v y)(hx:CG x)(hy:CG y):
  Calls Tryz.prog 50 #[u,v] w fun r w'=>(∃z:Int,r= .returned (.int .i64 z)/\(z=0↔x=y))/\w'=w:=by
 obtain⟨n,f,aE,aD,aI⟩:=hu;obtain⟨m,g,aC,aB,aH⟩:=hv;have hn:=hx.len aE aD;have hm:=hy.len aC aB;have aP:=Aa (fun i (hi:i<=10000)=>NC w n i f u aI aE.lt hi);have aO:=Aa (fun i (hi:i<=10000)=>NC w m i g v aH aC.lt hi);have aQ:=Aa (show(∀i,NE n f i=NE m g i)->x=y from fun h=>by
  rw[<-aD,<-aB,<-Tm f (Nat.le_max_left n m),<-Tm g (Nat.le_max_right n m)];exact Gx fun k _=>h k)
 have aN:=Aa (show ∀i,NE n f i≠NE m g i->¬x=y from fun i h e=>by
  obtain⟨h1,h2⟩:=aE.uniq aC (by rw[aD,aB,e]);subst h1;refine h ?_;unfold NE;split
  .exact h2 i ac
  .rfl)
 obtain⟨ua,uc,rfl,_,_,_⟩:=aI.open;obtain⟨va,vc,rfl,_,_,_⟩:=aH.open;clear aE aD aI aC aB aH hx hy;have aR:=Aa (show(∀i,i<n∨i<m->NE n f i=NE m g i)->x=y from fun h=>aQ.o fun i=>by
  by_cases hi:i<n∨i<m
  .exact h i hi
  .unfold NE;rw[if_neg ac,if_neg ac])
 go_enter Tryz.func50,Tryz.ntmps50
 go_wp2_with fail
 all_goals
  go_loopw [5] (fun i' wr=>∃i:Nat,i<=1000/\i'= .int .i64 ((i:Int)-1)/\wr=w/\Hia (∀k,i<=k->k<n∨k<m->NE n f k=NE m g k)) (fun i' _=>((intOf i')+1).toNat)
  case atStart=>first|exact⟨n,ac,rfl,rfl,Aa (fun k h1 h2=>ac)⟩|exact⟨m,ac,rfl,rfl,Aa (fun k h1 h2=>ac)⟩|exact⟨max n m,ac,congrArg (Value.int .i64) (ac),rfl,Aa (fun k h1 h2=>ac)⟩
  case round=>
   obtain⟨i,hi,rfl,rfl,aA⟩:=hrel
   cases i with
   | zero=>
    have HE:=Aa (aR.o fun k hk=>aA.o k (Nat.zero_le _) hk);go_wp2_with fail
    go_ret;exact⟨⟨0,rfl,fun _=>HE.o,fun _=>rfl⟩,rfl⟩
   | succ k=>
    have aK:((k+1:Nat):Int)-1=(k:Int):=ac;rw[aK];have i1:(0:Int)<=(k:Int):=ac;have L1:=Aa (aP.o k ac);have L2:=Aa (aO.o k ac);have aJ:=Aa (aN.o k);obtain⟨p,hp⟩:=nA ((if k<n then f k else 0));obtain⟨q,hq⟩:=nA ((if k<m then g k else 0));rw[hp]at L1;rw[hq]at L2;have aG:NE n f k=p:=hp;have aF:NE m g k=q:=hq;rw[aG,aF]at aJ;have aL:=Aa (show p=q->∀j,k<=j->j<n∨j<m->NE n f j=NE m g j from fun e j h1 h2=>by
     by_cases e2:j=k
     .subst e2;rw[aG,aF,e]
     .exact aA.o j ac h2)
    clear hp hq aG aF aA;rcases Nat.lt_trichotomy p q with h|h|h
    .have HN:=Aa (aJ.o ac);have h1:(p:Int)<(q:Int):=by omega
     go_wp2_with (go_at_call 110;first|(with_reducible refine L1.o.mono ?_;rintro e w2⟨rfl,rfl⟩)|(with_reducible refine L2.o.mono ?_;rintro e w2⟨rfl,rfl⟩))
     go_ret;exact⟨⟨-1,rfl,fun h=>ac,fun h=>absurd h HN.o⟩,rfl⟩
    .subst h;have aM:=Aa (aL.o rfl);have h1:¬(p:Int)<(p:Int):=by omega
     go_wp2_with (go_at_call 110;first|(with_reducible refine L1.o.mono ?_;rintro e w2⟨rfl,rfl⟩)|(with_reducible refine L2.o.mono ?_;rintro e w2⟨rfl,rfl⟩))
     go_roundw
     case rel=>exact⟨k,ac,by go_num,trivial,aM⟩
     case measure=>simp[intOf]
    .have HN:=Aa (aJ.o ac);have h1:¬(p:Int)<(q:Int):=by omega
     have h2:(q:Int)<(p:Int):=ac;go_wp2_with (go_at_call 110;first|(with_reducible refine L1.o.mono ?_;rintro e w2⟨rfl,rfl⟩)|(with_reducible refine L2.o.mono ?_;rintro e w2⟨rfl,rfl⟩))
     go_ret;exact⟨⟨1,rfl,fun h=>ac,fun h=>absurd h HN.o⟩,rfl⟩
def Nr(Ms:List Cw):List (List Int):=Ms.map (·.perm)
def Yi(c:AU)(r:Ending)(w':World):Prop:=∃e0:Int,Ce c.p c.m c.ml c.n c.rows e0/\
 ((JF c e0≠0/\r= .returned (.tuple #[.slice none 0 0,.int .i64 (JF c e0)]))∨(JF c e0=0/\Yj c.n (Nr (Dj c (AA c))) r w'))
theorem Ki(bK:PH)(w:World)(c:AU)(m1 v1:Value)(hc:c.at w m1 v1)(aB:(Dj c (AA c)).length<=1000):
  Calls Tryz.prog 24 #[c.arg m1 v1] w fun r w'=>Yi c r w'/\Ex w w':=by
 obtain⟨c0,c1,c2,c3,c4⟩:=Dp w c m1 v1;have aL:=AE w (c.obj m1 v1);obtain⟨x1,y1,aO,-,z1,-⟩:=hc.g.open;obtain⟨x3,y3,aN,-,z3,-⟩:=hc.m.open;unfold maxLen at z1 z3;obtain⟨B,hB⟩:=nA w.heap.size;have aC:=Aa (G9 (w.alloc (c.obj m1 v1)) c m1 v1 (hc.ex aL));rw[hB]at c0 c1 c2 c3 c4;have aG:=Aa aL;obtain⟨C,hC⟩:∃C:AU,C=c:=⟨_,rfl⟩;have cD:=Aa hC;have bF:=Aa (show ∀r w',Yi C r w'->Yi c r w' from fun r w' h=>by rw[<-hC];exact h);rw[<-hC]at aB;obtain⟨cp,cm,bO,cn,bN⟩:=c;unfold AU.arg at aC ⊢;unfold AU.obj at aG aC c0 c1 c2 c3 c4;dsimp only at aG aC c0 c1 c2 c3 c4 aO aN ⊢;rw[aO,aN]at aG aC c0 c1 c2 c3 c4 ⊢;rw[<-hC]at aC;have aU:=Aa aB;clear hc aL hC aO aN aB;go_enter Tryz.func24,Tryz.ntmps24
 go_upto_region 1 with fail
 try simp only[hB]
 clear hB;generalize w.alloc (.cells #[.int .i64 cp,.int .i64 cm,.slice x3 bO.length y3,.int .i64 cn,.slice x1 bN.length y1] 39)=w1 at *;go_wp2_with fail
 refine aC.o.mono ?_;rintro e w2⟨aE,aD⟩;have bE:=Aa aD;obtain⟨e0,bB,ho⟩:=OU aE;have bJ:=Aa bB;replace c3:=aD.cell c3;obtain⟨GE,aS⟩:∃x,JF C e0=x:=⟨_,rfl⟩;rw[aS]at ho;have aX:=Aa aS;clear aE aD bB aC aS c0 c1 c2 c4;rcases ho with⟨h0,rfl⟩|⟨h0,hbn,pn,mn,N,b,x0,mv,nv,hp,hm,hn,hN1,hN64,hD,rfl,hg,hx1,aD,hms,hns⟩
 .have hb:(GE !=0)=true:=by simpa using h0
  have H0:=Aa h0;clear h0;go_wp2_with fail
  exact bodyPost_ret (v:= .tuple #[.slice none 0 0,.int .i64 GE]) (by simp[results,Tryz.results24,go_sem]) rfl ⟨bF.o _ _ ⟨e0,bJ.o,.inl ⟨by rw[aX.o];exact H0.o,by rw[aX.o]⟩⟩,aG.o.trans bE.o⟩
 .subst h0;have bM:cn=(N:Int):=by have:=cD.o;rw[this]at hn;exact hn
  subst bM;have bV:=Aa (show C.n=(N:Int) from hn);have bX:=Aa hms;obtain⟨ma,mc,rfl,-,zm,m3⟩:=hms.open;obtain⟨na,nc,rfl,-,-,-⟩:=hns.open;unfold maxLen at zm;obtain⟨Ms,aR⟩:∃x,Dj C (AA C)=x:=⟨_,rfl⟩;have bW:=Aa aR;rw[aR]at bX m3 aU ⊢;obtain⟨LM,aF⟩:∃x,Ms.length=x:=⟨_,rfl⟩;have bZ:=Aa aF;have aV:=Aa (show LM<=1000 from by rw[<-aF];exact aU.o);rw[aF]at m3 ⊢;have M3:=Aa m3;obtain⟨GL,aJ⟩:∃g,Nr Ms=g:=⟨_,rfl⟩;have cC:=Aa (show ∀k (M:Cw),Ms[k]?=some M->GL.take (k+1)=GL.take k ++ [M.perm] from fun k M h=>by
   rw[<-aJ];exact DG (by unfold Nr;rw[List.getElem?_map,h];rfl))
  have bI:=Aa (show GL.length=LM from by rw[<-aJ,<-aF];unfold Nr;rw[List.length_map]);have cB:=Aa aJ;have bG:=Aa (F4.nil w2);clear hbn hp hm hn hN1 hN64 hD hg hx1 aD hms hns aR aF m3 aJ aU;go_wp2_with fail
  go_loopw [8,23] (fun gv k' wr=>∃(k:Nat) (vals:List Value),k<=LM/\k'= .int .i64 k/\Hia (F4 w2 wr gv (GL.take k) vals)) (fun _ k' _=>LM-(intOf k').toNat)
  case atStart=>exact⟨0, [],ac,rfl,bG⟩
  case round=>
   clear bG;obtain⟨k,vals,hk,rfl,hr⟩:=hrel;obtain⟨ga,gc,rfl⟩:=Ab hr.o.own;by_cases hkl:k<LM
   .obtain⟨mb,mo,rfl,bA⟩:=M3.o ac;obtain⟨M,hM⟩:∃M,Ms[k]?=some M:=⟨_,List.getElem?_eq_getElem (by rw[bZ.o];exact hkl)⟩;obtain⟨u,r,d0,d1,d2,hu,aZ⟩:=bA k M hM;obtain⟨ua,uc,rfl,-,-,-⟩:=hu.open;obtain⟨ra,rc,rfl,-,-,-⟩:=aZ.open;replace d0:=hr.o.ex.cell d0;replace d1:=hr.o.ex.cell d1;replace d2:=hr.o.ex.cell d2;rw[show mo+3*k=mo+k*3 from ac]at d0;rw[show mo+(3*k+1)=mo+k*3+1 from ac]at d1;rw[show mo+(3*k+2)=mo+k*3+2 from ac]at d2;have HU:=Aa hu;obtain⟨LP,bD⟩:∃x,M.perm.length=x:=⟨_,rfl⟩;obtain⟨LS,bC⟩:∃x,M.scale.length=x:=⟨_,rfl⟩;rw[bD]at d0 HU;rw[bC]at d1;have HR:=Aa hr.o;have bY:=Aa hM;have i1:(0:Int)<=(k:Int):=by omega
    have i2:(k:Int)<(LM:Int):=ac;have aW:=Aa hkl;obtain⟨TB,aP⟩:∃x,wr.heap.size=x:=⟨_,rfl⟩;obtain⟨t0,t1,t2,et⟩:=Ay wr (.slice ua LP uc) (.slice ra LS rc) M.frob;rw[aP]at t0 t1 t2;have aK:=Aa et;clear hr hM hu aZ bA hkl bD bC et;go_upto_region 8 with fail
    try simp only[aP]
    clear aP d0 d1 d2 i1 i2;generalize wr.alloc (.cells #[.slice ua LP uc,.slice ra LS rc,.int .i64 M.frob] 26)=w5 at *;obtain⟨LG,aA⟩:∃x,(GL.take k).length=x:=⟨_,rfl⟩;have cA:=Aa aA;have aH:=Aa (show LG<=1000 from by rw[<-aA,List.length_take];have:=aV.o;omega);rw[aA]at HR ⊢;have bU:=Aa (show w5.ownsRow w2.heap.size 22 1 (.slice ga LG gc) LG vals from by have:=(HR.o.later aK.o).own;rwa[aA]at this);have bS:=Aa (HR.o.later aK.o).ex.size;have hkb:k<=1000:=by have:=aV.o;omega
    clear aA;go_wp2_with (at_builtin;refine Ak _ rfl _ _ 37 rfl w2.heap.size 22 (.slice none 0 0) 1 24 Tryz.underlying37 BB rfl ae _ LG vals rfl bU.o [.slice ua LP uc] 22 _ rfl ag rfl aj (by have:=aH.o;unfold maxLen;omega) (by have:=aH.o;omega) bS.o ?_)
    intro v8 w8 aI;have HN:=Aa ((HR.o.later aK.o).app (R:= [M.perm]) (us:= [.slice ua LP uc]) (gv':=v8) (w':=w8) (fun i r u h1 h2=>by
     rcases i with _|i
     .simp at h1 h2;subst h1 h2;exact HU.o
     .simp at h1) (by rw[cA.o];exact aI.own) (aI.ex (HR.o.later aK.o).ex (Nat.le_refl _)))
    rw[<-cC.o k M bY.o]at HN;obtain⟨ga8,gc8,rfl⟩:=Ab aI.own;clear aI;go_wp2_with fail
    go_roundw
    case rel=>first|exact⟨k+1,_,by have:=aW.o;omega,by go_num,HN⟩|((repeat apply Exists.intro);exact⟨⟨k+1,_,by have:=aW.o;omega,by go_num,HN⟩,rfl⟩)
    case measure=>have:=aW.o;simp[intOf];omega
   .obtain rfl:LM=k:=by omega
    have bR:=Aa (show GL.take LM=GL from List.take_of_length_le (by rw[bI.o];exact Nat.le_refl _));rw[bR.o]at hr ⊢;have HX:=Aa hr.o.ex;have bH:=Aa (PI bK wr (N:Int) GL _ hr.o.msl (by rw[bI.o];exact aV.o));have c3':=hr.o.ex.cell c3;obtain⟨OS,aQ⟩:∃x,GG (N:Int) GL=x:=⟨_,rfl⟩;have bT:=Aa aQ;obtain⟨ol,oe⟩:=OS;obtain⟨LG,aA⟩:∃x,GL.length=x:=⟨_,rfl⟩;have aT:=Aa (show Calls Tryz.prog 65 #[.int .i64 (N:Int),.slice ga LG gc] wr fun r w'=>(∃v,r= .returned (.tuple #[v,.int .i64 oe])/\BT w' v ol)/\Ex wr w' from by
     rw[<-aA];exact bH.o.mono (by
      rintro r w'⟨⟨v,h1,h2⟩,h3⟩;rw[aQ]at h1 h2;exact⟨⟨v,h1,h2⟩,h3⟩))
    rw[aA];clear hr bH aQ aA c3;go_wp2_with (go_at_call 65;refine aT.o.mono ?_;rintro e w6⟨⟨v6,rfl,aM⟩,aY⟩;obtain⟨la,lc,bL,_,_,_⟩:=aM.open;subst bL;have bQ:=Aa aM;have bP:=Aa aY;clear aM aY)
    exact bodyPost_ret (v:= .tuple #[.slice la ol.length lc,.int .i64 oe]) (by simp[results,Tryz.results24,go_sem]) rfl ⟨bF.o _ _ ⟨e0,bJ.o,.inr ⟨aX.o,by rw[bV.o,bW.o,cB.o];exact LZ bT.o bQ.o⟩⟩,aG.o.trans (bE.o.trans (HX.o.trans bP.o))⟩
end Go.Proofs.YtehieobniamagaaGreat
