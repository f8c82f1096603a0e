/- Walk of equivalence.Inverse. -/
import Derived.Deep.AppendLies
import Derived.Test.YtehieobniamagaaGreatZc11
namespace Go.Proofs.YtehieobniamagaaGreat
open Go.RowKit
set_option linter.all false
set_option maxRecDepth 100000
set_option maxHeartbeats 4000000
theorem fac_at{q:Nat}{l:List Int}(h:E4 q l=0){i:Nat}(hi:i<l.length):∃z:Nat,l.getD i 0=(z:Int)/\1<=z/\z<q:=by
 unfold E4 at h;split at h
 .cases h
 rename_i h1;split at h
 .cases h
 rename_i h2;have hm:l.getD i 0∈l:=dn;have ha:Gt q (l.getD i 0)=true:=by
  cases hb:Gt q (l.getD i 0) with
  | true=>rfl
  | false=>exact absurd (List.any_eq_true.2 ⟨_,hm,by rw[hb];rfl⟩) h1
 have hz:l.getD i 0≠0:=fun e=>h2 (List.contains_iff_mem.2 (e ▸ hm));clear hm;generalize l.getD i 0=z at *;unfold Gt at ha;simp at ha;exact⟨z.toNat,ac,ac,ac⟩
def ivS(p m:Nat)(ml sl:List Int)(bk i:Nat):Int:=((TQ p m (lw ml) (Ef p m ml (Av (p^m) (sl.getD i 0))) bk:Nat):Int)
structure CZ where
 perm:List Int
 scale:List Int
 frob:Int
def MoR(M:CZ)(e:Int)(r:Ending)(w':World):Prop:=∃u v,r= .returned (.tuple #[.agg #[u,v,M.frob],e])/\Aj w' u M.perm/\Aj w' v M.scale
structure BxM(w:World)(b:Nat):Prop where
 c0:w.cell? (b,0)=some (.slice none 0 0)
 c1:w.cell? (b,1)=some (.slice none 0 0)
 c2:w.cell? (b,2)=some (.int .i64 0)
 f0:w.frozen? (b,0)=false
 f1:w.frozen? (b,1)=false
 f2:w.frozen? (b,2)=false
theorem BxM.new(w:World):BxM (w.alloc (.cells #[.slice none 0 0,.slice none 0 0,(0:Int)] 26)) w.heap.size:=⟨ag,ag,ag,ag,ag,ag⟩
theorem BxM.ex{w w':World}{b:Nat}(h:BxM w b)(hx:Ex w w'):BxM w' b:=⟨hx.cell h.c0,hx.cell h.c1,hx.cell h.c2,hx.frz h.c0 h.f0,hx.frz h.c1 h.f1,hx.frz h.c2 h.f2⟩
theorem Co{w0 w:World}{q:Nat}(hx:Ex w0 w)(hq:w0.heap.size<=q)(u v z:Value):Ex w0 (((w.setCell (q,0) u).setCell (q,1) v).setCell (q,2) z):=
 ((hx.setCell (p:=⟨q,0,none⟩) hq _).setCell (p:=⟨q,1,none⟩) hq _).setCell (p:=⟨q,2,none⟩) hq _
theorem Fs{w:World}{q:Nat}{v:Value}{l:List Int}(h:Aj w v l)(hq:∀B,v.ownBlock=some B->B≠q)(a b c:Value):Aj (((w.setCell (q,0) a).setCell (q,1) b).setCell (q,2) c) v l:=
 Sl.other (Sl.other (Sl.other h (fun B e=>hq B e) _) (fun B e=>hq B e) _) (fun B e=>hq B e) _
theorem Ax(w:World)(a b:Addr)(u:Value):(w.setCell a u).frozen? b=w.frozen? b:=ag
structure Hz(w1 wr:World)(B:Nat)(bk:Int)(pv sv:Value)(L0 L1:List Int):Prop where
 b0:wr.cell? (B,0)=some pv
 b1:wr.cell? (B,1)=some sv
 b2:wr.cell? (B,2)=some (.int .i64 bk)
 f0:wr.frozen? (B,0)=false
 f1:wr.frozen? (B,1)=false
 o0:wr.ownsRow w1.heap.size 3 1 pv L0.length (Ap L0)
 o1:wr.ownsRow w1.heap.size 3 1 sv L1.length (Ap L1)
 ap:AT pv sv
 n0:∀X,pv.ownBlock=some X->X≠B
 n1:∀X,sv.ownBlock=some X->X≠B
 lb:w1.heap.size<=B
 ex:Ex w1 wr
section
variable {w1 wr w':World} {B:Nat} {bk:Int} {pv sv v':Value} {L0 L1:List Int} {x:Int}
theorem Hz.later(h:Hz w1 wr B bk pv sv L0 L1)(hx:Ex wr w'):Hz w1 w' B bk pv sv L0 L1:=
 ⟨hx.cell h.b0,hx.cell h.b1,hx.cell h.b2,hx.frz h.b0 h.f0,hx.frz h.b1 h.f1,Ai h.o0 hx,Ai h.o1 hx,h.ap,h.n0,h.n1,h.lb,h.ex.trans hx⟩
theorem Hz.no0(h:Hz w1 wr B bk pv sv L0 L1):some B≠pv.ownBlock:=fun e=>h.n0 B e.symm rfl
theorem Hz.no1(h:Hz w1 wr B bk pv sv L0 L1):some B≠sv.ownBlock:=fun e=>h.n1 B e.symm rfl
theorem zbw{P:Prop}(h:P:=by
 have aA:=World.block_lt_of_cell? _ _ hB;rcases ha.at_ with h1|h1
 .rw[h1]at e;exact h X e
 .rw[h1]at e;injection e with e;have:B<wr.heap.size:=aA;omega):P:=h
theorem Hz.blk{b:Nat}{u:Value}{e:TypeId}{n:Nat}{xs news:List Value}(ha:Bt wr w' b e 1 u v' n xs news)(hB:wr.cell? (B,0)=some pv)(h:∀X,u.ownBlock=some X->X≠B):∀X,v'.ownBlock=some X->X≠B:=fun X e=>by
 exact zbw
end
section
variable {w1 wr w':World} {B:Nat} {bk:Int} {pv sv v':Value} {L0 L1:List Int} {x:Int}
theorem Hz.at0g(h:Hz w1 wr B bk pv sv L0 L1)(ha:SP wr w' w1.heap.size 3 1 pv v' L0.length (Ap L0) [.int .i64 x]):
  w'.cell? (B,0)=some pv/\w'.frozen? (B,0)=false:=⟨ha.cell h.b0 h.no0,ha.frz h.b0 h.f0 h.no0⟩
theorem Hz.at1g(h:Hz w1 wr B bk pv sv L0 L1)(ha:SP wr w' w1.heap.size 3 1 sv v' L1.length (Ap L1) [.int .i64 x]):
  w'.cell? (B,1)=some sv/\w'.frozen? (B,1)=false:=⟨ha.cell h.b1 h.no1,ha.frz h.b1 h.f1 h.no1⟩
theorem Hz.blkg{b:Nat}{u:Value}{e:TypeId}{n:Nat}{xs news:List Value}(ha:SP wr w' b e 1 u v' n xs news)(hB:wr.cell? (B,0)=some pv)(h:∀X,u.ownBlock=some X->X≠B):∀X,v'.ownBlock=some X->X≠B:=fun X e=>by
 exact zbw
theorem zbY{P:Prop}(h:P:=by
 rw[List.length_append,show Ap (L0 ++ [x])=Ap L0 ++ [.int .i64 x] from by unfold Ap;simp];exact this):P:=h
theorem Hz.app0g(h:Hz w1 wr B bk pv sv L0 L1)(ha:SP wr w' w1.heap.size 3 1 pv v' L0.length (Ap L0) [.int .i64 x]):
  Hz w1 (w'.setCell (B,0) v') B bk v' sv (L0 ++ [x]) L1:=by
 have hn:=Hz.blkg ha h.b0 h.n0;have hr:=ha.row h.o1 h.ap.symm;refine⟨World.cell?_setCell_same _ _ _ (ha.cell h.b0 h.no0),?_,?_,?_,?_,?_,?_,hr.2.symm,hn,h.n1,h.lb,(ha.ex h.ex (Nat.le_refl _)).setCell (p:=⟨B,0,none⟩) h.lb _⟩
 .rw[Ag ae];exact ha.cell h.b1 h.no0
 .rw[Ag ae];exact ha.cell h.b2 h.no0
 .rw[Ax];exact ha.frz h.b0 h.f0 h.no0
 .rw[Ax];exact ha.frz h.b1 h.f1 h.no0
 .have:=Ac (a:=⟨B,0,none⟩) ha.own (fun e=>hn B e rfl) v';exact zbY
 .exact Ac (a:=⟨B,0,none⟩) hr.1 (fun e=>h.n1 B e rfl) v'
theorem zbZ{P:Prop}(h:P:=by
 rw[List.length_append,show Ap (L1 ++ [x])=Ap L1 ++ [.int .i64 x] from by unfold Ap;simp];exact this):P:=h
theorem Hz.app1g(h:Hz w1 wr B bk pv sv L0 L1)(ha:SP wr w' w1.heap.size 3 1 sv v' L1.length (Ap L1) [.int .i64 x]):
  Hz w1 (w'.setCell (B,1) v') B bk pv v' L0 (L1 ++ [x]):=by
 have hn:=Hz.blkg ha h.b0 h.n1;have hr:=ha.row h.o0 h.ap;refine⟨?_,World.cell?_setCell_same _ _ _ (ha.cell h.b1 h.no1),?_,?_,?_,?_,?_,hr.2,h.n0,hn,h.lb,(ha.ex h.ex (Nat.le_refl _)).setCell (p:=⟨B,1,none⟩) h.lb _⟩
 .rw[Ag ae];exact ha.cell h.b0 h.no1
 .rw[Ag ae];exact ha.cell h.b2 h.no1
 .rw[Ax];exact ha.frz h.b0 h.f0 h.no1
 .rw[Ax];exact ha.frz h.b1 h.f1 h.no1
 .exact Ac (a:=⟨B,1,none⟩) hr.1 (fun e=>h.n0 B e rfl) v'
 .have:=Ac (a:=⟨B,1,none⟩) ha.own (fun e=>hn B e rfl) v';exact zbZ
end
theorem Hz.new(w1:World)(bk:Int):Hz w1 (w1.alloc (.cells #[.slice none 0 0,.slice none 0 0,bk] 26)) w1.heap.size bk (.slice none 0 0) (.slice none 0 0) [] []:=
 ⟨ag,ag,ag,ag,ag,World.ownsRow_nil _ _ _ _,World.ownsRow_nil _ _ _ _,AT.nil _,by simp[Value.ownBlock],by simp[Value.ownBlock],Nat.le_refl _,(Ex.refl _).alloc _⟩
def cP(al bl:List Int)(i:Nat):Int:=bl.getD (BH al i) 0
def cS(p m:Nat)(ml al aB bs:List Int)(aA i:Nat):Int:=
 ((Al p m (lw ml) (Av (p^m) (bs.getD (BH al i) 0)) (TQ p m (lw ml) (Av (p^m) (aB.getD i 0)) aA):Nat):Int)
theorem zaE{P:Prop}(h:P:=by
 obtain rfl:i=n:=by omega
 have HF:=Aa (BZ aA.o);go_wp2_with fail
 go_ret;exact⟨Af HF.o.symm,q,rfl⟩):P:=h
theorem zbN{P:Prop}(h:P:=by
 go_roundg (n-(i+1))
 case measure=>omega
 case rel=>exact⟨i+1,q+q',by omega,by omega,by go_num,rfl,HA⟩):P:=h
theorem MX(w:World)(p0:Value)(v:Value)(n:Nat)(us:List Value)(hv:Sl w v n 1 us)(pr:Nat->Bool)
  (hp:∀(q i:Nat) (u:Value),us[i]?=some u->Calls Tryz.prog 117 #[u,p0] (w.drewN q) fun e w'=>e= .returned (.bool (pr i))/\∃q',w'=(w.drewN q).drewN q'):
  Calls Tryz.prog 169 #[v,.func (.func 117) #[] #[p0]] w fun r w'=>r= .returned (.int .i64 (Cx pr n))/\∃q,w'=w.drewN q:=by
 obtain⟨hl,a,cap,rfl,s1,s2,s3⟩:=hv;rw[Nat.mul_one]at hl;have S3:=Aa s3;have HP:=Aa hp;have HL:=Aa hl;unfold maxLen at s2;clear s3 hp hl;go_enter Tryz.func169,Tryz.ntmps169
 go_wp2_with fail
 go_loopg [5,8] n (fun gg _ i' wr=>∃i q:Nat,i<=n/\n-i<=gg/\i'= .int .i64 i/\wr=w.drewN q/\Hia (∀j,j<i->pr j=false))
 case atStart=>exact⟨0,0,ac,ac,rfl,rfl,Aa (fun j hj=>ac)⟩
 case round=>
  obtain⟨i,q,hi,hg,rfl,rfl,aA⟩:=hrel;by_cases hlt:i<n
  .obtain⟨u,hu⟩:∃u,us[i]?=some u:=⟨_,List.getElem?_eq_getElem a8⟩;obtain⟨bb,o,rfl,hc⟩:=S3.o ac;have c1:=hc i u hu;have HC:=Aa (HP.o q i u hu);have hlt':(i:Int)<(n:Int):=by omega
   clear hc hu
   cases hb:pr i with
   | true=>
    rw[hb]at HC;have HF:=Aa (CA hlt hb aA.o);clear hb;go_wp2_with (go_at_call 117;refine HC.o.mono ?_;rintro e w'⟨rfl,q',rfl⟩)
    go_ret;exact⟨Af HF.o.symm,q+q',rfl⟩
   | false=>
    rw[hb]at HC;have HA:=Aa (show ∀j,j<i+1->pr j=false from fun j hj=>by
     by_cases e:j=i
     .subst e;exact hb
     .exact aA.o j ac)
    clear hb;go_wp2_with (go_at_call 117;refine HC.o.mono ?_;rintro e w'⟨rfl,q',rfl⟩)
    exact zbN
  .exact zaE
theorem JF(w:World)(p0:Value)(v:Value)(n:Nat)(us:List Value)(hv:Sl w v n 1 us)(pr:Nat->Bool)
  (hp:∀(q i:Nat) (u:Value),us[i]?=some u->Calls Tryz.prog 117 #[u,p0] (w.drewN q) fun e w'=>e= .returned (.bool (pr i))/\∃q',w'=(w.drewN q).drewN q'):
  Calls Tryz.prog 116 #[v,.func (.func 117) #[] #[p0]] w fun r w'=>r= .returned (.bool ((List.range n).any pr))/\∃q,w'=w.drewN q:=by
 have HC:=Aa (MX w p0 v n us hv pr hp);have HB:=Aa (Eg pr n);obtain⟨z,hz⟩:=nA (Cx pr n);rw[hz]at HC HB;clear hz hp hv;go_enter Tryz.func116,Tryz.ntmps116
 go_wp2_with (go_at_call 169;refine HC.o.mono ?_;rintro e w'⟨rfl,q,rfl⟩)
 go_ret;exact⟨Aq HB.o.symm,q,rfl⟩
theorem M4(w:World)(p0:Value)(v:Value)(n:Nat)(us:List Value)(hv:Sl w v n 1 us)(pr:Nat->Bool)
  (hp:∀(q i:Nat) (u:Value),us[i]?=some u->Calls Tryz.prog 176 #[u,p0] (w.drewN q) fun e w'=>e= .returned (.bool (pr i))/\∃q',w'=(w.drewN q).drewN q'):
  Calls Tryz.prog 129 #[v,.func (.func 176) #[] #[p0]] w fun r w'=>r= .returned (.int .i64 (Cx pr n))/\∃q,w'=w.drewN q:=by
 obtain⟨hl,a,cap,rfl,s1,s2,s3⟩:=hv;rw[Nat.mul_one]at hl;have S3:=Aa s3;have HP:=Aa hp;have HL:=Aa hl;unfold maxLen at s2;clear s3 hp hl;go_enter Tryz.func129,Tryz.ntmps129
 go_wp2_with fail
 go_loopg [5,8] n (fun gg _ i' wr=>∃i q:Nat,i<=n/\n-i<=gg/\i'= .int .i64 i/\wr=w.drewN q/\Hia (∀j,j<i->pr j=false))
 case atStart=>exact⟨0,0,ac,ac,rfl,rfl,Aa (fun j hj=>ac)⟩
 case round=>
  obtain⟨i,q,hi,hg,rfl,rfl,aA⟩:=hrel;by_cases hlt:i<n
  .obtain⟨u,hu⟩:∃u,us[i]?=some u:=⟨_,List.getElem?_eq_getElem a8⟩;obtain⟨bb,o,rfl,hc⟩:=S3.o ac;have c1:=hc i u hu;have HC:=Aa (HP.o q i u hu);have hlt':(i:Int)<(n:Int):=by omega
   clear hc hu
   cases hb:pr i with
   | true=>
    rw[hb]at HC;have HF:=Aa (CA hlt hb aA.o);clear hb;go_wp2_with (go_at_call 176;refine HC.o.mono ?_;rintro e w'⟨rfl,q',rfl⟩)
    go_ret;exact⟨Af HF.o.symm,q+q',rfl⟩
   | false=>
    rw[hb]at HC;have HA:=Aa (show ∀j,j<i+1->pr j=false from fun j hj=>by
     by_cases e:j=i
     .subst e;exact hb
     .exact aA.o j ac)
    clear hb;go_wp2_with (go_at_call 176;refine HC.o.mono ?_;rintro e w'⟨rfl,q',rfl⟩)
    exact zbN
  .exact zaE
theorem JG(w:World)(p0:Value)(v:Value)(n:Nat)(us:List Value)(hv:Sl w v n 1 us)(pr:Nat->Bool)
  (hp:∀(q i:Nat) (u:Value),us[i]?=some u->Calls Tryz.prog 176 #[u,p0] (w.drewN q) fun e w'=>e= .returned (.bool (pr i))/\∃q',w'=(w.drewN q).drewN q'):
  Calls Tryz.prog 71 #[v,.func (.func 176) #[] #[p0]] w fun r w'=>r= .returned (.bool ((List.range n).any pr))/\∃q,w'=w.drewN q:=by
 have HC:=Aa (M4 w p0 v n us hv pr hp);have HB:=Aa (Eg pr n);obtain⟨z,hz⟩:=nA (Cx pr n);rw[hz]at HC HB;clear hz hp hv;go_enter Tryz.func71,Tryz.ntmps71
 go_wp2_with (go_at_call 129;refine HC.o.mono ?_;rintro e w'⟨rfl,q,rfl⟩)
 go_ret;exact⟨Aq HB.o.symm,q,rfl⟩
section
variable {p m:Nat} {ml:List Int} {mv:Value}
end
section
variable {p m:Nat} {ml:List Int} {mv:Value}
end
def Lp(p m:Int)(ml:List Int)(aA:Int)(rows:List (List Int)):Int:=if Dx p m ml aA rows≠0 then Dx p m ml aA rows else Ew aA
def CNewR(p m:Int)(ml:List Int)(aA:Int)(rows:List (List Int))(b0:Nat)(r:Ending)(w':World):Prop:=
 (Lp p m ml aA rows≠0/\r= .returned (.tuple #[.agg #[(0:Int),(0:Int),.slice none 0 0,(0:Int),.slice none 0 0],.int .i64 (Lp p m ml aA rows)]))∨
 (Lp p m ml aA rows=0/\∃(pn mn N:Nat) (piv:List Nat) (a':Nat->Nat->Int) (rv v':Value),p=pn/\m=mn/\aA=N/\FP p m ml/\BV (pn^mn) N rows=0/\r= .returned (.tuple #[.agg #[p,m,v',N,rv],(0:Int)])/\Hk pn mn ml N rows.length (An rows) a' piv/\Aj w' v' ml/\B9 w' rv (Au N piv.length a')/\(∀B,v'.ownBlock=some B->b0<=B)/\∃g blk cap base,b0<=base/\rv= .slice (some ⟨g,0,none⟩) piv.length piv.length/\EM w' base g rows.length N blk cap a' []/\piv.length<=rows.length/\rows.length<=256)
theorem db{P:Prop}(h:P:=by simp[results,Tryz.results93,go_sem,q0,q1,q2,q3,q4]):P:=h
theorem QK(w:World)(p m:Int)(ml:List Int)(mv:Value)(aG:Aj w mv ml)(hn:ml.length<=1000)(aA:Int)(rows:List (List Int))(v:Value)(hv:B9 w v rows)(h0:Dx p m ml aA rows=0->1<=aA):
  Calls Tryz.prog 93 #[.agg #[p,m,mv],.agg #[aA,v]] w fun r w'=>CNewR p m ml aA rows w.heap.size r w'/\Ex w w':=by
 obtain⟨g0,g1,g2,e0,aH⟩:=AD w p m mv;have aY:=Aa (fun (w':World) (h:Ex w w')=>HJ w' p m ml mv (aG.ex h) aA rows v (hv.ex h) h0);have aV:=Aa aG;obtain⟨za,zc,rfl,-,z2,-⟩:=hv.open;unfold maxLen at z2;obtain⟨ma,mc,rfl,-,m2,-⟩:=aG.open;unfold maxLen at m2;obtain⟨xb,aL⟩:=nA w.heap.size;rw[aL]at g0 g1 g2 aH;clear aG hv h0;go_enter Tryz.func93,Tryz.ntmps93
 go_wp2_with fail
 generalize w.alloc (.cells #[p,m,.slice ma ml.length mc] 24)=wA at *;obtain⟨a0,a1,ea⟩:=Dt wA aA (.slice za rows.length zc);have aM:(wA.alloc (.cells #[aA,.slice za rows.length zc] 137)).heap.size=xb+1+1:=by simp[aH]
 rw[aH]at a0 a1;generalize wA.alloc (.cells #[aA,.slice za rows.length zc] 137)=wB at *;have bq:=BxC.new wB;rw[aM]at bq;have eb:Ex wB _:=(Ex.refl wB).alloc (.cells #[(0:Int),(0:Int),.slice none 0 0,(0:Int),.slice none 0 0] 39);obtain⟨A0,G0,G1,G2,BQ,HE⟩:=To (eb.cell a0) ((ea.trans eb).cell g0) ((ea.trans eb).cell g1) ((ea.trans eb).cell g2) bq ((e0.trans ea).trans eb);have aT:(wB.alloc (.cells #[(0:Int),(0:Int),.slice none 0 0,(0:Int),.slice none 0 0] 39)).heap.size=xb+1+1+1:=by simp[aM]
 generalize wB.alloc (.cells #[(0:Int),(0:Int),.slice none 0 0,(0:Int),.slice none 0 0] 39)=wC at *;have aP:=Aa aT;have aU:=Aa aL;refine(aY.o wC HE.o).mono ?_;clear g0 g1 g2 a0 a1 bq e0 ea eb aM aH aT aL;rintro e w2⟨hc,aD⟩;obtain⟨aI,aZ,bA,A0,G0,G1,G2⟩:=OK (HE.o.trans aD) aD (BQ.o.ex aD) (aD.cell A0.o) (aD.cell G0.o) (aD.cell G1.o) (aD.cell G2.o);clear aD BQ HE aY;rcases hc with⟨hce,pn,mn,N,piv,a',rv,pv,rfl,rfl,rfl,hfb,hmk,rfl,hel,hrv,hpv,g,blk,cap,base,hbase,rfl,hem⟩|⟨hce,rfl⟩
 .have aF:Lp pn mn ml N rows=Ew N:=by unfold Lp;rw[if_neg (by simp[hce])]
  have HN:=Aa aF;have aW:=Aa (fun (w':World)=>Lz w' (N:Int));obtain⟨L,hL⟩:=nA (Ew N);rw[hL]at HN aW;have aS:=(GR hel).1;have aR:=(EP hmk).2.2.1;obtain⟨bI,aJ,aE,aN⟩:=Eq hem (show piv.length<=rows.length/\rows.length<=256 from⟨aS,aR⟩) (show xb+1+1<base from by have:=aP.o;omega) (show FP pn mn ml/\BV (pn^mn) N rows=0/\Hk pn mn ml N rows.length (An rows) a' piv from⟨hfb,hmk,hel⟩);obtain⟨pa,pc,rfl,-,-,-⟩:=hpv.open;have aB:=Aa ((Ex.refl w2).alloc (.cells #[N,.slice (some ⟨g,0,none⟩) piv.length piv.length] 137));have aO:=Aa (Mf _ pn mn ml _ (aV.o.ex (aI.o.trans aB.o)) hn N (Au N piv.length a') _ (hrv.ex aB.o) L);have g0:=aB.o.cell G0.o;have g1:=aB.o.cell G1.o;have g2:=aB.o.cell G2.o;have a0:=aB.o.cell A0.o;have aQ:=Aa (bA.o.ex aB.o);clear aF hL hce hfb hmk hel hrv hpv hbase hem aS aR;go_wp2_with fail
  refine(aW.o _).mono ?_;rintro e w3⟨rfl,bG⟩;subst bG;go_wp2_with fail
  refine aO.o.mono ?_;rintro e w4⟨ho,aC⟩;have X4:=Aa ((aI.o.trans aB.o).trans aC);have bK:=Aa (bI.o.ex (aB.o.trans aC));have hw:=aU.o;obtain⟨q0,q1,q2,q3,q4,bF,bE,bD,bC,bB⟩:=aQ.o.ex aC;clear aC g0 g1 g2 a0;rcases ho with⟨hz,rfl⟩|⟨hz,v',rfl,hv',hb'⟩
  .have aK:=Aa hz;clear hz;go_wp2_with fail
   exact bodyPost_ret (v:= .tuple #[.agg #[(0:Int),(0:Int),.slice none 0 0,(0:Int),.slice none 0 0],L]) db rfl ⟨.inl ⟨by rw[HN.o];exact aK.o,by rw[HN.o]⟩,D6 X4.o ac _ _ _ _ _⟩
  .subst hz;have HV:=Aa hv';have HB:=Aa (show ∀B,v'.ownBlock=some B->B≠xb+1+1 from fun B h=>by
    have h1:=hb' B h;have h2:=aZ.o.size;have h3:=aP.o;simp at h1;omega)
   have bJ:=Aa (show ∀B,v'.ownBlock=some B->w.heap.size<=B from fun B h=>by
    have h1:=hb' B h;have h2:=aZ.o.size;have h3:=aP.o;simp at h1;omega)
   obtain⟨va,vc,rfl,-,-,-⟩:=hv'.open;clear hv' hb';have aX:=Aa ((((((bK.o.low (A:=⟨xb+1+1,0,none⟩) aE.o (.int .i64 pn)).low (A:=⟨xb+1+1,1,none⟩) aE.o (.int .i64 mn)).low (A:=⟨xb+1+1,2,none⟩) aE.o (.slice va ml.length vc)).low (A:=⟨xb+1+1,3,none⟩) aE.o (.int .i64 N)).low (A:=⟨xb+1+1,4,none⟩) aE.o (.slice (some ⟨g,0,none⟩) piv.length piv.length)));have bH:=Aa (aX.o.msl aJ.o.1 aJ.o.2);go_wp2_with fail
   exact bodyPost_ret (v:= .tuple #[.agg #[pn,mn,.slice va ml.length vc,N,.slice (some ⟨g,0,none⟩) piv.length piv.length],(0:Int)]) db rfl ⟨.inr ⟨HN.o,pn,mn,N,piv,a',_,_,rfl,rfl,rfl,aN.o.1,aN.o.2.1,rfl,aN.o.2.2,KU HV.o HB.o _ _ _ _ _,bH.o,bJ.o,g,blk,cap,base,by have:=aE.o;omega,rfl,aX.o,aJ.o.1,aJ.o.2⟩,D6 X4.o ac _ _ _ _ _⟩
 .have aF:Lp p m ml aA rows=Dx p m ml aA rows:=by unfold Lp;rw[if_pos hce]
  have HN:=Aa aF;obtain⟨E,hE⟩:=nA (Dx p m ml aA rows);rw[hE]at HN hce ⊢;have hb:(E==0)=false:=by simpa using hce
  have aK:=Aa hce;have aB:=Aa ((Ex.refl w2).alloc (.cells #[(0:Int),.slice none 0 0] 137));have aO:=Aa (Mf _ p m ml _ (aV.o.ex (aI.o.trans aB.o)) hn 0 [] (.slice none 0 0) ⟨[],Sl.nil _ 1,fun i r u h=>by simp at h⟩ E);have g0:=aB.o.cell G0.o;have g1:=aB.o.cell G1.o;have g2:=aB.o.cell G2.o;have aQ:=Aa (bA.o.ex aB.o);clear aF hE hce;go_wp2_with fail
  refine aO.o.mono ?_;rintro e w4⟨ho,aC⟩;rcases ho with⟨_,rfl⟩|⟨h,_⟩
  .obtain⟨q0,q1,q2,q3,q4,bF,bE,bD,bC,bB⟩:=aQ.o.ex aC;have X4:=Aa ((aI.o.trans aB.o).trans aC);have hw:=aU.o;clear aC g0 g1 g2;go_wp2_with fail
   exact bodyPost_ret (v:= .tuple #[.agg #[(0:Int),(0:Int),.slice none 0 0,(0:Int),.slice none 0 0],E]) db rfl ⟨.inl ⟨by rw[HN.o];exact aK.o,by rw[HN.o]⟩,D6 X4.o ac _ _ _ _ _⟩
  .exact absurd h aK.o
section
variable (p m:Nat) (ml:List Int)
def Lb(x:Int)(u r:Nat->Int)(j:Nat):Int:=if r j=0 then u j else((AH p m (Av (p^m) (u j)) (CI p m (Al p m (lw ml) (Av (p^m) x) (Av (p^m) (r j)))):Nat):Int)
def GD(x:Int)(u r:Nat->Int)(c j:Nat):Int:=if j<c then Lb p m ml x u r j else u j
def MG(u:Nat->Int)(pl:Nat)(r:Nat->Int):Nat->Int:=if u pl=0 then u else Lb p m ml (u pl) u r
def Od(a:Nat->Nat->Int)(pl:Nat->Nat)(v:Nat->Int):Nat->Nat->Int
 | 0=>v
 | k+1=>MG p m ml (Od a pl v k) (pl k) (a k)
def MK(t:Nat)(v:Nat->Int):Int:=Cx (fun j=>v j !=0) t
def ivz(z:Nat):Nat:=if z=0 then 0 else Ef p m ml z
structure My where
 n:Nat
 a:Nat->Nat->Int
 pl:Nat->Nat
def My.red(e:My)(v:Nat->Int):Nat->Int:=Od p m ml e.a e.pl v e.n
def Gz(t:Nat)(e:My)(r:Nat->Int):My:=
 if 0<=MK t (e.red p m ml r) then⟨e.n+1,Ay e.a e.n (BT p m ml (ivz p m ml (Av (p^m) (e.red p m ml r (MK t (e.red p m ml r)).toNat))) (e.red p m ml r)),Ay e.pl e.n (MK t (e.red p m ml r)).toNat⟩ else e
def Ht(t:Nat)(rows:Nat->Nat->Int):Nat->My
 | 0=>⟨0,fun _ _=>0,fun _=>0⟩
 | k+1=>Gz p m ml t (Ht t rows k) (rows k)
def Jp(t:Nat)(e:My)(rows:Nat->Nat->Int)(n:Nat):Int:=Cx (fun i=>decide (0<=MK t (e.red p m ml (rows i)))) n
def Gl(sc:List Int)(x:Nat->Int)(i:Nat):Int:=((Al p m (lw ml) (Av (p^m) (sc.getD i 0)) (Av (p^m) (x i)):Nat):Int)
def Jc(tl:List Int)(y:Nat->Int)(i:Nat):Int:=y (tl.getD i 0).toNat
def Fi(l1 l2:List (List Int))(tl sc:List Int):Int × Int:=
 let i:=Jp p m ml tl.length (Ht p m ml tl.length (fun i=>Jc tl (An l2 i)) l2.length) (fun i=>Gl p m ml sc (An l1 i)) l1.length
 if 0<=i then(0,i) else
 let k:=Jp p m ml tl.length (Ht p m ml tl.length (fun i=>Gl p m ml sc (An l1 i)) l1.length) (fun i=>Jc tl (An l2 i)) l2.length
 if 0<=k then(1,k) else(-1,-1)
end
def SR(i n:Nat):List Int:=il n (Ay (fun _=>0) i 1)
def J3(R1 R2:Nat)(s:Int × Int):List Int:=if s.1=0 then SR s.2.toNat R1 else if s.1=1 then SR s.2.toNat R2 else []
theorem zdg{P:Prop}(h:P:=by
 rw[List.getD_eq_getElem?_getD,AQ h];rfl):P:=h
theorem GT{N j:Nat}(h:j<N)(f:Nat->Int):(il N f).getD j 0=f j:=by
 exact zdg
theorem OO(pr:Nat->Bool)(n:Nat):Cx pr n<n/\-1<=Cx pr n:=by
 unfold Cx;split
 .rename_i i h;have:=List.mem_range.1 (List.mem_of_find?_eq_some h);omega
 .omega
theorem WM(t:Nat)(v:Nat->Int):MK t v<t/\-1<=MK t v:=OO _ _
section
variable {p m:Nat} {ml:List Int}
theorem Y7{t:Nat}{e:My}{r:Nat->Int}(h:∀i,i<e.n->e.pl i<t):∀i,i<(Gz p m ml t e r).n->(Gz p m ml t e r).pl i<t:=by
 have hz:=WM t (e.red p m ml r);unfold Gz;split
 .intro i hi;simp only at hi ⊢;by_cases e1:i=e.n
  .subst e1;rw[Ab];omega
  .rw[Ae _ _ e1];exact h i ac
 .exact h
theorem KL(t:Nat)(rows:Nat->Nat->Int):∀k i,i<(Ht p m ml t rows k).n->(Ht p m ml t rows k).pl i<t
 | 0=>fun i hi=>by simp only[Ht]at hi;omega
 | k+1=>Y7 (KL t rows k)
theorem spnS_n{t:Nat}{e:My}{r:Nat->Int}:(Gz p m ml t e r).n<=e.n+1:=by
 unfold Gz;split
 .simp
 .omega
theorem spn_n(t:Nat)(rows:Nat->Nat->Int):∀k,(Ht p m ml t rows k).n<=k
 | 0=>by simp[Ht]
 | k+1=>by
  have:=spn_n t rows k;have:=spnS_n (p:=p) (m:=m) (ml:=ml) (t:=t) (e:=Ht p m ml t rows k) (r:=rows k);show(Gz p m ml t _ _).n<=_
  omega
end
structure Nd where
 tl:List Int
 sc:List Int
 side:Int
 msg:List Int
def Gr{σ:Type}(step:σ->List Int->List Int->σ × Int)(tl sc:List Int)(j:Nat):Nat->σ->σ × Int
 | 0,s=>(s,0)
 | c+1,s=>if (Gr step tl sc j c s).2≠0 then Gr step tl sc j c s else step (Gr step tl sc j c s).1 (tl ++ [(j:Int)]) (sc ++ [((c+1:Nat):Int)])
def Es{σ:Type}(step:σ->List Int->List Int->σ × Int)(q:Nat)(tl sc:List Int):Nat->σ->σ × Int
 | 0,s=>(s,0)
 | j+1,s=>if (Es step q tl sc j s).2≠0 then Es step q tl sc j s else if tl.contains (j:Int) then Es step q tl sc j s else Gr step tl sc j (q-1) (Es step q tl sc j s).1
def MC(p m:Nat)(ml:List Int)(l1 l2:List (List Int))(n:Nat):Nat->Nat × List Nd->List Int->List Int->(Nat × List Nd) × Int
 | d,s,tl,sc=>
  if s.1=65536 then(s,8) else
  let w:=Fi p m ml l1 l2 tl sc
  let s1:=(s.1+1,s.2 ++ [⟨tl,sc,w.1,J3 l1.length l2.length w⟩])
  if 0<=w.1 then(s1,0) else if tl.length=n then(s1,18) else
  match d with
  | 0=>(s1,0)
  | d+1=>Es (MC p m ml l1 l2 n d) (p^m) tl sc n s1
def CN(p m:Int)(ml:List Int)(p' m':Int)(aA:List Int):Bool:=p==p'&&m==m'&&ml==aA
theorem Ft{p m:Int}{ml:List Int}{p' m':Int}{ml':List Int}:CN p m ml p' m' ml'=true↔p=p'/\m=m'/\ml=ml':=by
 unfold CN;simp[and_assoc]
theorem Vx(w:World)(p m:Int)(ml:List Int)(mv:Value)(aJ:Aj w mv ml)(p' m':Int)(aA:List Int)(aF:Value)(aC:Aj w aF aA):
  Calls Tryz.prog 191 #[.agg #[p,m,mv],.agg #[p',m',aF]] w fun r w'=>r= .returned (.bool (CN p m ml p' m' aA))/\Ex w w':=by
 obtain⟨a0,a1,a2,ea,-⟩:=AD w p m mv;obtain⟨b0,b1,b2,eb,-⟩:=AD (w.alloc (.cells #[p,m,mv] 24)) p' m' aF;replace a0:=eb.cell a0;replace a1:=eb.cell a1;replace a2:=eb.cell a2;have aH:(w.alloc (.cells #[p,m,mv] 24)).heap.size=w.heap.size+1:=ag;rw[aH]at b0 b1 b2;have HE:=Aa (ea.trans eb);obtain⟨ma,mc,rfl,m1',m2,m3⟩:=aJ.open;obtain⟨na,nc,rfl,-,n2,n3⟩:=aC.open;unfold maxLen at m2 n2;obtain⟨R,hR⟩:=nA (CN p m ml p' m' aA);rw[hR];have M3:=Aa m3;have N3:=Aa n3;have HR:=Aa hR;clear aJ aC aH ea eb m3 n3 hR;go_enter Tryz.func191,Tryz.ntmps191
 by_cases h1:p=p'
 .have aQ:(p !=p')=false:=by simpa using h1
  by_cases h2:m=m'
  .have aP:(m !=m')=false:=by simpa using h2
   by_cases h3:ml.length=aA.length
   .have b3:((ml.length:Int) !=(aA.length:Int))=false:=by simp;omega
    subst h1;subst h2;have hn:∃n,ml.length=n:=⟨_,rfl⟩;have aL:=Aa (show R=true↔ml=aA from by rw[<-HR.o,Ft];simp);have H3:=Aa h3;rw[<-h3]at a0 a1 a2 b0 b1 b2 HE ⊢;clear h3 b3 hn;go_wp2_with fail
    generalize (w.alloc (.cells #[p,m,.slice ma ml.length mc] 24)).alloc (.cells #[p,m,.slice na ml.length nc] 24)=w1 at *;have A2:=Aa a2;have B2:=Aa b2
    go_loopw [31] (fun i' wr=>∃(i:Nat),i<=ml.length/\i'= .int .i64 i/\(∀j,j<i->ml.getD j 0=aA.getD j 0)/\Hia (Ex w1 wr)) (fun i' _=>ml.length-(intOf i').toNat)
    case atStart=>exact⟨0,ac,rfl,fun j hj=>ac,Aa (Ex.refl _)⟩
    case round=>
     obtain⟨i,hi,rfl,aD,aB⟩:=hrel;have aM:=Aa aD;clear aD a0 a1 b0 b1;by_cases hin:i<ml.length
     .obtain⟨mb,mo,rfl,aK⟩:=M3.o ac;obtain⟨nb,no,rfl,aI⟩:=N3.o (by have:=H3.o;omega);have c1:=aB.o.cell (HE.o.cell (aK i _ (show ml[i]?=some (ml.getD i 0) from by rw[List.getD_eq_getElem?_getD,List.getElem?_eq_getElem hin];rfl)));have c2:=aB.o.cell (HE.o.cell (aI i _ (show aA[i]?=some (aA.getD i 0) from by rw[List.getD_eq_getElem?_getD,List.getElem?_eq_getElem (by have:=H3.o;omega)];rfl)));have f2:=aB.o.cell A2.o;have g2:=aB.o.cell B2.o;have j1:(0:Int)<=(i:Int):=by omega
      have j2:(i:Int)<(ml.length:Int):=ac;have aO:m2=m2:=rfl;obtain⟨x,hx⟩:=nA (ml.getD i 0);obtain⟨y,hy⟩:=nA (aA.getD i 0);rw[hx]at c1;rw[hy]at c2;have aE:=Aa (show x=ml.getD i 0/\y=aA.getD i 0 from⟨hx.symm,hy.symm⟩);clear hx hy aK aI a2 b2 aO;by_cases hxy:x=y
      .have aN:=Aa (show ∀j,j<i+1->ml.getD j 0=aA.getD j 0 from fun j hj=>by
        by_cases e:j=i
        .subst e;rw[<-aE.o.1,<-aE.o.2,hxy]
        .exact aM.o j ac)
       have bb:(y !=x)=false:=by simp[hxy]
       have aG:y=x:=hxy.symm;subst aG;clear hxy;go_wp2_with fail
       go_roundw
       case rel=>first|exact⟨i+1,ac,by go_num,aN.o,aB⟩|((repeat apply Exists.intro);exact⟨⟨i+1,ac,by go_num,aN.o,aB⟩,rfl⟩)
       case measure=>simp[intOf];omega
      .have bb:(y !=x)=true:=by simpa using fun h=>hxy h.symm
       have hr:R=false:=Bool.eq_false_iff.2 fun h=>hxy (by rw[aE.o.1,aE.o.2,aL.o.1 h]);subst hr;have aG:¬y=x:=fun h=>hxy h.symm;clear hxy;go_wp2_with fail
       go_ret;exact⟨rfl,HE.o.trans aB.o⟩
     .obtain rfl:i=ml.length:=by omega
      have hr:R=true:=aL.o.2 (List.ext_getElem? fun j=>by
       by_cases hj:j<ml.length
       .have:=aM.o j hj;rw[List.getElem?_eq_getElem hj,List.getElem?_eq_getElem (by have:=H3.o;omega)];rw[List.getD_eq_getElem?_getD,List.getElem?_eq_getElem hj,List.getD_eq_getElem?_getD,List.getElem?_eq_getElem (by have:=H3.o;omega)]at this;simpa using this
       .rw[List.getElem?_eq_none ac,List.getElem?_eq_none (by have:=H3.o;omega)])
      subst hr;go_wp2_with fail
      go_ret;exact⟨rfl,HE.o.trans aB.o⟩
   .have b3:((ml.length:Int) !=(aA.length:Int))=true:=by simp;omega
    have hr:R=false:=by
     rw[<-HR.o];exact Bool.eq_false_iff.2 fun h=>h3 (by rw[(Ft.1 h).2.2])
    subst hr;have h3':¬((ml.length:Int)=(aA.length:Int)):=ac;clear h3 h1 h2;exact zda
  .have aP:(m !=m')=true:=by simpa using h2
   have hr:R=false:=by
    rw[<-HR.o];exact Bool.eq_false_iff.2 fun h=>h2 (Ft.1 h).2.1
   subst hr;clear h1 h2;exact zda
 .have aQ:(p !=p')=true:=by simpa using h1
  have hr:R=false:=by
   rw[<-HR.o];exact Bool.eq_false_iff.2 fun h=>h1 (Ft.1 h).1
  subst hr;clear h1;exact zda
theorem Rw(w:World)(p m:Int)(mv:Value)(n:Int)(rows:List (List Int))(v:Value)(hv:B9 w v rows)(aA:Int)(aD:0<=aA)(aC:aA<=100000):
  Calls Tryz.prog 61 #[.agg #[p,m,mv,n,v],aA] w fun r w'=>r= .returned (.bool (Qw 0 rows aA))/\Ex w w':=by
 obtain⟨a0,a1,a2,a3,a4,ea⟩:=EV w p m mv n v;have aB:=Aa (fun (w':World) (h:Ex w w')=>UI w' 0 rows v (hv.ex h) aA aD aC);obtain⟨za,zc,rfl,-,z2,-⟩:=hv.open;have HE:=Aa ea;clear hv ea z2;obtain⟨F,hF⟩:=nA (Qw 0 rows aA);rw[hF]at aB ⊢;clear hF;go_enter Tryz.func61,Tryz.ntmps61
 go_wp2_with fail
 generalize w.alloc (.cells #[p,m,mv,n,.slice za rows.length zc] 39)=w1 at *;refine(aB.o w1 HE.o).mono ?_;rintro e w2⟨rfl,hx⟩;have HX:=Aa (HE.o.trans hx);clear hx;exact zc9
theorem chk_can{p m:Int}{ml:List Int}{aA:Int}{rows:List (List Int)}{e:Int}(h:Mv p m ml aA rows e):Dx p m ml aA rows=e:=by
 unfold Dx;rcases h with⟨pn,mn,rfl,rfl,h3,h4⟩|⟨h1,h2⟩
 .rw[if_neg (fun h=>h ((BU _ _ _).2 h3)),h4];rfl
 .rw[if_pos (fun h=>h1 ((BU _ _ _).1 h)),h2]
theorem JQ{N:Nat}{rows:List (List Int)}(h:∀r∈rows,r.length=N):Au N rows.length (An rows)=rows:=by
 apply List.ext_getElem?;intro i;by_cases hi:i<rows.length
 .rw[Dq hi,List.getElem?_eq_getElem hi,V4 (List.getElem?_eq_getElem hi) (h _ (List.getElem_mem hi))]
 .rw[List.getElem?_eq_none (by rw[AL];omega),List.getElem?_eq_none ac]
theorem UB{p m N:Nat}{rows:List (List Int)}(h:∀r∈rows,r.length=N/\Ce (p^m) r=0):Q4 p m rows.length N (An rows):=fun i hi j hj=>by
 have aA:rows[i]?=some rows[i]:=List.getElem?_eq_getElem hi;obtain⟨h1,h2⟩:=h _ (List.getElem_mem hi);have e:An rows i j=rows[i].getD j 0:=by unfold An;rw[List.getD_eq_getElem?_getD (l:=rows),aA];rfl
 rw[e];exact zbQ
theorem zbq{P:Prop}(h:P:=by
 clear hLR aF;go_wp2_with (go_at_call 27;refine aJ.o.mono ?_;rintro e w4⟨rfl,n3,aM⟩;subst aM)
 have aQ:=Aa (aR.o.drewN n3);go_wp2_with fail
 go_ret;exact⟨⟨_,rfl,aD.o⟩,aQ.o⟩):P:=h
theorem Rx(p m:Int)(ml:List Int)(mv:Value)(w:World)(aG:Aj w mv ml)(aA:Int)(rows:List (List Int))(v:Value)(hv:B9 w v rows):
  Calls Tryz.prog 88 #[.agg #[p,m,mv],.agg #[aA,v]] w fun r w'=>(∃e:Int,r= .returned (.int .i64 e)/\MQ p m ml aA rows e)/\Ex w w':=by
 obtain⟨g0,g1,g2,e0,aP⟩:=AD w p m mv;have aV:=Aa (fun (w':World) (h:Ex w w')=>UM p m ml mv w' (aG.ex h) aA rows v (hv.ex h));have aZ:=Aa aG;have HV:=Aa hv;obtain⟨za,zc,rfl,z1,z2,z3⟩:=hv.open;clear z1 z3;unfold maxLen at z2;obtain⟨ma,mc,rfl,-,m2,-⟩:=aG.open;unfold maxLen at m2;obtain⟨xb,aY⟩:=nA w.heap.size;rw[aY]at g0 g1 g2 aP;clear aG hv;go_enter Tryz.func88,Tryz.ntmps88
 go_wp2_with fail
 generalize w.alloc (.cells #[p,m,.slice ma ml.length mc] 24)=wA at *;obtain⟨a0,a1,ea⟩:=Dt wA aA (.slice za rows.length zc);rw[aP]at a0 a1;generalize wA.alloc (.cells #[aA,.slice za rows.length zc] 137)=wB at *;obtain⟨A0,A1,G0,G1,G2,HE⟩:=To a0 a1 (ea.cell g0) (ea.cell g1) (ea.cell g2) (e0.trans ea);clear g0 g1 g2 a0 a1 e0 ea aP;refine(aV.o wB HE.o).mono ?_;rintro e w2⟨e,rfl,hc,aC⟩;obtain⟨aI,A0,A1,G0,G1,G2⟩:=To (HE.o.trans aC) (aC.cell A0.o) (aC.cell A1.o) (aC.cell G0.o) (aC.cell G1.o) (aC.cell G2.o);clear aC HE aV;have aE:=chk_can hc;by_cases he:e=0
 .subst he;rcases hc with⟨pn,mn,rfl,rfl,hfb,hmk⟩|⟨_,h⟩
  .obtain⟨s1,s2,s3,s4⟩:=EP hmk.symm;obtain⟨N,rfl⟩:∃N:Nat,aA=N:=⟨aA.toNat,ac⟩;have aB:∀r∈rows,r.length=N/\Ce (pn^mn) r=0:=fun r hr=>by obtain⟨h1,h2⟩:=s4 r hr;exact⟨ac,h2⟩
   have aN:Hh pn mn ml/\Hr pn mn (lw ml):=by
    obtain⟨aW,aX,e1,e2,h3,h4,h5⟩:=hfb;obtain rfl:aW=pn:=ac;obtain rfl:aX=mn:=ac;exact⟨h3,h5⟩
   have aU:=Aa (Ry (mv:= .slice ma ml.length mc) w2 aN.1 aN.2 (aZ.o.ex aI.o) N rows.length ac s3 (An rows) (UB aB) _ (by rw[JQ fun r hr=>(aB r hr).1];exact HV.o.ex aI.o));have aK:=Aa (fun piv a' e (aH:Hk pn mn ml N rows.length (An rows) a' piv) (h:e=if Au N piv.length a'=rows then 0 else 5)=>show MQ pn mn ml N rows e from .inr ⟨aE,pn,mn,N,piv,a',rfl,rfl,rfl,hfb,hmk.symm,aH,h⟩);have c0:=A0.o;have c1:=A1.o;have c2:=G0.o;have c3:=G1.o;have c4:=G2.o;clear aE hfb hmk s1 s2 s3 s4 aB aN;go_wp2_with fail
   refine aU.o.mono ?_;rintro e w3⟨piv,pv,rv,a',rfl,aH,aO,aT,aL⟩;have aR:=Aa (aI.o.trans aL);have c1:=aL.cell A1.o;obtain⟨L,hL⟩:=nA (Au N piv.length a');have aJ:=Aa (EG w3 L rows _ _ (by rw[<-hL];exact aO) (HV.o.ex aR.o));have aF:=Aa (fun e=>aK.o piv a' e aH);rw[hL]at aF;obtain⟨ra,rc,aS,-,r2,-⟩:=aO.open;rw[hL]at aS;subst aS;obtain⟨pa,pc,rfl,-,p2,-⟩:=aT.open;clear aH aO aT aL hL r2 p2 aU aK;by_cases hLR:L=rows
   .rw[decide_eq_true hLR]at aJ;have aD:=Aa (aF.o 0 (by rw[if_pos hLR]));exact zbq
   .rw[decide_eq_false hLR]at aJ;have aD:=Aa (aF.o 5 (by rw[if_neg hLR]));exact zbq
  .exact absurd h ae
 .have kb:(e !=0)=true:=by simpa using he
  have aK:=Aa (show MQ p m ml aA rows e from .inl ⟨by rw[aE];exact he,aE.symm⟩);clear hc aE;go_wp2_with fail
  go_ret;exact⟨⟨_,rfl,aK.o⟩,aI.o⟩
end Go.Proofs.YtehieobniamagaaGreat
