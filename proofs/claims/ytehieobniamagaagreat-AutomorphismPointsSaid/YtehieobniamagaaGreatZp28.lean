/- Walk of automorphism.open (printed by gen_opn.py). -/
import Derived.Deep.CutRange
import Derived.Test.YtehieobniamagaaGreatZp20
import Derived.Test.YtehieobniamagaaGreatZp26
import Derived.Test.YtehieobniamagaaGreatZp27
namespace Go.Proofs.YtehieobniamagaaGreat
set_option linter.unusedVariables false
set_option linter.unusedSimpArgs false
set_option maxRecDepth 100000
set_option maxHeartbeats 8000000
section
open Go.RowKit
def Ii(c:AZ)(e0:Int):Int:=if e0≠0 then e0 else if 64<c.n.toNat*(c.p.toNat^c.m.toNat-1) then 8 else 0
def OpO(c:AZ)(r:Ending)(w':World):Prop:=∃e0:Int,Cm c.p c.m c.ml c.n c.rows e0/\
 ((Ii c e0≠0/\∃(aA:Option Addr) (d:Int),r= .returned (.tuple #[.pointer aA,.int .i64 d,.int .i64 (Ii c e0)]))∨
 (Ii c e0=0/\∃(pn mn N b x0:Nat),c.p=pn/\c.m=mn/\c.n=N/\1<=N/\N<=64/\N*(pn^mn-1)<=64/\r= .returned (.tuple #[.pointer (some ⟨b,0,none⟩),.int .i64 ((N*(pn^mn-1):Nat):Int),.int .i64 0])/\AR w' b pn mn c.ml x0/\1<=x0/\x0<pn^mn))
theorem zav{P:Prop}(h:P:=by
 refine Bl.on rfl fun L a w aB aA hd hx K hK=>?_;have bC:=aB 5 23 _ (hd ⟨5,.data⟩ (by simp) rfl) rfl rfl;clear aB aA hd;go_simp;exact hK _ (Ex.refl w)):P:=h
theorem Jr(w:World)(c:AZ)(m1 v1:Value)(hc:c.at w m1 v1):
  Calls Tryz.prog 69 #[c.arg m1 v1] w fun r w'=>OpO c r w'/\Ex w w':=by
 obtain⟨c0,c1,c2,c3,c4⟩:=Dv w c m1 v1;have aL:=AI w (c.obj m1 v1);have aH:=Aa (hc.ex aL);obtain⟨x1,y1,rfl,-,z1,-⟩:=hc.g.open;obtain⟨x3,y3,rfl,-,z3,-⟩:=hc.m.open;unfold maxLen at z1 z3;obtain⟨B,hB⟩:=nA w.heap.size;rw[hB]at c0 c1 c2 c3 c4;have aI:=Aa aL;obtain⟨cp,cm,aD,cn,aF⟩:=c;obtain⟨C,hC⟩:∃C:AZ,C=⟨cp,cm,aD,cn,aF⟩:=⟨_,rfl⟩;have aE:=Aa hC;have aK:=Aa (fun w1 (h:Ex (w.alloc (AZ.obj ⟨cp,cm,aD,cn,aF⟩ (.slice x3 aD.length y3) (.slice x1 aF.length y1))) w1)=>Dm w1 cp cm aD (.slice x3 aD.length y3) (aH.o.m.ex h) cn aF (.slice x1 aF.length y1) (aH.o.g.ex h));unfold AZ.arg;unfold AZ.obj at aI aK aH c0 c1 c2 c3 c4;dsimp only at aI aK aH c0 c1 c2 c3 c4 ⊢;rw[<-hC];clear hc aL hC;go_enter Tryz.func69,Tryz.ntmps69
 go_upto_region 1 with fail
 try simp only[hB]
 clear hB;generalize w.alloc (.cells #[.int .i64 cp,.int .i64 cm,.slice x3 aD.length y3,.int .i64 cn,.slice x1 aF.length y1] 39)=w1 at *;go_wp2_with fail
 refine(aK.o w1 (Ex.refl _)).mono ?_;rintro e w2⟨⟨E,rfl,aU⟩,aC⟩;have aQ:=Aa aU;have aP:=Aa aC;replace c0:=aC.cell c0;replace c1:=aC.cell c1;replace c2:=aC.cell c2;replace c3:=aC.cell c3;replace c4:=aC.cell c4;clear aC aU aK;by_cases h0:E=0
 rotate_left
 .have hb:(E !=0)=true:=by simpa using h0
  have HR:=Aa (show Ii C E=E/\Ii C E≠0 from by unfold Ii;rw[if_pos h0];exact⟨rfl,h0⟩);clear h0;go_wp2_with fail
  exact bodyPost_ret (v:= .tuple #[.pointer none,.int .i64 0,.int .i64 E]) (by simp[results,Tryz.results69,go_sem]) rfl ⟨⟨E,by rw[aE.o];exact aQ.o,.inl ⟨HR.o.2,_,_,by rw[HR.o.1]⟩⟩,aI.o.trans aP.o⟩
 .subst h0;obtain⟨aT,k1,k2⟩:=EJ aQ.o;have aY:=Aa (E4 cp cm aD _ w2 (aH.o.m.ex aP.o));have bI:=Aa aT;obtain⟨N,rfl⟩:∃N:Nat,cn=N:=⟨cn.toNat,ac⟩;have HN:=Aa (show 1<=N/\N<=64 from ac);clear aT k1 k2;go_wp2_with fail
  refine aY.o.mono ?_;rintro e w3⟨bB,aM⟩;rcases bB with⟨pn,mn,x0,gb,rfl,rfl,rfl,hg,h1,h2⟩|⟨hbad,-⟩
  rotate_left
  .exact absurd bI.o hbad
  have bE:=Aa (aP.o.trans aM);have bD:=Aa (aM.cell c3);have HG:=Aa hg;have bH:=Aa h1;have bG:=Aa h2;have bA:2<=pn^mn:=Nat.le_trans hg.sh.p2 (Nat.le_self_pow (by have:=hg.sh.m1;omega) pn);have aS:=hg.sh.q;have aX:=Aa (fun (w5:World) (h5:Ex w3 w5)=>BR w5 (HG.o.ex h5));have aJ:=Aa (fun (w5:World)=>Gj w5 N (pn^mn) HN.o.2 ac aS);have aG:=Aa (show Ii C 0=if 64<N*(pn^mn-1) then 8 else 0 from by rw[aE.o];unfold Ii;rw[if_neg ag];rfl);obtain⟨q,hq⟩:=nA (pn^mn);have HQ:=Aa hq;rw[hq]at aX aJ aG;obtain⟨D,hD⟩:=nA (N*(q-1));rw[hD]at aJ aG;have aZ:=Aa hD;obtain⟨T0,aO⟩:∃z,((if 64<D then 0 else D:Nat):Int)=z:=⟨_,rfl⟩;obtain⟨T1,aN⟩:∃z,(if 64<D then(8:Int) else 0)=z:=⟨_,rfl⟩;rw[aO,aN]at aJ;have bF:=Aa aO;have aW:=Aa aN;clear aO aN hD hq aM hg h1 h2 bA aS aY c0 c1 c2 c3 c4;go_wp2_with fail
  go_upto_region 7 with fail
  refine BA (fun k=>([.pointer (some ⟨B,3,none⟩),.int .i64 (N:Int),.pointer (some ⟨gb,0,none⟩),.int .i64 (q:Int),.tuple #[.int .i64 T0,.int .i64 T1],.tuple #[.int .i64 T0,.int .i64 T1],.int .i64 T0,.int .i64 T1,.int .i64 T0,.int .i64 T1]:List Value).getD k undef) ah ah ah ?_ ?_
  .simp only[AC];refine⟨?_,?_,?_,?_,?_,?_,?_,?_,?_,?_,trivial⟩
   .refine Bl.on rfl fun L a w aB aA hd hx K hK=>?_;have e1:a.tmps[1]?=some (.pointer (some ⟨B,0,none⟩)):=aA 1 ah;clear aB aA hd;go_simp;exact hK _ (Ex.refl w)
   .refine Bl.on rfl fun L a w aB aA hd hx K hK=>?_;have e24:=aB 0 24 _ (hd ⟨0,.data⟩ ag rfl) rfl rfl;have c1:=hx.cell bD.o;clear aB aA hd;go_simp;exact hK _ (Ex.refl w)
   .refine Bl.on rfl fun L a w aB aA hd hx K hK=>?_;have e6:a.tmps[6]?=some (.pointer (some ⟨gb,0,none⟩)):=aA 6 ah;clear aB aA hd;go_simp;exact hK _ (Ex.refl w)
   .refine Bl.on rfl fun L a w aB aA hd hx K hK=>?_;have e26:=aB 2 26 _ (hd ⟨2,.data⟩ ag rfl) rfl rfl;clear aB aA hd;go_simp;refine(aX.o _ hx).mono ?_;rintro e w5⟨rfl,rfl⟩;exact hK _ (Ex.refl _)
   .refine Bl.on rfl fun L a w aB aA hd hx K hK=>?_;have e25:=aB 1 25 _ (hd ⟨1,.data⟩ ag rfl) rfl rfl;have e27:=aB 3 27 _ (hd ⟨3,.data⟩ ag rfl) rfl rfl;clear aB aA hd;go_simp;refine(aJ.o _).mono ?_;rintro e w5⟨rfl,rfl⟩;exact hK _ (Ex.refl _)
   .refine Bl.on rfl fun L a w aB aA hd hx K hK=>?_;have e28:=aB 4 28 _ (hd ⟨4,.data⟩ ag rfl) rfl rfl;clear aB aA hd;go_simp;exact hK _ (Ex.refl w)
   .exact zav
   .exact zav
   .refine Bl.on rfl fun L a w aB aA hd hx K hK=>?_;have e29:=aB 6 29 _ (hd ⟨6,.data⟩ ag rfl) rfl rfl;clear aB aA hd;go_simp;exact hK _ (Ex.refl w)
   .refine Bl.on rfl fun L a w aB aA hd hx K hK=>?_;have e30:=aB 7 30 _ (hd ⟨7,.data⟩ ag rfl) rfl rfl;clear aB aA hd;go_simp;exact hK _ (Ex.refl w)
  .intro w5 aR;simp only[BU,Act.put,List.setIfInBounds_toArray,List.set_cons_zero,List.set_cons_succ];have aV:=Aa aR;clear aR;go_wp2_with fail
   refine bodyPost_ret (v:= .tuple #[.pointer (some ⟨gb,0,none⟩),.int .i64 T0,.int .i64 T1]) (by simp[results,Tryz.results69,go_sem]) rfl ⟨⟨0,by rw[aE.o];exact aQ.o,?_⟩,aI.o.trans (bE.o.trans aV.o)⟩;by_cases hd:64<D
   .refine .inl ⟨by rw[aG.o,if_pos hd];decide,_,_,by rw[aG.o,aW.o]⟩
   .refine .inr ⟨by rw[aG.o,if_neg hd],pn,mn,N,gb,x0,by rw[aE.o],by rw[aE.o],by rw[aE.o],HN.o.1,HN.o.2,by rw[HQ.o,aZ.o];omega,?_,by rw[aE.o];exact HG.o.ex aV.o,bH.o,bG.o⟩;rw[HQ.o,aZ.o,<-bF.o,<-aW.o,if_neg hd,if_neg hd]
end
section
open Go.RowKit
structure Mx(mb mb':List Nat)(w w':World):Prop where
 os:w'.os=w.os
 tape:w'.tape=w.tape
 output:w'.output=w.output
 size:w.heap.size<=w'.heap.size
 block:∀i,i<w.heap.size->i ∉ mb->w'.heap[i]?=w.heap[i]?
 mb:∀B∈mb',B∈mb∨w.heap.size<=B
theorem Mx.ofEx{w w':World}(h:Ex w w')(mb:List Nat):Mx mb mb w w':=⟨h.os,h.tape,h.output,h.size,fun i hi _=>h.block i hi,fun B h=> .inl h⟩
theorem Mx.trans{a b c:List Nat}{u v w:World}(h:Mx a b u v)(k:Mx b c v w):Mx a c u w:=
 ⟨k.os.trans h.os,k.tape.trans h.tape,k.output.trans h.output,Nat.le_trans h.size k.size,fun i hi hn=>by
  rw[k.block i (Nat.lt_of_lt_of_le hi h.size) (fun hb=>by
   rcases h.mb i hb with h1|h1
   .exact hn h1
   .omega),h.block i hi hn],fun B hB=>by
  rcases k.mb B hB with h1|h1
  .exact h.mb B h1
  .exact .inr (Nat.le_trans h.size h1)⟩
theorem Mx.ex{mb aA:List Nat}{w0 w w':World}(h:Mx mb aA w w')(hx:Ex w0 w)(hb:∀B∈mb,w0.heap.size<=B):Ex w0 w':=
 ⟨h.os.trans hx.os,h.tape.trans hx.tape,h.output.trans hx.output,Nat.le_trans hx.size h.size,fun i hi=>by
  rw[h.block i (Nat.lt_of_lt_of_le hi hx.size) (fun h1=>by have:=hb i h1;omega)];exact hx.block i hi⟩
theorem Mx.cell{mb aA:List Nat}{w w':World}(h:Mx mb aA w w'){a:Addr}{u:Value}(hc:w.cell? a=some u)(hn:a.block ∉ mb):w'.cell? a=some u:=by
 rw[<-hc];exact World.cell?_of_block (h.block a.block (World.block_lt_of_cell? _ _ hc) hn)
structure Ca(w:World)(mb:List Nat)(n:Nat)(u:Value)(f:Nat->Nat):Prop where
 sl:Ak w u (li n f)
 at_:∃b o cap,u= .slice (some ⟨b,o,none⟩) n cap/\cap<=maxLen/\b ∉ mb/\b<w.heap.size/\∀j,j<n->w.cell? ⟨b,o+j,none⟩=some (.int .i64 (f j:Int))
theorem Ca.of{w:World}{mb:List Nat}{n:Nat}{u:Value}{f:Nat->Nat}(h:Ak w u (li n f))(hn:1<=n)(hb:∀B,u.ownBlock=some B->B ∉ mb):Ca w mb n u f:=by
 refine⟨h,?_⟩;obtain⟨a,cap,rfl,h1,h2,h3⟩:=En h;obtain⟨b,o,rfl,h4⟩:=h3 hn;exact⟨b,o,cap,rfl,h2,hb b rfl,World.block_lt_of_cell? _ _ (h4 0 hn),h4⟩
theorem Ca.mx{mb aA:List Nat}{w w':World}{n:Nat}{u:Value}{f:Nat->Nat}(h:Ca w mb n u f)(hx:Mx mb aA w w'):Ca w' aA n u f:=by
 obtain⟨b,o,cap,rfl,h1,h2,h3,h4⟩:=h.at_;have hs:Ak w' (.slice (some ⟨b,o,none⟩) n cap) (li n f):=by
  obtain⟨k1,a,c,k2,k3,k4,k5⟩:=h.sl;refine⟨k1,a,c,k2,k3,k4,fun hn=>?_⟩;obtain⟨b',o',k6,k7⟩:=k5 hn;injection k2 with k2 _ _;rw[k6]at k2;injection k2 with k2;injection k2 with k2 k8;subst k2 k8;exact⟨b,o,k6,fun j u hu=>hx.cell (k7 j u hu) h2⟩
 refine⟨hs,b,o,cap,rfl,h1,fun hb=>?_,Nat.lt_of_lt_of_le h3 hx.size,fun j hj=>hx.cell (h4 j hj) h2⟩;rcases hx.mb b hb with h5|h5
 .exact h2 h5
 .omega
theorem Ca.ex{mb:List Nat}{w w':World}{n:Nat}{u:Value}{f:Nat->Nat}(h:Ca w mb n u f)(hx:Ex w w'):Ca w' mb n u f:=h.mx (Mx.ofEx hx mb)
theorem Ca.new{mb:List Nat}{w w':World}{n g:Nat}{f:Nat->Nat}(hn:1<=n)(h:AG w' w.heap.size 3 g n (iv fun i=>(f i:Int)))(hb:∀B∈mb,B<w.heap.size):Ca w' mb n (.slice (some ⟨g,0,none⟩) n n) f:=
 Ca.of h.li hn fun B e hB=>by
  injection e with e;have:=h.lt.1;have:=hb B hB;dsimp only at *;omega
def J6(w:World)(mb:List Nat)(n:Nat)(o:Option (Nat->Nat))(u:Value):Prop:=match o with
 | none=>u= .slice none 0 0
 | some r=>Ca w mb n u r
theorem J6.mx{mb aA:List Nat}{w w':World}{n:Nat}{o:Option (Nat->Nat)}{u:Value}(h:J6 w mb n o u)(hx:Mx mb aA w w'):J6 w' aA n o u:=by
 cases o with
 | none=>exact h
 | some r=>exact Ca.mx (show Ca w mb n u r from h) hx
structure PG(w:World)(base n tb rb gb:Nat)(rr:Nat->Nat)(gv:Nat->Value)(V:Nat->Nat->Value)(mb:List Nat)(t:Tw):Prop where
 c0:w.cell? ⟨tb,0,none⟩=some (.int .i64 n)
 c1:w.cell? ⟨tb,1,none⟩=some (.slice (some ⟨rb,0,none⟩) n n)
 c2:w.cell? ⟨tb,2,none⟩=some (.slice (some ⟨gb,0,none⟩) n n)
 tm:tb ∉ mb
 ro:∀b,b<n->w.cell? ⟨rb,b,none⟩=some (.slice (some ⟨rr b,0,none⟩) n n)
 rm:rb ∉ mb
 row:∀b,b<n->AG w base 22 (rr b) n (V b)
 rep:∀b x,b<n->x<n->J6 w mb n (t.R b x) (V b x)
 go:AG w base 37 gb n gv
 gro:∀b,b<n->∃vals:List Value,w.ownsRow base 22 1 (gv b) (t.g b).length vals/\∀(i:Nat) (f:Nat->Nat) (u:Value),(t.g b)[i]?=some f->vals[i]?=some u->Ca w mb n u f
 gm:gb∈mb
 rrm:∀b,b<n->rr b∈mb
 gvm:∀b B,b<n->(gv b).ownBlock=some B->B∈mb/\B≠gb/\∀c,c<n->B≠rr c
 grr:∀b,b<n->gb≠rr b
 rri:∀b c,b<n->c<n->rr b=rr c->b=c
 gvi:∀b c B,b<n->c<n->(gv b).ownBlock=some B->(gv c).ownBlock=some B->b=c
 lo:∀B∈mb,base<=B/\B<w.heap.size
section
variable {w:World} {base n tb rb gb:Nat} {rr:Nat->Nat} {gv:Nat->Value} {V:Nat->Nat->Value} {mb:List Nat} {t:Tw}
theorem PG.ex(h:PG w base n tb rb gb rr gv V mb t){w':World}(hx:Ex w w'):PG w' base n tb rb gb rr gv V mb t:=
 ⟨hx.cell h.c0,hx.cell h.c1,hx.cell h.c2,h.tm,fun b hb=>hx.cell (h.ro b hb),h.rm,fun b hb=>(h.row b hb).ex hx,fun b x hb aA=>(h.rep b x hb aA).mx (Mx.ofEx hx mb),h.go.ex hx,fun b hb=>by
  obtain⟨vals,h1,h2⟩:=h.gro b hb;exact⟨vals,Ai h1 hx,fun i f u a c=>(h2 i f u a c).ex hx⟩,h.gm,h.rrm,h.gvm,h.grr,h.rri,h.gvi,fun B hB=>⟨(h.lo B hB).1,Nat.lt_of_lt_of_le (h.lo B hB).2 hx.size⟩⟩
theorem PG.low(h:PG w base n tb rb gb rr gv V mb t):∀B∈mb,B<w.heap.size:=fun B hB=>(h.lo B hB).2
theorem PG.setRep(h:PG w base n tb rb gb rr gv V mb t){b x:Nat}{q:Nat->Nat}{u:Value}(hb:b<n)(hx:x<n)(hu:Ca w mb n u q):
  PG (w.setCell ⟨rr b,x,none⟩ u) base n tb rb gb rr gv (fun c=>if c=b then Ax (V b) x u else V c) mb (Kg t b x q)/\Mx mb mb w (w.setCell ⟨rr b,x,none⟩ u):=by
 have hm:=h.rrm b hb;have aB:(w.setCell ⟨rr b,x,none⟩ u).heap.size=w.heap.size:=bu;have aA:Mx mb mb w (w.setCell ⟨rr b,x,none⟩ u):=⟨rfl,rfl,rfl,ac,fun i hi hn=>Below.heap_setCell _ _ _ _ (fun e=>hn (by have e:i=rr b:=e;rw[e];exact hm)),fun B hB=> .inl hB⟩;refine⟨⟨aA.cell h.c0 h.tm,aA.cell h.c1 h.tm,aA.cell h.c2 h.tm,h.tm,fun c hc=>aA.cell (h.ro c hc) h.rm,h.rm,fun c hc=>?_,fun c y hc hy=>?_,h.go.other (h.grr b hb) u,fun c hc=>?_,h.gm,h.rrm,h.gvm,h.grr,h.rri,h.gvi,fun B hB=>by rw[aB];exact h.lo B hB⟩,aA⟩
 .by_cases e:c=b
  .subst e;rw[if_pos rfl];exact(h.row c hc).set x u
  .rw[if_neg e];exact(h.row c hc).other (fun e2=>e (h.rri c b hc hb e2)) u
 .show J6 _ mb n (if c=b/\y=x then some q else t.R c y) ((if c=b then Ax (V b) x u else V c) y)
  by_cases e:c=b
  .subst e;rw[if_pos rfl];by_cases e2:y=x
   .subst e2;rw[if_pos ⟨rfl,rfl⟩,Ab];exact Ca.mx hu aA
   .rw[if_neg (fun e3=>e2 e3.2),Ae _ _ e2];exact(h.rep c y hc hy).mx aA
  .rw[if_neg (fun e3=>e e3.1),if_neg e];exact(h.rep c y hc hy).mx aA
 .obtain⟨vals,h1,h2⟩:=h.gro c hc;exact⟨vals,Ad h1 (fun e=>(h.gvm c _ hc e).2.2 b hb rfl) u,fun i f v a d=>(h2 i f v a d).mx aA⟩
theorem PG.addGen(h:PG w base n tb rb gb rr gv V mb t){b:Nat}{p:Nat->Nat}{u:Value}(hb:b<n)(hu:Ca w mb n u p){w':World}{v':Value}{vals:List Value}(hv:∀(i:Nat) (f:Nat->Nat) (u:Value),(t.g b)[i]?=some f->vals[i]?=some u->Ca w mb n u f)
  (ha:A8 w w' base 22 1 (gv b) v' (t.g b).length vals [u]):
  ∃aH,PG (w'.setCell ⟨gb,b,none⟩ v') base n tb rb gb rr (Ax gv b v') V aH (PF t b p)/\Mx mb aH w (w'.setCell ⟨gb,b,none⟩ v'):=by
 obtain⟨o,hg⟩:=ha.gr;have hgs:=ha.grow;have aO:∀B,v'.ownBlock=some B->B∈mb∨w.heap.size<B:=fun B e=>by
  rcases ha.at_ with h1|h1
  .rw[h1]at e;exact .inl (h.gvm b B hb e).1
  .rw[h1]at e;injection e with e;right;omega
 have aF:∀i,i<w.heap.size->some i≠(gv b).ownBlock->w'.heap[i]?=w.heap[i]?:=fun i hi aE=>by
  have h1:=hg.block i al aE;rw[h1];exact((Ex.refl w).alloc o).block i hi
 have aJ:(w'.setCell ⟨gb,b,none⟩ v').heap.size=w'.heap.size:=bu;have aM:=ha.own.lt;have aD:w'.os=w.os/\w'.tape=w.tape/\w'.output=w.output:=⟨hg.os.trans rfl,hg.tape.trans rfl,hg.output.trans rfl⟩;have aB:Mx mb (v'.ownBlock.toList++mb) w (w'.setCell ⟨gb,b,none⟩ v'):=by
  refine⟨aD.1,aD.2.1,aD.2.2,by rw[aJ];omega,fun i hi hn=>?_,fun B hB=>?_⟩
  .rw[Below.heap_setCell _ _ _ _ (fun e=>hn (by have e:i=gb:=e;rw[e];exact h.gm)),aF i hi (fun e=>hn (h.gvm b i hb e.symm).1)]
  .rcases List.mem_append.1 hB with h1|h1
   .rcases aO B cz with h2|h2
    .exact .inl h2
    .exact .inr ac
   .exact .inl h1
 have aC:∀ {e:TypeId} {size:Nat} {v:Value} {m:Nat} {xs:List Value},w.ownsRow base e size v m xs->AJ v (gv b)->v.ownBlock≠some gb->(w'.setCell ⟨gb,b,none⟩ v').ownsRow base e size v m xs:=fun k hk aE=>
  Ad (ha.row k hk).1 (by exact aE) _
 have aA:∀B,(gv b).ownBlock=some B->B≠gb/\∀c,c<n->B≠rr c:=fun B e=>(h.gvm b B hb e).2;have aL:∀g,(∀B,(gv b).ownBlock=some B->B≠g)->∀(m cap:Nat),AJ (.slice (some ⟨g,0,none⟩) m cap) (gv b):=fun g hh m cap=>by
  right;intro e;exact hh g e.symm rfl
 refine⟨v'.ownBlock.toList++mb,⟨aB.cell h.c0 h.tm,aB.cell h.c1 h.tm,aB.cell h.c2 h.tm,fun hc=>?_,fun c hc=>aB.cell (h.ro c hc) h.rm,fun hc=>?_,fun c hc=>?_,fun c y hc hy=>(h.rep c y hc hy).mx aB,?_,fun c hc=>?_,List.mem_append_right _ h.gm,fun c hc=>List.mem_append_right _ (h.rrm c hc),fun c B hc e=>?_,h.grr,h.rri,fun c d B hc hd e1 e2=>?_,fun B hB=>?_⟩,aB⟩
 .rcases aB.mb tb hc with h1|h1
  .exact h.tm h1
  .have:=World.block_lt_of_cell? _ _ h.c0;dsimp only at this;omega
 .rcases aB.mb rb hc with h1|h1
  .exact h.rm h1
  .have:=World.block_lt_of_cell? _ _ (h.ro b hb);dsimp only at this;omega
 .exact aC (h.row c hc) (aL (rr c) (fun B e=>(aA B e).2 c hc) n n) (fun e=>h.grr c hc (by injection e with e;exact e.symm))
 .have h1:=(ha.row h.go (aL gb (fun B e=>(aA B e).1) n n)).1;have h2:AG w' base 37 gb n gv:=h1;exact h2.set b v'
 .by_cases e:c=b
  .subst e;refine⟨vals ++ [u],?_,fun i f v h1 h2=>?_⟩
   .rw[Ab];show World.ownsRow _ base 22 1 v' (if c=c then t.g c ++ [p] else t.g c).length (vals ++ [u])
    rw[if_pos rfl,List.length_append];refine Ad ha.own (fun e=>?_) _;rcases ha.at_ with h3|h3
    .rw[h3]at e;exact(aA _ e).1 rfl
    .rw[h3]at e;injection e with e;have:=h.go.lt.2;dsimp only at e;omega
   .have h1:(if c=c then t.g c ++ [p] else t.g c)[i]?=some f:=h1;rw[if_pos rfl]at h1;have hn:vals.length=(t.g c).length:=by have:=ha.old.1;omega
    by_cases hi:i<(t.g c).length
    .rw[List.getElem?_append_left hi]at h1;rw[List.getElem?_append_left ac]at h2;exact(hv i f v h1 h2).mx aB
    .have aN:i=(t.g c).length:=by
      have:=(List.getElem?_eq_some_iff.1 h1).1;rw[List.length_append]at this;simp at this;omega
     subst aN;rw[List.getElem?_append_right ac]at h1;rw[List.getElem?_append_right ac,hn]at h2;simp at h1 h2;subst h1 h2;exact hu.mx aB
  .obtain⟨aG,h1,h2⟩:=h.gro c hc;refine⟨aG,?_,fun i f v h3 h4=>?_⟩
   .rw[Ae _ _ e];show World.ownsRow _ base 22 1 (gv c) (if c=b then t.g c ++ [p] else t.g c).length aG
    rw[if_neg e];refine aC h1 ?_ (fun e2=>(h.gvm c _ hc e2).2.1 rfl);unfold AJ
    cases e2:(gv c).ownBlock with
    | none=>exact .inl rfl
    | some B=>right;intro e3;exact e (h.gvi c b B hc hb e2 e3.symm)
   .have h3:(if c=b then t.g c ++ [p] else t.g c)[i]?=some f:=h3;rw[if_neg e]at h3;exact(h2 i f v h3 h4).mx aB
 .by_cases e3:c=b
  .subst e3;rw[Ab]at e;refine⟨List.mem_append_left _ (by rw[e];simp),?_⟩;rcases ha.at_ with h1|h1
   .rw[h1]at e;exact aA B e
   .rw[h1]at e;injection e with e;subst e;have:=h.go.lt.2;exact⟨ac,fun d hd=>by have:=(h.row d hd).lt.2;omega⟩
  .rw[Ae _ _ e3]at e;have:=h.gvm c B hc e;exact⟨List.mem_append_right _ this.1,this.2⟩
 .have aI:∀ {c d B},c=b->d≠b->d<n->v'.ownBlock=some B->(gv d).ownBlock=some B->False:=fun {c d B} e hd aK k1 k2=>by
   rcases ha.at_ with h1|h1
   .rw[h1]at k1;exact hd (h.gvi d b B aK hb k2 k1)
   .rw[h1]at k1;injection k1 with k1;have:=(h.lo B (h.gvm d B aK k2).1).2;omega
  by_cases ec:c=b <;> by_cases ed:d=b
  .rw[ec,ed]
  .rw[ec,Ab]at e1;rw[Ae _ _ ed]at e2;exact(aI (c:=c) ec ed hd e1 e2).elim
  .rw[Ae _ _ ec]at e1;rw[ed,Ab]at e2;exact(aI (c:=d) ed ec hc e2 e1).elim
  .rw[Ae _ _ ec]at e1;rw[Ae _ _ ed]at e2;exact h.gvi c d B hc hd e1 e2
 .rw[aJ];rcases List.mem_append.1 hB with h1|h1
  .exact aM B cz
  .have:=h.lo B h1;exact⟨this.1,ac⟩
end
end
section
open Go.RowKit
theorem PY(w:World)(n:Nat)(c:Nat->Value)(v:Value)(hv:Sl w v n 1 (vs n c))(hn:1<=n)(hn2:n<=1000)(h1:∀j,j<n->(c j).oneCell'=true):
  Calls Tryz.prog 209 #[v] w fun r w'=>∃g cap,r= .returned (.slice (some ⟨g,0,none⟩) n cap)/\AQ w' w.heap.size 22 g n cap c/\Ex w w':=by
 have HV:=Aa hv;obtain⟨_,a,cap,rfl,s1,s2,s3⟩:=hv;obtain⟨b,o,rfl,_⟩:=s3 ac;have aC:=fun w'=>AF (P:=Tryz.prog) w' 37 22 (some ⟨b,o,none⟩) n cap Tryz.underlying37;simp only[Option.isNone]at aC;have aG:=Aa (show ∀u∈vs n c,u.oneCell'=true from by
  intro u hu;unfold vs at hu;obtain⟨j,hj,rfl⟩:=List.mem_map.1 hu;exact h1 j (List.mem_range.1 hj))
 clear s3 h1;go_enter Tryz.func209,Tryz.ntmps209
 go_wp2_with (at_builtin;refine Bd _ rfl _ _ 37 rfl w.heap.size 22 (.slice none 0 0) 1 24 Tryz.underlying37 Bz rfl ae _ 0 [] rfl (Bp w 22) (.slice (some ⟨b,o,none⟩) n cap) n (vs n c) rfl (HV.o.ex ((Ex.refl w).alloc _)) aG.o ai ac ag ?_)
 intro v1 w1 aA aE aF;have aD:Ex w w1:=Ex.grown ((Ex.refl w).alloc _) (Bp w 22) (Nat.le_refl _) aE
 try simp only[List.nil_append,Nat.zero_add]at aA
 obtain⟨g,c2,rfl,aB⟩:=L6 aA hn;have HO:=Aa aB;have HX:=Aa aD;clear aB aA aE aF aD aC
 try simp only[Nat.zero_add]
 go_wp2_with fail
 go_ret;exact⟨g,c2,rfl,HO.o,HX.o⟩
theorem Ri(w:World){base n tb rb gb:Nat}{rr:Nat->Nat}{gv:Nat->Value}{V:Nat->Nat->Value}{mb:List Nat}{t:Tw}(hm:PG w base n tb rb gb rr gv V mb t)(hG:Cv n t)(hn1:1<=n)(hn:n<=64)
  (u:Value) (f:Nat->Nat) (b:Nat) (hb:b<=n) (hu:Ak w u (li n f)) (hP:Bj n f):
  Calls Tryz.prog 208 #[.pointer (some ⟨tb,0,none⟩),u,.int .i64 b] w fun r w'=>∃v,r= .returned (.tuple #[v,.int .i64 ((Dd n t.R (n-b) b f).2:Int)])/\Ex w w':=by
 have HM:=Aa hm;have HG:=Aa hG;have HU:=Aa hu;have HP:=Aa hP;obtain⟨ua,uc,rfl,_,_,_⟩:=En hu;obtain⟨E,hE⟩:=nA (Dd n t.R (n-b) b f);have HE:=Aa hE;rw[hE];have aL:∀(a:Option Addr) (m cap:Nat) w',(binOp .eql 22 (.slice a m cap) (.slice none 0 0)).run Tryz.prog w'= .ok (.bool a.isNone) w':=fun a m cap w'=>AF (P:=Tryz.prog) w' 22 3 a m cap Tryz.underlying22;have aE:=Aa aL;clear hm hG hu hP hE aL;go_enter Tryz.func208,Tryz.ntmps208
 go_wp2_with fail
 go_loopw [1,2] (fun p' b' wr=>∃(c:Nat) (h:Nat->Nat) (a:Option Addr) (cap:Nat),c<=n/\b'= .int .i64 c/\p'= .slice a n cap/\Hia (Ak wr (.slice a n cap) (li n h))/\Hia (Bj n h)/\Hia (Dd n t.R (n-c) c h=E)/\Hia (Ex w wr)) (fun _ b' _=>n-(intOf b').toNat)
 case atStart=>exact⟨b,f,ua,uc,hb,rfl,rfl,HU,HP,HE,Aa (Ex.refl _)⟩
 case round=>
  clear HU HP HE;obtain⟨c,h,a,cap,hc,rfl,rfl,hu,hp,he,hx⟩:=hrel;have c0:=hx.o.cell HM.o.c0;have c1:=hx.o.cell HM.o.c1;by_cases hcn:c<n
  .obtain⟨pb,po,rfl,_,aH⟩:=Ey hu.o ac;have aK:=hp.o.lt c hcn;have d1:=aH c hcn;have d2:=hx.o.cell (HM.o.ro c hcn);have d3:=hx.o.cell ((HM.o.row c hcn).cell aK);have aA:=HM.o.rep c (h c) hcn aK;have i1:(0:Int)<=(c:Int):=by omega
   have i2:(c:Int)<(n:Int):=ac;have i3:(0:Int)<=(h c:Int):=ac;have i4:(h c:Int)<(n:Int):=ac
   cases hR:t.R c (h c) with
   | none=>
    rw[hR]at aA;have aA:V c (h c)= .slice none 0 0:=aA;rw[aA]at d3;have aD:=Aa (show E=(h,c) from by
     rw[<-he.o,show n-c=n-c-1+1 by omega];unfold Dd;rw[hR])
    have aC:=aE.o none 0 0;simp only[Option.isNone]at aC;clear aH aA hR he hp;go_wp2_with fail
    go_quiet (fail)
    go_wp2_with fail
    go_ret2;refine⟨.slice (some ⟨pb,po,none⟩) n cap,?_,hx.o.drewN _⟩;rw[aD.o];rfl
   | some r=>
    rw[hR]at aA;have aA:Ca w mb n (V c (h c)) r:=aA;obtain⟨_,_,aG,aT,aS⟩:=HG.o.rep _ _ _ hR;obtain⟨vb,vo,vc,hV,_,_,_,_⟩:=(aA.ex hx.o).at_;have aQ:=Aa (aA.ex hx.o).sl;rw[hV]at d3 aQ;have aD:=Aa (show Dd n t.R (n-(c+1)) (c+1) (An h (A5 n r))=E from by
     rw[<-he.o,show n-c=n-(c+1)+1 by omega]
     conv=>rhs;unfold Dd
     rw[hR])
    have aC:=aE.o (some ⟨vb,vo,none⟩) n vc;simp only[Option.isNone]at aC;have aV:=Aa aG;have aP:=Aa (hp.o.comp aG.inv);have aW:=Aa (fun w1 (aF:Ex wr w1)=>Ik w1 n r _ (aQ.o.ex aF) ac aV.o);have aU:=Aa (fun w1 (aF:Ex wr w1) z hz=>Fm w1 n h (A5 n r) _ z (hu.o.ex aF) hz ac hp.o.lt);clear aH aA hR he aG aT aS hV;go_wp2_with fail
    go_quiet (fail)
    have aM:=Aa ((Ex.refl wr).drewN nq);go_wp2_with (first|(go_at_call 109;refine(aW.o _ aM.o).mono ?_;rintro e w2⟨g2,rfl,aB,aJ⟩;have aX:=Aa aB.li;have aO:=Aa (aM.o.trans aJ);clear aB aJ)|(go_at_call 108;refine(aU.o _ aO.o _ aX.o).mono ?_;rintro e w3⟨g3,rfl,aB,aI⟩;have aR:=Aa aB.li;have aN:=Aa (hx.o.trans (aO.o.trans aI));clear aB aI))
    go_roundw
    case rel=>first|exact⟨c+1,An h (A5 n r),some ⟨g3,0,none⟩,n,ac,by go_num,rfl,aR,aP,aD,aN⟩|((repeat apply Exists.intro);exact⟨⟨c+1,An h (A5 n r),some ⟨g3,0,none⟩,n,ac,by go_num,rfl,aR,aP,aD,aN⟩,rfl⟩)
    case measure=>simp[intOf];omega
  .obtain rfl:c=n:=by omega
   have aD:=Aa (show E.2=c from by
    rw[<-he.o,Nat.sub_self];rfl)
   clear he hp;go_wp2_with fail
   go_quiet (fail)
   go_wp2_with fail
   go_ret2;refine⟨.slice a c cap,?_,hx.o.drewN _⟩;rw[aD.o];rfl
end
section
open Go.RowKit
theorem Ww{w w':World}{o:Obj}{base:Nat}{e:TypeId}{size:Nat}{v v':Value}{n:Nat}{xs news:List Value}(aB:w.ownsRow base e size v n xs)(aA:w'.ownsRow base e size v' (n+1) (xs++news))
  (hg:((w.alloc o).drew).grownBy w' v.ownBlock) (ha:v'.ownBlock=v.ownBlock∨v'.ownBlock=some ((w.alloc o).drew).heap.size):A8 w w' base e size v v' n xs news:=
 ⟨aA,⟨o,⟨hg.os,hg.tape,hg.output,hg.size,hg.block⟩⟩,by simpa using ha,aB⟩
def R5(w:World)(base n tb rb gb:Nat)(rr:Nat->Nat)(mb:List Nat)(t:Tw):Prop:=∃gv V,PG w base n tb rb gb rr gv V mb t
def FZ(n:Nat)(t:Tw)(b:Nat):Nat:=(List.range n).countP fun x=>(t.R b x).isNone
def Qk(n:Nat)(t:Tw)(b:Nat):Nat:=(n-b)*(n+1)+FZ n t b
theorem Qj(n:Nat)(t:Tw)(b:Nat):FZ n t b<=n:=by
 unfold FZ;have:=List.countP_le_length (p:=fun x=>(t.R b x).isNone) (l:=List.range n);simpa using this
theorem FO{t t':Tw}(h:PT t t')(b:Nat):∀n,FZ n t' b<=FZ n t b
 | 0=>Nat.le_refl _
 | n+1=>by
  have ih:=FO h b n;unfold FZ at *;rw[List.range_succ,List.countP_append,List.countP_append,List.countP_singleton,List.countP_singleton]
  cases h1:t.R b n with
  | none=>simp;split <;> omega
  | some r=>rw[h b n r h1];simp;exact ih
theorem NC{n:Nat}{t t':Tw}(h:PT t t')(b:Nat):Qk n t' b<=Qk n t b:=Nat.add_le_add_left (FO h b n) _
theorem Nz{t:Tw}{b x:Nat}{q:Nat->Nat}(h:t.R b x=none):∀n,(x<n->FZ n (Kg t b x q) b+1=FZ n t b)/\(n<=x->FZ n (Kg t b x q) b=FZ n t b)
 | 0=>⟨fun h=>by omega,fun _=>rfl⟩
 | n+1=>by
  obtain⟨h1,h2⟩:=Nz (q:=q) h n;unfold FZ at *;have aA:(Kg t b x q).R b n=if n=x then some q else t.R b n:=by
   show(if b=b/\n=x then some q else t.R b n)=_
   by_cases e:n=x <;> simp[e]
  rw[List.range_succ,List.countP_append,List.countP_append,List.countP_singleton,List.countP_singleton,aA];constructor
  .intro hx;by_cases e:n=x
   .rw[if_pos e];subst e;rw[h,h2 (Nat.le_refl _)];simp
   .rw[if_neg e];have:=h1 ac;omega
  .intro hx;have e:¬n=x:=by omega
   rw[if_neg e,h2 ac]
theorem VG{n:Nat}{t:Tw}{b x:Nat}{q:Nat->Nat}(h:t.R b x=none)(hx:x<n):Qk n (Kg t b x q) b+1=Qk n t b:=by
 unfold Qk;have:=(Nz (q:=q) h n).1 hx;omega
theorem Xy{n:Nat}{t:Tw}{b:Nat}(hb:b+1<n):Qk n t (b+1)+1<=Qk n t b:=by
 unfold Qk;have h1:=Qj n t (b+1);rw[show n-b=n-(b+1)+1 by omega,Nat.succ_mul];omega
def Ny(n:Nat)(t:Tw)(c:Nat):Nat:=((List.range n).map fun d=>if c<=d then FZ n t d else 0).sum
theorem ER{f g:Nat->Nat}:∀l:List Nat,(∀d∈l,f d<=g d)->(l.map f).sum<=(l.map g).sum
 | [],_=>Nat.le_refl _
 | d :: l,h=>by
  have h1:=h d (List.mem_cons_self ..);have h2:=ER l fun e he=>h e (List.mem_cons_of_mem _ he);simp only[List.map_cons,List.sum_cons];omega
theorem RA{n:Nat}{t t':Tw}(h:PT t t')(c:Nat):Ny n t' c<=Ny n t c:=
 ER _ fun d _=>by
  split
  .exact FO h d n
  .exact Nat.le_refl _
theorem VD(n:Nat)(t:Tw)(c:Nat):Ny n t c<=n*n:=by
 have h1:=ER (f:=fun d=>if c<=d then FZ n t d else 0) (g:=fun _=>n) (List.range n) fun d _=>by
  split
  .exact Qj n t d
  .exact Nat.zero_le _
 have h2:((List.range n).map fun _=>n).sum=n*n:=by
  rw[List.map_const',List.sum_replicate_nat,List.length_range]
 unfold Ny;omega
theorem I5{f g:Nat->Nat}:∀l:List Nat,(∀d∈l,f d<=g d)->(l.map g).sum<=(l.map f).sum->∀d∈l,f d=g d
 | [],_,_,d,hd=>absurd hd (List.not_mem_nil)
 | e :: l,h,hs,d,hd=>by
  have h1:=h e (List.mem_cons_self ..);have h2:=ER l fun e he=>h e (List.mem_cons_of_mem _ he);simp only[List.map_cons,List.sum_cons]at hs;rcases List.mem_cons.1 hd with h3|h3
  .subst h3;omega
  .exact I5 l (fun e he=>h e (List.mem_cons_of_mem _ he)) ac d h3
theorem Le{p q:Nat->Bool}:∀l:List Nat,(∀x∈l,q x=true->p x=true)->l.countP p<=l.countP q->∀x∈l,p x=q x
 | [],_,_,x,hx=>absurd hx (List.not_mem_nil)
 | e :: l,h,hs,x,hx=>by
  have h2:l.countP q<=l.countP p:=List.countP_mono_left fun y hy=>h y (List.mem_cons_of_mem _ hy);have h1:=h e (List.mem_cons_self ..);rw[List.countP_cons,List.countP_cons]at hs;have aA:p e=q e/\l.countP p<=l.countP q:=by
   cases hp:p e <;> cases hq:q e <;> simp[hp,hq]at hs h1 ⊢ <;> omega
  rcases List.mem_cons.1 hx with h3|h3
  .subst h3;exact aA.1
  .exact Le l (fun y hy=>h y (List.mem_cons_of_mem _ hy)) aA.2 x h3
theorem VC{n:Nat}{t t':Tw}(hG:Cv n t)(aA:Cv n t')(h:PT t t'){b:Nat}{p:Nat->Nat}(h1:¬Sf n t.R (n-b) b p)(h2:Sf n t'.R (n-b) b p):Ny n t' b+1<=Ny n t b:=by
 apply Classical.byContradiction;intro hn;refine h1 (Sf.congr (c:=b) (R:=t'.R) (fun c x hc=>?_) (Nat.le_refl _) h2);by_cases hcx:c<n/\x<n
 .have e1:=I5 (f:=fun d=>if b<=d then FZ n t' d else 0) (g:=fun d=>if b<=d then FZ n t d else 0) (List.range n) (fun d _=>by
   split
   .exact FO h d n
   .exact Nat.le_refl _) (by unfold Ny at hn;omega) c (List.mem_range.2 hcx.1)
  simp only[if_pos hc]at e1;have e2:=Le (p:=fun x=>(t.R c x).isNone) (q:=fun x=>(t'.R c x).isNone) (List.range n) (fun y _ hy=>by
   cases hr:t.R c y with
   | none=>rfl
   | some r=>rw[h c y r hr]at hy;cases hy) (by unfold FZ at e1;omega) x (List.mem_range.2 hcx.2)
  cases hr:t.R c x with
  | some r=>exact h c x r hr
  | none=>
   simp only[hr,Option.isNone]at e2
   cases hr':t'.R c x with
   | none=>rfl
   | some r=>rw[hr']at e2;cases e2
 .cases hr:t.R c x with
  | some r=>exact absurd ⟨(hG.rep _ _ _ hr).1,(hG.rep _ _ _ hr).2.1⟩ hcx
  | none=>
   cases hr':t'.R c x with
   | none=>rfl
   | some r=>exact absurd ⟨(aA.rep _ _ _ hr').1,(aA.rep _ _ _ hr').2.1⟩ hcx
def OG(n:Nat)(t:Tw)(b:Nat):Prop:=∀c,b<=c->c<n->(t.g c).length+Ny n t c<=n*n
theorem OG.up{n:Nat}{t:Tw}{b c:Nat}(h:OG n t b)(hc:b<=c):OG n t c:=fun d hd=>h d ac
theorem OG.mono{n:Nat}{t t':Tw}{b:Nat}(h:OG n t b)(hl:PT t t')(hg:∀c,b<=c->t'.g c=t.g c):OG n t' b:=fun c hc aA=>by
 rw[hg c hc];have:=h c hc aA;have:=RA (n:=n) hl c;omega
def Q3(base n tb rb gb:Nat)(rr:Nat->Nat)(m:Nat):Prop:=∀(w:World) (mb:List Nat) (t:Tw) (q:Nat->Nat) (u:Value) (b:Nat),Qk n t b<=m->b<n->R5 w base n tb rb gb rr mb t->Cv n t->(∀c,b+1<=c->c<n->Dc n t c)->Ca w mb n u q->Bj n q->A7 b q->base<=w.heap.size->(t.g b).length<=n*n+1->OG n t (b+1)->
 Calls Tryz.prog 210 #[.pointer (some ⟨tb,0,none⟩),u,.int .i64 b] w fun r w'=>(∃z,r= .returned z)/\∃aA t',R5 w' base n tb rb gb rr aA t'/\UC n b q t t'/\Mx mb aA w w'/\OG n t' (b+1)
def UH(base n tb rb gb:Nat)(rr:Nat->Nat)(m:Nat):Prop:=∀(w:World) (mb:List Nat) (t:Tw) (p:Nat->Nat) (u:Value) (b:Nat),(b<n->Qk n t b<=m)->b<=n->R5 w base n tb rb gb rr mb t->Cv n t->(∀c,b<=c->c<n->Dc n t c)->Ca w mb n u p->Bj n p->A7 b p->base<=w.heap.size->OG n t b->
 Calls Tryz.prog 174 #[.pointer (some ⟨tb,0,none⟩),u,.int .i64 b] w fun r w'=>(∃z,r= .returned z)/\∃aA t',R5 w' base n tb rb gb rr aA t'/\Ov n b p t t'/\Mx mb aA w w'/\OG n t' b
theorem J6.one{w:World}{mb:List Nat}{n:Nat}{o:Option (Nat->Nat)}{u:Value}(h:J6 w mb n o u):u.oneCell'=true:=by
 cases o with
 | none=>have h:u= .slice none 0 0:=h;rw[h];rfl
 | some r=>
  have h:Ca w mb n u r:=h;obtain⟨b,o,cap,rfl,_⟩:=h.at_;rfl
theorem JE{base n tb rb gb:Nat}{rr:Nat->Nat}(bJ:1<=n)(hn:n<=64)(m:Nat)(hv:Q3 base n tb rb gb rr m):UH base n tb rb gb rr m:=by
 intro w mb t p u b bV hb aL hG hC hu hP hF cA cB;have HV:=Aa hv;have aZ:=Aa cB;have hnn:n*n<=4096:=Nat.mul_le_mul hn hn;obtain⟨gv,V,hM⟩:=aL;have HM:=Aa hM;have HG:=Aa hG;have HC:=Aa hC;have HU:=Aa hu;have HP:=Aa hP;have HF:=Aa hF;have dE:=Aa bV;have bN:=Aa (Ri w hM hG bJ hn u p b hb hu.sl hP);obtain⟨ub,uo,uc,rfl,_,_,_,_⟩:=hu.at_;obtain⟨E,hE⟩:=nA ((Dd n t.R (n-b) b p).2);have HE:=Aa hE;have cL:=Aa (KE n t.R (n-b) b p);rw[hE]at bN cL;clear hv cB hM hG hC hu hP hF bV hE;by_cases hen:E=n
 .have cS:((E:Int)==(n:Int))=true:=by simp;omega
  have cR:(E==n)=true:=by simpa using hen
  have aN:=Aa (Ov.same HG.o HC.o ((ON n t.R (n-b) b p).2 (by rw[HE.o];omega)));clear hen;go_enter Tryz.func174,Tryz.ntmps174
  go_wp2_with fail
  refine bN.o.mono ?_;rintro e w1⟨z,rfl,aH⟩;have c0:=aH.cell HM.o.c0;have bD:=Aa aH;clear aH;go_wp2_with fail
  ((try simp only[Exit.inBlock,Exit.then]);refine bodyPost_ret (results_none rfl _ _ _) rfl ?_)
  exact⟨⟨_,rfl⟩,mb,t,⟨gv,V,HM.o.ex bD.o⟩,aN.o,Mx.ofEx bD.o mb,aZ.o⟩
 .have aB:b<n:=by
   apply Classical.byContradiction;intro h;have h1:=cL.o;omega
  have cS:((E:Int)==(n:Int))=false:=al;have cR:(E==n)=false:=by simpa using hen
  have dI:=Aa (show(t.g b).length<=4096 from by have:=aZ.o b (Nat.le_refl _) aB;omega);have dC:=Aa (show ¬Sf n t.R (n-b) b p from fun h=>hen (by have:=(ON n t.R (n-b) b p).1 h;rw[HE.o]at this;omega));clear hen;go_enter Tryz.func174,Tryz.ntmps174
  go_wp2_with fail
  refine bN.o.mono ?_;rintro e w1⟨z,rfl,aH⟩;have bD:=Aa aH;have HM:=Aa (HM.o.ex aH);have HU:=Aa (HU.o.ex aH);have dP:=Aa (Nat.le_trans cA aH.size);clear aH;obtain⟨vals,bX,bW⟩:=HM.o.gro b aB;have bR:=Aa bX;have cK:=Aa bW;clear bX bW;have hgl:=dI.o;have c0:=HM.o.c0;have c2:=HM.o.c2;have c4:=HM.o.go.cell aB;have i1:(0:Int)<=(b:Int):=ac;have i2:(b:Int)<(n:Int):=ac;have EA:=(Ex.refl w1).alloc (.cells #[.slice (some ⟨ub,uo,none⟩) n uc] 22);have cV:=EA.cell c2;have cT:=EA.cell c4;have bQ:=Aa (show(gv b).ownBlock≠some gb from fun e=>(HM.o.gvm b _ aB e).2.1 rfl);have cI:=Aa (show some tb≠(gv b).ownBlock from fun e=>HM.o.tm (HM.o.gvm b tb aB e.symm).1);have cO:=Aa (show base<=((w1.alloc (.cells #[.slice (some ⟨ub,uo,none⟩) n uc] 22)).drew).heap.size from by have:=dP.o;simp;omega);go_upto_region 2 with fail
  go_cut [2] from 23 to 39 (fun s2 wx=>s2= .int .i64 b/\Hia (∃aK,R5 wx base n tb rb gb rr aK (PF t b p)/\Mx mb aK w1 wx))
  case first=>
   go_region_law
   ((refine BI bj _ _ _ bj base 22 (.slice none 0 0) 1 24 Tryz.underlying37 Bz rfl ae (gv b) (t.g b).length vals bj (Ai bR.o (((Ex.refl w1).alloc (.cells #[.slice (some ⟨ub,uo,none⟩) n uc] 22)).drew)) _ 1 [.slice (some ⟨ub,uo,none⟩) n uc] bj (Sl.own (DQ w1 (.slice (some ⟨ub,uo,none⟩) n uc) 22)) ak ai ac (cO.o) ?_;intro v8 w8 aD bY cC;have bH:=Aa (Ww bR.o aD bY cC);have dN:=(bH.o.arr HM.o.go bQ.o).1.cell aB;have dM:=(bH.o.arr HM.o.go bQ.o).1.frz b;have cU:=bH.o.cell c2 cI.o;obtain⟨va,vc,cP⟩:=Ac aD;subst cP;clear aD bY cC))
   all_goals
   have bO:=Aa (show ∃aK,R5 (w8.setCell ⟨gb,b,none⟩ (.slice va ((t.g b).length+1) vc)) base n tb rb gb rr aK (PF t b p)/\Mx mb aK w1 (w8.setCell ⟨gb,b,none⟩ (.slice va ((t.g b).length+1) vc)) from by
    obtain⟨aK,h1,h2⟩:=HM.o.addGen aB HU.o cK.o bH.o;exact⟨aK,⟨_,_,h1⟩,h2⟩)
   clear dN dM cU;go_wp2_with fail
   go_meet
   exact⟨rfl,bO⟩
  case rest=>
   obtain⟨rfl,aR⟩:=hcut;obtain⟨aM,⟨gv1,V1,cD⟩,aI⟩:=aR.o;have aJ:=Aa cD;have bF:=Aa aI;have cG:=Aa (HU.o.mx aI);clear aR cD aI c0 c2 c4 cV cT bR cK bQ cI cO HM HU EA;have c1:=aJ.o.c1;have c3:=aJ.o.ro b aB;have cM:=Aa (PY wc n (V1 b) _ (aJ.o.row b aB).sl bJ ac (fun j hj=>(aJ.o.rep b j aB hj).one));have bG:=Aa (Iy.start HG.o (fun c h1 h2=>HC.o c ac h2) HP.o HF.o);have dF:=Aa (show Qk n t b<=m from dE.o aB);have cN:=Aa (show OG n (PF t b p) (b+1) from(aZ.o.up (by omega:b<=b+1)).mono (fun _ _ _ h=>h) fun c hc=>by
    show(if c=b then t.g c ++ [p] else t.g c)=t.g c
    rw[if_neg ac])
   go_wp2_with (go_at_call 209;refine cM.o.mono ?_;rintro e w9⟨g9,cap9,rfl,aE,bT⟩;have bP:=Aa aE;have aV:=Aa bT;clear aE bT)
   have aY:=Aa (show ∀j,j<n->w9.cell? ⟨g9,j,none⟩=some (V1 b j) from fun j hj=>bP.o.cell hj);have aX:=Aa (show g9 ∉ aM from fun h=>by have:=aJ.o.low g9 h;have:=bP.o.lt.1;omega);have bE:=Aa (show ∀y,y<n->J6 w9 aM n (t.R b y) (V1 b y) from fun y hy=>(aJ.o.rep b y aB hy).mx (Mx.ofEx aV.o aM));have cF:=Aa (cG.o.ex aV.o);have cH:=Aa (show R5 w9 base n tb rb gb rr aM (PF t b p) from⟨_,_,aJ.o.ex aV.o⟩);have aW:=Aa ((Mx.ofEx bD.o mb).trans (bF.o.trans (Mx.ofEx aV.o aM)));clear c1 c3 cM bP aJ bF cG aV
   go_loopw [48,9] (fun x' r' wr=>∃(x:Nat) (aC:List Nat) (tc:Tw),x<=n/\x'= .int .i64 x/\Hia (R5 wr base n tb rb gb rr aC tc)/\Hia (Iy n b p t tc x)/\Hia (Mx mb aC w wr)/\Hia (∀j,j<n->wr.cell? ⟨g9,j,none⟩=some (V1 b j))/\Hia (g9 ∉ aC)/\Hia (∀y,y<n->J6 wr aC n (t.R b y) (V1 b y))/\Hia (Ca wr aC n (.slice (some ⟨ub,uo,none⟩) n uc) p)/\Hia (OG n tc (b+1))) (fun x' _ _=>n-(intOf x').toNat)
   case atStart=>exact⟨0,aM,PF t b p,ac,rfl,cH,bG,aW,aY,aX,bE,cF,cN⟩
   case round=>
    clear cH bG aW aY aX bE cF cN;obtain⟨x,aC,tc,hx,rfl,aL,aF,aI,bC,bK,bB,bA,aT⟩:=hrel;by_cases hxn:x<n
    .have d1:=bC.o x hxn;have aA:=bB.o x hxn;have i3:(0:Int)<=(x:Int):=by omega
     have i4:(x:Int)<(n:Int):=ac
     cases hR:t.R b x with
     | none=>
      rw[hR]at aA;have aA:V1 b x= .slice none 0 0:=aA;rw[aA]at d1;have dK:=Aa (aF.o.skip hR);clear aA hR aF;go_wp2_with fail
      go_roundw
      case rel=>exact⟨x+1,aC,tc,ac,by go_num,aL,dK,aI,bC,bK,bB,bA,aT⟩
      case measure=>simp[intOf];omega
     | some r=>
      rw[hR]at aA;have aA:Ca wr aC n (V1 b x) r:=aA;obtain⟨vb,vo,vc,hV,_,_,_,_⟩:=aA.at_;obtain⟨_,_,bI,bU,cQ⟩:=HG.o.rep _ _ _ hR;have cJ:=Aa aA.sl;rw[hV]at d1 cJ;have cZ:=Aa (Fm wr n r p _ _ cJ.o bA.o.sl ac bI.lt);have cW:=Aa (fun w2 (aO:Ex wr w2) z (hz:Ca w2 aC n z (An r p))=>HV.o w2 aC tc (An r p) z b (Nat.le_trans (NC aF.o.le b) dF.o) aB (by obtain⟨gv',V',h⟩:=aL.o;exact⟨gv',V',h.ex aO⟩) aF.o.good aF.o.comp hz (bI.comp HP.o) (bU.comp HF.o) (Nat.le_trans cA (Nat.le_trans aI.o.size aO.size)) (by have h1:=aZ.o b (Nat.le_refl _) aB;rw[aF.o.gb,List.length_append];simp;omega) aT.o);have dH:=Aa (show ∀B∈aC,B<wr.heap.size from by obtain⟨gv',V',h⟩:=aL.o;exact h.low);have dA:=Aa hR;have bG:=Aa aF.o;have bF:=Aa aI.o;have aY:=Aa bC.o;have aX:=Aa bK.o;have bE:=Aa bB.o;have cX:=Aa bA.o;clear aA hR aF aI bC bK bB bA aT hV bI bU cQ aL;go_wp2_with (first|(go_at_call 108;refine cZ.o.mono ?_;rintro e w2⟨g2,rfl,aE,aO⟩;have dD:=Aa (Ca.new bJ aE dH.o);have cE:=Aa aO;clear aE aO)|(go_at_call 210;refine(cW.o _ cE.o _ dD.o).mono ?_;rintro e w3⟨⟨zz,rfl⟩,mb3,t3,aQ,aP,aS,aU⟩;have bS:=Aa aU;clear aU;have bM:=Aa aQ;have bL:=Aa aP;have aG:=Aa ((Mx.ofEx cE.o aC).trans aS);clear aQ aP aS))
      have dJ:=Aa (bG.o.step dA.o bL.o);have dO:=Aa (show ∀j,j<n->w3.cell? ⟨g9,j,none⟩=some (V1 b j) from fun j hj=>aG.o.cell (aY.o j hj) aX.o);have dL:=Aa (show g9 ∉ mb3 from fun h=>by
       rcases aG.o.mb g9 h with h1|h1
       .exact aX.o h1
       .have:=World.block_lt_of_cell? _ _ (aY.o 0 ac);dsimp only at this;omega)
      have dB:=Aa (show ∀y,y<n->J6 w3 mb3 n (t.R b y) (V1 b y) from fun y hy=>(bE.o y hy).mx aG.o);have cY:=Aa (cX.o.mx aG.o);have dG:=Aa (bF.o.trans aG.o);go_roundw
      case rel=>exact⟨x+1,mb3,t3,ac,by go_num,bM,dJ,dG,dO,dL,dB,cY,bS⟩
      case measure=>simp[intOf];omega
    .obtain rfl:x=n:=by omega
     have aN:=Aa (aF.o.fin aB HG.o HC.o HP.o HF.o (Nat.le_refl _));have dQ:=Aa (show OG x tc b from fun c hc bZ=>by
      by_cases e:c=b
      .subst e;have h1:=aZ.o c (Nat.le_refl _) bZ;have h2:=VC HG.o aN.o.good aN.o.le dC.o aN.o.mem;rw[aF.o.gb,List.length_append];simp;omega
      .exact aT.o c ac bZ)
     clear aF aT;go_wp2_with fail
     ((try simp only[Exit.inBlock,Exit.then]);first|refine bodyPost_ret (results_none rfl _ _ _) rfl ?_|refine bodyPost_end (results_none rfl _ _ _) rfl ?_)
     exact⟨⟨_,rfl⟩,aC,tc,aL.o,aN.o,aI.o,dQ.o⟩
theorem Sr{base n tb rb gb:Nat}{rr:Nat->Nat}(cF:1<=n)(hn:n<=64)(m:Nat)(hv:Q3 base n tb rb gb rr m)(hi:UH base n tb rb gb rr m):Q3 base n tb rb gb rr (m+1):=by
 intro w mb t q u b cG aC aQ hG hC hu hP hF aJ bE bF;have hnn:n*n<=4096:=Nat.mul_le_mul hn hn;have HV:=Aa hv;have HI:=Aa hi;obtain⟨gv,V,hM⟩:=aQ;have HM:=Aa hM;have HG:=Aa hG;have HC:=Aa hC;have HU:=Aa hu;have HP:=Aa hP;have HF:=Aa hF;have dE:=Aa bF;have cO:=Aa bE;obtain⟨ub,uo,uc,rfl,_,_,_,bJ⟩:=hu.at_;have bC:=hP.lt b aC;have d1:=bJ b aC;have c1:=hM.c1;have c3:=hM.ro b aC;have d3:=(hM.row b aC).cell bC;have aA:=hM.rep b (q b) aC bC;have i1:(0:Int)<=(b:Int):=ac;have i2:(b:Int)<(n:Int):=ac;have i3:(0:Int)<=(q b:Int):=ac;have i4:(q b:Int)<(n:Int):=ac
 cases hR:t.R b (q b) with
 | some r=>
  rw[hR]at aA;have aA:Ca w mb n (V b (q b)) r:=aA;obtain⟨vb,vo,vc,hV,_,_,_,_⟩:=aA.at_;obtain⟨_,_,bB,cE,cD⟩:=hG.rep _ _ _ hR;have cM:=Aa aA.sl;rw[hV]at d3 cM;have cZ:=Aa (Ik w n r _ cM.o ac bB);have bR:=Aa (fun w1 (cP:Ex w w1) z hz=>Fm w1 n q (A5 n r) _ z (HU.o.sl.ex cP) hz ac hP.lt);have bU:=Aa hM.low;have cN:=Aa (fun w2 (aD:Ex w w2) z (hz:Ca w2 mb n z (An q (A5 n r)))=>HI.o w2 mb t (An q (A5 n r)) z (b+1) (fun h=>by have:=Xy (t:=t) h;omega) aC ⟨gv,V,HM.o.ex aD⟩ HG.o HC.o hz (hP.comp bB.inv) (hF.div bB cE cD) (Nat.le_trans aJ aD.size) dE.o);have cU:=Aa hR;have i5:IntKind.i64.wrap ((b:Int)+1)=(b:Int)+1:=IntWalk.i64_in _ ac;have aH:((b+1:Nat):Int)=(b:Int)+1:=by omega
  rw[aH]at cN;clear aA hR hV bB cE cD hG hC hu hP hF bF bE bJ hM hv hi aH cG;go_enter Tryz.func210,Tryz.ntmps210
  go_wp2_with (first|(go_at_call 109;refine cZ.o.mono ?_;rintro e w2⟨g2,rfl,aB,aD⟩;have dB:=Aa aB.li;have aM:=Aa aD;clear aB aD)|(go_at_call 108;refine(bR.o _ aM.o _ dB.o).mono ?_;rintro e w3⟨g3,rfl,aB,cA⟩;have dA:=Aa (Ca.new cF aB (fun B hB=>Nat.lt_of_lt_of_le (bU.o B hB) aM.o.size));have cJ:=Aa (aM.o.trans cA);clear aB cA)|(go_at_call 174;refine(cN.o _ cJ.o _ dA.o).mono ?_;rintro e w4⟨⟨zz,rfl⟩,mb4,t4,aO,aT,aR,aV⟩;have bP:=Aa aO;have bW:=Aa aT;have bT:=Aa ((Mx.ofEx cJ.o mb).trans aR);have bY:=Aa aV;clear aO aT aR aV))
  ((try simp only[Exit.inBlock,Exit.then]);first|refine bodyPost_ret (results_none rfl _ _ _) rfl ?_|refine bodyPost_end (results_none rfl _ _ _) rfl ?_)
  exact⟨⟨_,rfl⟩,mb4,t4,bP.o,bW.o.vis aC HG.o cU.o,bT.o,bY.o⟩
 | none=>
  rw[hR]at aA;have aA:V b (q b)= .slice none 0 0:=aA;rw[aA]at d3;have f3:=(hM.row b aC).frz (q b);obtain⟨cI,aI⟩:=hM.setRep aC bC HU.o;have aZ:=Aa (show R5 (w.setCell ⟨rr b,q b,none⟩ (.slice (some ⟨ub,uo,none⟩) n uc)) base n tb rb gb rr mb (Kg t b (q b) q) from⟨_,_,cI⟩);have aL:=Aa aI;have cK:=Aa (HU.o.mx aI);have aX:=Aa (MQ.start aC hG hC hP hF hR);have bA:=Aa (bF.mono aX.o.le fun _ _=>rfl);have cX:=Aa (show Qk n (Kg t b (q b) q) b<=m from by have:=VG (q:=q) hR bC;omega);have dD:=Aa aJ;clear aA hR hG hC hu hP hF bF bE bJ hM hv hi cG cI aI aJ;go_enter Tryz.func210,Tryz.ntmps210
  go_wp2_with fail
  have cL:=Aa (show base<=(w.setCell ⟨rr b,q b,none⟩ (.slice (some ⟨ub,uo,none⟩) n uc)).heap.size from Nat.le_trans dD.o aL.o.size);generalize w.setCell ⟨rr b,q b,none⟩ (.slice (some ⟨ub,uo,none⟩) n uc)=w1 at *;clear d1 c1 c3 d3 f3
  go_loopw [7] (fun k' wr=>∃(k:Nat) (aE:List Nat) (tc:Tw),k<=(t.g b).length/\k'= .int .i64 k/\Hia (R5 wr base n tb rb gb rr aE tc)/\Hia (MQ n b q t tc k)/\Hia (PT (Kg t b (q b) q) tc)/\Hia (Mx mb aE w wr)/\Hia (Ca wr aE n (.slice (some ⟨ub,uo,none⟩) n uc) q)/\Hia (OG n tc (b+1))/\Hia (base<=wr.heap.size)) (fun k' _=>(t.g b).length-(intOf k').toNat)
  case atStart=>exact⟨0,mb,_,ac,rfl,aZ,aX,Aa (fun _ _ _ h=>h),aL,cK,bA,cL⟩
  case round=>
   clear aZ aX aL cK bA cL;obtain⟨k,aE,tc,hk,rfl,aQ,aF,bL,bK,bH,bM,aJ⟩:=hrel;obtain⟨gv,V,hM⟩:=aQ.o;obtain⟨vals,aG,bD⟩:=hM.gro b aC;rw[aF.o.gb]at aG bD;have c2:=hM.c2;have c4:=hM.go.cell aC;have bE:=cO.o;by_cases hkn:k<(t.g b).length
   .obtain⟨s,hs⟩:∃s,(t.g b)[k]?=some s:=⟨_,List.getElem?_eq_getElem hkn⟩;obtain⟨v,bG⟩:∃v,vals[k]?=some v:=⟨_,List.getElem?_eq_getElem (by have:=aG.1;omega)⟩;have bI:=bD k s v hs bG;obtain⟨sb,so,sc,rfl,_,_,_,_⟩:=bI.at_;obtain⟨cR,gc,aU,_,cQ⟩:=Fs aG ac;unfold maxLen at cQ;rw[aU]at aG c4;have d5:wr.cell? ⟨cR,k,none⟩=some (.slice (some ⟨sb,so,none⟩) n sc):=by
     rw[World.ownsRow.cellAt aG k ac];exact bG
    have i5:(0:Int)<=(k:Int):=ac;have i6:(k:Int)<((t.g b).length:Int):=ac;obtain⟨cB,cC⟩:=HG.o.gen b s (List.mem_of_getElem? hs);have bR:=Aa (Fm wr n q s _ _ bH.o.sl bI.sl ac HP.o.lt);have bU:=Aa hM.low;have cS:=Aa (fun w2 (aD:Ex wr w2) z (hz:Ca w2 aE n z (An q s))=>HV.o w2 aE tc (An q s) z b (Nat.le_trans (NC bL.o b) cX.o) aC ⟨gv,V,hM.ex aD⟩ aF.o.good aF.o.comp hz (HP.o.comp cB) (HF.o.comp cC) (Nat.le_trans aJ.o aD.size) (by rw[aF.o.gb];exact cO.o) bM.o);have aX:=Aa aF.o;have HS:=Aa hs;have cY:=Aa bL.o;have cW:=Aa bK.o;have cT:=Aa bH.o;have bX:=Aa aJ.o;clear aF bL bK bH bM aJ hs bG bI aG bD cB cC aQ hM aU;go_wp2_with (first|(go_at_call 108;refine bR.o.mono ?_;rintro e w2⟨g2,rfl,aB,aD⟩;have cV:=Aa (Ca.new cF aB bU.o);have aM:=Aa aD;clear aB aD)|(go_at_call 210;refine(cS.o _ aM.o _ cV.o).mono ?_;rintro e w3⟨⟨zz,rfl⟩,mb3,t3,aP,aN,aS,aW⟩;have bQ:=Aa aP;have aY:=Aa aN;have aK:=Aa ((Mx.ofEx aM.o aE).trans aS);have bZ:=Aa aW;clear aP aN aS aW))
    have bN:=Aa (aX.o.step HS.o aY.o);have bV:=Aa (cY.o.trans aY.o.le);have bS:=Aa (cW.o.trans aK.o);have bO:=Aa (cT.o.mx aK.o);have dF:=Aa (Nat.le_trans bX.o aK.o.size);go_roundw
    case rel=>exact⟨k+1,mb3,t3,ac,by go_num,bQ,bN,bV,bS,bO,bZ,dF⟩
    case measure=>simp[intOf];omega
   .obtain rfl:k=(t.g b).length:=by omega
    obtain⟨ga,gc,cH⟩:=Ac aG;rw[cH]at c4;have dC:=Aa (aF.o.fin aC HP.o (Nat.le_refl _));clear aF aG bD cH hM;go_wp2_with fail
    ((try simp only[Exit.inBlock,Exit.then]);first|refine bodyPost_ret (results_none rfl _ _ _) rfl ?_|refine bodyPost_end (results_none rfl _ _ _) rfl ?_)
    exact⟨⟨_,rfl⟩,aE,tc,aQ.o,dC.o,bK.o,bM.o⟩
end
end Go.Proofs.YtehieobniamagaaGreat
