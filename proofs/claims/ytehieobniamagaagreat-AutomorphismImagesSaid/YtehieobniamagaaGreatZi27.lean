/- Walk of automorphism.open (printed by gen_opn.py). -/
import Derived.Test.YtehieobniamagaaGreatZi26
namespace Go.Proofs.YtehieobniamagaaGreat
open Nat renaming le_trans→μ,le_self_pow→δm,lt_of_lt_of_le→Δ,le_refl→ζ,zero_add→ύ,lt_irrefl→γe
open List renaming setIfInBounds_toArray→γa,set_cons_zero→δb,set_cons_succ→δc,mem_append→γj,mem_append_right→Ϝ,length_append→ν,getElem?_append_left→ο,getElem?_append_right→τ,mem_map→ψ,flatMap_append→δf,range_succ→γg,contains_iff_mem→γv
open Go.World renaming block_lt_of_cell?→η,ownsRow→νq
open Go.RowKit
set_option linter.all false
set_option maxRecDepth 100000
set_option maxHeartbeats 16000000
def IS(c:AX)(e0:Int):Int:=if e0≠0 then e0 else if 64<c.n.toNat*(c.p.toNat^c.m.toNat-1) then 8 else 0
def OpO(c:AX)(r:Ending)(w':World):Prop:=∃e0:Int,Bw c.p c.m c.ml c.n c.rows e0/\
 ((IS c e0≠0/\∃(aA:Option Addr) (d:Int),r= .returned (.tuple #[.pointer aA,d,.int .i64 (IS c e0)]))∨
 (IS c e0=0/\∃(pn mn N b x0:Nat),c.p=pn/\c.m=mn/\c.n=N/\1<=N/\N<=64/\N*(pn^mn-1)<=64/\r= .returned (.tuple #[(b,0),((N*(pn^mn-1):Nat):Int),Ω])/\Bh w' b pn mn c.ml x0/\1<=x0/\x0<pn^mn))
theorem zaz{P:Prop}(h:P:=by
 refine BB.on rfl fun L a w aB aA hd hx K hK=>?_;have bC:=aB 5 23 _ (hd ⟨5,.data⟩ (by simp) rfl) rfl rfl;exact zdh):P:=h
theorem K4(w:World)(c:AX)(m1 v1:Value)(hc:c.at w m1 v1):
  Calls Tryz.prog 69 #[c.arg m1 v1] w fun r w'=>OpO c r w'/\Ex w w':=by
 obtain⟨c0,c1,c2,c3,c4⟩:=C8 w c m1 v1;have aL:=AF w (c.obj m1 v1);have aH:=Aa (hc.ex aL);obtain⟨x1,y1,rfl,-,z1,-⟩:=hc.g.open;obtain⟨x3,y3,rfl,-,z3,-⟩:=hc.m.open;unfold maxLen at z1 z3;obtain⟨B,hB⟩:=nA w.heap.size;rw[hB]at c0 c1 c2 c3 c4;have aI:=Aa aL;obtain⟨cp,cm,aD,cn,aF⟩:=c;obtain⟨C,hC⟩:∃C:AX,C=⟨cp,cm,aD,cn,aF⟩:=⟨_,rfl⟩;have aE:=Aa hC;have aK:=Aa (fun w1 (h:Ex (w.alloc (AX.obj ⟨cp,cm,aD,cn,aF⟩ (.slice x3 aD.length y3) (.slice x1 aF.length y1))) w1)=>D6 w1 cp cm aD (.slice x3 aD.length y3) (aH.o.m.ex h) cn aF (.slice x1 aF.length y1) (aH.o.g.ex h));unfold AX.arg;unfold AX.obj at aI aK aH c0 c1 c2 c3 c4;dsimp only at aI aK aH c0 c1 c2 c3 c4 ⊢;rw[<-hC];clear hc aL hC;go_enter Tryz.func69,Tryz.ntmps69
 go_upto_region 1 with fail
 try simp only[hB]
 clear hB;generalize w.alloc (.cells #[cp,cm,(x3,aD.length,y3),cn,(x1,aF.length,y1)] 39)=w1 at *;go_wp2_with fail
 refine(aK.o w1 (Ex.refl _)).mono ?_;rintro e w2⟨⟨E,rfl,aU⟩,aC⟩;have aQ:=Aa aU;have aP:=Aa aC;replace c0:=aC.cell c0;replace c1:=aC.cell c1;replace c2:=aC.cell c2;replace c3:=aC.cell c3;replace c4:=aC.cell c4;clear aC aU aK;by_cases h0:E=0
 rotate_left
 .have hb:(E !=0)=true:=by simpa using h0
  have HR:Hia (IS C E=E/\IS C E≠0):=Aa (by unfold IS;rw[if_pos h0];exact⟨rfl,h0⟩);clear h0;go_wp2_with fail
  exact bodyPost_ret (v:= .tuple #[.pointer none,Ω,E]) (by simp[results,Tryz.results69,go_sem]) rfl ⟨⟨E,by rw[aE.o];exact aQ.o,.inl ⟨HR.o.2,_,_,by rw[HR.o.1]⟩⟩,aI.o.trans aP.o⟩
 .subst h0;obtain⟨aT,k1,k2⟩:=DH aQ.o;have aY:=Aa (FV cp cm aD _ w2 (aH.o.m.ex aP.o));have bI:=Aa aT;obtain⟨N,rfl⟩:∃N:Nat,cn=N:=⟨cn.toNat,ac⟩;have HN:Hia (1<=N/\N<=64):=Aa (ac);clear aT k1 k2;go_wp2_with fail
  refine aY.o.mono ?_;rintro e w3⟨bB,aM⟩;rcases bB with⟨pn,mn,x0,gb,rfl,rfl,rfl,hg,h1,h2⟩|⟨hbad,-⟩
  rotate_left
  .exact absurd bI.o hbad
  obtain⟨bE,bD,HG,bH,bG⟩:=On (aP.o.trans aM) (aM.cell c3) hg h1 h2;have bA:2<=pn^mn:=μ hg.sh.p2 (δm (by have:=hg.sh.m1;omega) pn);have aS:=hg.sh.q;have aX:=Aa (fun (w5:World) (h5:Ex w3 w5)=>Cv w5 (HG.o.ex h5));have aJ:=Aa (fun (w5:World)=>Hu w5 N (pn^mn) HN.o.2 ac aS);have aG:Hia (IS C 0=if 64<N*(pn^mn-1) then 8 else 0):=Aa (by rw[aE.o];unfold IS;rw[if_neg ag];rfl);obtain⟨q,hq⟩:=nA (pn^mn);have HQ:=Aa hq;rw[hq]at aX aJ aG;obtain⟨D,hD⟩:=nA (N*(q-1));rw[hD]at aJ aG;have aZ:=Aa hD;obtain⟨T0,aO⟩:∃z,((if 64<D then 0 else D:Nat):Int)=z:=⟨_,rfl⟩;obtain⟨T1,aN⟩:∃z,(if 64<D then(8:Int) else 0)=z:=⟨_,rfl⟩;rw[aO,aN]at aJ;have bF:=Aa aO;have aW:=Aa aN;clear aO aN hD hq aM hg h1 h2 bA aS aY c0 c1 c2 c3 c4;go_wp2_with fail
  go_upto_region 7 with fail
  refine BR (fun k=>([.pointer (some (B,3)),.int .i64 (N:Int),.pointer (some (gb,0)),.int .i64 (q:Int),.tuple #[T0,T1],.tuple #[T0,T1],.int .i64 T0,.int .i64 T1,.int .i64 T0,.int .i64 T1]:List Value).getD k undef) ah ah ah ?_ ?_
  .simp only[AH];refine⟨?_,?_,?_,?_,?_,?_,?_,?_,?_,?_,trivial⟩
   .refine BB.on rfl fun L a w aB aA hd hx K hK=>?_;have e1:a.tmps[1]?=some (.pointer (some (B,0))):=aA 1 ah;exact zdh
   .refine BB.on rfl fun L a w aB aA hd hx K hK=>?_;have e24:=aB 0 24 _ (hd ⟨0,.data⟩ ag rfl) rfl rfl;have c1:=hx.cell bD.o;exact zdh
   .refine BB.on rfl fun L a w aB aA hd hx K hK=>?_;have e6:a.tmps[6]?=some (.pointer (some (gb,0))):=aA 6 ah;exact zdh
   .refine BB.on rfl fun L a w aB aA hd hx K hK=>?_;have e26:=aB 2 26 _ (hd ⟨2,.data⟩ ag rfl) rfl rfl;clear aB aA hd;go_simp;refine(aX.o _ hx).mono ?_;exact zde
   .refine BB.on rfl fun L a w aB aA hd hx K hK=>?_;have e25:=aB 1 25 _ (hd ⟨1,.data⟩ ag rfl) rfl rfl;have e27:=aB 3 27 _ (hd ⟨3,.data⟩ ag rfl) rfl rfl;clear aB aA hd;go_simp;refine(aJ.o _).mono ?_;exact zde
   .refine BB.on rfl fun L a w aB aA hd hx K hK=>?_;have e28:=aB 4 28 _ (hd ⟨4,.data⟩ ag rfl) rfl rfl;exact zdh
   .exact zaz
   .exact zaz
   .refine BB.on rfl fun L a w aB aA hd hx K hK=>?_;have e29:=aB 6 29 _ (hd ⟨6,.data⟩ ag rfl) rfl rfl;exact zdh
   .refine BB.on rfl fun L a w aB aA hd hx K hK=>?_;have e30:=aB 7 30 _ (hd ⟨7,.data⟩ ag rfl) rfl rfl;exact zdh
  .intro w5 aR;simp only[Cg,Act.put,γa,δb,δc];have aV:=Aa aR;clear aR;go_wp2_with fail
   refine bodyPost_ret (v:= .tuple #[.pointer (some ⟨gb,0,none⟩),T0,T1]) (by simp[results,Tryz.results69,go_sem]) rfl ⟨⟨0,by rw[aE.o];exact aQ.o,?_⟩,aI.o.trans (bE.o.trans aV.o)⟩;by_cases hd:64<D
   .refine .inl ⟨by rw[aG.o,if_pos hd];decide,_,_,by rw[aG.o,aW.o]⟩
   .refine .inr ⟨by rw[aG.o,if_neg hd],pn,mn,N,gb,x0,by rw[aE.o],by rw[aE.o],by rw[aE.o],HN.o.1,HN.o.2,by rw[HQ.o,aZ.o];omega,?_,by rw[aE.o];exact HG.o.ex aV.o,bH.o,bG.o⟩;rw[HQ.o,aZ.o,<-bF.o,<-aW.o,if_neg hd,if_neg hd]
structure Mx(mb mb':List Nat)(w w':World):Prop where
 os:w'.os=w.os
 tape:w'.tape=w.tape
 output:w'.output=w.output
 size:w.heap.size<=w'.heap.size
 block:∀i,i<w.heap.size->i ∉ mb->w'.heap[i]?=w.heap[i]?
 mb:∀B∈mb',B∈mb∨w.heap.size<=B
theorem Mx.ofEx{w w':World}(h:Ex w w')(mb:List Nat):Mx mb mb w w':=⟨h.os,h.tape,h.output,h.size,fun i hi _=>h.block i hi,fun B h=> .inl h⟩
theorem Mx.trans{a b c:List Nat}{u v w:World}(h:Mx a b u v)(k:Mx b c v w):Mx a c u w:=
 ⟨k.os.trans h.os,k.tape.trans h.tape,k.output.trans h.output,μ h.size k.size,fun i hi hn=>by
  rw[k.block i (Δ hi h.size) (fun hb=>by
   rcases h.mb i hb with h1|h1
   .exact hn h1
   .omega),h.block i hi hn],fun B hB=>by
  rcases k.mb B hB with h1|h1
  .exact h.mb B h1
  .exact .inr (μ h.size h1)⟩
theorem Mx.ex{mb aA:List Nat}{w0 w w':World}(h:Mx mb aA w w')(hx:Ex w0 w)(hb:∀B∈mb,w0.heap.size<=B):Ex w0 w':=
 ⟨h.os.trans hx.os,h.tape.trans hx.tape,h.output.trans hx.output,μ hx.size h.size,fun i hi=>by
  rw[h.block i (Δ hi hx.size) (fun h1=>by have:=hb i h1;omega)];exact hx.block i hi⟩
theorem Mx.cell{mb aA:List Nat}{w w':World}(h:Mx mb aA w w'){a:Addr}{u:Value}(hc:w.cell? a=some u)(hn:a.block ∉ mb):w'.cell? a=some u:=by
 rw[<-hc];exact World.cell?_of_block (h.block a.block (η _ _ hc) hn)
structure CC(w:World)(mb:List Nat)(n:Nat)(u:Value)(f:Nat->Nat):Prop where
 sl:Ak w u (li n f)
 at_:∃b o cap,u= .slice (some ⟨b,o,none⟩) n cap/\cap<=maxLen/\b ∉ mb/\b<w.heap.size/\∀j,j<n->w.cell? ⟨b,o+j,none⟩=some (.int .i64 (f j:Int))
theorem CC.of{w:World}{mb:List Nat}{n:Nat}{u:Value}{f:Nat->Nat}(h:Ak w u (li n f))(hn:1<=n)(hb:∀B,u.ownBlock=some B->B ∉ mb):CC w mb n u f:=by
 refine⟨h,?_⟩;obtain⟨a,cap,rfl,h1,h2,h3⟩:=Fd h;obtain⟨b,o,rfl,h4⟩:=h3 hn;exact⟨b,o,cap,rfl,h2,hb b rfl,η _ _ (h4 0 hn),h4⟩
theorem CC.mx{mb aA:List Nat}{w w':World}{n:Nat}{u:Value}{f:Nat->Nat}(h:CC w mb n u f)(hx:Mx mb aA w w'):CC w' aA n u f:=by
 obtain⟨b,o,cap,rfl,h1,h2,h3,h4⟩:=h.at_;have hs:Ak w' (.slice (some (b,o)) n cap) (li n f):=by
  obtain⟨k1,a,c,k2,k3,k4,k5⟩:=h.sl;refine⟨k1,a,c,k2,k3,k4,fun hn=>?_⟩;obtain⟨b',o',k6,k7⟩:=k5 hn;injection k2 with k2 _ _;rw[k6]at k2;injection k2 with k2;injection k2 with k2 k8;subst k2 k8;exact⟨b,o,k6,fun j u hu=>hx.cell (k7 j u hu) h2⟩
 refine⟨hs,b,o,cap,rfl,h1,fun hb=>?_,Δ h3 hx.size,fun j hj=>hx.cell (h4 j hj) h2⟩;rcases hx.mb b hb with h5|h5
 .exact h2 h5
 .omega
theorem CC.ex{mb:List Nat}{w w':World}{n:Nat}{u:Value}{f:Nat->Nat}(h:CC w mb n u f)(hx:Ex w w'):CC w' mb n u f:=h.mx (Mx.ofEx hx mb)
theorem CC.new{mb:List Nat}{w w':World}{n g:Nat}{f:Nat->Nat}(hn:1<=n)(h:AJ w' w.heap.size 3 g n (iv fun i=>(f i:Int)))(hb:∀B∈mb,B<w.heap.size):CC w' mb n (.slice (some (g,0)) n n) f:=
 CC.of h.li hn fun B e hB=>by
  injection e with e;have:=h.lt.1;have:=hb B hB;dsimp only at *;omega
def Ma(w:World)(mb:List Nat)(n:Nat)(o:Option (Nat->Nat))(u:Value):Prop:=match o with
 | none=>u= .slice none 0 0
 | some r=>CC w mb n u r
theorem Ma.mx{mb aA:List Nat}{w w':World}{n:Nat}{o:Option (Nat->Nat)}{u:Value}(h:Ma w mb n o u)(hx:Mx mb aA w w'):Ma w' aA n o u:=by
 cases o with
 | none=>exact h
 | some r=>exact CC.mx (show CC w mb n u r from h) hx
structure SG(w:World)(base n tb rb gb:Nat)(rr:Nat->Nat)(gv:Nat->Value)(V:Nat->Nat->Value)(mb:List Nat)(t:Tw):Prop where
 c0:w.cell? (tb,0)=some (.int .i64 n)
 c1:w.cell? (tb,1)=some (.slice (some (rb,0)) n n)
 c2:w.cell? (tb,2)=some (.slice (some (gb,0)) n n)
 tm:tb ∉ mb
 ro:∀b,b<n->w.cell? ⟨rb,b,none⟩=some (.slice (some ⟨rr b,0,none⟩) n n)
 rm:rb ∉ mb
 row:∀b,b<n->AJ w base 22 (rr b) n (V b)
 rep:∀b x,b<n->x<n->Ma w mb n (t.R b x) (V b x)
 go:AJ w base 37 gb n gv
 gro:∀b,b<n->∃vals:List Value,w.ownsRow base 22 1 (gv b) (t.g b).length vals/\∀(i:Nat) (f:Nat->Nat) (u:Value),(t.g b)[i]?=some f->vals[i]?=some u->CC w mb n u f
 gm:gb∈mb
 rrm:∀b,b<n->rr b∈mb
 gvm:∀b B,b<n->(gv b).ownBlock=some B->B∈mb/\B≠gb/\∀c,c<n->B≠rr c
 grr:∀b,b<n->gb≠rr b
 rri:∀b c,b<n->c<n->rr b=rr c->b=c
 gvi:∀b c B,b<n->c<n->(gv b).ownBlock=some B->(gv c).ownBlock=some B->b=c
 lo:∀B∈mb,base<=B/\B<w.heap.size
section
variable {w:World} {base n tb rb gb:Nat} {rr:Nat->Nat} {gv:Nat->Value} {V:Nat->Nat->Value} {mb:List Nat} {t:Tw}
theorem SG.ex(h:SG w base n tb rb gb rr gv V mb t){w':World}(hx:Ex w w'):SG w' base n tb rb gb rr gv V mb t:=
 ⟨hx.cell h.c0,hx.cell h.c1,hx.cell h.c2,h.tm,fun b hb=>hx.cell (h.ro b hb),h.rm,fun b hb=>(h.row b hb).ex hx,fun b x hb aA=>(h.rep b x hb aA).mx (Mx.ofEx hx mb),h.go.ex hx,fun b hb=>by
  obtain⟨vals,h1,h2⟩:=h.gro b hb;exact⟨vals,Ag h1 hx,fun i f u a c=>(h2 i f u a c).ex hx⟩,h.gm,h.rrm,h.gvm,h.grr,h.rri,h.gvi,fun B hB=>⟨(h.lo B hB).1,Δ (h.lo B hB).2 hx.size⟩⟩
theorem SG.low(h:SG w base n tb rb gb rr gv V mb t):∀B∈mb,B<w.heap.size:=fun B hB=>(h.lo B hB).2
theorem SG.setRep(h:SG w base n tb rb gb rr gv V mb t){b x:Nat}{q:Nat->Nat}{u:Value}(hb:b<n)(hx:x<n)(hu:CC w mb n u q):
  SG (w.setCell (rr b,x) u) base n tb rb gb rr gv (fun c=>if c=b then Ay (V b) x u else V c) mb (Ml t b x q)/\Mx mb mb w (w.setCell (rr b,x) u):=by
 have hm:=h.rrm b hb;have aB:(w.setCell (rr b,x) u).heap.size=w.heap.size:=cd;have aA:Mx mb mb w (w.setCell (rr b,x) u):=⟨rfl,rfl,rfl,ac,fun i hi hn=>Below.heap_setCell _ _ _ _ (fun e=>hn (by have e:i=rr b:=e;rw[e];exact hm)),fun B hB=> .inl hB⟩;refine⟨⟨aA.cell h.c0 h.tm,aA.cell h.c1 h.tm,aA.cell h.c2 h.tm,h.tm,fun c hc=>aA.cell (h.ro c hc) h.rm,h.rm,fun c hc=>?_,fun c y hc hy=>?_,h.go.other (h.grr b hb) u,fun c hc=>?_,h.gm,h.rrm,h.gvm,h.grr,h.rri,h.gvi,fun B hB=>by rw[aB];exact h.lo B hB⟩,aA⟩
 .by_cases e:c=b
  .subst e;rw[if_pos rfl];exact(h.row c hc).set x u
  .rw[if_neg e];exact(h.row c hc).other (fun e2=>e (h.rri c b hc hb e2)) u
 .show Ma _ mb n (if c=b/\y=x then some q else t.R c y) ((if c=b then Ay (V b) x u else V c) y)
  by_cases e:c=b
  .subst e;rw[if_pos rfl];by_cases e2:y=x
   .subst e2;rw[if_pos ⟨rfl,rfl⟩,Ab];exact CC.mx hu aA
   .rw[if_neg (fun e3=>e2 e3.2),Ac _ _ e2];exact(h.rep c y hc hy).mx aA
  .rw[if_neg (fun e3=>e e3.1),if_neg e];exact(h.rep c y hc hy).mx aA
 .obtain⟨vals,h1,h2⟩:=h.gro c hc;exact⟨vals,Ae h1 (fun e=>(h.gvm c _ hc e).2.2 b hb rfl) u,fun i f v a d=>(h2 i f v a d).mx aA⟩
theorem za8{P:Prop}(h:P:=by
 have:=h.lo B h1;exact⟨this.1,by omega⟩):P:=h
theorem SG.addGen(h:SG w base n tb rb gb rr gv V mb t){b:Nat}{p:Nat->Nat}{u:Value}(hb:b<n)(hu:CC w mb n u p){w':World}{v':Value}{vals:List Value}(hv:∀(i:Nat) (f:Nat->Nat) (u:Value),(t.g b)[i]?=some f->vals[i]?=some u->CC w mb n u f)
  (ha:Bz w w' base 22 1 (gv b) v' (t.g b).length vals [u]):
  ∃aH,SG (w'.setCell (gb,b) v') base n tb rb gb rr (Ay gv b v') V aH (SF t b p)/\Mx mb aH w (w'.setCell (gb,b) v'):=by
 obtain⟨o,hg⟩:=ha.gr;have hgs:=ha.grow;have aO:∀B,v'.ownBlock=some B->B∈mb∨w.heap.size<B:=fun B e=>by
  rcases ha.at_ with h1|h1
  .rw[h1]at e;exact .inl (h.gvm b B hb e).1
  .rw[h1]at e;injection e with e;right;omega
 have aF:∀i,i<w.heap.size->some i≠(gv b).ownBlock->w'.heap[i]?=w.heap[i]?:=fun i hi aE=>by
  have h1:=hg.block i aq aE;rw[h1];exact((Ex.refl w).alloc o).block i hi
 have aJ:(w'.setCell (gb,b) v').heap.size=w'.heap.size:=cd;have aM:=ha.own.lt;have aD:w'.os=w.os/\w'.tape=w.tape/\w'.output=w.output:=⟨hg.os.trans rfl,hg.tape.trans rfl,hg.output.trans rfl⟩;have aB:Mx mb (v'.ownBlock.toList++mb) w (w'.setCell (gb,b) v'):=by
  refine⟨aD.1,aD.2.1,aD.2.2,by rw[aJ];omega,fun i hi hn=>?_,fun B hB=>?_⟩
  .rw[Below.heap_setCell _ _ _ _ (fun e=>hn (by have e:i=gb:=e;rw[e];exact h.gm)),aF i hi (fun e=>hn (h.gvm b i hb e.symm).1)]
  .rcases γj.1 hB with h1|h1
   .rcases aO B dd with h2|h2
    .exact .inl h2
    .exact .inr ac
   .exact .inl h1
 have aC:∀ {e:TypeId} {size:Nat} {v:Value} {m:Nat} {xs:List Value},w.ownsRow base e size v m xs->AD v (gv b)->v.ownBlock≠some gb->(w'.setCell (gb,b) v').ownsRow base e size v m xs:=fun k hk aE=>
  Ae (ha.row k hk).1 (by exact aE) _
 have aA:∀B,(gv b).ownBlock=some B->B≠gb/\∀c,c<n->B≠rr c:=fun B e=>(h.gvm b B hb e).2;have aL:∀g,(∀B,(gv b).ownBlock=some B->B≠g)->∀(m cap:Nat),AD (.slice (some ⟨g,0,none⟩) m cap) (gv b):=fun g hh m cap=>by
  right;intro e;exact hh g e.symm rfl
 refine⟨v'.ownBlock.toList++mb,⟨aB.cell h.c0 h.tm,aB.cell h.c1 h.tm,aB.cell h.c2 h.tm,fun hc=>?_,fun c hc=>aB.cell (h.ro c hc) h.rm,fun hc=>?_,fun c hc=>?_,fun c y hc hy=>(h.rep c y hc hy).mx aB,?_,fun c hc=>?_,Ϝ _ h.gm,fun c hc=>Ϝ _ (h.rrm c hc),fun c B hc e=>?_,h.grr,h.rri,fun c d B hc hd e1 e2=>?_,fun B hB=>?_⟩,aB⟩
 .rcases aB.mb tb hc with h1|h1
  .exact h.tm h1
  .have:=η _ _ h.c0;dsimp only at this;omega
 .rcases aB.mb rb hc with h1|h1
  .exact h.rm h1
  .have:=η _ _ (h.ro b hb);dsimp only at this;omega
 .exact aC (h.row c hc) (aL (rr c) (fun B e=>(aA B e).2 c hc) n n) (fun e=>h.grr c hc (by injection e with e;exact e.symm))
 .have h1:=(ha.row h.go (aL gb (fun B e=>(aA B e).1) n n)).1;have h2:AJ w' base 37 gb n gv:=h1;exact h2.set b v'
 .by_cases e:c=b
  .subst e;refine⟨vals ++ [u],?_,fun i f v h1 h2=>?_⟩
   .rw[Ab];show νq _ base 22 1 v' (if c=c then t.g c ++ [p] else t.g c).length (vals ++ [u])
    rw[if_pos rfl,ν];refine Ae ha.own (fun e=>?_) _;rcases ha.at_ with h3|h3
    .rw[h3]at e;exact(aA _ e).1 rfl
    .rw[h3]at e;injection e with e;have:=h.go.lt.2;dsimp only at e;omega
   .have h1:(if c=c then t.g c ++ [p] else t.g c)[i]?=some f:=h1;rw[if_pos rfl]at h1;have hn:vals.length=(t.g c).length:=by have:=ha.old.1;omega
    by_cases hi:i<(t.g c).length
    .rw[ο hi]at h1;rw[ο ac]at h2;exact(hv i f v h1 h2).mx aB
    .have aN:i=(t.g c).length:=by
      have:=(List.getElem?_eq_some_iff.1 h1).1;rw[ν]at this;simp at this;omega
     subst aN;rw[τ ac]at h1;rw[τ ac,hn]at h2;simp at h1 h2;subst h1 h2;exact hu.mx aB
  .obtain⟨aG,h1,h2⟩:=h.gro c hc;refine⟨aG,?_,fun i f v h3 h4=>?_⟩
   .rw[Ac _ _ e];show νq _ base 22 1 (gv c) (if c=b then t.g c ++ [p] else t.g c).length aG
    rw[if_neg e];refine aC h1 ?_ (fun e2=>(h.gvm c _ hc e2).2.1 rfl);unfold AD
    cases e2:(gv c).ownBlock with
    | none=>exact .inl rfl
    | some B=>right;intro e3;exact e (h.gvi c b B hc hb e2 e3.symm)
   .have h3:(if c=b then t.g c ++ [p] else t.g c)[i]?=some f:=h3;rw[if_neg e]at h3;exact(h2 i f v h3 h4).mx aB
 .by_cases e3:c=b
  .subst e3;rw[Ab]at e;refine⟨List.mem_append_left _ (by rw[e];simp),?_⟩;rcases ha.at_ with h1|h1
   .rw[h1]at e;exact aA B e
   .rw[h1]at e;injection e with e;subst e;have:=h.go.lt.2;exact⟨ac,fun d hd=>by have:=(h.row d hd).lt.2;omega⟩
  .rw[Ac _ _ e3]at e;have:=h.gvm c B hc e;exact⟨Ϝ _ this.1,this.2⟩
 .have aI:∀ {c d B},c=b->d≠b->d<n->v'.ownBlock=some B->(gv d).ownBlock=some B->False:=fun {c d B} e hd aK k1 k2=>by
   rcases ha.at_ with h1|h1
   .rw[h1]at k1;exact hd (h.gvi d b B aK hb k2 k1)
   .rw[h1]at k1;injection k1 with k1;have:=(h.lo B (h.gvm d B aK k2).1).2;omega
  by_cases ec:c=b <;> by_cases ed:d=b
  .rw[ec,ed]
  .rw[ec,Ab]at e1;rw[Ac _ _ ed]at e2;exact(aI (c:=c) ec ed hd e1 e2).elim
  .rw[Ac _ _ ec]at e1;rw[ed,Ab]at e2;exact(aI (c:=d) ed ec hc e2 e1).elim
  .rw[Ac _ _ ec]at e1;rw[Ac _ _ ed]at e2;exact h.gvi c d B hc hd e1 e2
 .rw[aJ];rcases γj.1 hB with h1|h1
  .exact aM B dd
  .exact za8
end
theorem SY(w:World)(n:Nat)(c:Nat->Value)(v:Value)(hv:Sl w v n 1 (vs n c))(hn:1<=n)(hn2:n<=1000)(h1:∀j,j<n->(c j).oneCell'=true):
  Calls Tryz.prog 209 #[v] w fun r w'=>∃g cap,r= .returned (.slice (some ⟨g,0,none⟩) n cap)/\Bb w' w.heap.size 22 g n cap c/\Ex w w':=by
 have HV:=Aa hv;obtain⟨_,a,cap,rfl,s1,s2,s3⟩:=hv;obtain⟨b,o,rfl,_⟩:=s3 ac;have aC:=fun w'=>AS (P:=Tryz.prog) w' 37 22 (some ⟨b,o,none⟩) n cap Tryz.underlying37;simp only[Option.isNone]at aC;have aG:Hia (∀u∈vs n c,u.oneCell'=true):=Aa (by
  intro u hu;unfold vs at hu;obtain⟨j,hj,rfl⟩:=ψ.1 hu;exact h1 j (List.mem_range.1 hj))
 clear s3 h1;go_enter Tryz.func209,Tryz.ntmps209
 go_wp2_with (at_builtin;refine A6 _ rfl _ _ 37 rfl w.heap.size 22 (.slice none 0 0) 1 24 Tryz.underlying37 BZ rfl ae _ 0 [] rfl (Bm w 22) (.slice (some (b,o)) n cap) n (vs n c) rfl (HV.o.ex ((Ex.refl w).alloc _)) aG.o ai ac ag ?_)
 intro v1 w1 aA aE aF;have aD:Ex w w1:=Ex.grown ((Ex.refl w).alloc _) (Bm w 22) (ζ _) aE
 try simp only[List.nil_append,ύ]at aA
 obtain⟨g,c2,rfl,aB⟩:=J7 aA hn;have HO:=Aa aB;have HX:=Aa aD;clear aB aA aE aF aD aC
 try simp only[ύ]
 go_wp2_with fail
 go_ret;exact⟨g,c2,rfl,HO.o,HX.o⟩
theorem UD(w:World){base n tb rb gb:Nat}{rr:Nat->Nat}{gv:Nat->Value}{V:Nat->Nat->Value}{mb:List Nat}{t:Tw}(hm:SG w base n tb rb gb rr gv V mb t)(hG:Db n t)(hn1:1<=n)(hn:n<=64)
  (u:Value) (f:Nat->Nat) (b:Nat) (hb:b<=n) (hu:Ak w u (li n f)) (hP:Bo n f):
  Calls Tryz.prog 208 #[(tb,0),u,b] w fun r w'=>∃v,r= .returned (.tuple #[v,((DR n t.R (n-b) b f).2:Int)])/\Ex w w':=by
 obtain⟨HM,HG,HU,HP⟩:=Of hm hG hu hP;obtain⟨ua,uc,rfl,_,_,_⟩:=Fd hu;obtain⟨E,hE⟩:=nA (DR n t.R (n-b) b f);have HE:=Aa hE;rw[hE];have aL:∀(a:Option Addr) (m cap:Nat) w',(binOp .eql 22 (.slice a m cap) (.slice none 0 0)).run Tryz.prog w'= .ok (.bool a.isNone) w':=fun a m cap w'=>AS (P:=Tryz.prog) w' 22 3 a m cap Tryz.underlying22;have aD:=Aa aL;clear hm hG hu hP hE aL;go_enter Tryz.func208,Tryz.ntmps208
 go_wp2_with fail
 go_loopw [1,2] (fun p' b' wr=>∃(c:Nat) (h:Nat->Nat) (a:Option Addr) (cap:Nat),c<=n/\b'= .int .i64 c/\p'= .slice a n cap/\Hia (Ak wr (.slice a n cap) (li n h))/\Hia (Bo n h)/\Hia (DR n t.R (n-c) c h=E)/\Hia (Ex w wr)) (fun _ b' _=>n-(intOf b').toNat)
 case atStart=>exact⟨b,f,ua,uc,hb,rfl,rfl,HU,HP,HE,Aa (Ex.refl _)⟩
 case round=>
  clear HU HP HE;obtain⟨c,h,a,cap,hc,rfl,rfl,hu,hp,he,hx⟩:=hrel;have c0:=hx.o.cell HM.o.c0;have c1:=hx.o.cell HM.o.c1;by_cases hcn:c<n
  .obtain⟨pb,po,rfl,_,aH⟩:=Ft hu.o ac;have aK:=hp.o.lt c hcn;have d1:=aH c hcn;have d2:=hx.o.cell (HM.o.ro c hcn);have d3:=hx.o.cell ((HM.o.row c hcn).cell aK);have aA:=HM.o.rep c (h c) hcn aK;have i1:(0:Int)<=(c:Int):=by omega
   have i2:(c:Int)<(n:Int):=ac;have i3:(0:Int)<=(h c:Int):=ac;have i4:(h c:Int)<(n:Int):=ac
   cases hR:t.R c (h c) with
   | none=>
    rw[hR]at aA;have aA:V c (h c)= .slice none 0 0:=aA;rw[aA]at d3;have aE:Hia (E=(h,c)):=Aa (by
     rw[<-he.o,show n-c=n-c-1+1 by omega];unfold DR;rw[hR])
    have aC:=aD.o none 0 0;simp only[Option.isNone]at aC;clear aH aA hR he hp;go_wp2_with fail
    go_quiet (fail)
    go_wp2_with fail
    go_ret2;refine⟨.slice (some (pb,po)) n cap,?_,hx.o.drewN _⟩;rw[aE.o];rfl
   | some r=>
    rw[hR]at aA;have aA:CC w mb n (V c (h c)) r:=aA;obtain⟨_,_,aG,aQ,aP⟩:=HG.o.rep _ _ _ hR;obtain⟨vb,vo,vc,hV,_,_,_,_⟩:=(aA.ex hx.o).at_;have aO:=Aa (aA.ex hx.o).sl;rw[hV]at d3 aO;have aE:Hia (DR n t.R (n-(c+1)) (c+1) (Ap h (A8 n r))=E):=Aa (by
     rw[<-he.o,show n-c=n-(c+1)+1 by omega]
     conv=>rhs;unfold DR
     rw[hR])
    have aC:=aD.o (some ⟨vb,vo,none⟩) n vc;simp only[Option.isNone]at aC;have aU:=Aa aG;have aS:=Aa (hp.o.comp aG.inv);have aV:=Aa (fun w1 (aF:Ex wr w1)=>JM w1 n r _ (aO.o.ex aF) ac aU.o);have aT:=Aa (fun w1 (aF:Ex wr w1) z hz=>Gj w1 n h (A8 n r) _ z (hu.o.ex aF) hz ac hp.o.lt);clear aH aA hR he aG aQ aP hV;go_wp2_with fail
    go_quiet (fail)
    have aM:=Aa ((Ex.refl wr).drewN nq);go_wp2_with (first|(go_at_call 109;refine(aV.o _ aM.o).mono ?_;rintro e w2⟨g2,rfl,aB,aJ⟩;have aX:=Aa aB.li;have aN:=Aa (aM.o.trans aJ);clear aB aJ)|(go_at_call 108;refine(aT.o _ aN.o _ aX.o).mono ?_;rintro e w3⟨g3,rfl,aB,aI⟩;have aW:=Aa aB.li;have aR:=Aa (hx.o.trans (aN.o.trans aI));clear aB aI))
    go_roundw
    case rel=>exact⟨c+1,Ap h (A8 n r),some ⟨g3,0,none⟩,n,ac,by go_num,rfl,aW,aS,aE,aR⟩
    case measure=>exact Ωm
  .obtain rfl:c=n:=by omega
   have aE:Hia (E.2=c):=Aa (by
    rw[<-he.o,Nat.sub_self];rfl)
   clear he hp;go_wp2_with fail
   go_quiet (fail)
   go_wp2_with fail
   go_ret2;refine⟨.slice a c cap,?_,hx.o.drewN _⟩;rw[aE.o];rfl
theorem Xn:(Tryz.prog.info? 71).map (fun i=>(i.zero,i.size,i.bytes))=some (some (.agg #[(),()]),2,48):=ah
structure SL(w1 wr:World)(v:Value)(xs:List (List Int × List Int))(cs:List (Value × Value)):Prop where
 ex:Ex w1 wr
 len:cs.length=xs.length
 own:wr.ownsRow w1.heap.size 71 2 v xs.length (cs.flatMap fun c=> [c.1,c.2])
 at_:∀(i:Nat) (x:List Int × List Int) (c:Value × Value),xs[i]?=some x->cs[i]?=some c->(wr.ownsRow w1.heap.size 3 1 c.1 x.1.length (Aj x.1)/\AD c.1 v)/\(wr.ownsRow w1.heap.size 3 1 c.2 x.2.length (Aj x.2)/\AD c.2 v)
section
variable {w1 wr w':World} {v v' u1 u2:Value} {xs:List (List Int × List Int)} {cs:List (Value × Value)} {t s:List Int}
theorem SL.nil(h:Ex w1 wr):SL w1 wr (.slice none 0 0) [] []:=⟨h,rfl,World.ownsRow_nil _ _ _ _,fun i x c h=>by simp at h⟩
theorem SL.later(h:SL w1 wr v xs cs)(hx:Ex wr w'):SL w1 w' v xs cs:=
 ⟨h.ex.trans hx,h.len,Ag h.own hx,fun i x c a b=>⟨⟨Ag (h.at_ i x c a b).1.1 hx,(h.at_ i x c a b).1.2⟩,⟨Ag (h.at_ i x c a b).2.1 hx,(h.at_ i x c a b).2.2⟩⟩⟩
theorem SL.app(h:SL w1 wr v xs cs)(hg:wr.grownBy w' v.ownBlock)(hx:Ex w1 w')(hb:w1.heap.size<=wr.heap.size)(hv:w'.ownsRow w1.heap.size 71 2 v' (xs.length+1) ((cs.flatMap fun c=> [c.1,c.2]) ++ [u1,u2]))
  (o1:w'.ownsRow wr.heap.size 3 1 u1 t.length (Aj t)) (o2:w'.ownsRow wr.heap.size 3 1 u2 s.length (Aj s)) (a1:AD u1 v') (a2:AD u2 v') (aC:v'.ownBlock=v.ownBlock∨∀B,v'.ownBlock=some B->wr.heap.size<=B):SL w1 w' v' (xs ++ [(t,s)]) (cs ++ [(u1,u2)]):=by
 have aA:∀ {e:TypeId} {n:Nat} {c:Value} {ys:List Value},wr.ownsRow w1.heap.size e 1 c n ys->AD c v->AD c v':=fun {e n c ys} ho ha=>by
  rcases aC with h1|h1
  .unfold AD at *;rcases ha with ha|ha
   .exact .inl ha
   .right;rw[h1];exact ha
  .exact(BO h1 fun B hB=>(ho.lt B hB).2).symm
 refine⟨hx,by simp[h.len],?_,fun i x c a b=>?_⟩
 .rw[δf,ν];exact hv
 .by_cases hi:i<xs.length
  .rw[ο hi]at a;rw[ο ba]at b;obtain⟨⟨p1,p2⟩,⟨p3,p4⟩⟩:=h.at_ i x c a b;exact⟨⟨p1.kept hg p2,aA p1 p2⟩,⟨p3.kept hg p4,aA p3 p4⟩⟩
  .have aB:i=xs.length:=by
    exact zc8
   subst aB;rw[τ (ζ _)]at a;rw[τ dn,h.len]at b;simp at a b;subst a b;exact⟨⟨Cx o1 hb,a1⟩,⟨Cx o2 hb,a2⟩⟩
end
theorem QH(q:Nat)(tl sl:List Int)(j:Nat):Gx q tl sl (j+1)=Gx q tl sl j++VL q tl sl j:=by
 unfold Gx;rw[γg,δf];simp
def VM(tl sl:List Int)(j c:Nat):List (List Int × List Int):=(List.range c).map fun c=>(tl ++ [(j:Int)],sl ++ [((c+1:Nat):Int)])
theorem XL(tl sl:List Int)(j c:Nat):VM tl sl j (c+1)=VM tl sl j c ++ [(tl ++ [(j:Int)],sl ++ [((c+1:Nat):Int)])]:=by
 unfold VM;rw[γg,List.map_append];rfl
theorem exA_len(tl sl:List Int)(j c:Nat):(VM tl sl j c).length=c:=by unfold VM;simp
theorem Lx{q:Nat}(tl sl:List Int)(hq:q<=256):∀n,(Gx q tl sl n).length<=n*256
 | 0=>by unfold Gx;simp
 | n+1=>by
  rw[QH,ν];have:=Lx tl sl hq n;have:(VL q tl sl n).length<=256:=by
   unfold VL;split
   .simp
   .simp;omega
  omega
theorem WF(w:World)(u v:Value)(e:TypeId):(w.alloc (.cells #[u,v] e)).ownsRow w.heap.size e 2 (.slice (some (w.heap.size,0)) 1 1) 1 [u,v]:=
 World.ownsRow_lit w #[u,v] 1 (ζ _) ai rfl
theorem Tk{w:World}{base:Nat}{v:Value}{l:List Int}{x:Int}(h:w.ownsRow base 3 1 v (l.length+1) (Aj l ++ [Value.int .i64 x])):w.ownsRow base 3 1 v (l ++ [x]).length (Aj (l ++ [x])):=by
 have e:Aj l ++ [Value.int .i64 x]=Aj (l ++ [x]):=by unfold Aj;simp
 rw[<-e,ν];exact h
theorem Pw{tl:List Int}{i:Nat}{x:Int}(h:tl[i]?=some x)(j:Int):((tl.take (i+1)).contains j)=((tl.take i).contains j||x==j):=by
 rw[Bool.eq_iff_iff,List.take_add_one,h,Bool.or_eq_true,γv,γv,beq_iff_eq,γj,Option.toList_some,List.mem_singleton];exact⟨fun h=>h.imp id Eq.symm,fun h=>h.imp id Eq.symm⟩
theorem zdn{P:Prop}(h:P:=by
 clear H;go_simp;exact hK _ (Ex.refl w')):P:=h
theorem zao{P:Prop}(h:P:=by
 refine DK.val rfl (by decide) (by decide) rfl fun L V a w' H=>?_;refine⟨fun d hd=>(by cases hd),fun Kc hK=>?_⟩;have e5:a.tmps[5]?=some (.pointer (some (B+1,0))):=H.hout 5 (by kernel_rfl);exact zdn):P:=h
theorem zax{P:Prop}(h:P:=by
 refine DK.new rfl (by decide) (by decide) fun L V a w' H=>?_;refine⟨fun d hd=>(by cases hd),fun Kc hK=>?_⟩;clear H;go_simp;exact hK _ _ (AF w' _) (Bm w' _)):P:=h
theorem zbF{P:Prop}(h:P:=by
 go_wp2_with fail
 go_roundw
 case rel=>exact⟨i+1,by omega,by go_num,by rw[aT.o];rfl,by first|rfl|trivial⟩
 case measure=>exact Ωm):P:=h
theorem zca{P:Prop}(h:P:=by
 intro v' w2 hown hg aC;exact hK _ _ (by rw[Nat.zero_add,List.nil_append]at hown;exact hown) hg aC):P:=h
theorem dh{P:Prop}(h:P:=by simp at hd;rcases hd with rfl|rfl <;> assumption):P:=h
theorem dk{P:Prop}(h:P:=by cases hd):P:=h
theorem ee{P:Prop}(h:P:=by intro t s n ys h;cases h):P:=h
theorem UR{p m n:Nat}{ml:List Int}(w:World)(hf:Gg p m ml)(hn:n<=64)(m1:Value)(bI:Ak w m1 ml)(tl sl:List Int)(tv sv:Value)(ht:Ak w tv tl)(hs:Ak w sv sl)(bG:sl.length=tl.length)(cF:tl.length<=n):
  Calls Tryz.prog 89 #[.agg #[p,m,m1],n,.agg #[tv,sv]] w fun r w'=>∃xv cs w2,r= .returned xv/\SL w2 w' xv (Gx (p^m) tl sl n) cs/\Ex w w2/\Ex w w':=by
 obtain⟨a0,a1,a2,ea,bV⟩:=AA w p m m1;obtain⟨b0,b1,eb,bU⟩:=AQ (w.alloc (.cells #[p,m,m1] 24)) tv sv;rw[bV]at b0 b1 bU;replace a0:=eb.cell a0;replace a1:=eb.cell a1;replace a2:=eb.cell a2;have HX:=Aa (ea.trans eb);have Dy:=Dp (p:Int) (m:Int) m1;rw[KZ hf]at Dy;have aW:=hf.q;have bH:2<=p^m:=μ hf.p2 (δm (by have:=hf.m1;omega) p);obtain⟨q,hq⟩:=nA (p^m);rw[hq]at Dy aW bH ⊢;obtain⟨bA,HT,HS,dE⟩:=Of Dy ht hs (Lx (q:=q) tl sl aW);obtain⟨x3,y3,rfl,-,z3,-⟩:=bI.open;obtain⟨ta,tc,rfl,-,t2,t3⟩:=ht.open;obtain⟨sa,sc,rfl,-,s2,s3⟩:=hs.open;unfold maxLen at t2 s2 z3;have T3:=Aa t3;obtain⟨B,hB⟩:=nA w.heap.size;rw[hB]at a0 a1 a2 b0 b1;obtain⟨dC,bY,aK,HQ,bZ⟩:=On bG cF hn aW bH;clear hf bI ht hs ea eb bV hq Dy t3 s3 bU bG;go_enter Tryz.func89,Tryz.ntmps89
 go_upto_region 1 with fail
 try simp only[hB]
 clear hB;generalize (w.alloc (.cells #[p,m,(x3,ml.length,y3)] 24)).alloc (.cells #[(ta,tl.length,tc),(sa,sl.length,sc)] 71)=w1 at *;have aD:=Aa (fun w' (h:Ex w1 w')=>(⟨h.cell a0,h.cell a1,h.cell a2,h.cell b0,h.cell b1⟩:w'.cell? (B,0)=some (.int .i64 (p:Int))/\w'.cell? (B,1)=some (.int .i64 (m:Int))/\w'.cell? (B,2)=some (.slice x3 ml.length y3)/\w'.cell? (B+1,0)=some (.slice ta tl.length tc)/\w'.cell? (B+1,1)=some (.slice sa sl.length sc)));have dB:=Aa (fun w' (h:Ex w1 w') (i:Nat) (hi:i<tl.length)=>(by
  obtain⟨b,o,h1,h2⟩:=T3.o ac;exact⟨b,o,h1,h.cell (HX.o.cell (h2 i _ (AZ hi)))⟩:∃b o,ta=some ⟨b,o,none⟩/\w'.cell? ⟨b,o+i,none⟩=some (.int .i64 (tl.getD i 0))))
 clear a0 a1 a2 b0 b1;have cA:=Aa (SL.nil (Ex.refl w1));go_wp2_with fail
 go_loopw [7,8] (fun v' j' wr=>∃(j:Nat) (cs:List (Value × Value)),j<=n/\j'= .int .i64 j/\Hia (SL w1 wr v' (Gx q tl sl j) cs)) (fun _ j' _=>n-(intOf j').toNat)
 case atStart=>exact⟨0, [],ac,rfl,Aa cA.o⟩
 case round=>
  clear cA;obtain⟨j,cs,hj,rfl,aF⟩:=hrel;obtain⟨pa,pc,cG⟩:=Ad aF.o.own;subst cG;obtain⟨LV,bJ⟩:∃L,(Gx q tl sl j).length=L:=⟨_,rfl⟩;rw[bJ]at aF ⊢;clear bJ;by_cases hjn:j<n
  .have i1:(j:Int)<(n:Int):=by omega
   obtain⟨a0,a1,a2,b0,b1⟩:=aD.o wr aF.o.ex;obtain⟨w8,h8⟩:∃w8,w8=wr:=⟨_,rfl⟩;have bX:=Aa (fun i hi=>dB.o wr aF.o.ex i hi);rw[<-h8]at aF bX a0 a1 a2 b0 b1 ⊢;clear h8;have aU:=Aa hjn;clear hjn;go_wp2_with fail
   go_loopw [9,10] (fun u' i' wr=>∃i:Nat,i<=tl.length/\i'= .int .i64 i/\u'= .bool ((tl.take i).contains (j:Int))/\wr=w8) (fun _ i' _=>tl.length-(intOf i').toNat)
   case atStart=>exact⟨0,ac,rfl,ag,rfl⟩
   case round=>
    obtain⟨i,hi,rfl,rfl,rfl⟩:=hrel;by_cases hit:i<tl.length
    .obtain⟨tb,to_,rfl,hc⟩:=bX.o i hit;obtain⟨x,hx⟩:=nA (tl.getD i 0);rw[hx]at hc;have aT:=Aa (Pw (tl:=tl) (i:=i) (x:=x) (by rw[<-hx];exact AZ hit) (j:Int));obtain⟨U,hU⟩:=nA ((tl.take i).contains (j:Int));rw[hU]at aT ⊢;have k1:(i:Int)<(tl.length:Int):=by omega
     have k2:(0:Int)<=(i:Int):=ac;clear hx hU
     cases U with
     | true=>
      exact zbF
     | false=>
      obtain⟨E,hE⟩:=nA ((x==(j:Int)));rw[hE]at aT;exact zbF
    .obtain rfl:i=tl.length:=by omega
     rw[List.take_length];have aS:=Aa (QH q tl sl j);unfold VL at aS
     cases hU:tl.contains (j:Int) with
     | true=>
      rw[if_pos hU,List.append_nil]at aS;clear hU;have aX:=aF;go_wp2_with fail
      clear a0 a1 a2 b0 b1
      go_loopw [7,11] (fun v2 c' wr=>c'= .int .i64 1/\v2= .slice pa LV pc/\Hia (SL w1 wr (.slice pa LV pc) (Gx q tl sl j) cs)) (fun _ _ _=>0)
      case atStart=>exact⟨rfl,rfl,aX⟩
      case round=>
       obtain⟨rfl,rfl,aI⟩:=hrel;obtain⟨a0,a1,a2,b0,b1⟩:=aD.o wr aI.o.ex;have i5:(1:Int)<(q:Int):=by have:=bZ.o;omega
       go_wp2_with (go_at_call 14;refine(bA.o _).mono ?_;rintro e w5⟨rfl,hx5⟩)
       have aN:=Aa (aI.o.later hx5);clear hx5;go_roundw
       case rel=>exact⟨j+1,cs,by have:=aU.o;omega,by go_num,Aa (by rw[aS.o];exact aN.o)⟩
       case measure=>have:=aU.o;simp[intOf];omega
     | false=>
      rw[if_neg (by rw[hU];decide)]at aS;have aR:Hia (SL w1 wr (.slice pa LV pc) (Gx q tl sl j++VM tl sl j (1-1)) cs):=Aa (by unfold VM;simpa using aF.o);clear hU;go_wp2_with fail
      clear a0 a1 a2 b0 b1
      go_loopw [7,11] (fun v2 c' wr=>∃(c:Nat) (cs:List (Value × Value)),1<=c/\c<=q/\c'= .int .i64 c/\Hia (SL w1 wr v2 (Gx q tl sl j++VM tl sl j (c-1)) cs)) (fun _ c' _=>q-(intOf c').toNat)
      case atStart=>exact⟨1,cs,ac,by have:=bZ.o;omega,rfl,aR⟩
      case round=>
       clear aR;obtain⟨c,bT,hc1,hcq,rfl,aI⟩:=hrel;obtain⟨a0,a1,a2,b0,b1⟩:=aD.o wr aI.o.ex;by_cases hcl:c<q
       .have i5:(c:Int)<(q:Int):=by omega
        go_wp2_with (go_at_call 14;refine(bA.o _).mono ?_;rintro e w5⟨rfl,hx5⟩)
        go_upto_region 13 with fail
        have aL:=aI.o.later hx5;clear hx5 aI a0 a1 a2 b0 b1;have cB:Hia (Gx q tl sl j++VM tl sl j (c-1) ++ [(tl ++ [(j:Int)],sl ++ [(c:Int)])]=Gx q tl sl j++VM tl sl j (c+1-1)):=Aa (by
         have:=XL tl sl j (c-1);rw[show c-1+1=c from ac]at this;rw[show c+1-1=c from ac,this,List.append_assoc])
        obtain⟨XS,aY⟩:∃X,Gx q tl sl j++VM tl sl j (c-1)=X:=⟨_,rfl⟩;have bW:Hia (XS.length<=20000):=Aa (by
         rw[<-aY,ν,exA_len];have h1:=dE.o j;have h2:=aK.o;have h3:=HQ.o;omega)
        rw[aY]at aL cB;obtain⟨va,vc,rfl⟩:=Ad aL.own;have aN:=Aa aL;have aM:=Aa aL.ex.size;have aJ:=Aa (show tl.length<=64/\sl.length<=64 from⟨by have:=bY.o;have:=aK.o;omega,by have:=bY.o;have:=aK.o;have:=dC.o;omega⟩);obtain⟨VS,aZ⟩:∃X,(bT.flatMap fun c=> [c.1,c.2])=X:=⟨_,rfl⟩;have dA:=Aa aZ;have dD:Hia (w5.ownsRow w1.heap.size 71 2 (.slice va XS.length vc) XS.length VS):=Aa (by rw[<-aZ];exact aL.own);clear aL aY aZ;refine NK (w0:=w1) (fun k=>([⟨.val fun l=> .slice va XS.length vc, [],19⟩,⟨.new 3 1 (0) fun l=> [], [],4⟩,⟨.val fun l=> .pointer (some (B+1,0)), [],19⟩,⟨.val fun l=> .slice ta tl.length tc, [],19⟩,⟨.app (some 1) 3 1 (tl.length) fun l=>Aj tl, [],7⟩,⟨.val fun l=> .int .i64 (j:Int), [],19⟩,⟨.new 3 1 (1) fun l=> [.int .i64 (j:Int)], [],19⟩,⟨.app (some 4) 3 1 ((tl ++ [(j:Int)]).length) fun l=>Aj (tl ++ [(j:Int)]), [],19⟩,⟨.new 3 1 (0) fun l=> [], [],11⟩,⟨.val fun l=> .pointer (some (B+1,1)), [],19⟩,⟨.val fun l=> .slice sa sl.length sc, [],19⟩,⟨.app (some 8) 3 1 (sl.length) fun l=>Aj sl, [],14⟩,⟨.val fun l=> .int .i64 (c:Int), [],19⟩,⟨.new 3 1 (1) fun l=> [.int .i64 (c:Int)], [],19⟩,⟨.app (some 11) 3 1 ((sl ++ [(c:Int)]).length) fun l=>Aj (sl ++ [(c:Int)]), [],19⟩,⟨.val fun l=> .agg #[l.getD 0 undef,l.getD 1 undef], [7,14],19⟩,⟨.new 71 2 (1) fun l=> [l.getD 0 undef,l.getD 1 undef], [7,14],19⟩,⟨.app none 71 2 (XS.length+1) fun l=>VS ++ [l.getD 0 undef,l.getD 1 undef], [7,14],19⟩,⟨.val fun l=>l.getD 0 undef, [17],19⟩]:List Fg).getD k ⟨.val fun _=>undef, [],19⟩) 19 17 w1.heap.size ((.slice va XS.length vc)) 71 2 (XS.length) (VS) ah ah ae aN.o.ex dD.o ?_ ?_
        .simp only[AH];refine⟨?_,?_,?_,?_,?_,?_,?_,?_,?_,?_,?_,?_,?_,?_,?_,?_,?_,?_,?_,trivial⟩
         .refine DK.val rfl ae ae rfl fun L V a w' H=>?_;refine⟨fun d hd=>dk,fun Kc hK=>?_⟩;have hL:L 18=false:=Ax fun h=>by
           have cH:=H.hcl 18 _ h rfl ⟨17,.data⟩ ag rfl;have h0:=H.hcl 17 _ cH rfl ⟨0,.data⟩ ag rfl;exact absurd (H.hi.symm.trans h0) ae
          have e7:a.tmps[7]?=some (.slice va XS.length vc):=H.hold 7 18 ah hL;exact zdn
         .exact zax
         .exact zao
         .refine DK.val rfl ae ae rfl fun L V a w' H=>?_;refine⟨fun d hd=>dk,fun Kc hK=>?_⟩;have d2:L 2=true:=H.hd ⟨2,.data⟩ ag rfl;have cU:=H.hin 2 46 _ d2 rfl rfl;have s2:V 2= .pointer (some (B+1,0)):=H.hj.says 2 d2 (Ax fun h=>absurd (H.hj.lt _ h) (γe _));rw[s2]at cU;have c3:=(aD.o w' H.hj.ex).2.2.2.1;exact zdn
         .refine DK.app rfl ae ae rfl rfl (ζ _) aM.o (fun L V a w' H=>?_) ee;have dc:L 1=true:=H.hd ⟨1,.data⟩ ag rfl;refine⟨dc,fun d hd=>dk,fun Kc aE aA hK=>?_⟩;have d1:L 1=true:=H.hd ⟨1,.data⟩ ag rfl;have cV:=H.hin 1 45 _ d1 rfl rfl;have d3:L 3=true:=H.hd ⟨3,.data⟩ ag rfl;have bM:=H.hin 3 47 _ d3 rfl rfl;have s3:V 3= .slice ta tl.length tc:=H.hj.says 3 d3 (Ax fun h=>absurd (H.hj.lt _ h) (γe _));rw[s3]at bM;have E1:=A9 cV;have E2:=A9 bM;have own:w'.ownsRow w5.heap.size 3 1 (V 1) (0) ([]):=aA;have aG:Sl w' (.slice ta tl.length tc) (tl.length) 1 (Aj tl):=HT.o.ex (HX.o.trans H.hj.ex);refine BH _ _ 22 rfl w5.heap.size 3 (.int .i64 0) 1 8 Tryz.underlying22 Az rfl ae (V 1) (0) ([]) E1 own (.slice ta tl.length tc) (tl.length) (Aj tl) E2 aG (by intro u hu;unfold Aj at hu;rw[ψ]at hu;obtain⟨z,-,rfl⟩:=hu;rfl) (by have:=aJ.o.1;unfold maxLen;omega) (by have:=aJ.o.1;omega) aE ?_;exact zca
         .refine DK.val rfl ae ae rfl fun L V a w' H=>?_;refine⟨fun d hd=>dk,fun Kc hK=>?_⟩;have e8:a.tmps[8]?=some (.int .i64 (j:Int)):=H.hout 8 ah;exact zdn
         .refine DK.new rfl ae ae fun L V a w' H=>?_;refine⟨fun d hd=>dk,fun Kc hK=>?_⟩;have d5:L 5=true:=H.hd ⟨5,.data⟩ ag rfl;have cS:=H.hin 5 49 _ d5 rfl rfl;have s5:V 5= .int .i64 (j:Int):=H.hj.says 5 d5 (Ax fun h=>absurd (H.hj.lt _ h) (γe _));rw[s5]at cS;clear H;go_simp;exact hK _ _ (AF w' _) (Ee w' _ _)
         .refine DK.app rfl ae ae rfl rfl (ζ _) aM.o (fun L V a w' H=>?_) ee;have dc:L 4=true:=H.hd ⟨4,.data⟩ ag rfl;refine⟨dc,fun d hd=>dk,fun Kc aE aA hK=>?_⟩;have d4:L 4=true:=H.hd ⟨4,.data⟩ ag rfl;have cT:=H.hin 4 48 _ d4 rfl rfl;have d6:L 6=true:=H.hd ⟨6,.data⟩ ag rfl;have cR:=H.hin 6 50 _ d6 rfl rfl;have E1:=A9 cT;have E2:=A9 cR;have own:w'.ownsRow w5.heap.size 3 1 (V 4) (tl.length) (Aj tl):=aA;have aG:Sl w' (V 6) (1) 1 ([.int .i64 (j:Int)]):=Sl.own (H.hj.says 6 d6 (Ax fun h=>absurd (H.hj.lt _ h) (γe _)));refine BH _ _ 22 rfl w5.heap.size 3 (.int .i64 0) 1 8 Tryz.underlying22 Az rfl ae (V 4) (tl.length) (Aj tl) E1 own (V 6) (1) ([.int .i64 (j:Int)]) E2 aG aj (by have:=aJ.o.1;unfold maxLen;omega) (by have:=aJ.o.1;omega) aE ?_;intro v' w2 hown hg aC;exact hK _ _ (Tk hown) hg aC
         .exact zax
         .exact zao
         .refine DK.val rfl ae ae rfl fun L V a w' H=>?_;refine⟨fun d hd=>dk,fun Kc hK=>?_⟩;have d9:L 9=true:=H.hd ⟨9,.data⟩ ag rfl;have cO:=H.hin 9 53 _ d9 rfl rfl;have s9:V 9= .pointer (some (B+1,1)):=H.hj.says 9 d9 (Ax fun h=>absurd (H.hj.lt _ h) (γe _));rw[s9]at cO;have c3:=(aD.o w' H.hj.ex).2.2.2.2;exact zdn
         .refine DK.app rfl ae ae rfl rfl (ζ _) aM.o (fun L V a w' H=>?_) ee;have dc:L 8=true:=H.hd ⟨8,.data⟩ ag rfl;refine⟨dc,fun d hd=>dk,fun Kc aE aA hK=>?_⟩;have d8:L 8=true:=H.hd ⟨8,.data⟩ ag rfl;have cP:=H.hin 8 52 _ d8 rfl rfl;have bS:L 10=true:=H.hd ⟨10,.data⟩ ag rfl;have bL:=H.hin 10 54 _ bS rfl rfl;have cE:V 10= .slice sa sl.length sc:=H.hj.says 10 bS (Ax fun h=>absurd (H.hj.lt _ h) (γe _));rw[cE]at bL;have E1:=A9 cP;have E2:=A9 bL;have own:w'.ownsRow w5.heap.size 3 1 (V 8) (0) ([]):=aA;have aG:Sl w' (.slice sa sl.length sc) (sl.length) 1 (Aj sl):=HS.o.ex (HX.o.trans H.hj.ex);refine BH _ _ 22 rfl w5.heap.size 3 (.int .i64 0) 1 8 Tryz.underlying22 Az rfl ae (V 8) (0) ([]) E1 own (.slice sa sl.length sc) (sl.length) (Aj sl) E2 aG (by intro u hu;unfold Aj at hu;rw[ψ]at hu;obtain⟨z,-,rfl⟩:=hu;rfl) (by have:=aJ.o.2;unfold maxLen;omega) (by have:=aJ.o.2;omega) aE ?_;exact zca
         .refine DK.val rfl ae ae rfl fun L V a w' H=>?_;refine⟨fun d hd=>dk,fun Kc hK=>?_⟩;have e11:a.tmps[11]?=some (.int .i64 (c:Int)):=H.hout 11 ah;exact zdn
         .refine DK.new rfl ae ae fun L V a w' H=>?_;refine⟨fun d hd=>dk,fun Kc hK=>?_⟩;have bR:L 12=true:=H.hd ⟨12,.data⟩ ag rfl;have cM:=H.hin 12 56 _ bR rfl rfl;have cD:V 12= .int .i64 (c:Int):=H.hj.says 12 bR (Ax fun h=>absurd (H.hj.lt _ h) (γe _));rw[cD]at cM;clear H;go_simp;exact hK _ _ (AF w' _) (Ee w' _ _)
         .refine DK.app rfl ae ae rfl rfl (ζ _) aM.o (fun L V a w' H=>?_) ee;have dc:L 11=true:=H.hd ⟨11,.data⟩ ag rfl;refine⟨dc,fun d hd=>dk,fun Kc aE aA hK=>?_⟩;have cY:L 11=true:=H.hd ⟨11,.data⟩ ag rfl;have cN:=H.hin 11 55 _ cY rfl rfl;have bQ:L 13=true:=H.hd ⟨13,.data⟩ ag rfl;have cL:=H.hin 13 57 _ bQ rfl rfl;have E1:=A9 cN;have E2:=A9 cL;have own:w'.ownsRow w5.heap.size 3 1 (V 11) (sl.length) (Aj sl):=aA;have aG:Sl w' (V 13) (1) 1 ([.int .i64 (c:Int)]):=Sl.own (H.hj.says 13 bQ (Ax fun h=>absurd (H.hj.lt _ h) (γe _)));refine BH _ _ 22 rfl w5.heap.size 3 (.int .i64 0) 1 8 Tryz.underlying22 Az rfl ae (V 11) (sl.length) (Aj sl) E1 own (V 13) (1) ([.int .i64 (c:Int)]) E2 aG aj (by have:=aJ.o.2;unfold maxLen;omega) (by have:=aJ.o.2;omega) aE ?_;intro v' w2 hown hg aC;exact hK _ _ (Tk hown) hg aC
         .refine DK.val rfl ae ae rfl fun L V a w' H=>?_;have L7:L 7=true:=H.hd ⟨7,.data⟩ ag rfl;have aQ:L 14=true:=H.hd ⟨14,.data⟩ ag rfl;refine⟨fun d hd=>dh,fun Kc hK=>?_⟩;have d7:L 7=true:=H.hd ⟨7,.data⟩ ag rfl;have cQ:=H.hin 7 51 _ d7 rfl rfl;have cX:L 14=true:=H.hd ⟨14,.data⟩ ag rfl;have cK:=H.hin 14 58 _ cX rfl rfl;obtain⟨q7,r7,h7⟩:=Ad (H.hj.says 7 L7 (Ax fun h=>absurd (H.hj.lt _ h) (γe _)));obtain⟨bD,bC,aH⟩:=Ad (H.hj.says 14 aQ (Ax fun h=>absurd (H.hj.lt _ h) (γe _)));rw[show(tl ++ [(j:Int)]).length=tl.length+1 from ag]at h7;rw[show(sl ++ [(c:Int)]).length=sl.length+1 from ag]at aH;replace hK:∀w2,Ex w' w2->Kc (a.put (some 59) (.agg #[V 7,V 14])) w2:=hK;rw[h7]at cQ;rw[aH]at cK;rw[h7,aH]at hK;exact zdn
         .refine DK.new rfl ae ae fun L V a w' H=>?_;have aP:L 15=true:=H.hd ⟨15,.data⟩ ag rfl;have L7:L 7=true:=H.hcl 15 _ aP rfl ⟨7,.data⟩ ag rfl;have aQ:L 14=true:=H.hcl 15 _ aP rfl ⟨14,.data⟩ ag rfl;refine⟨fun d hd=>dh,fun Kc hK=>?_⟩;have bP:L 15=true:=H.hd ⟨15,.data⟩ ag rfl;have bK:=H.hin 15 59 _ bP rfl rfl;have cC:V 15= .agg #[V 7,V 14]:=H.hj.says 15 bP (Ax fun h=>absurd (H.hj.lt _ h) (γe _));rw[cC]at bK;obtain⟨q7,r7,h7⟩:=Ad (H.hj.says 7 L7 (Ax fun h=>absurd (H.hj.lt _ h) (γe _)));obtain⟨bD,bC,aH⟩:=Ad (H.hj.says 14 aQ (Ax fun h=>absurd (H.hj.lt _ h) (γe _)));rw[show(tl ++ [(j:Int)]).length=tl.length+1 from ag]at h7;rw[show(sl ++ [(c:Int)]).length=sl.length+1 from ag]at aH;replace hK:∀u w2,Ex w' w2->w2.ownsRow w'.heap.size 71 2 u 1 [V 7,V 14]->Kc (a.put (some 60) u) w2:=hK;rw[h7,aH]at bK hK;clear H;go_simp;exact hK _ _ (AF w' _) (WF w' _ _ _)
         .refine DK.out rfl ae rfl (ζ _) fun L V a w' H=>?_;have cI:L 16=true:=H.hd ⟨16,.data⟩ ag rfl;have aP:L 15=true:=H.hcl 16 _ cI rfl ⟨15,.data⟩ ag rfl;have L7:L 7=true:=H.hcl 15 _ aP rfl ⟨7,.data⟩ ag rfl;have aQ:L 14=true:=H.hcl 15 _ aP rfl ⟨14,.data⟩ ag rfl;refine⟨fun d hd=>dh,fun Kc aE aO hK=>?_⟩;have d0:L 0=true:=H.hd ⟨0,.data⟩ ag rfl;have bN:=H.hin 0 44 _ d0 rfl rfl;have s0:V 0= .slice va XS.length vc:=H.hj.says 0 d0 (Ax fun h=>absurd (H.hj.lt _ h) (γe _));rw[s0]at bN;have bO:L 16=true:=H.hd ⟨16,.data⟩ ag rfl;have cJ:=H.hin 16 60 _ bO rfl rfl;obtain⟨q7,r7,h7⟩:=Ad (H.hj.says 7 L7 (Ax fun h=>absurd (H.hj.lt _ h) (γe _)));obtain⟨bD,bC,aH⟩:=Ad (H.hj.says 14 aQ (Ax fun h=>absurd (H.hj.lt _ h) (γe _)));rw[show(tl ++ [(j:Int)]).length=tl.length+1 from ag]at h7;rw[show(sl ++ [(c:Int)]).length=sl.length+1 from ag]at aH;have E1:=A9 bN;have E2:=A9 cJ;have own:=aO;have aG:Sl w' (V 16) (1) 2 ([V 7,V 14]):=Sl.own (H.hj.says 16 bO (Ax fun h=>absurd (H.hj.lt _ h) (γe _)));refine BH _ _ 138 rfl w1.heap.size 71 (.agg #[(),()]) 2 48 Tryz.underlying138 Xn rfl ae ((.slice va XS.length vc)) (XS.length) (VS) E1 own (V 16) (1) ([V 7,V 14]) E2 aG (by rw[h7,aH];intro u hu;simp at hu;rcases hu with rfl|rfl <;> rfl) (by have:=bW.o;unfold maxLen;omega) (by have:=bW.o;omega) (μ aM.o aE) ?_;intro v' w2 hown hg aC;exact hK _ _ hown hg aC
         .refine DK.val rfl ae ae rfl fun L V a w' H=>?_;have cZ:L 17=true:=H.hd ⟨17,.data⟩ ag rfl;refine⟨fun d hd=>(by simp at hd;subst hd;exact cZ),fun Kc hK=>?_⟩;have cW:L 17=true:=H.hd ⟨17,.data⟩ ag rfl;have e61:=H.hin 17 61 _ cW rfl rfl;exact zdn
        .intro L V w' aB hj;have aV:w'.ownsRow w1.heap.size 71 2 (V 17) (XS.length+1) (VS ++ [V 7,V 14]):=hj.says 17 (aB 17 ae) (Ax fun h=>absurd (hj.lt _ h) (γe _));have o7:w'.ownsRow w5.heap.size 3 1 (V 7) (tl ++ [(j:Int)]).length (Aj (tl ++ [(j:Int)])):=hj.says 7 (aB 7 ae) (Ax fun h=>absurd (hj.lt _ h) (γe _));have bF:w'.ownsRow w5.heap.size 3 1 (V 14) (sl ++ [(c:Int)]).length (Aj (sl ++ [(c:Int)])):=hj.says 14 (aB 14 ae) (Ax fun h=>absurd (hj.lt _ h) (γe _));have bB:V 18=V 17:=hj.says 18 (aB 18 ae) (Ax fun h=>absurd (hj.lt _ h) (γe _));have nn:L 19=false:=Ax fun h=>absurd (hj.lt _ h) (γe _);have p7:=hj.ap 7 17 (aB 7 ae) (aB 17 ae) nn nn ae rfl rfl;have bE:=hj.ap 14 17 (aB 14 ae) (aB 17 ae) nn nn ae rfl rfl;have aC:=hj.oat (aB 17 ae);rw[<-dA.o]at aV;have HP:=Aa (aN.o.app hj.gr hj.ex aM.o aV o7 bF p7 bE aC);rw[cB.o,<-bB]at HP;clear hj aB aV o7 bF bB nn p7 bE aC;simp only[Cg,Act.put,γa,δb,δc];go_wp2_with fail
         go_roundw
         case rel=>exact⟨c+1,_,ac,ac,by go_num,HP⟩
         case measure=>exact Ωm
       .obtain rfl:q=c:=by omega
        have dF:Hia (Gx q tl sl j++VM tl sl j (q-1)=Gx q tl sl (j+1)):=Aa (aS.o.symm);rw[dF.o]at aI;have i5:¬(q:Int)<(q:Int):=ac;go_wp2_with (go_at_call 14;refine(bA.o _).mono ?_;rintro e w5⟨rfl,hx5⟩)
        have aN:=Aa (aI.o.later hx5);clear hx5;go_roundw
        case rel=>exact⟨j+1,bT,by have:=aU.o;omega,by go_num,aN⟩
        case measure=>have:=aU.o;simp[intOf];omega
  .obtain rfl:n=j:=by omega
   go_wp2_with fail
   go_ret;exact⟨_,cs,w1,rfl,aF.o,HX.o,HX.o.trans aF.o.ex⟩
end Go.Proofs.YtehieobniamagaaGreat
