/- slices.Index, Clone at Aj; perm.Size, Sift, Has. -/
import Derived.Sort.OwnSortedInts
import Derived.Test.YtehieobniamagaaGreatZi32
namespace Go.Proofs.YtehieobniamagaaGreat
open List renaming map_take→νs,getElem?_map→ϖ,mem_map→ψ,getElem?_eq_getElem→γ,getElem_mem→Ϙ,take_of_length_le→γm,length_map→Ϛ,mem_of_getElem?→ι,range→ξ,any_eq_true→ϗ,mem_range→κ
open Nat renaming le_refl→ζ,pow_le_pow_right→ϝ,one_mul→ζs,lt_trichotomy→δh
open Go.RowKit
set_option linter.all false
set_option maxRecDepth 100000
set_option maxHeartbeats 8000000
def EN(L:List Lv):Nat:=F6 (L.map fun l=>l.orb.length)
theorem MV{L:List Lv}{k:Nat}{l:Lv}(h:L[k]?=some l):EN (L.take (k+1))=EN (L.take k)*l.orb.length:=by
 unfold EN;rw[νs,νs];exact KV (by rw[ϖ,h];rfl)
theorem Lb{n:Nat}{S:List (Nat->Nat)}{bs:List Nat}{l:Lv}(h:l∈bs.map (FM n S)):l.orb.length<=n:=by
 obtain⟨b,_,rfl⟩:=ψ.1 h;show(DN (Bf S b n)).length<=n
 rw[Cz];exact Fn S b n
theorem Kx{L:List Lv}(h:∀l∈L,l.orb.length<=64):∀k,k<=64->CH (EN (L.take k)):=by
 have aA:∀k,EN (L.take k)<=64^k:=by
  intro k
  induction k with
  | zero=>exact ζ _
  | succ k ih=>
   by_cases hk:k<L.length
   .have hl:L[k]?=some (L[k]'hk):=γ hk;rw[MV hl,Nat.pow_succ];exact Nat.mul_le_mul ih (h _ (Ϙ hk))
   .rw[γm ac]at ih ⊢;exact Nat.le_trans ih (ϝ ac ac)
 intro k hk;have h1:(64:Nat)^k<=64^64:=ϝ ac hk;have h2:(64:Nat)^64=BM^12:=ae;have h3:BM^12<BM^200:=(Nat.pow_lt_pow_iff_right (by decide:1<BM)).2 ac;have:=aA k;unfold CH;omega
def SizR(d:Int)(L:List Lv)(r:Ending)(w':World):Prop:=(Bq d L≠0/\r= .returned (.tuple #[(),.int .i64 (Bq d L)]))∨(Bq d L=0/\∃v,r= .returned (.tuple #[v,Ω])/\Hk w' v (EN L))
theorem nml2{w:World}{u v:Value}{x y:Nat}(hu:Hk w u x)(hv:Hk w v y)(t:TypeId):NMl (w.alloc (.cells #[u,v] t)) (.slice (some (w.heap.size,0)) 2 2) [x,y]:=by
 have ea:Ex w (w.alloc (.cells #[u,v] t)):=(Ex.refl _).alloc _;refine⟨[u,v],⟨rfl,_,2,rfl,ζ _,by unfold maxLen;omega,fun _=>⟨_,0,rfl,fun j z hz=>?_⟩⟩,fun i z s h1 h2=>?_⟩
 .match j,hz with
  | 0,hz=>simp at hz;subst hz;simp
  | 1,hz=>simp at hz;subst hz;simp
  | j+2,hz=>simp at hz
 .match i,h1,h2 with
  | 0,h1,h2=>simp at h1 h2;subst h1 h2;exact hu.ex ea
  | 1,h1,h2=>simp at h1 h2;subst h1 h2;exact hv.ex ea
  | i+2,h1,h2=>simp at h1
theorem nMul2{w:World}{u v:Value}{x y:Nat}(hu:Hk w u x)(hv:Hk w v y)(hx:CH x)(hy:CH y)(aA:CH (x*y))(t:TypeId):
  Calls Tryz.prog 41 #[.slice (some (w.heap.size,0)) 2 2] (w.alloc (.cells #[u,v] t)) fun r w'=>(∃u,r= .returned u/\Hk w' u (x*y))/\Ex w w':=by
 have h:=WO _ _ _ (nml2 hu hv t) (fun z hz=>by
  simp at hz;rcases hz with e|e
  .rw[e];exact hx
  .rw[e];exact hy) (fun j hj=>by
  match j,hj with
  | 0,_=>exact Dt (by show(1:Nat)<_;omega)
  | 1,_=>show CH (1*x);rw[ζs];exact hx
  | 2,_=>show CH (1*x*y);rw[ζs];exact aA)
 have e:F6 [x,y]=x*y:=by show 1*x*y=_;rw[ζs]
 rw[e]at h;exact h.mono fun r w' ⟨h1,h2⟩=>⟨h1,((Ex.refl w).alloc _).trans h2⟩
theorem zbP{P:Prop}(h:P:=by
 unfold JT;have:=List.length_filter_le (fun b=>decide (1<(Bf S b n).length)) (List.range n);rw[List.length_range]at this;exact this):P:=h
theorem L9(w:World)(d:Int)(L:List Lv)(lv:Value)(hL:ER w lv L)(hg:(Bn L).length<=1000):
  Calls Tryz.prog 35 #[.agg #[d,lv]] w fun r w'=>SizR d L r w'/\Ex w w':=by
 obtain⟨d0,d1,e0⟩:=CQ w d lv;obtain⟨za,zc,rfl,z1,z2,z3⟩:=(hL.ex e0).open3;unfold maxLen at z2;have bF:=Aa (GK _ d L _ (hL.ex e0) hg);have Z3:=Aa z3;clear z3 hL;go_enter Tryz.func35,Tryz.ntmps35
 go_wp2_with fail
 obtain⟨q,hq⟩:=nA w.heap.size;rw[hq]at d0 d1
 try simp only[hq]
 clear hq;generalize w.alloc (.cells #[d,.slice za L.length zc] 43)=w1 at *;have aR:=Aa e0;clear e0;refine bF.o.mono ?_;rintro e w2⟨rfl,aA⟩;have d1:=aA.cell d1;have aH:=Aa aA;obtain⟨E,hE⟩:=nA (Bq d L);rw[hE];by_cases h0:E=0
 .subst h0;obtain⟨n,rfl,hn1,hn2,S,hS,aS,aG⟩:=Uk hE;have aB:∀l∈L,l.orb.length<=n:=fun l hl=>Lb (aG ▸ hl);have hll:L.length<=n:=by
   rw[aG,Ϛ];exact zbP
  obtain⟨bA,aQ,D1,HE,bB⟩:=On aB (Kx (L:=L) fun l hl=>by have:=aB l hl;omega) d1 hE (O8 w2 1 ac);clear aA hE aB aG aS hS d0;go_wp2_with (go_at_call 42;refine bB.o.mono ?_;rintro e w3⟨⟨u,rfl,hu⟩,aD⟩;have HU:=Aa hu;have aO:=Aa aD;have d1:=aD.cell D1.o;clear hu aD)
  clear d1
  go_loopw [5,17] (fun p' k' wr=>∃(k:Nat),k<=L.length/\k'= .int .i64 k/\Hia (Hk wr p' (EN (L.take k)))/\Hia (Ex w3 wr)) (fun _ k' _=>L.length-(intOf k').toNat)
  case atStart=>exact⟨0,ac,rfl,HU,Aa (Ex.refl _)⟩
  case round=>
   clear HU;obtain⟨k,hk,rfl,hn,aF⟩:=hrel;obtain⟨pn,pf,_,_,aN⟩:=id hn.o;obtain⟨pa,pc,rfl,_,_,_⟩:=aN.open;clear aN;by_cases hkl:k<L.length
   .obtain⟨l,hl⟩:∃l,L[k]?=some l:=⟨_,γ hkl⟩;obtain⟨zb,zo,rfl,aK⟩:=Z3.o ac;have aJ:=Aa (aH.o.trans (aO.o.trans aF.o));obtain⟨u,r,c0,c1,c2,hu,hr⟩:=aK k l hl;have c0:=aJ.o.cell c0;have c1:=aJ.o.cell c1;have c2:=aJ.o.cell c2;obtain⟨oa,oc,rfl,_,_,_⟩:=hu.open;obtain⟨ra,rc,rfl,_,_,_⟩:=hr.open;have i1:(0:Int)<=(k:Int):=by omega
    have i2:(k:Int)<(L.length:Int):=ac;have aB:=bA.o l (ι hl);obtain⟨p,hp⟩:=nA l.pt;rw[hp]at c0;obtain⟨b0,b1,b2,eb⟩:=EY wr p (.slice oa l.orb.length oc) (.slice ra l.reps.length rc);have e1:IntKind.u64.wrap (l.orb.length:Int)=(l.orb.length:Int):=br;obtain⟨aI,HN,bE,aP,aY,aZ,aX⟩:=To (O8 (wr.alloc (.cells #[p,.slice oa l.orb.length oc,.slice ra l.reps.length rc] 90)) l.orb.length ac) (hn.o.ex eb) eb (MV hl) (aQ.o (k+1) ac) (aQ.o k ac) (Dt (x:=l.orb.length) ac);clear aK hl hp hu hr eb hn;go_wp2_with (first|(go_at_call 42;refine aI.o.mono ?_;rintro e w5⟨⟨u5,rfl,aE⟩,aC⟩;obtain⟨_,_,_,_,h5⟩:=id aE;obtain⟨ya,yc,rfl,_,_,_⟩:=h5.open;have bC:=Aa (nMul2 (HN.o.ex aC) aE aZ.o aX.o (by rw[<-aP.o];exact aY.o) 56);have aU:=Aa aC;clear h5 aE aC)|(go_at_call 41;refine bC.o.mono ?_;rintro e w6⟨⟨u6,rfl,aM⟩,aL⟩;have aW:=Aa aM;have aT:=Aa aL;clear aM aL))
    have bD:=Aa (aF.o.trans (bE.o.trans (aU.o.trans aT.o)));have aV:Hia (Hk w6 u6 (EN (L.take (k+1)))):=Aa (by
     rw[aP.o];exact aW.o)
    go_roundw
    case rel=>exact⟨k+1,ac,by go_num,aV,bD⟩
    case measure=>exact Ωm
   .obtain rfl:k=L.length:=by omega
    have HN:Hia (Hk wr (.slice pa pn pc) (EN L)):=Aa (by have:=hn.o;rwa[List.take_length]at this);go_wp2_with fail
    go_ret2;exact⟨.inr ⟨HE.o,_,rfl,HN.o⟩,aR.o.trans (aH.o.trans (aO.o.trans aF.o))⟩
 .have hb:(E !=0)=true:=by simpa using h0
  have HR:Hia (Bq d L≠0):=Aa (by rw[hE];exact h0);have HE:=Aa hE;clear h0 hE aA;go_wp2_with fail
  go_ret2;exact⟨.inl ⟨HR.o,ret_ve HE.o.symm⟩,aR.o.trans aH.o⟩
theorem exc_clo(w:World)(pt:Int)(u v:Value)(YB QB i q:Nat)(hi:i<=64)(hq:1<=q)(hq2:q<=1048576)(h0:w.cell? (YB,0)=some (.int .i64 i))(h1:w.cell? (QB,0)=some (.int .i64 q)):
  Calls Tryz.prog 131 #[.agg #[pt,u,v],(YB,0),(QB,0)] w fun r w'=>r= .returned (.bool (pt==(i:Int)*((q:Int)-1)))/\Ex w w':=by
 have b0:(w.alloc (.cells #[pt,u,v] 90)).cell? (w.heap.size,0)=some (.int .i64 pt):=ag;have HX:=Aa (AF w (.cells #[pt,u,v] 90));replace h0:=HX.o.cell h0;replace h1:=HX.o.cell h1;have a1:(0:Int)<=(i:Int):=ac;have a2:(i:Int)<=64:=ac;have a3:(1:Int)<=(q:Int):=ac;have a4:(q:Int)<=1048576:=ac;have h2:wrap64 ((i:Int)*((q:Int)-1))=(i:Int)*((q:Int)-1):=by
  have m1:(0:Int)<=(i:Int)*((q:Int)-1):=Int.mul_nonneg a1 ac;have m2:(i:Int)*((q:Int)-1)<=64*1048576:=Int.mul_le_mul a2 ac ac ac;unfold wrap64;omega
 go_enter Tryz.func131,Tryz.ntmps131
 obtain⟨B,hB⟩:=nA w.heap.size;rw[hB]at b0;go_upto_region 1 with fail
 try simp only[hB]
 clear hB;generalize w.alloc (.cells #[pt,u,v] 90)=w1 at *;exact zdf
theorem MF(w:World)(YB QB i0 q:Nat)(hi:i0<=64)(hq:1<=q)(aC:q<=1048576)(h0:w.cell? (YB,0)=some (.int .i64 i0))(h1:w.cell? (QB,0)=some (.int .i64 q))(L:List Lv)(v:Value)(hL:ER w v L)(pr:Nat->Bool)
  (hp:∀(j:Nat) (l:Lv),L[j]?=some l->pr j=(l.pt==(i0:Int)*((q:Int)-1))):
  Calls Tryz.prog 130 #[v,.func (.func 131) #[] #[(YB,0),(QB,0)]] w fun r w'=>r= .returned (.int .i64 (CG pr L.length))/\Ex w w':=by
 obtain⟨a,cap,rfl,s1,s2,s3⟩:=hL.open3;have S3:=Aa s3;have HP:=Aa hp;have aE:=Aa (fun (w1:World) (h:Ex w w1) (pt:Int) (u v:Value)=>exc_clo w1 pt u v YB QB i0 q hi hq aC (h.cell h0) (h.cell h1));obtain⟨n,hn⟩:=nA L.length;have HL:=Aa hn;rw[hn]at S3 s1 ⊢;unfold maxLen at s2;clear s3 hp hn hL h0 h1;go_enter Tryz.func130,Tryz.ntmps130
 go_wp2_with fail
 go_loopg [5,8] n (fun gg _ i' wr=>∃i:Nat,i<=n/\n-i<=gg/\i'= .int .i64 i/\Hia (Ex w wr)/\Hia (∀j,j<i->pr j=false))
 case atStart=>exact⟨0,ac,ac,rfl,Aa (Ex.refl _),Aa (fun j hj=>ac)⟩
 case round=>
  obtain⟨i,hi,hg,rfl,aA,aB⟩:=hrel;by_cases hlt:i<n
  .obtain⟨l,hl⟩:∃l,L[i]?=some l:=⟨_,γ bc⟩;obtain⟨bb,o,rfl,hc⟩:=S3.o ac;obtain⟨u,r,c0,c1,c2,-,-⟩:=hc i l hl;replace c0:=aA.o.cell c0;replace c1:=aA.o.cell c1;replace c2:=aA.o.cell c2;have aD:=Aa (HP.o i l hl);have HC:=Aa (aE.o wr aA.o l.pt u r);have i1:(0:Int)<=(i:Int):=by omega
   have hlt':(i:Int)<(n:Int):=ac;rw[<-aD.o]at HC;clear hc hl
   cases hb:pr i with
   | true=>
    rw[hb]at HC;have HF:=Aa (CO hlt hb aB.o);clear hb;go_wp2_with (go_at_call 131;refine HC.o.mono ?_;rintro e w'⟨rfl,hx⟩;have HX:=Aa (aA.o.trans hx);clear hx)
    exact zdl
   | false=>
    rw[hb]at HC;have HA:Hia (∀j,j<i+1->pr j=false):=Aa (fun j hj=>by
     by_cases e:j=i
     .subst e;exact hb
     .exact aB.o j ac)
    clear hb;go_wp2_with (go_at_call 131;refine HC.o.mono ?_;rintro e w'⟨rfl,hx⟩;have HX:=Aa (aA.o.trans hx);clear hx)
    exact zb4
  .obtain rfl:i=n:=by omega
   have HF:=Aa (Cf aB.o);go_wp2_with fail
   go_ret;exact⟨Ai HF.o.symm,aA.o⟩
theorem sortOK:SJ:=by
 intro w base v l hv h1 h2;rcases hv.2 with⟨_,h0⟩|⟨g,cap,cur,rfl,hbase,hb,c1,c2,c3,c4⟩
 .omega
 .have aA:cur.toList.take l.length=l.map (Value.int .i64):=by simpa[Aj]using c4
  have hg:g<w.heap.size:=(Array.getElem?_eq_some_iff.1 hb).1;refine(Tryz.slices_Sort_int g 0 cap l w (holds_of_blockI hb aA) hg ac).mono ?_;rintro e w'⟨rfl,n,os,rfl⟩;have hl:(l.mergeSort fun x y=>decide (x<=y)).length=l.length:=List.length_mergeSort _;exact⟨rfl,ownsRow_sortedI hl hbase hb c1 c2 c3,grownBy_sortedI _⟩
def PU(Ms:List C7):List (List Int):=Ms.map (·.perm)
def PosO(c:AX)(r:Ending)(w':World):Prop:=∃e0:Int,Bw c.p c.m c.ml c.n c.rows e0/\
 ((JV c e0≠0/\r= .returned (.tuple #[(),.int .i64 (JV c e0)]))∨(JV c e0=0/\OrbR c.n (PU (Di c (AG c))) r w'))
theorem My(bK:SJ)(w:World)(c:AX)(m1 v1:Value)(hc:c.at w m1 v1)(aB:(Di c (AG c)).length<=1000):
  Calls Tryz.prog 24 #[c.arg m1 v1] w fun r w'=>PosO c r w'/\Ex w w':=by
 obtain⟨c0,c1,c2,c3,c4⟩:=C8 w c m1 v1;have aL:=AF w (c.obj m1 v1);obtain⟨x1,y1,aO,-,z1,-⟩:=hc.g.open;obtain⟨x3,y3,aN,-,z3,-⟩:=hc.m.open;unfold maxLen at z1 z3;obtain⟨B,hB⟩:=nA w.heap.size;have aC:=Aa (IY (w.alloc (c.obj m1 v1)) c m1 v1 (hc.ex aL));rw[hB]at c0 c1 c2 c3 c4;have aG:=Aa aL;obtain⟨C,hC⟩:∃C:AX,C=c:=⟨_,rfl⟩;have cD:=Aa hC;have bE:Hia (∀r w',PosO C r w'->PosO c r w'):=Aa (fun r w' h=>by rw[<-hC];exact h);rw[<-hC]at aB;obtain⟨cp,cm,bO,cn,bN⟩:=c;unfold AX.arg at aC ⊢;unfold AX.obj at aG aC c0 c1 c2 c3 c4;dsimp only at aG aC c0 c1 c2 c3 c4 aO aN ⊢;rw[aO,aN]at aG aC c0 c1 c2 c3 c4 ⊢;rw[<-hC]at aC;have aU:=Aa aB;clear hc aL hC aO aN aB;go_enter Tryz.func24,Tryz.ntmps24
 go_upto_region 1 with fail
 try simp only[hB]
 clear hB;generalize w.alloc (.cells #[cp,cm,(x3,bO.length,y3),cn,(x1,bN.length,y1)] 39)=w1 at *;go_wp2_with fail
 refine aC.o.mono ?_;rintro e w2⟨aE,aD⟩;have bD:=Aa aD;obtain⟨e0,bA,ho⟩:=Rt aE;have bJ:=Aa bA;replace c3:=aD.cell c3;obtain⟨GE,aS⟩:∃x,JV C e0=x:=⟨_,rfl⟩;rw[aS]at ho;have aW:=Aa aS;clear aE aD bA aC aS c0 c1 c2 c4;rcases ho with⟨h0,rfl⟩|⟨h0,hbn,pn,mn,N,b,x0,mv,nv,hp,hm,hn,hN1,hN64,hD,rfl,hg,hx1,aD,hms,hns⟩
 .have hb:(GE !=0)=true:=by simpa using h0
  have H0:=Aa h0;clear h0;go_wp2_with fail
  exact bodyPost_ret (v:= .tuple #[(),GE]) (by simp[results,Tryz.results24,go_sem]) rfl ⟨bE.o _ _ ⟨e0,bJ.o,.inl ⟨by rw[aW.o];exact H0.o,by rw[aW.o]⟩⟩,aG.o.trans bD.o⟩
 .subst h0;have bM:cn=(N:Int):=by have:=cD.o;rw[this]at hn;exact hn
  subst bM;have bV:Hia (C.n=(N:Int)):=Aa (hn);have bX:=Aa hms;obtain⟨ma,mc,rfl,-,zm,m3⟩:=hms.open;obtain⟨na,nc,rfl,-,-,-⟩:=hns.open;unfold maxLen at zm;obtain⟨Ms,aR⟩:∃x,Di C (AG C)=x:=⟨_,rfl⟩;have bW:=Aa aR;rw[aR]at bX m3 aU ⊢;obtain⟨LM,aF⟩:∃x,Ms.length=x:=⟨_,rfl⟩;have bZ:=Aa aF;have aV:Hia (LM<=1000):=Aa (by rw[<-aF];exact aU.o);rw[aF]at m3 ⊢;have M3:=Aa m3;obtain⟨GL,aJ⟩:∃g,PU Ms=g:=⟨_,rfl⟩;have cC:Hia (∀k (M:C7),Ms[k]?=some M->GL.take (k+1)=GL.take k ++ [M.perm]):=Aa (fun k M h=>by
   rw[<-aJ];exact Ew (by unfold PU;rw[ϖ,h];rfl))
  have bH:Hia (GL.length=LM):=Aa (by rw[<-aJ,<-aF];unfold PU;rw[Ϛ]);have cB:=Aa aJ;have bF:=Aa (Hd.nil w2);clear hbn hp hm hn hN1 hN64 hD hg hx1 aD hms hns aR aF m3 aJ aU;go_wp2_with fail
  go_loopw [8,23] (fun gv k' wr=>∃(k:Nat) (vals:List Value),k<=LM/\k'= .int .i64 k/\Hia (Hd w2 wr gv (GL.take k) vals)) (fun _ k' _=>LM-(intOf k').toNat)
  case atStart=>exact⟨0, [],ac,rfl,bF⟩
  case round=>
   clear bF;obtain⟨k,vals,hk,rfl,hr⟩:=hrel;obtain⟨ga,gc,rfl⟩:=Ad hr.o.own;by_cases hkl:k<LM
   .obtain⟨mb,mo,rfl,aZ⟩:=M3.o ac;obtain⟨M,hM⟩:∃M,Ms[k]?=some M:=⟨_,γ (by rw[bZ.o];exact hkl)⟩;obtain⟨u,r,d0,d1,d2,hu,aY⟩:=aZ k M hM;obtain⟨ua,uc,rfl,-,-,-⟩:=hu.open;obtain⟨ra,rc,rfl,-,-,-⟩:=aY.open;replace d0:=hr.o.ex.cell d0;replace d1:=hr.o.ex.cell d1;replace d2:=hr.o.ex.cell d2;rw[show mo+3*k=mo+k*3 from ac]at d0;rw[show mo+(3*k+1)=mo+k*3+1 from ac]at d1;rw[show mo+(3*k+2)=mo+k*3+2 from ac]at d2;have HU:=Aa hu;obtain⟨LP,bC⟩:∃x,M.perm.length=x:=⟨_,rfl⟩;obtain⟨LS,bB⟩:∃x,M.scale.length=x:=⟨_,rfl⟩;rw[bC]at d0 HU;rw[bB]at d1;have HR:=Aa hr.o;have bY:=Aa hM;have i1:(0:Int)<=(k:Int):=by omega
    have i2:(k:Int)<(LM:Int):=ac;have bI:=Aa hkl;obtain⟨TB,aP⟩:∃x,wr.heap.size=x:=⟨_,rfl⟩;obtain⟨t0,t1,t2,et⟩:=BA wr (.slice ua LP uc) (.slice ra LS rc) M.frob;rw[aP]at t0 t1 t2;have aK:=Aa et;clear hr hM hu aY aZ hkl bC bB et;go_upto_region 8 with fail
    try simp only[aP]
    clear aP d0 d1 d2 i1 i2;generalize wr.alloc (.cells #[(ua,LP,uc),(ra,LS,rc),.int .i64 M.frob] 26)=w5 at *;obtain⟨LG,aA⟩:∃x,(GL.take k).length=x:=⟨_,rfl⟩;have cA:=Aa aA;have aH:Hia (LG<=1000):=Aa (by rw[<-aA,List.length_take];have:=aV.o;omega);rw[aA]at HR ⊢;have bU:Hia (w5.ownsRow w2.heap.size 22 1 (.slice ga LG gc) LG vals):=Aa (by have:=(HR.o.later aK.o).own;rwa[aA]at this);have bS:=Aa (HR.o.later aK.o).ex.size;have hkb:k<=1000:=by have:=aV.o;omega
    clear aA;go_wp2_with (at_builtin;refine Al _ rfl _ _ 37 rfl w2.heap.size 22 (.slice none 0 0) 1 24 Tryz.underlying37 BZ rfl ae _ LG vals rfl bU.o [.slice ua LP uc] 22 _ rfl ag rfl aj (by have:=aH.o;unfold maxLen;omega) (by have:=aH.o;omega) bS.o ?_)
    intro v8 w8 aI;have HN:=Aa ((HR.o.later aK.o).app (R:= [M.perm]) (us:= [.slice ua LP uc]) (gv':=v8) (w':=w8) (fun i r u h1 h2=>by
     rcases i with _|i
     .simp at h1 h2;subst h1 h2;exact HU.o
     .simp at h1) (by rw[cA.o];exact aI.own) (aI.ex (HR.o.later aK.o).ex (ζ _)))
    rw[<-cC.o k M bY.o]at HN;obtain⟨ga8,gc8,rfl⟩:=Ad aI.own;clear aI;go_wp2_with fail
    go_roundw
    case rel=>exact⟨k+1,_,by have:=bI.o;omega,by go_num,HN⟩
    case measure=>have:=bI.o;simp[intOf];omega
   .obtain rfl:LM=k:=by omega
    have bR:Hia (GL.take LM=GL):=Aa (γm (by rw[bH.o];exact ζ _));rw[bR.o]at hr ⊢;have HX:=Aa hr.o.ex;have bG:=Aa (SN bK wr (N:Int) GL _ hr.o.msl (by rw[bH.o];exact aV.o));have c3':=hr.o.ex.cell c3;obtain⟨OS,aQ⟩:∃x,Io (N:Int) GL=x:=⟨_,rfl⟩;have bT:=Aa aQ;obtain⟨ol,oe⟩:=OS;obtain⟨LG,aA⟩:∃x,GL.length=x:=⟨_,rfl⟩;have aT:Hia (Calls Tryz.prog 65 #[(N:Int),(ga,LG,gc)] wr fun r w'=>(∃v,r= .returned (.tuple #[v,oe])/\B6 w' v ol)/\Ex wr w'):=Aa (by
     rw[<-aA];exact bG.o.mono (by
      rintro r w'⟨⟨v,h1,h2⟩,h3⟩;rw[aQ]at h1 h2;exact⟨⟨v,h1,h2⟩,h3⟩))
    rw[aA];clear hr bG aQ aA c3;go_wp2_with (go_at_call 65;refine aT.o.mono ?_;rintro e w6⟨⟨v6,rfl,aM⟩,aX⟩;obtain⟨la,lc,bL,_,_,_⟩:=aM.open;subst bL;have bQ:=Aa aM;have bP:=Aa aX;clear aM aX)
    exact bodyPost_ret (v:= .tuple #[(la,ol.length,lc),oe]) (by simp[results,Tryz.results24,go_sem]) rfl ⟨bE.o _ _ ⟨e0,bJ.o,.inr ⟨aW.o,by rw[bV.o,bW.o,cB.o];exact Oc bT.o bQ.o⟩⟩,aG.o.trans (bD.o.trans (HX.o.trans bP.o))⟩
def Uu(n:Nat)(f g:Nat->Nat):Prop:=∃i,i<n/\(∀j,j<i->f j=g j)/\f i<g i
theorem Uu.le{n:Nat}{f g:Nat->Nat}(h:Uu n f g):EW n f g:= .inr h
theorem Lr{n:Nat}{f g:Nat->Nat}:∀m,m<=n->(∀i,i<m->f i=g i)∨∃i,i<m/\(∀j,j<i->f j=g j)/\f i≠g i
 | 0,_=> .inl fun i h=>by omega
 | m+1,h=>by
  rcases Lr (n:=n) (f:=f) (g:=g) m (by omega) with h1|⟨i,h1,h2,h3⟩
  .by_cases e:f m=g m
   .exact .inl fun i hi=>by
     by_cases e2:i=m
     .subst e2;exact e
     .exact h1 i (by omega)
   .exact .inr ⟨m,by omega,h1,e⟩
  .exact .inr ⟨i,by omega,h2,h3⟩
theorem W6{n:Nat}{f g:Nat->Nat}:Gr (li n f) (li n g)=true↔Uu n f g:=by
 rcases Lr (n:=n) (f:=f) (g:=g) n (ζ _) with h1|⟨i,h1,h2,h3⟩
 .have e:li n f=li n g:=W5 h1;rw[e,Lc fun j _=>rfl];constructor
  .intro h;cases h
  .rintro⟨i,hi,_,h⟩;have:=h1 i hi;omega
 .rw[Nc (i:=i) (DU h1 f) (DU h1 g) ac fun j hj=>by rw[DU ac,DU ac,h2 j hj],decide_eq_true_eq];constructor
  .intro h;exact⟨i,h1,h2,ac⟩
  .rintro⟨j,hj,j1,j2⟩;rcases δh i j with e|e|e
   .exact absurd (j1 i e) h3
   .subst e;omega
   .have:=h2 j e;omega
structure Pe(n m:Nat)(S:List (Nat->Nat))(A:Nat->Nat->Nat):Prop where
 all:∀f,Gn S f↔∃i,i<m/\A i=f
 srt:∀a b,a<b->b<m->Uu n (A a) (A b)
theorem Pe.least{n m:Nat}{S:List (Nat->Nat)}{A:Nat->Nat->Nat}(h:Pe n m S A){b x i:Nat}(hi:i<m)(h1:AU b (A i))(h2:A i b=x)(h3:∀j,j<i->¬(AU b (A j)/\A j b=x)):DX n S b x (A i):=
 ⟨(h.all _).2 ⟨i,hi,rfl⟩,h1,h2,fun g hg hF aA=>by
  obtain⟨j,hj,rfl⟩:=(h.all g).1 hg;rcases δh i j with e|e|e
  .exact(h.srt i j e hj).le
  .subst e;exact .inl fun _ _=>rfl
  .exact absurd ⟨hF,aA⟩ (h3 j e)⟩
def Xv(A:Nat->Nat->Nat)(b x i:Nat):Bool:=fixB b (A i)&&(A i b==x)
def UZ(n m:Nat)(A:Nat->Nat->Nat)(b:Nat):List Nat:=(ξ n).filter fun x=>(ξ m).any (Xv A b x)
def firA(m:Nat)(A:Nat->Nat->Nat)(b x:Nat):Nat:=((ξ m).find? (Xv A b x)).getD 0
def ZS(n m:Nat)(A:Nat->Nat->Nat)(b:Nat):Lv:=⟨b,DN (UZ n m A b),(UZ n m A b).map fun x=>li n (A (firA m A b x))⟩
def chnA(n m:Nat)(A:Nat->Nat->Nat)(k:Nat):List Lv:=((ξ k).map (ZS n m A)).filter fun l=>decide (1<l.orb.length)
theorem Iw{A:Nat->Nat->Nat}{b x i:Nat}:Xv A b x i=true↔AU b (A i)/\A i b=x:=by
 unfold Xv;rw[Bool.and_eq_true,XH,beq_iff_eq]
theorem Yn{n m:Nat}{S:List (Nat->Nat)}{A:Nat->Nat->Nat}(h:Pe n m S A){b x:Nat}:(ξ m).any (Xv A b x)=true↔∃f,Gn S f/\AU b f/\f b=x:=by
 rw[ϗ];constructor
 .rintro⟨i,hi,e⟩;have:=Iw.1 e;exact⟨A i,(h.all _).2 ⟨i,κ.1 hi,rfl⟩,this⟩
 .rintro⟨f,h1,h2,h3⟩;obtain⟨i,hi,rfl⟩:=(h.all f).1 h1;exact⟨i,κ.2 hi,Iw.2 ⟨h2,h3⟩⟩
open Classical in
theorem ZG {n m:Nat} {S:List (Nat->Nat)} {A:Nat->Nat->Nat} (h:Pe n m S A) (b:Nat):Bf S b n=UZ n m A b:=by
 unfold Bf UZ;apply List.filter_congr;intro x _;rw[Bool.eq_iff_iff,decide_eq_true_eq,Yn h]
theorem XI{n m:Nat}{S:List (Nat->Nat)}{A:Nat->Nat->Nat}(h:Pe n m S A)(hS:∀s∈S,Bo n s){b x i:Nat}(hi:i<m)(h1:AU b (A i))(h2:A i b=x)(h3:∀j,j<i->¬(AU b (A j)/\A j b=x)):De n S b x=A i:=
 Ka hS (h.least hi h1 h2 h3)
theorem Sk{m:Nat}{p:Nat->Bool}(h:∃i,i<m/\p i=true):∃i,i<m/\p i=true/\(∀j,j<i->p j=false)/\(ξ m).find? p=some i:=by
 obtain⟨i0,aD,aB⟩:=h
 cases hf:(ξ m).find? p with
 | none=>exact absurd (List.find?_eq_none.1 hf i0 (κ.2 aD)) (by simp[aB])
 | some i=>
  have h1:=List.find?_some hf;have h2:=κ.1 (List.mem_of_find?_eq_some hf);refine⟨i,h2,h1,fun j hj=>?_,rfl⟩;rw[List.find?_eq_some_iff_append]at hf;obtain⟨_,as',bs,e,aA⟩:=hf;have hlen:as'.length=i:=by
   have h3:=congrArg (fun l=>l[as'.length]?) e;simp only[List.getElem?_append_right (ζ _),Nat.sub_self,List.getElem?_cons_zero]at h3;have h4:=(List.getElem?_eq_some_iff.1 h3);obtain⟨h5,h6⟩:=h4;simpa using h6
  have aC:j∈as':=by
   have h3:=congrArg (fun l=>l[j]?) e;simp only[List.getElem?_append_left (show j<as'.length by omega)]at h3;rw[γ aq]at h3;have h4:(ξ m)[j]'aq=j:=by simp
   rw[h4]at h3;exact ι h3.symm
  have:=aA j aC;simpa using this
theorem firA_eq{n m:Nat}{S:List (Nat->Nat)}{A:Nat->Nat->Nat}(h:Pe n m S A)(hS:∀s∈S,Bo n s){b x:Nat}(hx:x∈UZ n m A b):De n S b x=A (firA m A b x):=by
 unfold UZ at hx;have h1:=(List.mem_filter.1 hx).2;obtain⟨i0,aA,e0⟩:=ϗ.1 h1;obtain⟨i,hi,h2,h3,h4⟩:=Sk ⟨i0,κ.1 aA,e0⟩;have hf:firA m A b x=i:=by unfold firA;rw[h4];rfl
 rw[hf];have h5:=Iw.1 h2;exact XI h hS hi h5.1 h5.2 fun j hj k=>by
  have:=h3 j hj;rw[Iw.2 k]at this;cases this
theorem ZR{n m:Nat}{S:List (Nat->Nat)}{A:Nat->Nat->Nat}(h:Pe n m S A)(hS:∀s∈S,Bo n s)(b:Nat):FM n S b=ZS n m A b:=by
 unfold FM ZS Eb;rw[ZG h]
 congr 1
 exact List.map_congr_left fun x hx=>by rw[firA_eq h hS hx]
theorem chnA_eq{n m:Nat}{S:List (Nat->Nat)}{A:Nat->Nat->Nat}(h:Pe n m S A)(hS:∀s∈S,Bo n s)(k:Nat):Ck n S k=chnA n m A k:=by
 unfold Ck chnA;rw[show FM n S=ZS n m A from funext (ZR h hS)]
theorem Ow{l:List Int}(h:Ch l=0):Bo l.length (Dr l):=by
 obtain⟨n,f,_,_,h1,h2,rfl⟩:=N9 h;rw[Lq h2,h1];exact h2
theorem Ol{l:List Int}(h:Ch l=0):li l.length (Dr l)=l:=by
 obtain⟨n,f,_,_,h1,h2,rfl⟩:=N9 h;rw[Lq h2,h1]
theorem TU{n:Nat}{p q:List Int}(hp:Ch p=0)(hq:Ch q=0)(h1:p.length=n)(h2:q.length=n):Dr (thL p q)=Ap (Dr p) (Dr q):=by
 have e1:=Ol hp;have e2:=Ol hq;have k1:=Ow hp;have k2:=Ow hq;rw[h1]at e1 k1;rw[h2]at e2 k2;have:thL p q=li n (Ap (Dr p) (Dr q)):=by
  conv=>lhs;rw[<-e1,<-e2]
  exact thL_li k1.lt
 rw[this,Lq (k1.comp k2)]
def wordL(n:Nat)(gens:List (List Int))(w:List Nat):List Int:=w.foldl (fun p k=>thL p (gens.getD k [])) (unL n)
theorem Ni{n:Nat}{T gens:List (List Int)}(W:List (List Nat))(h1:∀r∈T,Ch r=0/\r.length=n)(h2:∀r∈gens,Ch r=0/\r.length=n)(hn:n<=64)(hn1:1<=n)(hu:unL n∈T)(hc:∀r∈T,∀s∈gens,thL r s∈T)(hw:T=W.map (wordL n gens))(aF:∀w∈W,∀k∈w,k<gens.length)(f:Nat->Nat):
  Gn (gens.map Dr) f↔∃r∈T,Dr r=f:=by
 have aC:Dr (unL n)=Ep:=Lq (Fe n);constructor
 .intro h
  induction h with
  | one=>exact⟨_,hu,aC⟩
  | step _ hs ih=>
   obtain⟨r,hr,e⟩:=ih;obtain⟨s,aB,e2⟩:=ψ.1 hs;exact⟨thL r s,hc r hr s aB,by rw[TU (h1 r hr).1 (h2 s aB).1 (h1 r hr).2 (h2 s aB).2,e,e2]⟩
 .rintro⟨r,hr,rfl⟩;rw[hw]at hr;obtain⟨w,aG,rfl⟩:=ψ.1 hr;have aE:∀(w:List Nat) (p:List Int),p∈T->Gn (gens.map Dr) (Dr p)->(∀k∈w,k<gens.length)->Gn (gens.map Dr) (Dr (w.foldl (fun p k=>thL p (gens.getD k [])) p)):=by
   intro w
   induction w with
   | nil=>exact fun p _ h _=>h
   | cons k w ih=>
    intro p hp hg hk;have aD:=hk k ag;have aA:gens.getD k []∈gens:=by
     rw[List.getD_eq_getElem?_getD,γ aD];exact Ϙ aD
    rw[List.foldl_cons];refine ih _ (hc p hp _ aA) ?_ fun j hj=>hk j (by simp[hj]);rw[TU (h1 p hp).1 (h2 _ aA).1 (h1 p hp).2 (h2 _ aA).2];exact hg.step (ψ.2 ⟨_,aA,rfl⟩)
  exact aE w (unL n) hu (by rw[aC];exact .one) (aF w aG)
section
open Go.RowKit Go.ChangeShapes Go.WideShapes Go.ChangeAt
section
variable {H:Type} {enc:TypeId × Value->H} {W:World} {held:Bool}
theorem c_code:Tryz.prog.cellsOf 39=5:=ah
theorem U0{r:Reach}{b0:Nat}{v:Value}{d:DataW H}{p:List MemPlace}(hv:Value.okWide Tryz.prog W r b0 39 v)(h:DataW.Trod enc Tryz.prog W 0 (fun _=>true) held 39 v d p):
  ∃(c:AX) (mv gv:Value),v=c.arg mv gv/\c.at W mv gv:=by
 obtain⟨cs,rfl,aC⟩:=RQ Tryz.underlying39 hv;obtain⟨c0,c1,c2,c3,c4,rfl⟩:=array5 (aC.trans c_code);obtain⟨fuel,hf⟩:=h;obtain⟨xs,k,_,_,_,aB,aA⟩:=DataW.trod_struct Tryz.underlying39 hf;have g0:=aA 0 _ rfl;have g1:=aA 1 _ rfl;have g2:=aA 2 _ rfl
 match xs,aB with
 | [y0,y1,y2],_=>
  simp[c_int,c_fld,c_rows,Value.cells]at g0 g1 g2;obtain⟨P,M,ml,rfl,rfl,hm⟩:=Vq g0;obtain⟨N,e0,_,_⟩:=DataW.trod_int Tryz.underlying3 g1;obtain⟨rows,hr⟩:=WT g2;simp at e0;subst e0;exact⟨⟨P,M,ml,N,rows⟩,_,_,rfl,hm,hr⟩
end
end
end Go.Proofs.YtehieobniamagaaGreat
