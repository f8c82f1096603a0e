/- Plain: the points of a map tell the map. -/
import Derived.Sort.OwnSortedInts
import Derived.Test.YtehieobniamagaaGreatZd27
namespace Go.Proofs.YtehieobniamagaaGreat
open Go.RowKit
set_option linter.all false
set_option maxRecDepth 100000
set_option maxHeartbeats 8000000
section
variable {p m N:Nat} {ml pl sl:List Int}
theorem TS(h:BD p m ml pl sl 0 N){k:Nat}(hk:k<N*(p^m-1)):∃z:Nat,1<=z/\z<p^m/\z=Ai p m (lw ml) (Au (p^m) (sl.getD (k/(p^m-1)) 0)) (k%(p^m-1)+1)/\k/(p^m-1)<N/\BV pl (k/(p^m-1))<N/\Qy p m ml pl sl k=((BV pl (k/(p^m-1))*(p^m-1)+(z-1):Nat):Int):=by
 have hQ:0<p^m-1:=by
  apply Nat.pos_of_ne_zero;intro e;rw[e,Nat.mul_zero]at hk;omega
 have hi:k/(p^m-1)<N:=Nat.div_lt_of_lt_mul (by rw[Nat.mul_comm];exact hk);obtain⟨s,hs,h1,h2⟩:=h.sc _ hi;have hr:=Nat.mod_lt k hQ;have aB:=h.hF.ne_zero h.hp h.hm h1 h2 (show 1<=k%(p^m-1)+1 by omega) (show k%(p^m-1)+1<p^m by omega);have aA:=AR (p:=p) (m:=m) (low:=lw ml) (by have:=h.hp;omega) s (k%(p^m-1)+1);refine⟨Ai p m (lw ml) s (k%(p^m-1)+1),aB,aA,by rw[hs,Ax h2],hi,h.inj.1 _ hi,?_⟩;unfold Qy;rw[hs,Ax h2];omega
theorem il_own{l:List Int}{N:Nat}(h:l.length=N){f:Nat->Int}(hf:∀i,i<N->f i=l.getD i 0):il N f=l:=by
 subst h;refine List.ext_getElem? fun i=>?_;by_cases hi:i<l.length
 .rw[AH hi,hf i hi,List.getD_eq_getElem?_getD,List.getElem?_eq_getElem hi];rfl
 .rw[List.getElem?_eq_none (by rw[An];omega),List.getElem?_eq_none ac]
end
def Iv(L:List Lv):Nat:=Jj (L.map fun l=>l.orb.length)
theorem Md{L:List Lv}{k:Nat}{l:Lv}(h:L[k]?=some l):Iv (L.take (k+1))=Iv (L.take k)*l.orb.length:=by
 unfold Iv;rw[List.map_take,List.map_take];exact Ki (by rw[List.getElem?_map,h];rfl)
theorem Rg{n:Nat}{S:List (Nat->Nat)}{bs:List Nat}{l:Lv}(h:l∈bs.map (E7 n S)):l.orb.length<=n:=by
 obtain⟨b,_,rfl⟩:=List.mem_map.1 h;show(Dy (Bq S b n)).length<=n
 rw[CE];exact Gc S b n
theorem QJ{L:List Lv}(h:∀l∈L,l.orb.length<=64):∀k,k<=64->Di (Iv (L.take k)):=by
 have aA:∀k,Iv (L.take k)<=64^k:=by
  intro k
  induction k with
  | zero=>exact Nat.le_refl _
  | succ k ih=>
   by_cases hk:k<L.length
   .have hl:L[k]?=some (L[k]'hk):=List.getElem?_eq_getElem hk;rw[Md hl,Nat.pow_succ];exact Nat.mul_le_mul ih (h _ (List.getElem_mem hk))
   .rw[List.take_of_length_le ac]at ih ⊢;exact Nat.le_trans ih (Nat.pow_le_pow_right ac ac)
 intro k hk;have h1:(64:Nat)^k<=64^64:=Nat.pow_le_pow_right ac hk;have h2:(64:Nat)^64=BK^12:=ae;have h3:BK^12<BK^200:=(Nat.pow_lt_pow_iff_right (by decide:1<BK)).2 ac;have:=aA k;unfold Di;omega
def SizR(d:Int)(L:List Lv)(r:Ending)(w':World):Prop:=(BA d L≠0/\r= .returned (.tuple #[.slice none 0 0,.int .i64 (BA d L)]))∨(BA d L=0/\∃v,r= .returned (.tuple #[v,.int .i64 0])/\Il w' v (Iv L))
theorem nml2{w:World}{u v:Value}{x y:Nat}(hu:Il w u x)(hv:Il w v y)(t:TypeId):NMl (w.alloc (.cells #[u,v] t)) (.slice (some ⟨w.heap.size,0,none⟩) 2 2) [x,y]:=by
 have ea:Ex w (w.alloc (.cells #[u,v] t)):=(Ex.refl _).alloc _;refine⟨[u,v],⟨rfl,_,2,rfl,Nat.le_refl _,by unfold maxLen;omega,fun _=>⟨_,0,rfl,fun j z hz=>?_⟩⟩,fun i z s h1 h2=>?_⟩
 .match j,hz with
  | 0,hz=>simp at hz;subst hz;simp
  | 1,hz=>simp at hz;subst hz;simp
  | j+2,hz=>simp at hz
 .match i,h1,h2 with
  | 0,h1,h2=>simp at h1 h2;subst h1 h2;exact hu.ex ea
  | 1,h1,h2=>simp at h1 h2;subst h1 h2;exact hv.ex ea
  | i+2,h1,h2=>simp at h1
theorem nMul2{w:World}{u v:Value}{x y:Nat}(hu:Il w u x)(hv:Il w v y)(hx:Di x)(hy:Di y)(aA:Di (x*y))(t:TypeId):
  Calls Tryz.prog 41 #[.slice (some ⟨w.heap.size,0,none⟩) 2 2] (w.alloc (.cells #[u,v] t)) fun r w'=>(∃u,r= .returned u/\Il w' u (x*y))/\Ex w w':=by
 have h:=Vv _ _ _ (nml2 hu hv t) (fun z hz=>by
  simp at hz;rcases hz with e|e
  .rw[e];exact hx
  .rw[e];exact hy) (fun j hj=>by
  match j,hj with
  | 0,_=>exact Gu (by show(1:Nat)<_;omega)
  | 1,_=>show Di (1*x);rw[Nat.one_mul];exact hx
  | 2,_=>show Di (1*x*y);rw[Nat.one_mul];exact aA)
 have e:Jj [x,y]=x*y:=by show 1*x*y=_;rw[Nat.one_mul]
 rw[e]at h;exact h.mono fun r w' ⟨h1,h2⟩=>⟨h1,((Ex.refl w).alloc _).trans h2⟩
theorem Qn(w:World)(d:Int)(L:List Lv)(lv:Value)(hL:EF w lv L)(hg:(Bu L).length<=1000):
  Calls Tryz.prog 35 #[.agg #[.int .i64 d,lv]] w fun r w'=>SizR d L r w'/\Ex w w':=by
 obtain⟨d0,d1,e0⟩:=Cd w d lv;obtain⟨za,zc,rfl,z1,z2,z3⟩:=(hL.ex e0).open3;unfold maxLen at z2;have bF:=Aa (Gr _ d L _ (hL.ex e0) hg);have Z3:=Aa z3;clear z3 hL;go_enter Tryz.func35,Tryz.ntmps35
 go_wp2_with fail
 obtain⟨q,hq⟩:=nA w.heap.size;rw[hq]at d0 d1
 try simp only[hq]
 clear hq;generalize w.alloc (.cells #[.int .i64 d,.slice za L.length zc] 43)=w1 at *;have aR:=Aa e0;clear e0;refine bF.o.mono ?_;rintro e w2⟨rfl,aA⟩;have d1:=aA.cell d1;have aH:=Aa aA;obtain⟨E,hE⟩:=nA (BA d L);rw[hE];by_cases h0:E=0
 .subst h0;obtain⟨n,rfl,hn1,hn2,S,hS,aS,aG⟩:=Td hE;have aB:∀l∈L,l.orb.length<=n:=fun l hl=>Rg (aG ▸ hl);have hll:L.length<=n:=by
   rw[aG,List.length_map];unfold Pb;have:=List.length_filter_le (fun b=>decide (1<(Bq S b n).length)) (List.range n);rw[List.length_range]at this;exact this
  obtain⟨bA,aQ,D1,HE,bB⟩:=Of aB (QJ (L:=L) fun l hl=>by have:=aB l hl;omega) d1 hE (WR w2 1 ac);clear aA hE aB aG aS hS d0;go_wp2_with (go_at_call 42;refine bB.o.mono ?_;rintro e w3⟨⟨u,rfl,hu⟩,aD⟩;have HU:=Aa hu;have aO:=Aa aD;have d1:=aD.cell D1.o;clear hu aD)
  clear d1
  go_loopw [5,17] (fun p' k' wr=>∃(k:Nat),k<=L.length/\k'= .int .i64 k/\Hia (Il wr p' (Iv (L.take k)))/\Hia (Ex w3 wr)) (fun _ k' _=>L.length-(intOf k').toNat)
  case atStart=>exact⟨0,ac,rfl,HU,Aa (Ex.refl _)⟩
  case round=>
   clear HU;obtain⟨k,hk,rfl,hn,aF⟩:=hrel;obtain⟨pn,pf,_,_,aN⟩:=id hn.o;obtain⟨pa,pc,rfl,_,_,_⟩:=aN.open;clear aN;by_cases hkl:k<L.length
   .obtain⟨l,hl⟩:∃l,L[k]?=some l:=⟨_,List.getElem?_eq_getElem hkl⟩;obtain⟨zb,zo,rfl,aK⟩:=Z3.o ac;have aJ:=Aa (aH.o.trans (aO.o.trans aF.o));obtain⟨u,r,c0,c1,c2,hu,hr⟩:=aK k l hl;have c0:=aJ.o.cell c0;have c1:=aJ.o.cell c1;have c2:=aJ.o.cell c2;obtain⟨oa,oc,rfl,_,_,_⟩:=hu.open;obtain⟨ra,rc,rfl,_,_,_⟩:=hr.open;have i1:(0:Int)<=(k:Int):=by omega
    have i2:(k:Int)<(L.length:Int):=ac;have aB:=bA.o l (List.mem_of_getElem? hl);obtain⟨p,hp⟩:=nA l.pt;rw[hp]at c0;obtain⟨b0,b1,b2,eb⟩:=ER wr p (.slice oa l.orb.length oc) (.slice ra l.reps.length rc);have e1:IntKind.u64.wrap (l.orb.length:Int)=(l.orb.length:Int):=bt;obtain⟨aI,HN,bE,aP,aY,aZ,aX⟩:=OK (WR (wr.alloc (.cells #[.int .i64 p,.slice oa l.orb.length oc,.slice ra l.reps.length rc] 90)) l.orb.length ac) (hn.o.ex eb) eb (Md hl) (aQ.o (k+1) ac) (aQ.o k ac) (Gu (x:=l.orb.length) ac);clear aK hl hp hu hr eb hn;go_wp2_with (first|(go_at_call 42;refine aI.o.mono ?_;rintro e w5⟨⟨u5,rfl,aE⟩,aC⟩;obtain⟨_,_,_,_,h5⟩:=id aE;obtain⟨ya,yc,rfl,_,_,_⟩:=h5.open;have bC:=Aa (nMul2 (HN.o.ex aC) aE aZ.o aX.o (by rw[<-aP.o];exact aY.o) 56);have aU:=Aa aC;clear h5 aE aC)|(go_at_call 41;refine bC.o.mono ?_;rintro e w6⟨⟨u6,rfl,aM⟩,aL⟩;have aW:=Aa aM;have aT:=Aa aL;clear aM aL))
    have bD:=Aa (aF.o.trans (bE.o.trans (aU.o.trans aT.o)));have aV:=Aa (show Il w6 u6 (Iv (L.take (k+1))) from by
     rw[aP.o];exact aW.o)
    go_roundw
    case rel=>exact⟨k+1,ac,by go_num,aV,bD⟩
    case measure=>simp[intOf];omega
   .obtain rfl:k=L.length:=by omega
    have HN:=Aa (show Il wr (.slice pa pn pc) (Iv L) from by have:=hn.o;rwa[List.take_length]at this);go_wp2_with fail
    go_ret2;exact⟨.inr ⟨HE.o,_,rfl,HN.o⟩,aR.o.trans (aH.o.trans (aO.o.trans aF.o))⟩
 .have hb:(E !=0)=true:=by simpa using h0
  have HR:=Aa (show BA d L≠0 from by rw[hE];exact h0);have HE:=Aa hE;clear h0 hE aA;go_wp2_with fail
  go_ret2;exact⟨.inl ⟨HR.o,Z7 HE.o.symm⟩,aR.o.trans aH.o⟩
theorem YX(w:World)(pt:Int)(u v:Value)(YB QB i q:Nat)(hi:i<=64)(hq:1<=q)(hq2:q<=1048576)(h0:w.cell? ⟨YB,0,none⟩=some (.int .i64 i))(h1:w.cell? ⟨QB,0,none⟩=some (.int .i64 q)):
  Calls Tryz.prog 131 #[.agg #[.int .i64 pt,u,v],.pointer (some ⟨YB,0,none⟩),.pointer (some ⟨QB,0,none⟩)] w fun r w'=>r= .returned (.bool (pt==(i:Int)*((q:Int)-1)))/\Ex w w':=by
 have b0:(w.alloc (.cells #[.int .i64 pt,u,v] 90)).cell? ⟨w.heap.size,0,none⟩=some (.int .i64 pt):=ag;have HX:=Aa (AJ w (.cells #[.int .i64 pt,u,v] 90));replace h0:=HX.o.cell h0;replace h1:=HX.o.cell h1;have a1:(0:Int)<=(i:Int):=ac;have a2:(i:Int)<=64:=ac;have a3:(1:Int)<=(q:Int):=ac;have a4:(q:Int)<=1048576:=ac;have h2:wrap64 ((i:Int)*((q:Int)-1))=(i:Int)*((q:Int)-1):=by
  have m1:(0:Int)<=(i:Int)*((q:Int)-1):=Int.mul_nonneg a1 ac;have m2:(i:Int)*((q:Int)-1)<=64*1048576:=Int.mul_le_mul a2 ac ac ac;unfold wrap64;omega
 go_enter Tryz.func131,Tryz.ntmps131
 obtain⟨B,hB⟩:=nA w.heap.size;rw[hB]at b0;go_upto_region 1 with fail
 try simp only[hB]
 clear hB;generalize w.alloc (.cells #[.int .i64 pt,u,v] 90)=w1 at *;exact zc0
theorem LZ(w:World)(YB QB i0 q:Nat)(hi:i0<=64)(hq:1<=q)(aC:q<=1048576)(h0:w.cell? ⟨YB,0,none⟩=some (.int .i64 i0))(h1:w.cell? ⟨QB,0,none⟩=some (.int .i64 q))(L:List Lv)(v:Value)(hL:EF w v L)(pr:Nat->Bool)
  (hp:∀(j:Nat) (l:Lv),L[j]?=some l->pr j=(l.pt==(i0:Int)*((q:Int)-1))):
  Calls Tryz.prog 130 #[v,.func (.func 131) #[] #[.pointer (some ⟨YB,0,none⟩),.pointer (some ⟨QB,0,none⟩)]] w fun r w'=>r= .returned (.int .i64 (Cz pr L.length))/\Ex w w':=by
 obtain⟨a,cap,rfl,s1,s2,s3⟩:=hL.open3;have S3:=Aa s3;have HP:=Aa hp;have aE:=Aa (fun (w1:World) (h:Ex w w1) (pt:Int) (u v:Value)=>YX w1 pt u v YB QB i0 q hi hq aC (h.cell h0) (h.cell h1));obtain⟨n,hn⟩:=nA L.length;have HL:=Aa hn;rw[hn]at S3 s1 ⊢;unfold maxLen at s2;clear s3 hp hn hL h0 h1;go_enter Tryz.func130,Tryz.ntmps130
 go_wp2_with fail
 go_loopg [5,8] n (fun gg _ i' wr=>∃i:Nat,i<=n/\n-i<=gg/\i'= .int .i64 i/\Hia (Ex w wr)/\Hia (∀j,j<i->pr j=false))
 case atStart=>exact⟨0,ac,ac,rfl,Aa (Ex.refl _),Aa (fun j hj=>ac)⟩
 case round=>
  obtain⟨i,hi,hg,rfl,aA,aB⟩:=hrel;by_cases hlt:i<n
  .obtain⟨l,hl⟩:∃l,L[i]?=some l:=⟨_,List.getElem?_eq_getElem a8⟩;obtain⟨bb,o,rfl,hc⟩:=S3.o ac;obtain⟨u,r,c0,c1,c2,-,-⟩:=hc i l hl;replace c0:=aA.o.cell c0;replace c1:=aA.o.cell c1;replace c2:=aA.o.cell c2;have aD:=Aa (HP.o i l hl);have HC:=Aa (aE.o wr aA.o l.pt u r);have i1:(0:Int)<=(i:Int):=by omega
   have hlt':(i:Int)<(n:Int):=ac;rw[<-aD.o]at HC;clear hc hl
   cases hb:pr i with
   | true=>
    rw[hb]at HC;have HF:=Aa (CH hlt hb aB.o);clear hb;go_wp2_with (go_at_call 131;refine HC.o.mono ?_;rintro e w'⟨rfl,hx⟩;have HX:=Aa (aA.o.trans hx);clear hx)
    exact zc6
   | false=>
    rw[hb]at HC;have HA:=Aa (show ∀j,j<i+1->pr j=false from fun j hj=>by
     by_cases e:j=i
     .subst e;exact hb
     .exact aB.o j ac)
    clear hb;go_wp2_with (go_at_call 131;refine HC.o.mono ?_;rintro e w'⟨rfl,hx⟩;have HX:=Aa (aA.o.trans hx);clear hx)
    exact zbR
  .obtain rfl:i=n:=by omega
   have HF:=Aa (B9 aB.o);go_wp2_with fail
   go_ret;exact⟨Ah HF.o.symm,aA.o⟩
theorem ZV:RL:=by
 intro w base v l hv h1 h2;rcases hv.2 with⟨_,h0⟩|⟨g,cap,cur,rfl,hbase,hb,c1,c2,c3,c4⟩
 .omega
 .have aA:cur.toList.take l.length=l.map (Value.int .i64):=by simpa[Ao]using c4
  have hg:g<w.heap.size:=(Array.getElem?_eq_some_iff.1 hb).1;refine(Tryz.slices_Sort_int g 0 cap l w (holds_of_blockI hb aA) hg ac).mono ?_;rintro e w'⟨rfl,n,os,rfl⟩;have hl:(l.mergeSort fun x y=>decide (x<=y)).length=l.length:=List.length_mergeSort _;exact⟨rfl,ownsRow_sortedI hl hbase hb c1 c2 c3,grownBy_sortedI _⟩
def V6(A:Nat->Nat->Nat)(b x i:Nat):Bool:=fixB b (A i)&&(A i b==x)
def TQ(n m:Nat)(A:Nat->Nat->Nat)(b:Nat):List Nat:=(List.range n).filter fun x=>(List.range m).any (V6 A b x)
def YU(m:Nat)(A:Nat->Nat->Nat)(b x:Nat):Nat:=((List.range m).find? (V6 A b x)).getD 0
def Yn(n m:Nat)(A:Nat->Nat->Nat)(b:Nat):Lv:=⟨b,Dy (TQ n m A b),(TQ n m A b).map fun x=>li n (A (YU m A b x))⟩
def chnA(n m:Nat)(A:Nat->Nat->Nat)(k:Nat):List Lv:=((List.range k).map (Yn n m A)).filter fun l=>decide (1<l.orb.length)
theorem Hy{A:Nat->Nat->Nat}{b x i:Nat}:V6 A b x i=true↔AW b (A i)/\A i b=x:=by
 unfold V6;rw[Bool.and_eq_true,Wg,beq_iff_eq]
theorem WK{n m:Nat}{S:List (Nat->Nat)}{A:Nat->Nat->Nat}(h:Ov n m S A){b x:Nat}:(List.range m).any (V6 A b x)=true↔∃f,Gn S f/\AW b f/\f b=x:=by
 rw[List.any_eq_true];constructor
 .rintro⟨i,hi,e⟩;have:=Hy.1 e;exact⟨A i,(h.all _).2 ⟨i,List.mem_range.1 hi,rfl⟩,this⟩
 .rintro⟨f,h1,h2,h3⟩;obtain⟨i,hi,rfl⟩:=(h.all f).1 h1;exact⟨i,List.mem_range.2 hi,Hy.2 ⟨h2,h3⟩⟩
open Classical in
theorem Yb {n m:Nat} {S:List (Nat->Nat)} {A:Nat->Nat->Nat} (h:Ov n m S A) (b:Nat):Bq S b n=TQ n m A b:=by
 unfold Bq TQ;apply List.filter_congr;intro x _;rw[Bool.eq_iff_iff,decide_eq_true_eq,WK h]
theorem Wh{n m:Nat}{S:List (Nat->Nat)}{A:Nat->Nat->Nat}(h:Ov n m S A)(hS:∀s∈S,Bw n s){b x i:Nat}(hi:i<m)(h1:AW b (A i))(h2:A i b=x)(h3:∀j,j<i->¬(AW b (A j)/\A j b=x)):FY n S b x=A i:=
 JF hS (h.least hi h1 h2 h3)
theorem Rr{m:Nat}{p:Nat->Bool}(h:∃i,i<m/\p i=true):∃i,i<m/\p i=true/\(∀j,j<i->p j=false)/\(List.range m).find? p=some i:=by
 obtain⟨i0,aD,aB⟩:=h
 cases hf:(List.range m).find? p with
 | none=>exact absurd (List.find?_eq_none.1 hf i0 (List.mem_range.2 aD)) (by simp[aB])
 | some i=>
  have h1:=List.find?_some hf;have h2:=List.mem_range.1 (List.mem_of_find?_eq_some hf);refine⟨i,h2,h1,fun j hj=>?_,rfl⟩;rw[List.find?_eq_some_iff_append]at hf;obtain⟨_,as',bs,e,aA⟩:=hf;have hlen:as'.length=i:=by
   have h3:=congrArg (fun l=>l[as'.length]?) e;simp only[List.getElem?_append_right (Nat.le_refl _),Nat.sub_self,List.getElem?_cons_zero]at h3;have h4:=(List.getElem?_eq_some_iff.1 h3);obtain⟨h5,h6⟩:=h4;simpa using h6
  have aC:j∈as':=by
   have h3:=congrArg (fun l=>l[j]?) e;simp only[List.getElem?_append_left (show j<as'.length by omega)]at h3;rw[List.getElem?_eq_getElem aq]at h3;have h4:(List.range m)[j]'aq=j:=by simp
   rw[h4]at h3;exact List.mem_of_getElem? h3.symm
  have:=aA j aC;simpa using this
theorem YT{n m:Nat}{S:List (Nat->Nat)}{A:Nat->Nat->Nat}(h:Ov n m S A)(hS:∀s∈S,Bw n s){b x:Nat}(hx:x∈TQ n m A b):FY n S b x=A (YU m A b x):=by
 unfold TQ at hx;have h1:=(List.mem_filter.1 hx).2;obtain⟨i0,aA,e0⟩:=List.any_eq_true.1 h1;obtain⟨i,hi,h2,h3,h4⟩:=Rr ⟨i0,List.mem_range.1 aA,e0⟩;have hf:YU m A b x=i:=by unfold YU;rw[h4];rfl
 rw[hf];have h5:=Hy.1 h2;exact Wh h hS hi h5.1 h5.2 fun j hj k=>by
  have:=h3 j hj;rw[Hy.2 k]at this;cases this
theorem Ym{n m:Nat}{S:List (Nat->Nat)}{A:Nat->Nat->Nat}(h:Ov n m S A)(hS:∀s∈S,Bw n s)(b:Nat):E7 n S b=Yn n m A b:=by
 unfold E7 Yn DE;rw[Yb h]
 congr 1
 exact List.map_congr_left fun x hx=>by rw[YT h hS hx]
theorem Y6{n m:Nat}{S:List (Nat->Nat)}{A:Nat->Nat->Nat}(h:Ov n m S A)(hS:∀s∈S,Bw n s)(k:Nat):Co n S k=chnA n m A k:=by
 unfold Co chnA;rw[show E7 n S=Yn n m A from funext (Ym h hS)]
theorem NK{l:List Int}(h:Cb l=0):Bw l.length (Dg l):=by
 obtain⟨n,f,_,_,h1,h2,rfl⟩:=Nr h;rw[KQ h2,h1];exact h2
theorem ND{l:List Int}(h:Cb l=0):li l.length (Dg l)=l:=by
 obtain⟨n,f,_,_,h1,h2,rfl⟩:=Nr h;rw[KQ h2,h1]
theorem SW{n:Nat}{p q:List Int}(hp:Cb p=0)(hq:Cb q=0)(h1:p.length=n)(h2:q.length=n):Dg (Zo p q)=Ar (Dg p) (Dg q):=by
 have e1:=ND hp;have e2:=ND hq;have k1:=NK hp;have k2:=NK hq;rw[h1]at e1 k1;rw[h2]at e2 k2;have:Zo p q=li n (Ar (Dg p) (Dg q)):=by
  conv=>lhs;rw[<-e1,<-e2]
  exact ZP k1.lt
 rw[this,KQ (k1.comp k2)]
def wordL(n:Nat)(gens:List (List Int))(w:List Nat):List Int:=w.foldl (fun p k=>Zo p (gens.getD k [])) (unL n)
theorem Mw{n:Nat}{T gens:List (List Int)}(W:List (List Nat))(h1:∀r∈T,Cb r=0/\r.length=n)(h2:∀r∈gens,Cb r=0/\r.length=n)(hn:n<=64)(hn1:1<=n)(hu:unL n∈T)(hc:∀r∈T,∀s∈gens,Zo r s∈T)(hw:T=W.map (wordL n gens))(aF:∀w∈W,∀k∈w,k<gens.length)(f:Nat->Nat):
  Gn (gens.map Dg) f↔∃r∈T,Dg r=f:=by
 have aC:Dg (unL n)=EN:=KQ (FD n);constructor
 .intro h
  induction h with
  | one=>exact⟨_,hu,aC⟩
  | step _ hs ih=>
   obtain⟨r,hr,e⟩:=ih;obtain⟨s,aB,e2⟩:=List.mem_map.1 hs;exact⟨Zo r s,hc r hr s aB,by rw[SW (h1 r hr).1 (h2 s aB).1 (h1 r hr).2 (h2 s aB).2,e,e2]⟩
 .rintro⟨r,hr,rfl⟩;rw[hw]at hr;obtain⟨w,aG,rfl⟩:=List.mem_map.1 hr;have aE:∀(w:List Nat) (p:List Int),p∈T->Gn (gens.map Dg) (Dg p)->(∀k∈w,k<gens.length)->Gn (gens.map Dg) (Dg (w.foldl (fun p k=>Zo p (gens.getD k [])) p)):=by
   intro w
   induction w with
   | nil=>exact fun p _ h _=>h
   | cons k w ih=>
    intro p hp hg hk;have aD:=hk k ag;have aA:gens.getD k []∈gens:=by
     rw[List.getD_eq_getElem?_getD,List.getElem?_eq_getElem aD];exact List.getElem_mem aD
    rw[List.foldl_cons];refine ih _ (hc p hp _ aA) ?_ fun j hj=>hk j (by simp[hj]);rw[SW (h1 p hp).1 (h2 _ aA).1 (h1 p hp).2 (h2 _ aA).2];exact hg.step (List.mem_map.2 ⟨_,aA,rfl⟩)
  exact aE w (unL n) hu (by rw[aC];exact .one) (aF w aG)
def JC(p m:Nat)(ml pl sl:List Int):Nat->Nat:=Dg (OA p m ml pl sl)
theorem Fg{N Q k:Nat}(hk:k<N*Q):∃i c,i<N/\c<Q/\k=i*Q+c:=by
 have hQ:0<Q:=by
  apply Nat.pos_of_ne_zero;intro e;rw[e,Nat.mul_zero]at hk;omega
 refine⟨k/Q,k%Q,Nat.div_lt_of_lt_mul (by rw[Nat.mul_comm];exact hk),Nat.mod_lt _ hQ,?_⟩;rw[Nat.mul_comm];exact(Nat.div_add_mod k Q).symm
theorem Vi{N Q i c:Nat}(hi:i<N)(hc:c<Q):i*Q+c<N*Q:=by
 have:=Nat.mul_le_mul_right Q (show i+1<=N from hi);rw[Nat.succ_mul]at this;omega
theorem QY{Q i j c d:Nat}(hc:c<Q)(hd:d<Q)(h:i*Q+c=j*Q+d):i=j/\c=d:=by
 have h1:=congrArg (·/ Q) h;simp only[Nat.mul_comm _ Q]at h1;rw[Nat.mul_add_div ac,Nat.mul_add_div ac,Nat.div_eq_of_lt hc,Nat.div_eq_of_lt hd,Nat.add_zero,Nat.add_zero]at h1;subst h1;exact⟨rfl,ac⟩
section
variable {p m N:Nat} {ml pl sl ql tl:List Int}
theorem DH(h:BD p m ml pl sl 0 N){i c:Nat}(hi:i<N)(hc:c<p^m-1):∃z:Nat,sl.getD i 0=z/\1<=z/\z<p^m/\1<=Ai p m (lw ml) z (c+1)/\Ai p m (lw ml) z (c+1)<p^m/\JC p m ml pl sl (i*(p^m-1)+c)=BV pl i*(p^m-1)+(Ai p m (lw ml) z (c+1)-1):=by
 obtain⟨z,hz,h1,h2⟩:=h.sc i hi;have k1:=h.hF.ne_zero h.hp h.hm h1 h2 (show 1<=c+1 by omega) (show c+1<p^m by omega);have k2:=AR (p:=p) (m:=m) (low:=lw ml) (by have:=h.hp;omega) z (c+1);have aA:=Vi hi hc;refine⟨z,hz,h1,h2,k1,k2,?_⟩;unfold JC Dg OA;rw[An,h.pll,if_pos aA,List.getD_eq_getElem?_getD,AH aA];show(Qy p m ml pl sl (i*(p^m-1)+c)).toNat=_
 unfold Qy;have hQ:0<p^m-1:=ac;rw[Nat.mul_comm i,Nat.mul_add_div hQ,Nat.mul_add_mod,Nat.div_eq_of_lt hc,Nat.mod_eq_of_lt hc,Nat.add_zero,hz,Ax h2];omega
theorem XT(h:BD p m ml pl sl 0 N){k:Nat}(hk:N*(p^m-1)<=k):JC p m ml pl sl k=k:=by
 unfold JC Dg OA;rw[An,h.pll,if_neg ac]
theorem DR(h:BD p m ml pl sl 0 N):Bw (N*(p^m-1)) (JC p m ml pl sl):=by
 refine Bw.of_inj (fun k hk=>?_) (fun k hk=>XT h hk) fun a b ha hb e=>?_
 .obtain⟨i,c,hi,hc,rfl⟩:=Fg hk;obtain⟨z,hz,h1,h2,h3,h4,h5⟩:=DH h hi hc;rw[h5];exact Vi (h.inj.lt i hi) ac
 .obtain⟨i,c,hi,hc,rfl⟩:=Fg ha;obtain⟨j,d,hj,hd,rfl⟩:=Fg hb;obtain⟨z,hz,h1,h2,h3,h4,h5⟩:=DH h hi hc;obtain⟨y,hy,g1,g2,g3,g4,g5⟩:=DH h hj hd;rw[h5,g5]at e;obtain⟨e1,e2⟩:=QY ac ac e;obtain rfl:=h.inj.inj i j hi hj e1;have aA:z=y:=by rw[hz]at hy;exact_mod_cast hy
  subst aA;have e3:Ai p m (lw ml) (c+1) z=Ai p m (lw ml) (d+1) z:=by rw[AS (c+1),AS (d+1)];omega
  have:=h.hF.cancel h.hp h.hm h1 h2 (show c+1<p^m by omega) (show d+1<p^m by omega) e3;omega
theorem ptF_li(h:BD p m ml pl sl 0 N):li (N*(p^m-1)) (JC p m ml pl sl)=OA p m ml pl sl:=by
 unfold li;have hl:(OA p m ml pl sl).length=N*(p^m-1):=by unfold OA;rw[An,h.pll]
 refine il_own hl fun k hk=>?_;have hP:=(DR h);unfold JC Dg;rw[hl,if_pos hk];have:(OA p m ml pl sl).getD k 0=Qy p m ml pl sl k:=by
  unfold OA;rw[h.pll,List.getD_eq_getElem?_getD,AH hk];rfl
 rw[this];obtain⟨z,z1,z2,z3,zi,zp,zf⟩:=TS h hk;rw[zf];omega
theorem XV(h:BD p m ml pl sl 0 N)(k:BD p m ml ql tl 0 N):JC p m ml (il N (cP pl ql)) (il N (cS p m ml pl sl tl 0))=Ar (JC p m ml pl sl) (JC p m ml ql tl):=by
 have hc:BD p m ml (il N (cP pl ql)) (il N (cS p m ml pl sl tl 0)) 0 N:=by
  have:=WD h k
  rwa[show(0+0)%m=0 from ag]at this
 refine Hx (n:=N*(p^m-1)) (DR hc) ((DR h).comp (DR k)) fun x hx=>?_;obtain⟨i,c,hi,aA,rfl⟩:=Fg hx;obtain⟨z,hz,h1,h2,h3,h4,h5⟩:=DH h hi aA;obtain⟨y,hy,g1,g2,g3,g4,g5⟩:=DH k (h.inj.lt i hi) (show Ai p m (lw ml) z (c+1)-1<p^m-1 by omega);obtain⟨x,hx,f1,f2,f3,f4,f5⟩:=DH hc hi aA;show _=JC p m ml ql tl (JC p m ml pl sl (i*(p^m-1)+c))
 rw[h5,g5,f5,K6 h hi];rw[DN hi]at hx;unfold cS at hx;rw[hz,hy,Ax h2,Ax g2]at hx;have aB:x=Ai p m (lw ml) y z:=by exact_mod_cast hx.symm
 rw[aB,show Ai p m (lw ml) z (c+1)-1+1=Ai p m (lw ml) z (c+1) from ac,AY (by have:=h.hp;omega)]
theorem Ho(h:BD p m ml pl sl 0 N)(hn:∀i,i<N->0<=pl.getD i 0){i:Nat}(hi:i<=N):AW (i*(p^m-1)) (JC p m ml pl sl)↔∀k,k<i->pl.getD k 0=(k:Int)/\sl.getD k 0=1:=by
 constructor
 .intro hf k hk;obtain⟨z,hz,h1,h2⟩:=h.sc k ac;have hQ:0<p^m-1:=by omega
  obtain⟨z',aA,_,_,h3,h4,h5⟩:=DH h (show k<N by omega) hQ;have aB:z'=z:=by rw[hz]at aA;exact_mod_cast aA.symm
  subst aB;have:=hf (k*(p^m-1)+0) (Vi hk hQ);rw[h5]at this;obtain⟨e1,e2⟩:=QY ac hQ this;rw[Nat.zero_add,Bh h.hp h.hm h2]at e2 h3;have:=hn k ac;unfold BV at e1;exact⟨ac,by rw[hz];omega⟩
 .intro hf k hk;obtain⟨j,c,hj,hc,rfl⟩:=Fg hk;obtain⟨z,hz,h1,h2,h3,h4,h5⟩:=DH h (show j<N by omega) hc;obtain⟨e1,e2⟩:=hf j hj;have aC:z=1:=by rw[e2]at hz;exact_mod_cast hz.symm
  subst aC;rw[h5,Bt h.hp h.hm (show c+1<p^m by omega)];unfold BV;rw[e1];simp
end
def tF(p m:Nat)(ml pl sl:List Int)(x:Nat->Int)(j:Nat):Int:=((Ai p m (lw ml) (Au (p^m) (sl.getD j 0)) (Au (p^m) (x (BV pl j))):Nat):Int)
section
variable {p m n:Nat} {ml:List Int} {l1 l2 l3:List (List Int)} {pl sl ql tl:List Int}
theorem ZA(hp:2<=p)(hi:FO n (BV pl))(v x:Nat->Int):dt p m ml n (plc (BV pl) (Gd p m ml sl v) n) x=dt p m ml n v (tF p m ml pl sl x):=by
 have h1:1<=p:=ac;rw[N6 h1 hi,EP,EP];refine Ep n fun j hj=>?_;unfold Gd tF;rw[Ax (AR h1 _ _),Ax (AR h1 _ _),AS (Au (p^m) (sl.getD j 0)),AY h1]
theorem Rx(v:Nat->Int){x y:Nat->Int}(h:∀j,j<n->Au (p^m) (x j)=Au (p^m) (y j)):dt p m ml n v x=dt p m ml n v y:=by
 rw[EP,EP];exact Ep n fun j hj=>by rw[h j hj]
theorem Jy{R:Nat}(a:Nat->Nat->Int){x y:Nat->Int}(h:∀j,j<n->Au (p^m) (x j)=Au (p^m) (y j)):Bz p m ml n R a x↔Bz p m ml n R a y:=
 ⟨fun k i hi=>by rw[<-Rx (ml:=ml) (a i) h];exact k i hi,fun k i hi=>by rw[Rx (ml:=ml) (a i) h];exact k i hi⟩
theorem Ej(hp:2<=p)(h1:pl.length=n)(h2:sl.length=n)(h3:∀i,i<n->0<=pl.getD i 0)(h4:FO n (BV pl))(h5:∀i,i<n->∃z:Nat,sl.getD i 0=z/\1<=z/\z<p^m):
  Bd p m ml n l1 l2 pl sl↔∀x,Bz p m ml n l2.length (Ak l2) x↔Bz p m ml n l1.length (Ak l1) (tF p m ml pl sl x):=by
 have e:∀x,Bz p m ml n l1.length (fun i=>plc (BV pl) (Gd p m ml sl (Ak l1 i)) n) x↔Bz p m ml n l1.length (Ak l1) (tF p m ml pl sl x):=fun x=>by
  constructor
  .intro h i hi;rw[<-ZA hp h4];exact h i hi
  .intro h i hi;show dt p m ml n (plc (BV pl) (Gd p m ml sl (Ak l1 i)) n) x=0
   rw[ZA hp h4];exact h i hi
 exact⟨fun h x=>(h.sol x).trans (e x),fun h=>⟨h1,h2,h3,h4,h5,fun x=>(h x).trans (e x).symm⟩⟩
theorem Bd.solT(hp:2<=p)(h:Bd p m ml n l1 l2 pl sl)(x:Nat->Int):Bz p m ml n l2.length (Ak l2) x↔Bz p m ml n l1.length (Ak l1) (tF p m ml pl sl x):=
 (Ej hp h.pll h.sll h.nn h.inj h.sc).1 h x
structure FL(p m:Nat)(ml:List Int)(n:Nat):Prop where
 hp:2<=p
 hm:1<=m
 hF:FZ p m (lw ml)
 n1:1<=n
 n2:n<=64
theorem Bd.mon(hW:FL p m ml n)(h:Bd p m ml n l1 l2 pl sl):BD p m ml pl sl 0 n:=⟨hW.hp,hW.hm,hW.hF,hW.n1,hW.n2,h.pll,h.sll,h.inj,h.sc,by have:=hW.hm;omega⟩
theorem cmp_nn(h:BD p m ml pl sl 0 n)(kn:∀i,i<n->0<=ql.getD i 0):∀i,i<n->0<=(il n (cP pl ql)).getD i 0:=fun i hi=>by
 rw[DN hi];exact kn _ (h.inj.lt i hi)
theorem mon0(h:BD p m ml pl sl ((0+0)%m) n):BD p m ml pl sl 0 n:=by rwa[show(0+0)%m=0 from ag]at h
theorem Bd.comp(hW:FL p m ml n)(h:Bd p m ml n l1 l2 pl sl)(k:Bd p m ml n l2 l3 ql tl):Bd p m ml n l1 l3 (il n (cP pl ql)) (il n (cS p m ml pl sl tl 0)):=by
 have hc:=mon0 (WD (h.mon hW) (k.mon hW));have h1:1<=p:=by have:=hW.hp;omega
 refine(Ej hW.hp hc.pll hc.sll (cmp_nn (h.mon hW) k.nn) hc.inj hc.sc).2 fun x=>?_;rw[k.solT hW.hp,h.solT hW.hp];refine Jy _ fun j hj=>?_;unfold tF;rw[DN hj,K6 (h.mon hW) hj];obtain⟨s,hs,hs1,aB⟩:=h.sc j hj;obtain⟨t,ht,ht1,aA⟩:=k.sc _ (h.inj.lt j hj);unfold cS;rw[hs,ht,Ax aB,Ax aA];show _=Au (p^m) ((Ai p m (lw ml) (Au (p^m) ((Ai p m (lw ml) t s:Nat):Int)) _:Nat):Int)
 rw[Ax (AR h1 _ _),Ax (AR h1 _ _),Ax (AR h1 _ _),Ax (AR h1 _ _),AS t s,AY h1]
theorem Bd.inv(hW:FL p m ml n)(h:Bd p m ml n l1 l2 pl sl):Bd p m ml n l2 l1 (il n (plc (BV pl) (fun i=>(i:Int)) n)) (il n (plc (BV pl) (ivS p m ml sl 0) n)):=by
 have hM:=h.mon hW;have hv:=VU hM 0 (by have:=hW.hm;omega);have h1:1<=p:=by have:=hW.hp;omega
 refine(Ej hW.hp hv.pll hv.sll (fun j hj=>?_) hv.inj hv.sc).2 fun x=>?_
 .obtain⟨i,hi,rfl⟩:=h.inj.surj hj;rw[KB hM _ hi];omega
 .rw[h.solT hW.hp];refine Jy _ fun j hj=>?_;unfold tF;rw[KB hM _ hj,Kz hM hj];obtain⟨s,hs,aB,aA⟩:=h.sc j hj;obtain⟨k1,k2,k3⟩:=NG hW.hp hW.hm hW.hF aB aA;unfold ivS;rw[hs,Ax aA];show Au (p^m) (x j)=Au (p^m) ((Ai p m (lw ml) s (Au (p^m) ((Ai p m (lw ml) (Au (p^m) ((DY p m ml s:Nat):Int)) (Au (p^m) (x j)):Nat):Int)):Nat):Int)
  rw[Ax k2,Ax (AR h1 _ _),Ax (AR h1 _ _),<-AY h1,k3,Bt hW.hp hW.hm (BB (Nat.pow_pos ac) _)]
theorem XU(h:BD p m ml pl sl 0 n):JC p m ml (il n (plc (BV pl) (fun i=>(i:Int)) n)) (il n (plc (BV pl) (ivS p m ml sl 0) n))=A8 (n*(p^m-1)) (JC p m ml pl sl):=by
 have hv:=VU h 0 (by have:=h.hm;omega);have h1:1<=p:=by have:=h.hp;omega
 refine(DR h).inv_unique (Hx (n:=n*(p^m-1)) ((DR h).comp (DR hv)) (FD _) fun x hx=>?_);obtain⟨i,c,hi,hc,rfl⟩:=Fg hx;obtain⟨z,hz,g1,g2,g3,g4,g5⟩:=DH h hi hc;obtain⟨y,hy,f1,f2,f3,f4,f5⟩:=DH hv (h.inj.lt i hi) (show Ai p m (lw ml) z (c+1)-1<p^m-1 by omega);show JC p m ml _ _ (JC p m ml pl sl (i*(p^m-1)+c))=i*(p^m-1)+c
 rw[g5,f5,Kz h hi];rw[KB h _ hi]at hy;obtain⟨k1,k2,k3⟩:=NG h.hp h.hm h.hF g1 g2;unfold ivS at hy;rw[hz,Ax g2]at hy;have aA:y=DY p m ml z:=by
  have:((SV p m (lw ml) (DY p m ml z) 0:Nat):Int)=((DY p m ml z:Nat):Int):=rfl;rw[this]at hy
  exact_mod_cast hy.symm
 rw[aA,show Ai p m (lw ml) z (c+1)-1+1=Ai p m (lw ml) z (c+1) from ac,<-AY h1,AS (DY p m ml z),k3,Bt h.hp h.hm (show c+1<p^m by omega)];omega
theorem VB(hW:FL p m ml n):BD p m ml (KJ n) (Lk n) 0 n where
 hp:=hW.hp
 hm:=hW.hm
 hF:=hW.hF
 n1:=hW.n1
 n2:=hW.n2
 pll:=FG n
 sll:=Fz n
 inj:=by
  have e:∀i,i<n->BV (KJ n) i=i:=fun i hi=>by
   unfold BV KJ;rw[List.getD_eq_getElem?_getD,List.getElem?_map,List.getElem?_range hi];simp
  exact⟨fun i hi=>by rw[e i hi];exact hi,fun i j hi hj h=>by rw[e i hi,e j hj]at h;exact h⟩
 sc:=fun i hi=>⟨1,by unfold Lk;rw[List.getD_eq_getElem?_getD,List.getElem?_replicate,if_pos hi];rfl,Nat.le_refl _,Bb hW.hp hW.hm⟩
 frm:=by have:=hW.hm;omega
theorem NP{i:Nat}(hi:i<n):(KJ n).getD i 0=(i:Int):=by
 unfold KJ;rw[List.getD_eq_getElem?_getD,List.getElem?_map,List.getElem?_range hi];simp
theorem Vs{i:Nat}(hi:i<n):(Lk n).getD i 0=1:=by
 unfold Lk;rw[List.getD_eq_getElem?_getD,List.getElem?_replicate,if_pos hi];rfl
theorem Bd.id(hW:FL p m ml n)(l:List (List Int)):Bd p m ml n l l (KJ n) (Lk n):=by
 have h:=VB hW;refine(Ej hW.hp h.pll h.sll (fun i hi=>by rw[NP hi];omega) h.inj h.sc).2 fun x=>Jy _ fun j hj=>?_;unfold tF BV;have h1:1<=p:=by have:=hW.hp;omega
 rw[NP hj,Vs hj];show Au (p^m) (x j)=Au (p^m) ((Ai p m (lw ml) (Au (p^m) ((1:Nat):Int)) (Au (p^m) (x j)):Nat):Int)
 rw[Ax (Bb hW.hp hW.hm),Bt hW.hp hW.hm (BB (Nat.pow_pos ac) _),Ax (BB (Nat.pow_pos ac) _)]
theorem ptF_id(hW:FL p m ml n):JC p m ml (KJ n) (Lk n)=EN:=by
 have h:=VB hW;exact AW.all (DR h) ((Ho h (fun i hi=>by rw[NP hi];omega) (Nat.le_refl _)).2 fun k hk=>⟨NP hk,Vs hk⟩)
def Gq(p m:Nat)(ml:List Int)(n:Nat)(l1 l2:List (List Int))(f:Nat->Nat):Prop:=∃pl sl,Bd p m ml n l1 l2 pl sl/\f=JC p m ml pl sl
theorem Gq.isP(hW:FL p m ml n){f:Nat->Nat}(h:Gq p m ml n l1 l2 f):Bw (n*(p^m-1)) f:=by
 obtain⟨pl,sl,h,rfl⟩:=h;exact DR (h.mon hW)
theorem Gq.comp(hW:FL p m ml n){f g:Nat->Nat}(h:Gq p m ml n l1 l2 f)(k:Gq p m ml n l2 l3 g):Gq p m ml n l1 l3 (Ar f g):=by
 obtain⟨pl,sl,h,rfl⟩:=h;obtain⟨ql,tl,k,rfl⟩:=k;exact⟨_,_,h.comp hW k,(XV (h.mon hW) (k.mon hW)).symm⟩
theorem Gq.inv(hW:FL p m ml n){f:Nat->Nat}(h:Gq p m ml n l1 l2 f):Gq p m ml n l2 l1 (A8 (n*(p^m-1)) f):=by
 obtain⟨pl,sl,h,rfl⟩:=h;exact⟨_,_,h.inv hW,(XU (h.mon hW)).symm⟩
theorem Gq.grp(hW:FL p m ml n)(l:List (List Int)):WT (n*(p^m-1)) (Gq p m ml n l l):=
 ⟨⟨_,_,Bd.id hW l,(ptF_id hW).symm⟩,fun f g hf hg=>hf.comp hW hg,fun f hf=>hf.inv hW,fun f hf=>hf.isP hW⟩
theorem Gq.fx(hW:FL p m ml n){f:Nat->Nat}(h:Gq p m ml n l1 l2 f){i:Nat}(hi:i<n)(hf:AW (i*(p^m-1)) f)(he:f (i*(p^m-1))=i*(p^m-1)):AW ((i+1)*(p^m-1)) f:=by
 obtain⟨pl,sl,h,rfl⟩:=h;have hM:=h.mon hW;refine(Ho hM h.nn ac).2 fun k hk=>?_;by_cases e:k=i
 .subst e;obtain⟨z,hz,h1,h2⟩:=h.sc k hi;have hQ:0<p^m-1:=by omega
  obtain⟨z',aA,_,_,h3,h4,h5⟩:=DH hM hi hQ;have aB:z'=z:=by rw[hz]at aA;exact_mod_cast aA.symm
  subst aB;rw[Nat.add_zero]at h5;rw[h5]at he;obtain⟨e1,e2⟩:=QY (Q:=p^m-1) (i:=BV pl k) (j:=k) (c:=Ai p m (lw ml) z' (0+1)-1) (d:=0) ac hQ (by rw[he,Nat.add_zero]);rw[Nat.zero_add,Bh hM.hp hM.hm h2]at e2 h3;have:=h.nn k hi;unfold BV at e1;exact⟨ac,by rw[hz];omega⟩
 .exact(Ho hM h.nn (Nat.le_of_lt hi)).1 hf k ac
end
theorem QG{n N Q:Nat}(hn:n=N*Q){H:(Nat->Nat)->Prop}(hG:WT n H)(aF:∀i f,i<N->H f->AW (i*Q) f->f (i*Q)=i*Q->AW ((i+1)*Q) f){S:List (Nat->Nat)}(hS:∀s∈S,H s)
  (hc:∀i f,i<N->H f->AW (i*Q) f->∃s,Gn S s/\AW (i*Q) s/\s (i*Q)=f (i*Q)) (f:Nat->Nat):Gn S f↔H f:=by
 refine⟨fun h=>h.sub hG hS,?_⟩;have hSP:∀s∈S,Bw n s:=fun s hs=>hG.isP s (hS s hs);have aC:∀d i f,i+d=N->H f->AW (i*Q) f->Gn S f:=fun d=>by
  induction d with
  | zero=>
   intro i f hi hf hx;obtain rfl:i=N:=ac;rw[<-hn]at hx;rw[AW.all (hG.isP f hf) hx];exact .one
  | succ d ih=>
   intro i f hi hf hx;obtain⟨s,hs,aD,aE⟩:=hc i f ac hf hx;have aB:=hs.sub hG hS;have aA:=hG.isP s aB;have h1:H (Ar f (A8 n s)):=hG.mul _ _ hf (hG.inv _ aB);have h2:AW (i*Q) (Ar f (A8 n s)):=hx.comp (aD.inv aA);have h3:Ar f (A8 n s) (i*Q)=i*Q:=by
    show A8 n s (f (i*Q))=i*Q
    rw[<-aE];exact aA.inv_l _
   have h4:=ih (i+1) _ ac h1 (aF i _ ac h1 h2 h3);have h5:Ar (Ar f (A8 n s)) s=f:=aA.cancel;rw[<-h5];exact h4.mul hs
 intro hf;exact aC N 0 f ac hf fun i hi=>by rw[Nat.zero_mul]at hi;omega
structure Ew(p m:Nat)(ml:List Int)(N:Nat)(l:List (List Int)):Prop where
 co:BN p m ml N l 0
 hd:N*(p^m-1)<=64
 sm:Us N (p^m)
 hq:p^m<=16
section
variable {p m N:Nat} {ml:List Int} {l:List (List Int)}
theorem Ew.two(h:Ew p m ml N l):FL p m ml N/\UA p m ml N l l/\GD p m ml/\l.length<=256:=by
 obtain⟨p1,m1,N1,g1,g2,g3,aA,hI,n1,aC,aB,q2⟩:=Gk h.co;obtain rfl:p=p1:=ac;obtain rfl:m=m1:=ac;obtain rfl:N=N1:=ac;exact⟨⟨aA.p2,aA.m1,hI,n1,aC⟩,⟨aA.p2,aA.m1,hI,q2,q2⟩,aA,aB⟩
theorem Ew.n7(h:Ew p m ml N l):N<=7:=by
 have:=h.two.1.n2;apply Classical.byContradiction;intro h7;rcases h.sm.1 (.inr ac) with h|h <;> omega
theorem YJ{q:Nat}{g:B6}(h:Ev N q g):W8 q N g.tl g.sl where
 len:=by rw[AM,BJ]
 rng:=fun i hi=>by
  rw[AM]at hi;rw[CJ g ac];have:=h.ij;have:=h.j;split <;> omega
 inj:=fun i j hi hj e=>by
  rw[AM]at hi;rw[CJ g ac,CJ g ac]at e;have:=h.ij;split at e <;> split at e <;> omega
 sc:=fun i hi=>by
  rw[AM]at hi;have:=h.a1;have:=h.a;exact⟨if i<g.i then 1 else g.a,Fp g ac,by split <;> omega,by split <;> omega⟩
def Ow(g:B6)(pl sl:List Int):Prop:=pl.take (g.i+1)=g.tl/\sl.take (g.i+1)=g.sl
theorem PF{g:B6}{pl sl:List Int}(h1:g.i<pl.length)(h2:g.i<sl.length):Ow g pl sl↔(∀k,k<g.i->pl.getD k 0=(k:Int)/\sl.getD k 0=1)/\pl.getD g.i 0=(g.j:Int)/\sl.getD g.i 0=(g.a:Int):=by
 constructor
 .rintro⟨e1,e2⟩;have k1:∀k,k<=g.i->pl.getD k 0=g.tl.getD k 0:=fun k hk=>by rw[<-e1];exact(Ch ac).symm
  have k2:∀k,k<=g.i->sl.getD k 0=g.sl.getD k 0:=fun k hk=>by rw[<-e2];exact(Ch ac).symm
  refine⟨fun k hk=>⟨?_,?_⟩,?_,?_⟩
  .rw[k1 k ac,CJ g ac,if_pos hk]
  .rw[k2 k ac,Fp g ac,if_pos hk];rfl
  .rw[k1 _ (Nat.le_refl _),CJ g (Nat.le_refl _),if_neg ac]
  .rw[k2 _ (Nat.le_refl _),Fp g (Nat.le_refl _),if_neg ac]
 .rintro⟨h,e1,e2⟩;constructor
  .have:=Hl (pl:=pl) (tl:=g.tl) (by rw[AM];omega) fun i hi=>by
    rw[AM]at hi;rw[CJ g ac];by_cases e:i<g.i
    .rw[if_pos e];exact(h i e).1
    .obtain rfl:i=g.i:=by omega
     rw[if_neg e];exact e1
   rwa[AM]at this
  .have:=Hl (pl:=sl) (tl:=g.sl) (by rw[BJ];omega) fun i hi=>by
    rw[BJ]at hi;rw[Fp g ac];by_cases e:i<g.i
    .rw[if_pos e];exact(h i e).2
    .obtain rfl:i=g.i:=by omega
     rw[if_neg e];exact e2
   rwa[BJ]at this
theorem Ew.srch(h:Ew p m ml N l){g:B6}(hg:Ev N (p^m) g):
  ((gF ⟨p,m,ml,N,l⟩ g).2=18/\Bd p m ml N l l (gM ⟨p,m,ml,N,l⟩ g).perm (gM ⟨p,m,ml,N,l⟩ g).scale/\Ow g (gM ⟨p,m,ml,N,l⟩ g).perm (gM ⟨p,m,ml,N,l⟩ g).scale/\
   ∀pl sl,Bd p m ml N l l pl sl->Ow g pl sl->MU N (Cm (gF ⟨p,m,ml,N,l⟩ g).1.2) pl sl/\(gM ⟨p,m,ml,N,l⟩ g).perm=(Cm (gF ⟨p,m,ml,N,l⟩ g).1.2).tl/\(gM ⟨p,m,ml,N,l⟩ g).scale=(Cm (gF ⟨p,m,ml,N,l⟩ g).1.2).sc)∨
  ((gF ⟨p,m,ml,N,l⟩ g).2=0/\∀pl sl,Bd p m ml N l l pl sl->¬Ow g pl sl):=by
 obtain⟨hP,hW,hsh,k256⟩:=h.two;have hn7:=h.n7;have hv:=YJ hg;have hB:OC (N*(p^m-1)) N<=65536:=by
  refine Tz N ac (p^m) (by have:=h.hq;omega) ?_;have:=h.sm.2 (by have:=hP.n1;omega) ac N ag;simpa using this
 have hlt:g.tl.length<=N:=by rw[AM];have:=hg.ij;have:=hg.j;omega
 have aB:=R8 hW (N-g.tl.length) g.tl g.sl (0, []) hv ac (by have:=Vu (N*(p^m-1)) (show N-g.tl.length<=N by omega);show 0+_<=_;omega);have hS:gF ⟨p,m,ml,N,l⟩ g=Lq p m ml l l N (N-g.tl.length) (0, []) g.tl g.sl:=by
  unfold gF Gj;simp only[Int.toNat_natCast]
 rw[<-hS]at aB;have hM:(gF ⟨p,m,ml,N,l⟩ g).2=18->gM ⟨p,m,ml,N,l⟩ g=⟨(Cm (gF ⟨p,m,ml,N,l⟩ g).1.2).tl,(Cm (gF ⟨p,m,ml,N,l⟩ g).1.2).sc,0⟩:=fun e=>by
  unfold gM IT;rw[if_neg ag,if_pos e]
 have aA:∀pl sl,Bd p m ml N l l pl sl->Ow g pl sl->(gF ⟨p,m,ml,N,l⟩ g).2=18/\MU N (Cm (gF ⟨p,m,ml,N,l⟩ g).1.2) pl sl:=fun pl sl hT hG=>
  aB.fnd pl sl hT (by rw[AM];exact hG.1) (by rw[AM];exact hG.2)
 rcases aB.res with h0|⟨h18,hfd⟩
 .right;refine⟨h0,fun pl sl hT hG=>?_⟩;have:=(aA pl sl hT hG).1;rw[h0]at this;cases this
 .left;refine⟨h18,?_,?_,fun pl sl hT hG=>⟨(aA pl sl hT hG).2,by rw[hM h18],by rw[hM h18]⟩⟩
  .rw[hM h18];exact hfd.takes hP.hp
  .rw[hM h18];have h1:=hfd.t;have h2:=hfd.s;rw[AM]at h1 h2;exact⟨h1,h2⟩
theorem SR{c:AU}{g:B6}:((gF c g).2=18->gE c g=0)/\((gF c g).2=0->gE c g=11):=by
 unfold gE Ju;constructor
 .intro e;rw[if_neg ag,if_pos e]
 .intro e;rw[if_neg ag,if_neg (by rw[e];decide),if_pos e]
theorem Ew.gE01(h:Ew p m ml N l){g:B6}(hg:Ev N (p^m) g):gE ⟨p,m,ml,N,l⟩ g=0∨gE ⟨p,m,ml,N,l⟩ g=11:=by
 rcases h.srch hg with⟨e,_⟩|⟨e,_⟩
 .exact .inl (SR.1 e)
 .exact .inr (SR.2 e)
theorem Ew.hit(h:Ew p m ml N l){g:B6}(hg:Ev N (p^m) g)(he:gE ⟨p,m,ml,N,l⟩ g=0):Bd p m ml N l l (gM ⟨p,m,ml,N,l⟩ g).perm (gM ⟨p,m,ml,N,l⟩ g).scale/\Ow g (gM ⟨p,m,ml,N,l⟩ g).perm (gM ⟨p,m,ml,N,l⟩ g).scale:=by
 rcases h.srch hg with⟨e,h1,h2,_⟩|⟨e,_⟩
 .exact⟨h1,h2⟩
 .rw[SR.2 e]at he;cases he
theorem Ew.some(h:Ew p m ml N l){g:B6}(hg:Ev N (p^m) g){pl sl:List Int}(hT:Bd p m ml N l l pl sl)(hG:Ow g pl sl):gE ⟨p,m,ml,N,l⟩ g=0:=by
 rcases h.srch hg with⟨e,_⟩|⟨e,h1⟩
 .exact SR.1 e
 .exact absurd hG (h1 pl sl hT)
theorem gA_mem{i j c:Nat}{g:B6}:g∈gA i j c↔g.i=i/\g.j=j/\1<=g.a/\g.a<=c:=by
 unfold gA;rw[List.mem_map];constructor
 .rintro⟨a,ha,rfl⟩;rw[List.mem_range]at ha;exact⟨rfl,rfl,by show 1<=a+1;omega,by show a+1<=c;omega⟩
 .rintro⟨h1,h2,h3,h4⟩;refine⟨g.a-1,by rw[List.mem_range];omega,?_⟩;obtain⟨gi,gj,ga⟩:=g;dsimp only at h1 h2 h3 h4 ⊢;subst h1 h2;rw[show ga-1+1=ga from ac]
theorem KO{n q:Nat}{g:B6}:g∈Dn n q↔Ev n q g:=by
 refine⟨Hz,fun h=>?_⟩;unfold Dn gI;refine List.mem_flatMap.2 ⟨g.i,by rw[List.mem_range];have:=h.ij;have:=h.j;omega,?_⟩;unfold gJ;refine List.mem_flatMap.2 ⟨g.j-g.i,by rw[List.mem_range];have:=h.ij;have:=h.j;omega,?_⟩;exact gA_mem.2 ⟨rfl,by have:=h.ij;omega,h.a1,by have:=h.a;omega⟩
theorem SP(q i:Nat):∀k,(gJ q i k).length=k*(q-1)
 | 0=>by unfold gJ;simp
 | k+1=>by rw[NR,List.length_append,Rp,SP q i k,Nat.succ_mul]
theorem SQ(n q:Nat):∀k,(gI n q k).length<=k*(n*(q-1))
 | 0=>by unfold gI;simp
 | k+1=>by
  rw[NU,List.length_append,SP,Nat.succ_mul];have:=SQ n q k;have:=Nat.mul_le_mul_right (q-1) (show n-k<=n by omega);omega
theorem Ew.gol_len(h:Ew p m ml N l):(Dn N (p^m)).length<=448:=by
 have h1:=SQ N (p^m) N;have h2:=Nat.mul_le_mul h.n7 h.hd;unfold Dn;omega
theorem HJ:AD ⟨p,m,ml,N,l⟩=Dn N (p^m):=by
 unfold AD;simp only[Int.toNat_natCast]
theorem Ew.len(h:Ew p m ml N l):(Da ⟨p,m,ml,N,l⟩ (AD ⟨p,m,ml,N,l⟩)).length<=448:=by
 unfold Da;rw[List.length_map,HJ];exact Nat.le_trans (List.length_filter_le _ _) h.gol_len
theorem Se{c:AU}{gs:List B6}{M:CL}:M∈Da c gs↔∃g∈gs,gE c g=0/\gM c g=M:=by
 unfold Da;simp only[List.mem_map,List.mem_filter,beq_iff_eq];exact⟨fun ⟨g,⟨h1,h2⟩,h3⟩=>⟨g,h1,h2,h3⟩,fun ⟨g,h1,h2,h3⟩=>⟨g,⟨h1,h2⟩,h3⟩⟩
theorem Ew.tak(h:Ew p m ml N l){M:CL}(hM:M∈Da ⟨p,m,ml,N,l⟩ (AD ⟨p,m,ml,N,l⟩)):Bd p m ml N l l M.perm M.scale:=by
 obtain⟨g,hg,he,rfl⟩:=Se.1 hM;rw[HJ]at hg;exact(h.hit (KO.1 hg) he).1
theorem Bd.mv{l1 l2:List (List Int)}{M:CL}(h:Bd p m ml N l1 l2 M.perm M.scale):Om N M:=by
 refine⟨h.pll,h.sll,?_⟩;have:=h.rng N
 rwa[List.take_of_length_le (by rw[h.pll];exact Nat.le_refl _)]at this
theorem Ew.mv(h:Ew p m ml N l):∀M∈Da ⟨p,m,ml,N,l⟩ (AD ⟨p,m,ml,N,l⟩),Om (⟨p,m,ml,N,l⟩:AU).n.toNat M:=fun M hM=>(h.tak hM).mv
theorem Ew.rnB(h:Ew p m ml N l):Ni ⟨p,m,ml,N,l⟩ (AD ⟨p,m,ml,N,l⟩)=none:=by
 unfold Go.Proofs.YtehieobniamagaaGreat.Ni;rw[List.find?_eq_none];intro g hg;rw[HJ]at hg;rcases h.gE01 (KO.1 hg) with e|e <;> rw[e] <;> decide
theorem Ew.opE(h:Ew p m ml N l):Ip ⟨p,m,ml,N,l⟩ 0=0:=by
 unfold Go.Proofs.YtehieobniamagaaGreat.Ip;simp only[Int.toNat_natCast];rw[if_neg ag,if_neg (by have:=h.hd;omega)]
theorem Ew.grE(h:Ew p m ml N l):Jt ⟨p,m,ml,N,l⟩ 0=0:=by
 unfold Go.Proofs.YtehieobniamagaaGreat.Jt;rw[if_neg (by rw[h.opE];simp),O3 h.rnB]
def Wf(p m:Nat)(ml:List Int)(N:Nat)(l:List (List Int)):List (Nat->Nat):=(Da ⟨p,m,ml,N,l⟩ (AD ⟨p,m,ml,N,l⟩)).map fun M=>JC p m ml M.perm M.scale
theorem Ew.fnd_isP(h:Ew p m ml N l):∀s∈Wf p m ml N l,Bw (N*(p^m-1)) s:=fun s hs=>by
 obtain⟨M,hM,rfl⟩:=List.mem_map.1 hs;exact DR ((h.tak hM).mon h.two.1)
theorem Ew.genL(h:Ew p m ml N l):Ee p m ml (Da ⟨p,m,ml,N,l⟩ (AD ⟨p,m,ml,N,l⟩))=(Wf p m ml N l).map (li (N*(p^m-1))):=by
 unfold Go.Proofs.YtehieobniamagaaGreat.Ee Wf;rw[List.map_map];refine List.map_congr_left fun M hM=>?_;exact(ptF_li ((h.tak hM).mon h.two.1)).symm
theorem Xe(hW:FL p m ml N){l1 l2:List (List Int)}{pl sl:List Int}(hT:Bd p m ml N l1 l2 pl sl){i:Nat}(hi:i<N)(hx:AW (i*(p^m-1)) (JC p m ml pl sl)):∃g,Ev N (p^m) g/\g.i=i/\Ow g pl sl/\JC p m ml pl sl (i*(p^m-1))=g.j*(p^m-1)+(g.a-1):=by
 have hM:=hT.mon hW;have aA:=(Ho hM hT.nn (Nat.le_of_lt hi)).1 hx;obtain⟨z,hz,z1,z2⟩:=hT.sc i hi;have hQ:0<p^m-1:=ac;obtain⟨z',aB,_,_,h3,h4,h5⟩:=DH hM hi hQ;have aD:z'=z:=by rw[hz]at aB;exact_mod_cast aB.symm
 subst aD;rw[Nat.add_zero,Nat.zero_add,Bh hM.hp hM.hm z2]at h5;have hnn:=hT.nn i hi;have aC:=hT.inj.lt i hi;have aE:i<=BV pl i:=by
  apply Classical.byContradiction;intro hlt2;have e:=(aA (BV pl i) ac).1;have e2:BV pl (BV pl i)=BV pl i:=by
   show(pl.getD (BV pl i) 0).toNat=_
   rw[e];simp
  have:=hT.inj.inj _ _ aC hi e2;omega
 refine⟨⟨i,BV pl i,z'⟩,⟨aE,aC,z1,z2⟩,rfl,(PF (by rw[hT.pll];exact hi) (by rw[hT.sll];exact hi)).2 ⟨aA,?_,hz⟩,h5⟩;show pl.getD i 0=((BV pl i:Nat):Int)
 unfold BV;omega
theorem gol_pt(hW:FL p m ml N){l1 l2:List (List Int)}{pl sl:List Int}(hT:Bd p m ml N l1 l2 pl sl){g:B6}(hg:Ev N (p^m) g)(hG:Ow g pl sl):AW (g.i*(p^m-1)) (JC p m ml pl sl)/\JC p m ml pl sl (g.i*(p^m-1))=g.j*(p^m-1)+(g.a-1):=by
 have hi:g.i<N:=by have:=hg.ij;have:=hg.j;omega
 have hM:=hT.mon hW;obtain⟨h1,h2,h3⟩:=(PF (by rw[hT.pll];exact hi) (by rw[hT.sll];exact hi)).1 hG;refine⟨(Ho hM hT.nn (Nat.le_of_lt hi)).2 h1,?_⟩;have hQ:0<p^m-1:=by have:=hg.a1;have:=hg.a;omega
 obtain⟨z,hz,z1,z2,k3,k4,k5⟩:=DH hM hi hQ;have aA:z=g.a:=by rw[h3]at hz;exact_mod_cast hz.symm
 subst aA;rw[Nat.add_zero,Nat.zero_add,Bh hM.hp hM.hm z2]at k5;rw[k5];unfold BV;rw[h2];simp
theorem Ew.gen(h:Ew p m ml N l)(f:Nat->Nat):Gn (Wf p m ml N l) f↔Gq p m ml N l l f:=by
 obtain⟨hP,hW,hsh,k256⟩:=h.two;refine QG (n:=N*(p^m-1)) (N:=N) (Q:=p^m-1) rfl (Gq.grp hP l) (fun i f hi hf hx he=>hf.fx hP hi hx he) (fun s hs=>?_) (fun i f hi hf hx=>?_) f
 .obtain⟨M,hM,rfl⟩:=List.mem_map.1 hs;exact⟨_,_,h.tak hM,rfl⟩
 .obtain⟨pl,sl,hT,rfl⟩:=hf;obtain⟨g,hg,rfl,hG,aA⟩:=Xe hP hT hi hx;have he:=h.some hg hT hG;obtain⟨aB,aC⟩:=h.hit hg he;obtain⟨k1,k2⟩:=gol_pt hP aB hg aC;exact⟨_,.of (List.mem_map.2 ⟨_,Se.2 ⟨g,by rw[HJ];exact KO.2 hg,he,rfl⟩,rfl⟩),k1,by rw[k2,aA]⟩
theorem Ew.d1(h:Ew p m ml N l):1<=N*(p^m-1):=by
 have hP:=h.two.1;have:=Bb hP.hp hP.hm;exact Nat.mul_pos (by have:=hP.n1;omega) ac
theorem Zb{n:Nat}{S:List (Nat->Nat)}(h1:1<=n)(h2:n<=64)(hS:∀s∈S,Bw n s):C7 n (S.map (li n))=(⟨n,Co n S n⟩,0):=by
 unfold C7;rw[SN h1 h2 hS,if_neg ae,Ht hS];rfl
noncomputable def Qh(p m:Nat)(ml:List Int)(N:Nat)(l:List (List Int)):List Lv:=Co (N*(p^m-1)) (Wf p m ml N l) (N*(p^m-1))
theorem Ew.bld(h:Ew p m ml N l):Lc ⟨p,m,ml,N,l⟩=(⟨((N*(p^m-1):Nat):Int),Qh p m ml N l⟩,0):=by
 unfold Lc Fa;simp only[Int.toNat_natCast];rw[h.genL,Zb h.d1 h.hd h.fnd_isP];rfl
end
section
variable {p m N:Nat} {ml:List Int} {l l1 l2:List (List Int)}
theorem RE(h1:Ew p m ml N l1)(h2:Ew p m ml N l2)(h:∀f,Gq p m ml N l1 l1 f↔Gq p m ml N l2 l2 f):Qh p m ml N l1=Qh p m ml N l2:=
 Rz (fun f=>(h1.gen f).trans ((h f).trans (h2.gen f).symm)) _
end
theorem Vn(p m:Int):0<=CF p m/\CF p m<=256:=by
 unfold CF;split
 .rename_i h;have:0<=p^m.toNat:=Int.pow_nonneg ac;exact⟨this,h.2.2.2⟩
 .omega
theorem ZW{N q i k:Nat}(h:i<=k):(JY N q i).2<=(JY N q k).2:=by
 induction k with
 | zero=>
   obtain rfl:i=0:=ac;exact Nat.le_refl _
 | succ k ih=>
  by_cases e:i=k+1
  .rw[e];exact Nat.le_refl _
  .refine Nat.le_trans (ih ac) ?_;show _<=(JY N q k).2+_
   omega
theorem XE{N q:Nat}:∀i,(JY N q i).1<=(JY N q i).2
 | 0=>Nat.le_refl _
 | i+1=>by
  show(JY N q i).1*((N-i)*max 1 (q-1))<=(JY N q i).2+(JY N q i).1*((N-i)*max 1 (q-1))
  omega
theorem QS(w:World)(c:AU)(m1 v1:Value)(hc:c.at w m1 v1):
  Calls Tryz.prog 62 #[c.arg m1 v1] w fun r w'=>BolR (Us c.n (CF c.p c.m).toNat) r/\Ex w w':=by
 obtain⟨c0,c1,c2,c3,c4⟩:=C6 w c m1 v1;have HX:=Aa (AJ w (c.obj m1 v1));have aO:=Aa (fun w'=>DF c.p c.m m1 w');obtain⟨x1,y1,rfl,-,z1,-⟩:=hc.g.open;obtain⟨x3,y3,rfl,-,z3,-⟩:=hc.m.open;obtain⟨p,m,ml,n,rows⟩:=c;obtain⟨B,hB⟩:=nA w.heap.size;rw[hB]at c0 c1 c2 c3 c4;dsimp only[AU.arg,AU.obj]at *;obtain⟨aS,aR⟩:=Vn p m;obtain⟨Q,hQ⟩:∃Q:Nat,CF p m=Q:=⟨(CF p m).toNat,ac⟩;rw[hQ]at aO ⊢;have hQ2:Q<=256:=br;rw[Int.toNat_natCast];obtain⟨P,hP⟩:=nA (Us n Q);have HP:=Aa (show P↔(n<1∨7<n->n<1∨64<n)/\(1<=n->n<=7->∀i,i<=n.toNat->(JY n.toNat Q i).2<=3000) from by rw[<-hP];exact Iff.rfl);rw[hP];clear hc hP z1 z3 hQ aS aR;go_enter Tryz.func62,Tryz.ntmps62
 go_upto_region 1 with fail
 try simp only[hB]
 clear hB;generalize w.alloc (.cells #[.int .i64 p,.int .i64 m,.slice x3 ml.length y3,.int .i64 n,.slice x1 rows.length y1] 39)=w1 at *;have aE:=Aa (fun w' (h:Ex w1 w')=>(⟨h.cell c0,h.cell c1,h.cell c2,h.cell c3,h.cell c4⟩:_/\_/\_/\_/\_));by_cases h1:n<1
 .have k1:decide (n<1)=true:=decide_eq_true h1;have HN:=Aa (show P from HP.o.2 ⟨fun _=> .inl h1,fun h=>absurd h ac⟩);clear h1;go_wp2_with fail
  go_ret;exact⟨La HN.o,HX.o⟩
 have k1:decide (n<1)=false:=decide_eq_false h1;by_cases h2:7<n
 .have k2:decide (7<n)=true:=decide_eq_true h2;by_cases h3:64<n
  .have k3:decide (64<n)=true:=decide_eq_true h3;have HN:=Aa (show P from HP.o.2 ⟨fun _=> .inr h3,fun _ h=>absurd h ac⟩);clear h1 h2 h3;go_wp2_with fail
   go_ret;exact⟨La HN.o,HX.o⟩
  .have k3:decide (64<n)=false:=decide_eq_false h3;have HN:=Aa (show ¬P from fun h=>by rcases (HP.o.1 h).1 (.inr h2) with h|h <;> omega);clear h1 h2 h3;go_wp2_with fail
   go_ret;exact⟨Tf HN.o,HX.o⟩
 have k2:decide (7<n)=false:=decide_eq_false h2;obtain⟨N,rfl⟩:∃N:Nat,n=N:=⟨n.toNat,ac⟩;have aA:=Aa (show 1<=N/\N<=7 from⟨ac,ac⟩);rw[Int.toNat_natCast]at HP;clear h1 h2;go_wp2_with fail
 clear c0 c1 c2 c3 c4
 go_loopw [3,4,5] (fun a' b' i' wr=>∃(i:Nat),i<=N/\a'= .int .i64 (JY N Q i).1/\b'= .int .i64 (JY N Q i).2/\i'= .int .i64 i/\Hia ((JY N Q i).2<=3000)/\Hia (Ex w1 wr)) (fun a' b' i' _=>N-(intOf i').toNat)
 case atStart=>exact⟨0,ac,rfl,rfl,rfl,Aa (by simp[JY]),Aa (Ex.refl w1)⟩
 case round=>
  obtain⟨i,hi,rfl,rfl,rfl,aK,aB⟩:=hrel;obtain⟨c0,c1,c2,c3,c4⟩:=aE.o wr aB.o;by_cases hlt:i<N
  .have i1:(0:Int)<=(i:Int):=by omega
   have i2:(i:Int)<(N:Int):=ac;obtain⟨A,hA⟩:=nA ((JY N Q i).1);obtain⟨S,hS⟩:=nA ((JY N Q i).2);have HA:=Aa hA;have HS:=Aa hS;have aL:=XE (N:=N) (q:=Q) i;have aG:=aK.o;rw[hA,hS]at aL;rw[hS]at aG;rw[hA,hS];obtain⟨T,hT⟩:∃T:Nat,max 1 (Q-1)=T:=⟨_,rfl⟩;have aT:1<=T/\T<=255:=ac;obtain⟨D,hD⟩:∃D:Nat,N-i=D:=⟨_,rfl⟩;have hDi:(N:Int)-(i:Int)=(D:Int):=ac;have aU:D<=7:=by have:=aA.o;omega
   have aN:D*T<=1785:=Nat.mul_le_mul aU aT.2;have aF:A*(D*T)<=3000*1785:=Nat.mul_le_mul ac aN;have hmx:(if (1:Int)<(Q:Int)-1 then(Q:Int)-1 else 1)=(T:Int):=by split <;> omega
   have hmy:max (1:Int) ((Q:Int)-1)=(T:Int):=by omega
   have aD:=Aa (show(JY N Q (i+1)).1=A*(D*T)/\(JY N Q (i+1)).2=S+A*(D*T) from by
    rw[<-hA,<-hS,<-hD,<-hT];exact⟨rfl,rfl⟩)
   obtain⟨M,hM⟩:∃M:Nat,A*(D*T)=M:=⟨_,rfl⟩;have aM:(A:Int)*((D:Int)*(T:Int))=(M:Int):=by rw[<-hM];push_cast;rfl
   rw[hM]at aD aF;have aI:=Aa (fun w' (h:Ex wr w')=>aO.o w');have aP:=Aa (fun w' (h:Ex wr w')=>aE.o w' (aB.o.trans h));clear hA hS hT hD aL;have W1:=Aa (show IntKind.i64.wrap (D:Int)=(D:Int) from IntWalk.i64_in _ ac);have W2:=Aa (show IntKind.i64.wrap ((Q:Int)-1)=(Q:Int)-1 from IntWalk.i64_in _ ac);have aC:(D:Int)*(T:Int)=((D*T:Nat):Int):=by push_cast;rfl
   have W3:=Aa (show IntKind.i64.wrap ((D:Int)*(T:Int))=(D:Int)*(T:Int) from IntWalk.i64_in _ (by rw[aC];omega));have W4:=Aa (show IntKind.i64.wrap ((A:Int)*((D:Int)*(T:Int)))=(M:Int) from by rw[aM];exact IntWalk.i64_in _ ac);have HB:=Aa (show S<=3000/\M<=3000*1785 from⟨aG,aF⟩);clear aM aC hM aF aN;go_upto_region 7 with fail
   go_cut [3] from 28 to 39 (fun a wx=>a= .int .i64 (M:Int)/\Hia (Ex wr wx))
   case first=>
    have y1:=W1.o;have y2:=W2.o;have y3:=W3.o;have y4:=W4.o
    go_region_law ((go_simp;refine(aI.o _ (by repeat (first|exact Ex.refl _|apply Ex.drew))).mono ?_;rintro e w5⟨rfl,aQ⟩;have aH:=Aa (Ex.trans (show Ex wr _ by repeat (first|exact Ex.refl _|apply Ex.drew)) aQ);have z0:=(aP.o w5 aH.o).1;have z3:=(aP.o w5 aH.o).2.2.2.1;go_simp))
    all_goals go_wp2_with fail
    all_goals go_meet
    all_goals exact⟨bp,Aa (by repeat (first|exact aH.o|apply Ex.drew))⟩
   case rest=>
    obtain⟨rfl,aJ⟩:=hcut;obtain⟨aG,aF⟩:=HB.o;have hi7:i<=7:=by have:=aA.o;omega
    clear c0 c1 c2 c3 c4;by_cases h5:3000<S+M
    .have k5:decide ((3000:Int)<(S:Int)+(M:Int))=true:=decide_eq_true ac;have j5:(3000:Int)<(S:Int)+(M:Int):=by omega
     have HN:=Aa (show ¬P from fun h=>by
      have:=(HP.o.1 h).2 (by have:=aA.o;omega) (by have:=aA.o;omega) (i+1) ac;rw[aD.o.2]at this;omega)
     clear h5;go_wp2_with fail
     go_ret;exact⟨Tf HN.o,HX.o.trans (aB.o.trans aJ.o)⟩
    .have k5:decide ((3000:Int)<(S:Int)+(M:Int))=false:=decide_eq_false ac;have j5:¬(3000:Int)<(S:Int)+(M:Int):=by omega
     have HL:=Aa (show(JY N Q (i+1)).2<=3000 from by rw[aD.o.2];omega);clear h5;go_wp2_with fail
     go_roundw
     case rel=>exact⟨i+1,ac,by rw[aD.o.1],by rw[aD.o.2];go_num,by go_num,HL,Aa (aB.o.trans aJ.o)⟩
     case measure=>simp[intOf];omega
  .obtain rfl:i=N:=by omega
   have HN:=Aa (show P from HP.o.2 ⟨fun h=>by have:=aA.o;omega,fun _ _ k hk=>Nat.le_trans (ZW hk) aK.o⟩);go_wp2_with fail
   go_ret;exact⟨La HN.o,HX.o.trans aB.o⟩
theorem zcI{P:Prop}(h:P:=by
 clear aE aA;go_wp2_with fail
 go_ret;exact⟨⟨_,rfl,HR.o⟩,aC.o⟩):P:=h
theorem GZ(w:World)(p m:Int)(ml:List Int)(mv:Value)(aD:Am w mv ml)(n:Int)(rows:List (List Int))(v:Value)(hv:BO w v rows):
  Calls Tryz.prog 37 #[.agg #[.int .i64 p,.int .i64 m,mv,.int .i64 n,v]] w fun r w'=>(∃e:Int,r= .returned (.int .i64 e)/\BN p m ml n rows e)/\Ex w w':=by
 obtain⟨a0,a1,a2,a3,a4,ea⟩:=DP w p m mv n v;have aG:=Aa (fun (w':World) (h:Ex w w')=>Ke p m ml mv w' (aD.ex h));have aE:=Aa (fun (w':World) (h:Ex w w')=>QU p m ml mv w' (aD.ex h) n rows v (hv.ex h));obtain⟨za,zc,rfl,-,z2,-⟩:=hv.open;unfold maxLen at z2;obtain⟨ma,mc,rfl,-,m2,-⟩:=aD.open;unfold maxLen at m2;have HE:=Aa ea;obtain⟨F,hF⟩:=nA (Cp p m ml);have aJ:F=0∨F=1:=by
  rw[<-hF];unfold Cp;split <;> omega
 have aA:=Aa (show ∀e,((F≠0/\e=1)∨(F=0/\Ec n≠0/\e=Ec n)∨(F=0/\Ec n=0/\LF p m ml n rows e))->BN p m ml n rows e from fun e h=>by unfold BN;rw[hF];exact h);rw[hF]at aG;clear aD hv ea hF;go_enter Tryz.func37,Tryz.ntmps37
 go_wp2_with fail
 obtain⟨xb,aF⟩:=nA w.heap.size;rw[aF]at a0 a1 a2 a3 a4
 try simp only[aF]
 clear aF;generalize w.alloc (.cells #[.int .i64 p,.int .i64 m,.slice ma ml.length mc,.int .i64 n,.slice za rows.length zc] 39)=w1 at *;refine(aG.o w1 HE.o).mono ?_;rintro e w2⟨rfl,aB⟩;obtain⟨A0,A1,A2,A3,A4,aC⟩:=To (aB.cell a0) (aB.cell a1) (aB.cell a2) (aB.cell a3) (aB.cell a4) (HE.o.trans aB);clear a0 a1 a2 a3 a4 aB aG HE;rcases aJ with h1|h1
 .subst h1;have a3:=A3.o;by_cases h2:n<1
  .have HR:=Aa (aA.o 4 (.inr (.inl ⟨rfl,by unfold Ec;rw[if_pos (.inl h2)];decide,by unfold Ec;rw[if_pos (.inl h2)]⟩)));exact zcI
  .by_cases h3:64<n
   .have HR:=Aa (aA.o 4 (.inr (.inl ⟨rfl,by unfold Ec;rw[if_pos (.inr h3)];decide,by unfold Ec;rw[if_pos (.inr h3)]⟩)));clear aE aA;have b1:decide (n<1)=false:=by simp;omega
    go_wp2_with fail
    go_ret;exact⟨⟨_,rfl,HR.o⟩,aC.o⟩
   .have aH:=Aa (fun e h=>aA.o e (.inr (.inr ⟨rfl,by unfold Ec;rw[if_neg ac],h⟩)));have b1:decide (n<1)=false:=by simp;omega
    have b2:decide (64<n)=false:=aq;have a0:=A0.o;have a1:=A1.o;have a2:=A2.o;have a4:=A4.o;clear aA;go_wp2_with fail
    refine(aE.o w2 aC.o).mono ?_;rintro e w3⟨⟨e,rfl,he⟩,aI⟩;have HR:=Aa (aH.o e he);have aK:=Aa (aC.o.trans aI);clear he aI;go_wp2_with fail
    go_ret;exact⟨⟨_,rfl,HR.o⟩,aK.o⟩
 .subst h1;have HR:=Aa (aA.o 1 (.inl ⟨ae,rfl⟩));exact zcI
def Smp(c:AU)(k:Nat):Prop:=BN c.p c.m c.ml c.n c.rows 0->Fa c<=64->Fa c<=k/\Us c.n (c.p.toNat^c.m.toNat)
open Classical in
noncomputable def smB (c:AU) (k:Nat):Bool:=decide (PR 0 c.rows 80=true/\Smp c k)
theorem R9{c:AU}{k:Nat}:smB c k=true↔PR 0 c.rows 80=true/\Smp c k:=by
 unfold smB;simp only[decide_eq_true_eq]
theorem RA{P:Program}{f:FuncId}{aA:Array Value}{w:World}{R:Ending->World->Prop}(h:Calls P f aA w R):∃e w',R e w':=by
 obtain⟨e,w',_,h1,_⟩:=h [];exact⟨e,w',h1⟩
theorem Y4{w:World}{c:AU}{m1 v1:Value}(hc:c.at w m1 v1):∃e0,BN c.p c.m c.ml c.n c.rows e0/\∀w',Ex w w'->Calls Tryz.prog 37 #[c.arg m1 v1] w' fun r w''=>r= .returned (.int .i64 e0)/\Ex w' w'':=by
 obtain⟨_,_,⟨e0,_,h0⟩,_⟩:=RA (GZ w c.p c.m c.ml m1 hc.m c.n c.rows v1 hc.g);refine⟨e0,h0,fun w' hx=>(GZ w' c.p c.m c.ml m1 (hc.ex hx).m c.n c.rows v1 (hc.ex hx).g).mono ?_⟩;rintro r w''⟨⟨e,rfl,h⟩,h2⟩;obtain rfl:=BZ h h0;exact⟨rfl,h2⟩
theorem zcp{P:Prop}(h:P:=by
 go_wp2_with fail
 go_ret;exact⟨Ap HR.o,HX.o.trans (aB.o.trans aC.o)⟩):P:=h
theorem Nn(w:World)(c:AU)(m1 v1:Value)(hc:c.at w m1 v1)(k:Nat)(hk:k<=64):
  Calls Tryz.prog 21 #[c.arg m1 v1,.int .i64 (k:Int)] w fun r w'=>r= .returned (.bool (smB c k))/\Ex w w':=by
 obtain⟨c0,c1,c2,c3,c4⟩:=C6 w c m1 v1;obtain⟨HX,aI,aR,aG,aH,HS⟩:=To (AJ w (c.obj m1 v1)) (fun (w':World) (h:Ex w w')=>QT w' c.p c.m m1 c.n c.rows v1 (hc.ex h).g 80 ac ac) (fun (w':World) (h:Ex w w')=>GZ w' c.p c.m c.ml m1 (hc.ex h).m c.n c.rows v1 (hc.ex h).g) (fun (w':World) (h:Ex w w')=>QS w' c m1 v1 (hc.ex h)) (fun w'=>DF c.p c.m m1 w') (show ∀b:Bool,(b=true↔PR 0 c.rows 80=true/\(BN c.p c.m c.ml c.n c.rows 0->Fa c<=64->Fa c<=k/\Us c.n (c.p.toNat^c.m.toNat)))->b=smB c k from fun b h=>Bool.eq_iff_iff.2 (h.trans R9.symm));obtain⟨SB,hS⟩:∃S,smB c k=S:=⟨_,rfl⟩;rw[hS]at HS ⊢;have aD:=Aa (show Fa c=c.n.toNat*(c.p.toNat^c.m.toNat-1) from rfl);obtain⟨DG,aP⟩:∃D,Fa c=D:=⟨_,rfl⟩;rw[aP]at HS aD;obtain⟨x1,y1,rfl,-,z1,-⟩:=hc.g.open;obtain⟨x3,y3,rfl,-,z3,-⟩:=hc.m.open;obtain⟨p,m,ml,n,rows⟩:=c;obtain⟨B,hB⟩:=nA w.heap.size;rw[hB]at c0 c1 c2 c3 c4;dsimp only[AU.arg,AU.obj]at *;have hk2:(k:Int)<=64:=br;clear hc hS z1 z3 aP;obtain⟨FW,aO⟩:∃b,PR 0 rows 80=b:=⟨_,rfl⟩;rw[aO]at aI HS;clear aO;go_enter Tryz.func21,Tryz.ntmps21
 go_upto_region 1 with fail
 try simp only[hB]
 clear hB;generalize w.alloc (.cells #[.int .i64 p,.int .i64 m,.slice x3 ml.length y3,.int .i64 n,.slice x1 rows.length y1] 39)=w1 at *;have aE:=Aa (fun w' (h:Ex w1 w')=>(⟨h.cell c0,h.cell c1,h.cell c2,h.cell c3,h.cell c4⟩:w'.cell? ⟨B,0,none⟩=some (.int .i64 p)/\w'.cell? ⟨B,1,none⟩=some (.int .i64 m)/\w'.cell? ⟨B,2,none⟩=some (.slice x3 ml.length y3)/\w'.cell? ⟨B,3,none⟩=some (.int .i64 n)/\w'.cell? ⟨B,4,none⟩=some (.slice x1 rows.length y1)));go_wp2_with fail
 refine(aI.o w1 HX.o).mono ?_;rintro e w2⟨rfl,aM⟩;have aF:=Aa aM;clear c0 c1 c2 c3 c4 aM
 cases FW with
 | false=>
  have HR:=Aa (HS.o false ⟨fun h=>bi,fun h=>(by cases h.1)⟩);go_wp2_with fail
  go_ret;exact⟨Ap HR.o,HX.o.trans aF.o⟩
 | true=>
  replace HS:=Aa (fun (b:Bool) (h:b=true↔(BN p m ml n rows 0->DG<=64->DG<=k/\Us n (p.toNat^m.toNat)))=>HS.o b (h.trans ⟨fun h=>⟨rfl,h⟩,fun h=>h.2⟩));obtain⟨c0,c1,c2,c3,c4⟩:=aE.o w2 aF.o;go_wp2_with fail
  refine(aR.o w2 (HX.o.trans aF.o)).mono ?_;rintro e w3⟨⟨E,rfl,ho⟩,aL⟩;have aB:=Aa (aF.o.trans aL);have HO:=Aa ho;clear c0 c1 c2 c3 c4 aL ho;by_cases h0:E=0
  rotate_left
  .have hb:(E !=0)=true:=by simpa using h0
   have HR:=Aa (HS.o true ⟨fun _ h=>absurd (BZ HO.o h) h0,fun _=>rfl⟩);clear h0;go_wp2_with fail
   go_ret;exact⟨Ap HR.o,HX.o.trans aB.o⟩
  subst h0;obtain⟨pn,mn,N,rfl,rfl,rfl,hf,hI,aW,aN,hr,aT⟩:=Gk HO.o;have aQ:=Aa HO.o;have Dw:=Pf hf;rw[Dw]at aH aG;rw[Int.toNat_natCast]at aG;simp only[Int.toNat_natCast]at aD HS;have aV:2<=pn^mn:=Nat.le_trans hf.p2 (Nat.le_self_pow (by have:=hf.m1;omega) pn);have aU:=hf.q;obtain⟨q,hq⟩:=nA (pn^mn);rw[hq]at aH aG aD HS aV aU;have hDb:DG<=20000:=by rw[aD.o];exact Nat.le_trans (Nat.mul_le_mul aN (show q-1<=255 by omega)) ac
  have k1:(N:Int)*((q:Int)-1)=(DG:Int):=by rw[aD.o,Int.natCast_mul,Int.natCast_sub ac];rfl
  have k2:(N:Int)<=64:=ac;have k3:(q:Int)<=256:=ac;have k4:(1:Int)<=(q:Int):=ac;have W1:=Aa (show IntKind.i64.wrap ((q:Int)-1)=(q:Int)-1 from IntWalk.i64_in _ ac);have W2:=Aa (show IntKind.i64.wrap ((N:Int)*((q:Int)-1))=(DG:Int) from by rw[k1];exact IntWalk.i64_in _ ac);have aA:=Aa (fun (w':World) (h:Ex w3 w')=>aE.o w' (aB.o.trans h));have G0:Ex w3 w3.drew:=(Ex.refl w3).drew;clear hf hI Dw hq HO aT hr aR aI aW aN;go_wp2_with fail
  go_upto_region 5 with fail
  go_region_held3 (fun w'=>w'.cell? ⟨B,0,none⟩=some (.int .i64 pn)/\w'.cell? ⟨B,1,none⟩=some (.int .i64 mn)/\w'.cell? ⟨B,2,none⟩=some (.slice x3 ml.length y3)/\w'.cell? ⟨B,3,none⟩=some (.int .i64 N)/\w'.cell? ⟨B,4,none⟩=some (.slice x1 rows.length y1))
   (first|with_reducible exact aA.o _ X5|with_reducible exact aA.o _ G0)
   (first|(go_at_call 14;(with_reducible refine(aH.o _).mono ?_);rintro e w5⟨rfl,aK⟩;have X5:=G0.trans aK;have aC:=Aa X5;clear aK))
  all_goals
   simp only[W1.o,W2.o];by_cases h1:64<DG
   .have j1:(64:Int)<(DG:Int):=by omega
    have j2:decide ((64:Int)<(DG:Int))=true:=decide_eq_true j1;have HR:=Aa (HS.o true ⟨fun _ _ h=>absurd h ac,fun _=>rfl⟩);clear h1;exact zcp
   .have j1:¬(64:Int)<(DG:Int):=by omega
    have j2:decide ((64:Int)<(DG:Int))=false:=decide_eq_false j1;have aS:=Aa (show DG<=64 from ac);clear h1;by_cases h2:DG<=k
    .have j3:(DG:Int)<=(k:Int):=by omega
     have j4:decide ((DG:Int)<=(k:Int))=true:=decide_eq_true j3;have H2:=Aa h2;have aY:=Aa (aG.o _ (HX.o.trans (aB.o.trans aC.o)));obtain⟨c0,c1,c2,c3,c4⟩:=aA.o _ aC.o;clear h2;go_wp2_with fail
     refine aY.o.mono ?_;rintro e w9⟨⟨b,rfl,hb⟩,aJ⟩;have HR:=Aa (HS.o b ⟨fun h _ _=>⟨H2.o,hb.1 h⟩,fun h=>hb.2 (h aQ.o aS.o).2⟩);have aX:=Aa aJ;clear hb aJ c0 c1 c2 c3 c4;go_wp2_with fail
     go_ret;exact⟨Ap HR.o,HX.o.trans (aB.o.trans (aC.o.trans aX.o))⟩
    .have j3:¬(DG:Int)<=(k:Int):=by omega
     have j4:decide ((DG:Int)<=(k:Int))=false:=decide_eq_false j3;have HR:=Aa (HS.o false ⟨fun h=>bi,fun h=>absurd (h aQ.o aS.o).1 h2⟩);clear h2;exact zcp
def OX(p m:Nat)(ml:List Int)(a:Nat->Nat->Int)(pl:Nat->Nat)(f:Nat->Int):Nat->Nat->Int
 | 0=>f
 | i+1=>BT p m ml (OX p m ml a pl f i) (Ct p m (Au (p^m) (f (pl i)))) (a i)
section
variable {p m:Nat} {ml:List Int} {N k:Nat} {a:Nat->Nat->Int} {piv:List Nat} {c:Nat} {f:Nat->Int}
theorem Ng(hp:2<=p)(pl:Nat->Nat){x:Nat->Int}(hx:Bz p m ml N k a x):∀i,i<=k->dt p m ml N (OX p m ml a pl f i) x=dt p m ml N f x
 | 0,_=>rfl
 | i+1,hi=>by
  show dt p m ml N (BT p m ml (OX p m ml a pl f i) _ (a i)) x=_
  rw[N7 hp,hx i (by omega),AX (by omega),BY (by omega) (MI hp _ _)];exact Ng hp pl hx i (by omega)
theorem Nc(hp:2<=p)(pl:Nat->Nat)(hf:∀j,j<N->0<=f j/\f j<(p^m:Nat)):∀i,∀j,j<N->0<=OX p m ml a pl f i j/\OX p m ml a pl f i j<(p^m:Nat)
 | 0=>hf
 | i+1=>fun j hj=>by
  show 0<=BT p m ml (OX p m ml a pl f i) _ (a i) j/\BT p m ml (OX p m ml a pl f i) _ (a i) j<_
  unfold BT;split
  .exact Nc hp pl hf i j hj
  .have h:=FC (m:=m) (show 1<=p by omega) (Au (p^m) (OX p m ml a pl f i j)) (Ai p m (lw ml) (Ct p m (Au (p^m) (f (pl i)))) (Au (p^m) (a i j)));omega
theorem Nf(hp:2<=p)(hm:1<=m)(h:PV p m k N a piv c)(hk:piv.length=k)(hf:∀j,j<N->0<=f j/\f j<(p^m:Nat)):∀i,i<=k->∀j,j<k->OX p m ml a (fun i=>piv.getD i 0) f i (piv.getD j 0)=if j<i then 0 else f (piv.getD j 0)
 | 0,_,j,_=>by simp[OX]
 | i+1,hi,j,hj=>by
  have hg:∀j,j<k->piv[j]?=some (piv.getD j 0):=fun j hj=>by rw[List.getD_eq_getElem?_getD,List.getElem?_eq_getElem ac];rfl
  have ih:=Nf hp hm h hk hf i ac j hj;have hq0:0<p^m:=Nat.pow_pos ac;show BT p m ml (OX p m ml a _ f i) _ (a i) (piv.getD j 0)=_
  unfold BT;by_cases e:j=i
  .subst e;rw[h.one j _ (hg j hj),if_neg ae,if_pos ac,ih,if_neg ac,Ed hp hm,Bh hp hm (CD ac _),Cy ac];rfl
  .rw[h.zer j _ i (hg j hj) ac (fun e2=>e e2.symm),if_pos rfl,ih];by_cases e2:j<i
   .rw[if_pos e2,if_pos ac]
   .rw[if_neg e2,if_neg ac]
theorem Z2(hp:2<=p)(hm:1<=m)(h:PV p m k N a piv c)(hc:c<=N)(hk:piv.length=k)(hf:∀j,j<N->0<=f j/\f j<(p^m:Nat)):ZM (il N (OX p m ml a (fun i=>piv.getD i 0) f k))=true↔Cl p m ml N k a f:=by
 have e:∀g:Nat->Int,∀j,j<N->(il N g).getD j 0=g j:=fun g j hj=>by
  exact zc5
 rw[OI,AF];constructor
 .intro hz x hx;rw[<-Ng hp (fun i=>piv.getD i 0) hx k (Nat.le_refl _)];exact EO hp fun j hj=>(e _ j hj).symm.trans (hz j hj)
 .intro aA j hj;rw[e _ j hj];have hE:Tp N a (fun i=>piv.getD i 0) k:=hk ▸ RR.ech (R:=k) ⟨c,hc,h,.inl hk⟩;have h2:Cl p m ml N k a (OX p m ml a (fun i=>piv.getD i 0) f k):=fun x hx=>by
   rw[Ng hp _ hx k (Nat.le_refl _)];exact aA x hx
  have h3:=hE.zero (ml:=ml) hp hm (r:=OX p m ml a (fun i=>piv.getD i 0) f k) (fun i hi=>by
   rw[Nf hp hm h hk hf k (Nat.le_refl _) i hi,if_pos hi]) h2 hj
  have h4:=Nc (ml:=ml) (a:=a) hp (fun i=>piv.getD i 0) hf k j hj;have h5:=Er h4.1 h4.2;omega
end
section
variable {n:Nat} {S:List (Nat->Nat)}
end
end Go.Proofs.YtehieobniamagaaGreat
