/- Walk of codewrightref31.Extensions (printed by gen_exr.py). -/
import Derived.Test.YtgdmlmhpineibaaGreatZf43
import Derived.Test.YtgdmlmhpineibaaGreatZf47
import Derived.Test.YtgdmlmhpineibaaGreatZf48
namespace Go.Proofs.YtgdmlmhpineibaaGreat
set_option linter.unusedVariables false
set_option linter.unusedSimpArgs false
set_option maxRecDepth 100000
set_option maxHeartbeats 16000000
open Go.RowKit
theorem infoPart:(Tryz.prog.info? 49).map (fun i=> (i.zero,i.size,i.bytes))=some (some (.agg #[.slice none 0 0,.slice none 0 0]),2,48):=by kernel_rfl
structure PGr (w1 wr:World) (v:Value) (xs:List (List Int × List Int)) (cs:List (Value × Value)):Prop where
 ex:Ex w1 wr
 len:cs.length=xs.length
 own:wr.ownsRow w1.heap.size 49 2 v xs.length (cs.flatMap fun c=> [c.1,c.2])
 at_:∀(i:Nat) (x:List Int × List Int) (c:Value × Value),xs[i]?=some x→cs[i]?=some c→(wr.ownsRow w1.heap.size 3 1 c.1 x.1.length (ints x.1)∧Aprt c.1 v)∧(wr.ownsRow w1.heap.size 3 1 c.2 x.2.length (ints x.2)∧Aprt c.2 v)
section
variable {w1 wr w':World} {v v' u1 u2:Value} {xs:List (List Int × List Int)} {cs:List (Value × Value)} {t s:List Int}
theorem PGr.nil (h:Ex w1 wr):PGr w1 wr (.slice none 0 0) [] []:=⟨h,rfl,World.ownsRow_nil _ _ _ _,fun i x c h=> by simp at h⟩
theorem PGr.later (h:PGr w1 wr v xs cs) (hx:Ex wr w'):PGr w1 w' v xs cs:=
 ⟨h.ex.trans hx,h.len,ownsRow_ex h.own hx,fun i x c a b=> ⟨⟨ownsRow_ex (h.at_ i x c a b).1.1 hx,(h.at_ i x c a b).1.2⟩,⟨ownsRow_ex (h.at_ i x c a b).2.1 hx,(h.at_ i x c a b).2.2⟩⟩⟩
theorem PGr.app (h:PGr w1 wr v xs cs) (hg:wr.grownBy w' v.ownBlock) (hx:Ex w1 w') (hb:w1.heap.size≤wr.heap.size) (hv:w'.ownsRow w1.heap.size 49 2 v' (xs.length + 1) ((cs.flatMap fun c=> [c.1,c.2]) ++ [u1,u2]))
  (o1:w'.ownsRow wr.heap.size 3 1 u1 t.length (ints t)) (o2:w'.ownsRow wr.heap.size 3 1 u2 s.length (ints s)) (a1:Aprt u1 v') (a2:Aprt u2 v') (hat:v'.ownBlock=v.ownBlock∨∀B,v'.ownBlock=some B→wr.heap.size≤B):PGr w1 w' v' (xs ++ [(t,s)]) (cs ++ [(u1,u2)]):=by
 have key:∀ {e:TypeId} {n:Nat} {c:Value} {ys:List Value},wr.ownsRow w1.heap.size e 1 c n ys→Aprt c v→Aprt c v':=fun {e n c ys} ho ha=> by
  rcases hat with h1 | h1
  ·unfold Aprt at *;rcases ha with ha | ha
   ·exact .inl ha
   ·right;rw [h1];exact ha
  ·exact (aprt_new h1 fun B hB=> (ho.lt B hB).2).symm
 refine ⟨hx,by simp [h.len],?_,fun i x c a b=> ?_⟩
 ·rw [List.flatMap_append,List.length_append];exact hv
 ·by_cases hi:i < xs.length
  ·rw [List.getElem?_append_left hi] at a;rw [List.getElem?_append_left (by rw [h.len];exact hi)] at b;obtain ⟨⟨p1,p2⟩,⟨p3,p4⟩⟩:=h.at_ i x c a b;exact ⟨⟨p1.kept hg p2,key p1 p2⟩,⟨p3.kept hg p4,key p3 p4⟩⟩
  ·have hi':i=xs.length:=by
    have:=(List.getElem?_eq_some_iff.1 a).1;simp at this;omega
   subst hi';rw [List.getElem?_append_right (Nat.le_refl _)] at a;rw [List.getElem?_append_right (by rw [h.len];exact Nat.le_refl _),h.len] at b;simp at a b;subst a b;exact ⟨⟨ownsRow_le o1 hb,a1⟩,⟨ownsRow_le o2 hb,a2⟩⟩
end
theorem exL_succ (q:Nat) (tl sl:List Int) (j:Nat):exL q tl sl (j + 1)=exL q tl sl j ++ exJ q tl sl j:=by
 unfold exL;rw [List.range_succ,List.flatMap_append];simp
def exA (tl sl:List Int) (j c:Nat):List (List Int × List Int):=(List.range c).map fun c=> (tl ++ [(j:Int)],sl ++ [((c + 1:Nat):Int)])
theorem exA_succ (tl sl:List Int) (j c:Nat):exA tl sl j (c + 1)=exA tl sl j c ++ [(tl ++ [(j:Int)],sl ++ [((c + 1:Nat):Int)])]:=by
 unfold exA;rw [List.range_succ,List.map_append];rfl
theorem exA_len (tl sl:List Int) (j c:Nat):(exA tl sl j c).length=c:=by unfold exA;simp
theorem exL_length {q:Nat} (tl sl:List Int) (hq:q≤256):∀n,(exL q tl sl n).length≤n * 256
 | 0=> by unfold exL;simp
 | n + 1=> by
  rw [exL_succ,List.length_append];have:=exL_length tl sl hq n;have:(exJ q tl sl n).length≤256:=by
   unfold exJ;split
   ·simp
   ·simp;omega
  omega
theorem own_lit2 (w:World) (u v:Value) (e:TypeId):(w.alloc (.cells #[u,v] e)).ownsRow w.heap.size e 2 (.slice (some ⟨w.heap.size,0,none⟩) 1 1) 1 [u,v]:=
 World.ownsRow_lit w #[u,v] 1 (Nat.le_refl _) (by unfold maxLen;omega) rfl
theorem own_snc {w:World} {base:Nat} {v:Value} {l:List Int} {x:Int} (h:w.ownsRow base 3 1 v (l.length + 1) (ints l ++ [Value.int .i64 x])):w.ownsRow base 3 1 v (l ++ [x]).length (ints (l ++ [x])):=by
 have e:ints l ++ [Value.int .i64 x]=ints (l ++ [x]):=by unfold ints;simp
 rw [←e,List.length_append];exact h
theorem take_succ_c {tl:List Int} {i:Nat} {x:Int} (h:tl[i]?=some x) (j:Int):((tl.take (i + 1)).contains j)=((tl.take i).contains j || x==j):=by
 rw [Bool.eq_iff_iff,List.take_add_one,h,Bool.or_eq_true,List.contains_iff_mem,List.contains_iff_mem,beq_iff_eq,List.mem_append,Option.toList_some,List.mem_singleton];exact ⟨fun h=> h.imp id Eq.symm,fun h=> h.imp id Eq.symm⟩
theorem rExtG_any {p m n:Nat} {ml:List Int} (w:World) (hf:FSh p m ml) (hn:n≤64) (m1:Value) (hm1:ISl w m1 ml) (tl sl:List Int) (tv sv:Value) (ht:ISl w tv tl) (hs:ISl w sv sl) (hsl:sl.length=tl.length) (htn:tl.length≤n):
  Calls Tryz.prog 108 #[.agg #[.int .i64 p,.int .i64 m,m1],.int .i64 n,.agg #[tv,sv]] w fun r w'=> ∃xv cs w2,r= .returned xv∧PGr w2 w' xv (exL (p ^ m) tl sl n) cs∧Ex w w2∧Ex w w':=by
 obtain ⟨a0,a1,a2,ea,asz⟩:=box_facts w p m m1;obtain ⟨b0,b1,eb,bsz⟩:=boxP_facts (w.alloc (.cells #[.int .i64 p,.int .i64 m,m1] 24)) tv sv;rw [asz] at b0 b1 bsz;replace a0:=eb.cell a0;replace a1:=eb.cell a1;replace a2:=eb.cell a2;have HX:=hid_ (ea.trans eb);have hor:=rOrder_any (p:Int) (m:Int) m1;rw [ordS_nat hf] at hor;have hq0:=hf.q;have hq1:2≤p ^ m:=Nat.le_trans hf.p2 (Nat.le_self_pow (by have:=hf.m1;omega) p);obtain ⟨q,hq⟩:∃q,p ^ m=q:=⟨_,rfl⟩;rw [hq] at hor hq0 hq1 ⊢;have HOR:=hid_ hor;have HT:=hid_ ht;have HS:=hid_ hs;have HLN:=hid_ (exL_length (q:=q) tl sl hq0);obtain ⟨x3,y3,rfl,-,z3,-⟩:=hm1.open;obtain ⟨ta,tc,rfl,-,t2,t3⟩:=ht.open;obtain ⟨sa,sc,rfl,-,s2,s3⟩:=hs.open;unfold maxLen at t2 s2 z3;have T3:=hid_ t3;obtain ⟨B,hB⟩:∃B,w.heap.size=B:=⟨_,rfl⟩;rw [hB] at a0 a1 a2 b0 b1;have HSL:=hid_ hsl;have HTN:=hid_ htn;have HN64:=hid_ hn;have HQ:=hid_ hq0;have HQ1:=hid_ hq1;clear hf hm1 ht hs ea eb asz hq hor t3 s3 bsz hsl;go_enter Tryz.func108,Tryz.ntmps108
 go_upto_region 1 with fail
 try simp only [hB]
 clear hB;generalize (w.alloc (.cells #[.int .i64 p,.int .i64 m,.slice x3 ml.length y3] 24)).alloc (.cells #[.slice ta tl.length tc,.slice sa sl.length sc] 49)=w1 at *;have HALL:=hid_ (fun w' (h:Ex w1 w')=> (⟨h.cell a0,h.cell a1,h.cell a2,h.cell b0,h.cell b1⟩:w'.cell? ⟨B,0,none⟩=some (.int .i64 (p:Int))∧w'.cell? ⟨B,1,none⟩=some (.int .i64 (m:Int))∧w'.cell? ⟨B,2,none⟩=some (.slice x3 ml.length y3)∧w'.cell? ⟨B + 1,0,none⟩=some (.slice ta tl.length tc)∧w'.cell? ⟨B + 1,1,none⟩=some (.slice sa sl.length sc)));have HTC:=hid_ (fun w' (h:Ex w1 w') (i:Nat) (hi:i < tl.length)=> (by
  obtain ⟨b,o,h1,h2⟩:=T3.out (by omega);exact ⟨b,o,h1,h.cell (HX.out.cell (h2 i _ (get_getD hi)))⟩:∃b o,ta=some ⟨b,o,none⟩∧w'.cell? ⟨b,o + i,none⟩=some (.int .i64 (tl.getD i 0))))
 clear a0 a1 a2 b0 b1;have HG0:=hid_ (PGr.nil (Ex.refl w1));go_wp2_with fail
 go_loopw [7,8] (fun v' j' wr=> ∃(j:Nat) (cs:List (Value × Value)),j≤n∧j'= .int .i64 j∧Hid (PGr w1 wr v' (exL q tl sl j) cs)) (fun _ j' _=> n - (intOf j').toNat)
 case atStart=> exact ⟨0, [],by omega,rfl,hid_ HG0.out⟩
 case round=>
  clear HG0;obtain ⟨j,cs,hj,rfl,hpg⟩:=hrel;obtain ⟨pa,pc,hqv⟩:=own_shape hpg.out.own;subst hqv;obtain ⟨LV,hLV⟩:∃L,(exL q tl sl j).length=L:=⟨_,rfl⟩;rw [hLV] at hpg ⊢;clear hLV;by_cases hjn:j < n
  ·have i1:(j:Int) < (n:Int):=by omega
   obtain ⟨a0,a1,a2,b0,b1⟩:=HALL.out wr hpg.out.ex;obtain ⟨w8,h8⟩:∃w8,w8=wr:=⟨_,rfl⟩;have HTW:=hid_ (fun i hi=> HTC.out wr hpg.out.ex i hi);rw [←h8] at hpg HTW a0 a1 a2 b0 b1 ⊢;clear h8;have HJN:=hid_ hjn;clear hjn;go_wp2_with fail
   go_loopw [9,10] (fun u' i' wr=> ∃i:Nat,i≤tl.length∧i'= .int .i64 i∧u'= .bool ((tl.take i).contains (j:Int))∧wr=w8) (fun _ i' _=> tl.length - (intOf i').toNat)
   case atStart=> exact ⟨0,by omega,rfl,by simp,rfl⟩
   case round=>
    obtain ⟨i,hi,rfl,rfl,rfl⟩:=hrel;by_cases hit:i < tl.length
    ·obtain ⟨tb,to_,rfl,hc⟩:=HTW.out i hit;obtain ⟨x,hx⟩:∃x,tl.getD i 0=x:=⟨_,rfl⟩;rw [hx] at hc;have HTS:=hid_ (take_succ_c (tl:=tl) (i:=i) (x:=x) (by rw [←hx];exact get_getD hit) (j:Int));obtain ⟨U,hU⟩:∃U,(tl.take i).contains (j:Int)=U:=⟨_,rfl⟩;rw [hU] at HTS ⊢;have k1:(i:Int) < (tl.length:Int):=by omega
     have k2:(0:Int)≤(i:Int):=by omega
     clear hx hU
     cases U with
     | true=>
      go_wp2_with fail
      go_roundw
      case rel=> exact ⟨i + 1,by omega,by go_num,by rw [HTS.out];rfl,by first | rfl | trivial⟩
      case measure=> simp [intOf];omega
     | false=>
      obtain ⟨E,hE⟩:∃E,(x==(j:Int))=E:=⟨_,rfl⟩;rw [hE] at HTS;go_wp2_with fail
      go_roundw
      case rel=> exact ⟨i + 1,by omega,by go_num,by rw [HTS.out];rfl,by first | rfl | trivial⟩
      case measure=> simp [intOf];omega
    ·obtain rfl:i=tl.length:=by omega
     rw [List.take_length];have HEJ:=hid_ (exL_succ q tl sl j);unfold exJ at HEJ
     cases hU:tl.contains (j:Int) with
     | true=>
      rw [if_pos hU,List.append_nil] at HEJ;clear hU;have hpg2:=hpg;go_wp2_with fail
      clear a0 a1 a2 b0 b1
      go_loopw [7,11] (fun v2 c' wr=> c'= .int .i64 1∧v2= .slice pa LV pc∧Hid (PGr w1 wr (.slice pa LV pc) (exL q tl sl j) cs)) (fun _ _ _=> 0)
      case atStart=> exact ⟨rfl,rfl,hpg2⟩
      case round=>
       obtain ⟨rfl,rfl,hp3⟩:=hrel;obtain ⟨a0,a1,a2,b0,b1⟩:=HALL.out wr hp3.out.ex;have i5:(1:Int) < (q:Int):=by have:=HQ1.out;omega
       go_wp2_with (go_at_call 14;refine (HOR.out _).mono ?_;rintro e w5 ⟨rfl,hx5⟩)
       have HP5:=hid_ (hp3.out.later hx5);clear hx5;go_roundw
       case rel=> first | exact ⟨j + 1,cs,by have:=HJN.out;omega,by go_num,hid_ (by rw [HEJ.out];exact HP5.out)⟩ | ((repeat apply Exists.intro);exact ⟨⟨j + 1,cs,by have:=HJN.out;omega,by go_num,hid_ (by rw [HEJ.out];exact HP5.out)⟩,rfl⟩)
       case measure=> have:=HJN.out;simp [intOf];omega
     | false=>
      rw [if_neg (by rw [hU];decide)] at HEJ;have HPG0:=hid_ (show PGr w1 wr (.slice pa LV pc) (exL q tl sl j ++ exA tl sl j (1 - 1)) cs from by unfold exA;simpa using hpg.out);clear hU;go_wp2_with fail
      clear a0 a1 a2 b0 b1
      go_loopw [7,11] (fun v2 c' wr=> ∃(c:Nat) (cs:List (Value × Value)),1≤c∧c≤q∧c'= .int .i64 c∧Hid (PGr w1 wr v2 (exL q tl sl j ++ exA tl sl j (c - 1)) cs)) (fun _ c' _=> q - (intOf c').toNat)
      case atStart=> exact ⟨1,cs,by omega,by have:=HQ1.out;omega,rfl,HPG0⟩
      case round=>
       clear HPG0;obtain ⟨c,cs2,hc1,hcq,rfl,hp3⟩:=hrel;obtain ⟨a0,a1,a2,b0,b1⟩:=HALL.out wr hp3.out.ex;by_cases hcl:c < q
       ·have i5:(c:Int) < (q:Int):=by omega
        go_wp2_with (go_at_call 14;refine (HOR.out _).mono ?_;rintro e w5 ⟨rfl,hx5⟩)
        go_upto_region 13 with fail
        have hp5:=hp3.out.later hx5;clear hx5 hp3 a0 a1 a2 b0 b1;have HEA:=hid_ (show exL q tl sl j ++ exA tl sl j (c - 1) ++ [(tl ++ [(j:Int)],sl ++ [(c:Int)])]=exL q tl sl j ++ exA tl sl j (c + 1 - 1) from by
         have:=exA_succ tl sl j (c - 1);rw [show c - 1 + 1=c from by omega] at this;rw [show c + 1 - 1=c from by omega,this,List.append_assoc])
        obtain ⟨XS,hXS⟩:∃X,exL q tl sl j ++ exA tl sl j (c - 1)=X:=⟨_,rfl⟩;have HXL:=hid_ (show XS.length≤20000 from by
         rw [←hXS,List.length_append,exA_len];have h1:=HLN.out j;have h2:=HN64.out;have h3:=HQ.out;omega)
        rw [hXS] at hp5 HEA;obtain ⟨va,vc,rfl⟩:=own_shape hp5.own;have HP5:=hid_ hp5;have HWZ:=hid_ hp5.ex.size;have HLT:=hid_ (show tl.length≤64∧sl.length≤64 from ⟨by have:=HTN.out;have:=HN64.out;omega,by have:=HTN.out;have:=HN64.out;have:=HSL.out;omega⟩);obtain ⟨VS,hVS⟩:∃X,(cs2.flatMap fun c=> [c.1,c.2])=X:=⟨_,rfl⟩;have HVS:=hid_ hVS;have HOW:=hid_ (show w5.ownsRow w1.heap.size 49 2 (.slice va XS.length vc) XS.length VS from by rw [←hVS];exact hp5.own);clear hp5 hXS hVS;refine wp_region_rw (w0:=w1) (fun k=> ([⟨.val fun l=> .slice va XS.length vc, [],19⟩,⟨.new 3 1 (0) fun l=> [], [],4⟩,⟨.val fun l=> .pointer (some ⟨B + 1,0,none⟩), [],19⟩,⟨.val fun l=> .slice ta tl.length tc, [],19⟩,⟨.app (some 1) 3 1 (tl.length) fun l=> ints tl, [],7⟩,⟨.val fun l=> .int .i64 (j:Int), [],19⟩,⟨.new 3 1 (1) fun l=> [.int .i64 (j:Int)], [],19⟩,⟨.app (some 4) 3 1 ((tl ++ [(j:Int)]).length) fun l=> ints (tl ++ [(j:Int)]), [],19⟩,⟨.new 3 1 (0) fun l=> [], [],11⟩,⟨.val fun l=> .pointer (some ⟨B + 1,1,none⟩), [],19⟩,⟨.val fun l=> .slice sa sl.length sc, [],19⟩,⟨.app (some 8) 3 1 (sl.length) fun l=> ints sl, [],14⟩,⟨.val fun l=> .int .i64 (c:Int), [],19⟩,⟨.new 3 1 (1) fun l=> [.int .i64 (c:Int)], [],19⟩,⟨.app (some 11) 3 1 ((sl ++ [(c:Int)]).length) fun l=> ints (sl ++ [(c:Int)]), [],19⟩,⟨.val fun l=> .agg #[l.getD 0 undef,l.getD 1 undef], [7,14],19⟩,⟨.new 49 2 (1) fun l=> [l.getD 0 undef,l.getD 1 undef], [7,14],19⟩,⟨.app none 49 2 (XS.length + 1) fun l=> VS ++ [l.getD 0 undef,l.getD 1 undef], [7,14],19⟩,⟨.val fun l=> l.getD 0 undef, [17],19⟩]:List RDc).getD k ⟨.val fun _=> undef, [],19⟩) 19 17 w1.heap.size ((.slice va XS.length vc)) 49 2 (XS.length) (VS) (by kernel_rfl) (by kernel_rfl) (by decide) HP5.out.ex HOW.out ?_ ?_
        ·simp only [StepAll];refine ⟨?_,?_,?_,?_,?_,?_,?_,?_,?_,?_,?_,?_,?_,?_,?_,?_,?_,?_,?_,trivial⟩
         ·refine OpRw.val rfl (by decide) (by decide) rfl fun L V a w' H=> ?_;refine ⟨fun d hd=> (by cases hd),fun Kc hK=> ?_⟩;have hL:L 18=false:=bool_no fun h=> by
           have h17:=H.hcl 18 _ h rfl ⟨17,.data⟩ (by simp) rfl;have h0:=H.hcl 17 _ h17 rfl ⟨0,.data⟩ (by simp) rfl;exact absurd (H.hi.symm.trans h0) (by decide)
          have e7:a.tmps[7]?=some (.slice va XS.length vc):=H.hold 7 18 (by kernel_rfl) hL;clear H;go_simp;exact hK _ (Ex.refl w')
         ·refine OpRw.new rfl (by decide) (by decide) fun L V a w' H=> ?_;refine ⟨fun d hd=> (by cases hd),fun Kc hK=> ?_⟩;clear H;go_simp;exact hK _ _ (e_al w' _) (own_lit0 w' _)
         ·refine OpRw.val rfl (by decide) (by decide) rfl fun L V a w' H=> ?_;refine ⟨fun d hd=> (by cases hd),fun Kc hK=> ?_⟩;have e5:a.tmps[5]?=some (.pointer (some ⟨B + 1,0,none⟩)):=H.hout 5 (by kernel_rfl);clear H;go_simp;exact hK _ (Ex.refl w')
         ·refine OpRw.val rfl (by decide) (by decide) rfl fun L V a w' H=> ?_;refine ⟨fun d hd=> (by cases hd),fun Kc hK=> ?_⟩;have d2:L 2=true:=H.hd ⟨2,.data⟩ (by simp) rfl;have e46:=H.hin 2 46 _ d2 rfl rfl;have s2:V 2= .pointer (some ⟨B + 1,0,none⟩):=H.hj.says 2 d2 (bool_no fun h=> absurd (H.hj.lt _ h) (Nat.lt_irrefl _));rw [s2] at e46;have c3:=(HALL.out w' H.hj.ex).2.2.2.1;clear H;go_simp;exact hK _ (Ex.refl w')
         ·refine OpRw.app rfl (by decide) (by decide) rfl rfl (Nat.le_refl _) HWZ.out (fun L V a w' H=> ?_) (by intro t s n ys h;cases h);have dc:L 1=true:=H.hd ⟨1,.data⟩ (by simp) rfl;refine ⟨dc,fun d hd=> (by cases hd),fun Kc hws hsays hK=> ?_⟩;have d1:L 1=true:=H.hd ⟨1,.data⟩ (by simp) rfl;have e45:=H.hin 1 45 _ d1 rfl rfl;have d3:L 3=true:=H.hd ⟨3,.data⟩ (by simp) rfl;have e47:=H.hin 3 47 _ d3 rfl rfl;have s3:V 3= .slice ta tl.length tc:=H.hj.says 3 d3 (bool_no fun h=> absurd (H.hj.lt _ h) (Nat.lt_irrefl _));rw [s3] at e47;have E1:=eval_tmp e45;have E2:=eval_tmp e47;have own:w'.ownsRow w5.heap.size 3 1 (V 1) (0) ([]):=hsays;have hSl:Sl w' (.slice ta tl.length tc) (tl.length) 1 (ints tl):=HT.out.ex (HX.out.trans H.hj.ex);refine opwp_append _ _ 22 rfl w5.heap.size 3 (.int .i64 0) 1 8 Tryz.underlying22 infoInt rfl (by decide) (V 1) (0) ([]) E1 own (.slice ta tl.length tc) (tl.length) (ints tl) E2 hSl (by intro u hu;unfold ints at hu;rw [List.mem_map] at hu;obtain ⟨z,-,rfl⟩:=hu;rfl) (by have:=HLT.out.1;unfold maxLen;omega) (by have:=HLT.out.1;omega) hws ?_;intro v' w2 hown hg hat
          exact hK _ _ (by rw [Nat.zero_add,List.nil_append] at hown;exact hown) hg hat
         ·refine OpRw.val rfl (by decide) (by decide) rfl fun L V a w' H=> ?_;refine ⟨fun d hd=> (by cases hd),fun Kc hK=> ?_⟩;have e8:a.tmps[8]?=some (.int .i64 (j:Int)):=H.hout 8 (by kernel_rfl);clear H;go_simp;exact hK _ (Ex.refl w')
         ·refine OpRw.new rfl (by decide) (by decide) fun L V a w' H=> ?_;refine ⟨fun d hd=> (by cases hd),fun Kc hK=> ?_⟩;have d5:L 5=true:=H.hd ⟨5,.data⟩ (by simp) rfl;have e49:=H.hin 5 49 _ d5 rfl rfl;have s5:V 5= .int .i64 (j:Int):=H.hj.says 5 d5 (bool_no fun h=> absurd (H.hj.lt _ h) (Nat.lt_irrefl _));rw [s5] at e49;clear H;go_simp;exact hK _ _ (e_al w' _) (own_lit1 w' _ _)
         ·refine OpRw.app rfl (by decide) (by decide) rfl rfl (Nat.le_refl _) HWZ.out (fun L V a w' H=> ?_) (by intro t s n ys h;cases h);have dc:L 4=true:=H.hd ⟨4,.data⟩ (by simp) rfl;refine ⟨dc,fun d hd=> (by cases hd),fun Kc hws hsays hK=> ?_⟩;have d4:L 4=true:=H.hd ⟨4,.data⟩ (by simp) rfl;have e48:=H.hin 4 48 _ d4 rfl rfl;have d6:L 6=true:=H.hd ⟨6,.data⟩ (by simp) rfl;have e50:=H.hin 6 50 _ d6 rfl rfl;have E1:=eval_tmp e48;have E2:=eval_tmp e50;have own:w'.ownsRow w5.heap.size 3 1 (V 4) (tl.length) (ints tl):=hsays;have hSl:Sl w' (V 6) (1) 1 ([.int .i64 (j:Int)]):=Sl.own (H.hj.says 6 d6 (bool_no fun h=> absurd (H.hj.lt _ h) (Nat.lt_irrefl _)));refine opwp_append _ _ 22 rfl w5.heap.size 3 (.int .i64 0) 1 8 Tryz.underlying22 infoInt rfl (by decide) (V 4) (tl.length) (ints tl) E1 own (V 6) (1) ([.int .i64 (j:Int)]) E2 hSl (by simp [Value.oneCell']) (by have:=HLT.out.1;unfold maxLen;omega) (by have:=HLT.out.1;omega) hws ?_;intro v' w2 hown hg hat
          exact hK _ _ (own_snc hown) hg hat
         ·refine OpRw.new rfl (by decide) (by decide) fun L V a w' H=> ?_;refine ⟨fun d hd=> (by cases hd),fun Kc hK=> ?_⟩;clear H;go_simp;exact hK _ _ (e_al w' _) (own_lit0 w' _)
         ·refine OpRw.val rfl (by decide) (by decide) rfl fun L V a w' H=> ?_;refine ⟨fun d hd=> (by cases hd),fun Kc hK=> ?_⟩;have e5:a.tmps[5]?=some (.pointer (some ⟨B + 1,0,none⟩)):=H.hout 5 (by kernel_rfl);clear H;go_simp;exact hK _ (Ex.refl w')
         ·refine OpRw.val rfl (by decide) (by decide) rfl fun L V a w' H=> ?_;refine ⟨fun d hd=> (by cases hd),fun Kc hK=> ?_⟩;have d9:L 9=true:=H.hd ⟨9,.data⟩ (by simp) rfl;have e53:=H.hin 9 53 _ d9 rfl rfl;have s9:V 9= .pointer (some ⟨B + 1,1,none⟩):=H.hj.says 9 d9 (bool_no fun h=> absurd (H.hj.lt _ h) (Nat.lt_irrefl _));rw [s9] at e53;have c3:=(HALL.out w' H.hj.ex).2.2.2.2;clear H;go_simp;exact hK _ (Ex.refl w')
         ·refine OpRw.app rfl (by decide) (by decide) rfl rfl (Nat.le_refl _) HWZ.out (fun L V a w' H=> ?_) (by intro t s n ys h;cases h);have dc:L 8=true:=H.hd ⟨8,.data⟩ (by simp) rfl;refine ⟨dc,fun d hd=> (by cases hd),fun Kc hws hsays hK=> ?_⟩;have d8:L 8=true:=H.hd ⟨8,.data⟩ (by simp) rfl;have e52:=H.hin 8 52 _ d8 rfl rfl;have d10:L 10=true:=H.hd ⟨10,.data⟩ (by simp) rfl;have e54:=H.hin 10 54 _ d10 rfl rfl;have s10:V 10= .slice sa sl.length sc:=H.hj.says 10 d10 (bool_no fun h=> absurd (H.hj.lt _ h) (Nat.lt_irrefl _));rw [s10] at e54;have E1:=eval_tmp e52;have E2:=eval_tmp e54;have own:w'.ownsRow w5.heap.size 3 1 (V 8) (0) ([]):=hsays;have hSl:Sl w' (.slice sa sl.length sc) (sl.length) 1 (ints sl):=HS.out.ex (HX.out.trans H.hj.ex);refine opwp_append _ _ 22 rfl w5.heap.size 3 (.int .i64 0) 1 8 Tryz.underlying22 infoInt rfl (by decide) (V 8) (0) ([]) E1 own (.slice sa sl.length sc) (sl.length) (ints sl) E2 hSl (by intro u hu;unfold ints at hu;rw [List.mem_map] at hu;obtain ⟨z,-,rfl⟩:=hu;rfl) (by have:=HLT.out.2;unfold maxLen;omega) (by have:=HLT.out.2;omega) hws ?_;intro v' w2 hown hg hat
          exact hK _ _ (by rw [Nat.zero_add,List.nil_append] at hown;exact hown) hg hat
         ·refine OpRw.val rfl (by decide) (by decide) rfl fun L V a w' H=> ?_;refine ⟨fun d hd=> (by cases hd),fun Kc hK=> ?_⟩;have e11:a.tmps[11]?=some (.int .i64 (c:Int)):=H.hout 11 (by kernel_rfl);clear H;go_simp;exact hK _ (Ex.refl w')
         ·refine OpRw.new rfl (by decide) (by decide) fun L V a w' H=> ?_;refine ⟨fun d hd=> (by cases hd),fun Kc hK=> ?_⟩;have d12:L 12=true:=H.hd ⟨12,.data⟩ (by simp) rfl;have e56:=H.hin 12 56 _ d12 rfl rfl;have s12:V 12= .int .i64 (c:Int):=H.hj.says 12 d12 (bool_no fun h=> absurd (H.hj.lt _ h) (Nat.lt_irrefl _));rw [s12] at e56;clear H;go_simp;exact hK _ _ (e_al w' _) (own_lit1 w' _ _)
         ·refine OpRw.app rfl (by decide) (by decide) rfl rfl (Nat.le_refl _) HWZ.out (fun L V a w' H=> ?_) (by intro t s n ys h;cases h);have dc:L 11=true:=H.hd ⟨11,.data⟩ (by simp) rfl;refine ⟨dc,fun d hd=> (by cases hd),fun Kc hws hsays hK=> ?_⟩;have d11:L 11=true:=H.hd ⟨11,.data⟩ (by simp) rfl;have e55:=H.hin 11 55 _ d11 rfl rfl;have d13:L 13=true:=H.hd ⟨13,.data⟩ (by simp) rfl;have e57:=H.hin 13 57 _ d13 rfl rfl;have E1:=eval_tmp e55;have E2:=eval_tmp e57;have own:w'.ownsRow w5.heap.size 3 1 (V 11) (sl.length) (ints sl):=hsays;have hSl:Sl w' (V 13) (1) 1 ([.int .i64 (c:Int)]):=Sl.own (H.hj.says 13 d13 (bool_no fun h=> absurd (H.hj.lt _ h) (Nat.lt_irrefl _)));refine opwp_append _ _ 22 rfl w5.heap.size 3 (.int .i64 0) 1 8 Tryz.underlying22 infoInt rfl (by decide) (V 11) (sl.length) (ints sl) E1 own (V 13) (1) ([.int .i64 (c:Int)]) E2 hSl (by simp [Value.oneCell']) (by have:=HLT.out.2;unfold maxLen;omega) (by have:=HLT.out.2;omega) hws ?_;intro v' w2 hown hg hat
          exact hK _ _ (own_snc hown) hg hat
         ·refine OpRw.val rfl (by decide) (by decide) rfl fun L V a w' H=> ?_;have L7:L 7=true:=H.hd ⟨7,.data⟩ (by simp) rfl;have L14:L 14=true:=H.hd ⟨14,.data⟩ (by simp) rfl;refine ⟨fun d hd=> (by simp at hd;rcases hd with rfl | rfl <;> assumption),fun Kc hK=> ?_⟩;have d7:L 7=true:=H.hd ⟨7,.data⟩ (by simp) rfl;have e51:=H.hin 7 51 _ d7 rfl rfl;have d14:L 14=true:=H.hd ⟨14,.data⟩ (by simp) rfl;have e58:=H.hin 14 58 _ d14 rfl rfl;obtain ⟨q7,r7,h7⟩:=own_shape (H.hj.says 7 L7 (bool_no fun h=> absurd (H.hj.lt _ h) (Nat.lt_irrefl _)));obtain ⟨q14,r14,h14⟩:=own_shape (H.hj.says 14 L14 (bool_no fun h=> absurd (H.hj.lt _ h) (Nat.lt_irrefl _)));rw [show (tl ++ [(j:Int)]).length=tl.length + 1 from by simp] at h7;rw [show (sl ++ [(c:Int)]).length=sl.length + 1 from by simp] at h14;replace hK:∀w2,Ex w' w2→Kc (a.put (some 59) (.agg #[V 7,V 14])) w2:=hK;rw [h7] at e51;rw [h14] at e58;rw [h7,h14] at hK;clear H;go_simp;exact hK _ (Ex.refl w')
         ·refine OpRw.new rfl (by decide) (by decide) fun L V a w' H=> ?_;have g15:L 15=true:=H.hd ⟨15,.data⟩ (by simp) rfl;have L7:L 7=true:=H.hcl 15 _ g15 rfl ⟨7,.data⟩ (by simp) rfl;have L14:L 14=true:=H.hcl 15 _ g15 rfl ⟨14,.data⟩ (by simp) rfl;refine ⟨fun d hd=> (by simp at hd;rcases hd with rfl | rfl <;> assumption),fun Kc hK=> ?_⟩;have d15:L 15=true:=H.hd ⟨15,.data⟩ (by simp) rfl;have e59:=H.hin 15 59 _ d15 rfl rfl;have s15:V 15= .agg #[V 7,V 14]:=H.hj.says 15 d15 (bool_no fun h=> absurd (H.hj.lt _ h) (Nat.lt_irrefl _));rw [s15] at e59;obtain ⟨q7,r7,h7⟩:=own_shape (H.hj.says 7 L7 (bool_no fun h=> absurd (H.hj.lt _ h) (Nat.lt_irrefl _)));obtain ⟨q14,r14,h14⟩:=own_shape (H.hj.says 14 L14 (bool_no fun h=> absurd (H.hj.lt _ h) (Nat.lt_irrefl _)));rw [show (tl ++ [(j:Int)]).length=tl.length + 1 from by simp] at h7;rw [show (sl ++ [(c:Int)]).length=sl.length + 1 from by simp] at h14;replace hK:∀u w2,Ex w' w2→w2.ownsRow w'.heap.size 49 2 u 1 [V 7,V 14]→Kc (a.put (some 60) u) w2:=hK;rw [h7,h14] at e59 hK;clear H;go_simp;exact hK _ _ (e_al w' _) (own_lit2 w' _ _ _)
         ·refine OpRw.out rfl (by decide) rfl (Nat.le_refl _) fun L V a w' H=> ?_;have g16:L 16=true:=H.hd ⟨16,.data⟩ (by simp) rfl;have g15:L 15=true:=H.hcl 16 _ g16 rfl ⟨15,.data⟩ (by simp) rfl;have L7:L 7=true:=H.hcl 15 _ g15 rfl ⟨7,.data⟩ (by simp) rfl;have L14:L 14=true:=H.hcl 15 _ g15 rfl ⟨14,.data⟩ (by simp) rfl;refine ⟨fun d hd=> (by simp at hd;rcases hd with rfl | rfl <;> assumption),fun Kc hws hown0 hK=> ?_⟩;have d0:L 0=true:=H.hd ⟨0,.data⟩ (by simp) rfl;have e44:=H.hin 0 44 _ d0 rfl rfl;have s0:V 0= .slice va XS.length vc:=H.hj.says 0 d0 (bool_no fun h=> absurd (H.hj.lt _ h) (Nat.lt_irrefl _));rw [s0] at e44;have d16:L 16=true:=H.hd ⟨16,.data⟩ (by simp) rfl;have e60:=H.hin 16 60 _ d16 rfl rfl;obtain ⟨q7,r7,h7⟩:=own_shape (H.hj.says 7 L7 (bool_no fun h=> absurd (H.hj.lt _ h) (Nat.lt_irrefl _)));obtain ⟨q14,r14,h14⟩:=own_shape (H.hj.says 14 L14 (bool_no fun h=> absurd (H.hj.lt _ h) (Nat.lt_irrefl _)));rw [show (tl ++ [(j:Int)]).length=tl.length + 1 from by simp] at h7;rw [show (sl ++ [(c:Int)]).length=sl.length + 1 from by simp] at h14;have E1:=eval_tmp e44;have E2:=eval_tmp e60;have own:=hown0;have hSl:Sl w' (V 16) (1) 2 ([V 7,V 14]):=Sl.own (H.hj.says 16 d16 (bool_no fun h=> absurd (H.hj.lt _ h) (Nat.lt_irrefl _)));refine opwp_append _ _ 146 rfl w1.heap.size 49 (.agg #[.slice none 0 0,.slice none 0 0]) 2 48 Tryz.underlying146 infoPart rfl (by decide) ((.slice va XS.length vc)) (XS.length) (VS) E1 own (V 16) (1) ([V 7,V 14]) E2 hSl (by rw [h7,h14];intro u hu;simp at hu;rcases hu with rfl | rfl <;> rfl) (by have:=HXL.out;unfold maxLen;omega) (by have:=HXL.out;omega) (Nat.le_trans HWZ.out hws) ?_;intro v' w2 hown hg hat
          exact hK _ _ hown hg hat
         ·refine OpRw.val rfl (by decide) (by decide) rfl fun L V a w' H=> ?_;have L17:L 17=true:=H.hd ⟨17,.data⟩ (by simp) rfl;refine ⟨fun d hd=> (by simp at hd;subst hd;exact L17),fun Kc hK=> ?_⟩;have d17:L 17=true:=H.hd ⟨17,.data⟩ (by simp) rfl;have e61:=H.hin 17 61 _ d17 rfl rfl;clear H;go_simp;exact hK _ (Ex.refl w')
        ·intro L V w' hall hj;have o17:w'.ownsRow w1.heap.size 49 2 (V 17) (XS.length + 1) (VS ++ [V 7,V 14]):=hj.says 17 (hall 17 (by decide)) (bool_no fun h=> absurd (hj.lt _ h) (Nat.lt_irrefl _));have o7:w'.ownsRow w5.heap.size 3 1 (V 7) (tl ++ [(j:Int)]).length (ints (tl ++ [(j:Int)])):=hj.says 7 (hall 7 (by decide)) (bool_no fun h=> absurd (hj.lt _ h) (Nat.lt_irrefl _));have o14:w'.ownsRow w5.heap.size 3 1 (V 14) (sl ++ [(c:Int)]).length (ints (sl ++ [(c:Int)])):=hj.says 14 (hall 14 (by decide)) (bool_no fun h=> absurd (hj.lt _ h) (Nat.lt_irrefl _));have s18:V 18=V 17:=hj.says 18 (hall 18 (by decide)) (bool_no fun h=> absurd (hj.lt _ h) (Nat.lt_irrefl _));have nn:L 19=false:=bool_no fun h=> absurd (hj.lt _ h) (Nat.lt_irrefl _);have p7:=hj.ap 7 17 (hall 7 (by decide)) (hall 17 (by decide)) nn nn (by decide) rfl rfl;have p14:=hj.ap 14 17 (hall 14 (by decide)) (hall 17 (by decide)) nn nn (by decide) rfl rfl;have hat:=hj.oat (hall 17 (by decide));rw [←HVS.out] at o17;have HP:=hid_ (HP5.out.app hj.gr hj.ex HWZ.out o17 o7 o14 p7 p14 hat);rw [HEA.out,←s18] at HP;clear hj hall o17 o7 o14 s18 nn p7 p14 hat
         simp only [putK,Act.put,List.setIfInBounds_toArray,List.set_cons_zero,List.set_cons_succ];go_wp2_with fail
         go_roundw
         case rel=> first | exact ⟨c + 1,_,by omega,by omega,by go_num,HP⟩ | ((repeat apply Exists.intro);exact ⟨⟨c + 1,_,by omega,by omega,by go_num,HP⟩,rfl⟩)
         case measure=> simp [intOf];omega
       ·obtain rfl:q=c:=by omega
        have HJ1:=hid_ (show exL q tl sl j ++ exA tl sl j (q - 1)=exL q tl sl (j + 1) from HEJ.out.symm);rw [HJ1.out] at hp3;have i5:¬(q:Int) < (q:Int):=by omega
        go_wp2_with (go_at_call 14;refine (HOR.out _).mono ?_;rintro e w5 ⟨rfl,hx5⟩)
        have HP5:=hid_ (hp3.out.later hx5);clear hx5;go_roundw
        case rel=> first | exact ⟨j + 1,cs2,by have:=HJN.out;omega,by go_num,HP5⟩ | ((repeat apply Exists.intro);exact ⟨⟨j + 1,cs2,by have:=HJN.out;omega,by go_num,HP5⟩,rfl⟩)
        case measure=> have:=HJN.out;simp [intOf];omega
  ·obtain rfl:n=j:=by omega
   go_wp2_with fail
   go_ret;exact ⟨_,cs,w1,rfl,hpg.out,HX.out,HX.out.trans hpg.out.ex⟩
end Go.Proofs.YtgdmlmhpineibaaGreat
