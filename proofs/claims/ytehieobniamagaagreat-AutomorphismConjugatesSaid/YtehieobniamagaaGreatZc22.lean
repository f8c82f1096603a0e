/- Walk of perm.Orbits. -/
import Derived.Test.YtehieobniamagaaGreatZc21
namespace Go.Proofs.YtehieobniamagaaGreat
open Go.RowKit
set_option linter.all false
set_option maxRecDepth 100000
set_option maxHeartbeats 4000000
def SC:Prop:=∀(w:World) (base:Nat) (v:Value) (l:List Int),w.ownsRow base 3 1 v l.length (Ap l)->1<=l.length->l.length<=1000->
 Calls Tryz.prog 125 #[v] w fun r w'=>r= .returned (.tuple #[])/\w'.ownsRow base 3 1 v l.length (Ap (l.mergeSort fun x y=>decide (x<=y)))/\w.grownBy w' v.ownBlock
theorem Li{w:World}{base aA:Nat}{e:TypeId}{size:Nat}{v:Value}{n:Nat}{xs:List Value}(h:w.ownsRow base e size v n xs)(hb:aA<=base):w.ownsRow aA e size v n xs:=by
 exact zb3
section
variable {w0 wr:World} {base g n:Nat} {sf:Nat->Bool} {cyv:Value} {cyc:List Int} {cv:Value} {M:List (List Int)} {vals:List Value}
theorem Ct.lit(h:Ct w0 wr base g n sf cyv cyc cv M vals)(x:Int):Ct w0 (wr.alloc (.cells #[x] 3)) base g n sf (.slice (some (wr.heap.size,0)) 1 1) [x] cv M vals:=by
 have hx:Ex wr (wr.alloc (.cells #[x] 3)):=(Ex.refl _).alloc _;have h2:=h.later hx;refine⟨h2.sn,?_,h2.m,?_,fun u hu=>?_,h2.gb,h2.ex,h2.wb⟩
 .have:=Fy wr (.int .i64 x) 3;exact Li this h.wb
 .right;intro e;have:=(h.m.cvo.lt wr.heap.size e.symm).2;omega
 .unfold AT
  cases e:u.ownBlock with
  | none=>exact .inl rfl
  | some b=>
   right;intro e2;injection e2 with e2;have e2:b=wr.heap.size:=e2;have hn:=h.m.len;obtain⟨i,hi,ei⟩:=List.getElem_of_mem hu;have:=((h.m.row i (M[i]'ac) u (List.getElem?_eq_getElem _) (by rw[List.getElem?_eq_getElem hi,ei])).lt b e).2;omega
theorem Ct.turn(h:Ct w0 wr base g n sf cyv cyc cv M vals){w':World}{l:List Int}(hl:l.length=cyc.length)(ho:w'.ownsRow base 3 1 cyv cyc.length (Ap l))(hg:wr.grownBy w' cyv.ownBlock):Ct w0 w' base g n sf cyv l cv M vals:=by
 have aA:cyv.ownBlock≠some g:=fun e=>by have:=(h.cy.lt _ e).1;have:=h.gb;omega
 refine⟨h.sn.kept hg (.inr fun e=>aA e.symm),by rw[hl];exact ho,⟨h.m.cvo.kept hg h.ap1.symm,fun i r u h1 h2=>(h.m.row i r u h1 h2).kept hg (h.ap2 u (List.mem_of_getElem? h2)),h.m.apart⟩,h.ap1,h.ap2,h.gb,Ex.grown h.ex h.cy (by have:=h.gb;have:=h.sn.lt.1;omega) hg,Nat.le_trans h.wb hg.size⟩
end
def CU(q:List Nat):List Int:=q.map fun (x:Nat)=>(x:Int)
theorem Cj(q:List Nat):(CU q).length=q.length:=by unfold CU;simp
theorem TF{q:List Nat}{k x:Nat}(h:q[k]?=some x):(CU q)[k]?=some (x:Int):=by unfold CU;rw[List.getElem?_map,h];rfl
theorem TG(q:List Nat)(x:Nat):CU (q ++ [x])=CU q ++ [(x:Int)]:=by unfold CU;simp
theorem zbJ{P:Prop}(h:P:=by
 unfold CU;rw[List.mem_map];exact⟨fun h=>⟨x,h,rfl⟩,fun ⟨y,hy,e⟩=>by
   have:y=x:=by omega
   subst this;exact hy⟩):P:=h
theorem VN{n:Nat}{S:List (Nat->Nat)}(hS:∀s∈S,AY n s){i:Nat}(hi:i<n){q:List Nat}(aB:q.Nodup)(hq:∀y,y∈q↔Ej S i y):(CU q).mergeSort (fun x y=>decide (x<=y))=RJ n S i:=by
 have hp:((CU q).mergeSort fun x y=>decide (x<=y)).Perm (CU q):=List.mergeSort_perm _ _;have hs:((CU q).mergeSort fun x y=>decide (x<=y)).Pairwise fun x y=>decide (x<=y)=true:=List.pairwise_mergeSort (fun a b c h1 h2=>by simp at *;omega) (fun a b=>by simp;omega) _;have aA:((CU q).mergeSort fun x y=>decide (x<=y)).Nodup:=hp.nodup_iff.2 (by
  unfold CU;rw[List.nodup_iff_pairwise_ne]at aB ⊢;exact List.pairwise_map.2 (aB.imp fun {a b} h e=>h ac))
 generalize (CU q).mergeSort (fun x y=>decide (x<=y))=m at *;obtain⟨r,hr⟩:∃r:List Nat,m=CU r:=by
  refine⟨m.map Int.toNat,?_⟩;unfold CU;rw[List.map_map];have:∀x∈m,((fun (x:Nat)=>(x:Int)) ∘ Int.toNat) x=x:=fun x hx=>by
   obtain⟨y,_,rfl⟩:=List.mem_map.1 (hp.mem_iff.1 hx);rfl
  rw[List.map_congr_left this,List.map_id']
 subst hr;unfold RJ;show CU r=CU _
 congr 1
 refine QU ?_ (Ws n S i) fun x=>?_
 .have h1:(CU r).Pairwise (fun x y=>decide (x<=y)=true/\x≠y):=hs.and (List.nodup_iff_pairwise_ne.1 aA);unfold CU at h1;rw[List.pairwise_map]at h1;exact h1.imp fun {a b} h=>by have:=of_decide_eq_true h.1;have:=h.2;omega
 .rw[WJ];have h2:x∈r↔(x:Int)∈CU r:=by
   exact zbJ
  have h3:x∈q↔(x:Int)∈CU q:=by
   exact zbJ
  rw[h2,hp.mem_iff,<-h3,hq];exact⟨fun h=>⟨h.lt hS hi,h⟩,fun h=>h.2⟩
open Classical in
noncomputable def CF (S:List (Nat->Nat)) (i:Nat) (q:List Nat):Nat->Bool:=fun x=>decide (Gm S i x∨x∈q)
open Classical in
theorem Jb (S:List (Nat->Nat)) (i x:Nat):CF S i [] x=decide (Gm S i x):=by unfold CF;simp
open Classical in
theorem Nk (S:List (Nat->Nat)) (i:Nat) (q:List Nat) (x:Nat):Ay (CF S i q) x true=CF S i (q ++ [x]):=by
 funext y;unfold Ay CF;by_cases h:y=x
 .subst h;simp
 .simp[h]
open Classical in
theorem Uz {n:Nat} {S:List (Nat->Nat)} (hS:∀s∈S,AY n s) {i:Nat} {q:List Nat} (hq:∀y,y∈q↔Ej S i y) (x:Nat):CF S i q x=CF S (i+1) [] x:=by
 unfold CF;rw[Bool.eq_iff_iff];simp only[decide_eq_true_eq,List.not_mem_nil,or_false];rw[KW hS,hq]
open Classical in
theorem VZ {n:Nat} {S:List (Nat->Nat)} (hS:∀s∈S,AY n s) {i:Nat} (h:¬Pc S i) (x:Nat):CF S i [] x=CF S (i+1) [] x:=by
 unfold CF;rw[Bool.eq_iff_iff];simp only[decide_eq_true_eq,List.not_mem_nil,or_false];exact(VY hS h).symm
noncomputable def ID(n:Int)(rows:List (List Int)):List (List Int) × Int:=if Ez n rows≠0 then([],Ez n rows) else(Dz n.toNat (rows.map CJ) n.toNat,0)
def OrbR(n:Int)(rows:List (List Int))(r:Ending)(w':World):Prop:=∃v,r= .returned (.tuple #[v,.int .i64 (ID n rows).2])/\B9 w' v (ID n rows).1
theorem Ok{n:Int}{rows k:List (List Int)}{e:Int}{v:Value}{w':World}(h:ID n rows=(k,e))(hv:B9 w' v k):OrbR n rows (.returned (.tuple #[v,e])) w':=⟨v,by rw[h],by rw[h];exact hv⟩
theorem Ev{N:Nat}{S:List (Nat->Nat)}(hS:∀s∈S,AY N s):(S.map (li N)).map CJ=S:=by
 rw[List.map_map];have:∀s∈S,(CJ ∘ li N) s=s:=fun s hs=>F8 (hS s hs);rw[List.map_congr_left this,List.map_id']
theorem zcj{P:Prop}(h:P:=by
 rw[BC.o.sn.cell bG];show some (Value.bool (CF S i q (s x)))=_
 unfold CF;simp[hm]):P:=h
theorem SD(bQ:SC)(w:World)(n:Int)(rows:List (List Int))(v:Value)(hv:B9 w v rows)(hrl:rows.length<=1000):
  Calls Tryz.prog 65 #[n,v] w fun r w'=>OrbR n rows r w'/\Ex w w':=by
 have HV:=Aa hv;have HG:=Aa (GP w n rows v hv);obtain⟨a,cap,rfl,_,s2,_⟩:=hv.open;unfold maxLen at s2;obtain⟨e,he⟩:=nA (Ez n rows);rw[he]at HG;clear hv;by_cases h0:e=0
 .subst h0;obtain⟨N,rfl,hN1,bS,S,aP,hS⟩:=Kq he;obtain⟨HP,HS,bU,HN⟩:=Eq (show ID N rows=(Dz N S N,0) from by unfold ID;rw[he,if_neg ae,aP,Ev hS];rfl) hS aP bS;have bJ:S.length=rows.length:=by rw[aP];simp
  have bN:=Aa bJ;clear he hS aP bJ;go_enter Tryz.func65,Tryz.ntmps65
  go_wp2_with (first|(go_at_call 124;refine HG.o.mono ?_;rintro e w1⟨rfl,aJ⟩;have aQ:=Aa aJ;clear aJ)|(at_make;refine Ar _ rfl _ _ 168 rfl 4 (.bool false) 1 Tryz.underlying168 LO rfl _ N rfl rfl rfl ac ai ?_))
  intro w3 aC bE;have aE:=Aa (Ct.start aC bE (sf:=CF S 0 []) fun x _=>by
   rw[Jb];simp[Gm])
  clear aC bE;obtain⟨g,hg⟩:=nA w1.heap.size
  try simp only[hg]at aE ⊢
  clear hg;go_wp2_with fail
  go_loopw [24,8,10] (fun i' bT aO wr=>∃(i:Nat) (vals:List Value),i<=N/\i'= .int .i64 i/\Hia (Ct w1 wr (g+1) g N (CF S i []) (.slice none 0 0) [] bT (Dz N S i) vals)) (fun i' _ _ _=>N-(intOf i').toNat)
  case atStart=>exact⟨0,_,ac,rfl,aE⟩
  case round=>
   clear aE;obtain⟨i,vals,hi,rfl,BC⟩:=hrel;obtain⟨bL,bK,bR⟩:=Ad BC.o.m.cvo;subst bR;have cB:=Aa (UP N S i);by_cases hin:i<N
   .have i1:(0:Int)<=(i:Int):=by omega
    have i2:(i:Int)<(N:Int):=ac;have c2:=BC.o.sn.frz i;by_cases hl:Pc S i
    .have c1:wr.cell? (g,i)=some (.bool false):=by
      rw[BC.o.sn.cell hin];show some (Value.bool (CF S i [] i))=_
      rw[Jb];have:¬Gm S i i:=fun h=>H4.1 h hl;simp[this]
     have HL:=Aa hl;have bF:(wr.setCell (g,i) (.bool true)).heap.size=wr.heap.size:=cd;have bB:=Aa (((BC.o.mark i).congr (sf':=CF S i [i]) fun x _=>by rw[Nk];rfl).lit (i:Int));rw[bF]at bB;have aN:=Aa (E7.start N S i);clear BC hl bF;go_wp2_with fail
     generalize (wr.setCell (g,i) (.bool true)).alloc (.cells #[(i:Int)] 3)=wm at *
     go_loopg [10,11] N (fun gk aO k' wr=>∃(q:List Nat) (k:Nat),k<=(CU q).length/\N-k<=gk/\k'= .int .i64 k/\Hia (Ct w1 wr (g+1) g N (CF S i q) aO (CU q) (.slice bL (Dz N S i).length bK) (Dz N S i) vals)/\Hia (E7 N S i q k 0))
     case atStart=>exact⟨[i],0,ac,ac,rfl,bB,aN⟩
     case round=>
      clear bB aN c1 c2;obtain⟨q,k,hk,aV,rfl,BC,aA⟩:=hrel;have aK:=aA.o.len HS.o hin;rw[<-Cj]at aK;obtain⟨aH,bH⟩:=aK;by_cases aF:k<(CU q).length
      .have bO:=Aa (show k<N from ac);have cA:=Aa aV;have b1:decide ((k:Int)<((CU q).length:Int))=true:=by simp;omega
       obtain⟨ob,oc,aL,aG,aB⟩:=Fx BC.o.cy aH;subst aL;unfold maxLen at aB;clear aG aB;go_wp2_with fail
       go_loopw [10,44] (fun aO g' wr=>∃(q:List Nat) (t:Nat),t<=rows.length/\g'= .int .i64 t/\k<q.length/\Hia (Ct w1 wr (g+1) g N (CF S i q) aO (CU q) (.slice bL (Dz N S i).length bK) (Dz N S i) vals)/\Hia (E7 N S i q k t)) (fun _ g' _=>rows.length-(intOf g').toNat)
       case atStart=>exact⟨q,0,ac,rfl,by rw[<-Cj];exact aF,BC,aA⟩
       case round=>
        clear BC aA aF hk aV aH bH b1;obtain⟨q,t,ht,rfl,aF,BC,aA⟩:=hrel;have aK:=aA.o.len HS.o hin;rw[<-Cj]at aK;obtain⟨aH,bH⟩:=aK;obtain⟨ob,oc,aL,aG,aB⟩:=Fx BC.o.cy aH;subst aL;unfold maxLen at aB;by_cases htr:t<rows.length
        .obtain⟨s,hs⟩:∃s,S[t]?=some s:=⟨_,List.getElem?_eq_getElem (by rw[bN.o];exact htr)⟩;obtain⟨x,hx⟩:∃x,q[k]?=some x:=⟨_,List.getElem?_eq_getElem aF⟩;have aT:rows[t]?=some (li N s):=by rw[bU.o,List.getElem?_map,hs];rfl
         have aS:=HS.o s (List.mem_of_getElem? hs);have bD:=aA.o.lt HS.o hin x (List.mem_of_getElem? hx);have bG:=aS.lt x bD;obtain⟨_,_,e1,_,_,h3⟩:=(HV.o.ex (aQ.o.trans BC.o.ex)).open;injection e1 with e1 e2 e3;subst e1 e3;obtain⟨zb,zo,rfl,aR⟩:=h3 ac;obtain⟨u,d1,hu⟩:=aR t _ aT;obtain⟨ua,uc,rfl,_,_,_⟩:=DV hu;obtain⟨pb,po,rfl,_,aU⟩:=EI hu ac;have d2:=aU x bD;have d3:wr.cell? (ob,k)=some (.int .i64 (x:Int)):=by
          rw[World.ownsRow.cellAt BC.o.cy k (by rw[Cj];omega)];exact Qn (TF hx)
         have d4:=BC.o.sn.frz (s x);have i3:(0:Int)<=(t:Int):=ac;have i4:(t:Int)<(rows.length:Int):=ac;have i5:(0:Int)<=(k:Int):=ac;have i6:(k:Int)<((CU q).length:Int):=by rw[Cj];omega
         have i7:(0:Int)<=(x:Int):=ac;have i8:(x:Int)<(N:Int):=ac;have i9:(0:Int)<=(s x:Int):=ac;have i10:(s x:Int)<(N:Int):=ac;have aM:=aA;by_cases hm:Gm S i (s x)∨s x∈q
         .have d5:wr.cell? (g,s x)=some (.bool true):=by
           exact zcj
          have aI:=Aa (aA.o.hit hx hs (aA.o.seen HL.o hx hs hm));have aE:=Aa BC.o;clear BC aA aM hm aR h3 hu aU hs hx aT aS;go_wp2_with fail
          go_roundw
          case rel=>exact⟨q,t+1,ac,by go_num,aF,aE,aI⟩
          case measure=>simp[intOf];omega
         .have d5:wr.cell? (g,s x)=some (.bool false):=by
           exact zcj
          have aI:=Aa (aA.o.new hx hs (fun h=>hm (.inr h)));have bA:=Aa ((BC.o.mark (s x)).congr (sf':=CF S i (q ++ [s x])) fun y _=>by rw[Nk]);have aW:=Aa bA.o.wb;have cC:=Aa (TG q (s x));clear BC aA aM hm aR h3 hu aU hs hx aT aS;generalize hWW:wr.setCell (g,s x) (.bool true)=wm at *;go_wp2_with (at_builtin;refine Am _ rfl _ _ 22 rfl (g+1) 3 (.int .i64 0) 1 8 Tryz.underlying22 Az rfl ae _ (CU q).length _ rfl bA.o.cy [.int .i64 (s x:Int)] 3 _ rfl ag rfl aj ai ac aW.o ?_)
          intro oy2 w4 aD;have aZ:=Aa (bA.o.app aD);rw[<-cC.o]at aZ;clear aD;go_wp2_with fail
          go_roundw
          case rel=>first|exact⟨q ++ [s x],t+1,ac,by go_num,by rw[List.length_append];omega,aZ,aI⟩|((repeat apply Exists.intro);exact⟨⟨q ++ [s x],t+1,ac,by go_num,by rw[List.length_append];omega,aZ,aI⟩,rfl⟩)
          case measure=>simp[intOf];omega
        .obtain rfl:t=rows.length:=by omega
         have aI:=Aa (aA.o.next (by rw[bN.o];exact Nat.le_refl _));have aE:=Aa BC.o;have bZ:=Aa aF;have hk64:k<=64:=by have:=bO.o;have:=HN.o;omega
         clear BC aA aF;go_wp2_with fail
         go_roundg (N-(k+1))
         case rel=>exact⟨q,k+1,by rw[Cj];have:=bZ.o;omega,ac,by go_num,aE,aI⟩
         case measure=>have:=bO.o;have:=cA.o;omega
      .obtain rfl:k=(CU q).length:=by omega
       have bP:=Aa (fun y=>aA.o.fin (by rw[Cj];exact Nat.le_refl _) y);have bV:=Aa (VN HS.o hin aA.o.nd bP.o);have bM:=Aa (BC.o.congr (sf':=CF S (i+1) []) fun x _=>Uz HS.o bP.o x);have aE:=Aa (bQ wr (g+1) _ (CU q) bM.o.cy aH ac);obtain⟨ob,oc,aL,aG,aB⟩:=Fx BC.o.cy aH;subst aL;unfold maxLen at aB;have bC:=Aa ((Lk N S i).1 HL.o);have bY:=Aa (show((CU q).mergeSort fun x y=>decide (x<=y)).length=(CU q).length from List.length_mergeSort _);have hml:(Dz N S i).length<=64:=by have:=cB.o;have:=HN.o;omega
       clear BC aA aF hk aV;go_wp2_with (first|(go_at_call 125;refine aE.o.mono ?_;rintro e w5⟨rfl,aC,bI⟩;have aY:=Aa (bM.o.turn bY.o aC bI);have aW:=Aa aY.o.wb;clear aC bI)|(at_builtin;refine Am _ rfl _ _ 37 rfl (g+1) 22 (.slice none 0 0) 1 24 Tryz.underlying37 BG rfl ae _ (Dz N S i).length _ rfl aY.o.m.cvo [.slice (some ⟨ob,0,none⟩) (CU q).length oc] 22 _ rfl ag rfl aj ai ac aW.o ?_))
       intro cv2 w6 aD;have aX:=Aa (aY.o.push aD);rw[bV.o,<-bC.o]at aX;clear aD;go_wp2_with fail
       go_roundw
       case rel=>first|exact⟨i+1,_,ac,by go_num,aX⟩|((repeat apply Exists.intro);exact⟨⟨i+1,_,ac,by go_num,aX⟩,rfl⟩)
       case measure=>simp[intOf];omega
    .have c1:wr.cell? (g,i)=some (.bool true):=by
      rw[BC.o.sn.cell hin];show some (Value.bool (CF S i [] i))=_
      rw[Jb];have:Gm S i i:=H4.2 hl;simp[this]
     have bW:=Aa (BC.o.congr fun x hx=>VZ HS.o hl x);have bC:=Aa ((Lk N S i).2 hl);clear BC hl;go_wp2_with fail
     go_roundw
     case rel=>exact⟨i+1,vals,ac,by go_num,by rw[bC.o];exact bW⟩
     case measure=>simp[intOf];omega
   .obtain rfl:i=N:=by omega
    have bX:=Aa (BC.o.m.msl);have HX:=Aa (aQ.o.trans BC.o.ex);clear BC;go_wp2_with fail
    go_ret2;exact⟨Ok HP.o bX.o,HX.o⟩
 .have HP:=Aa (show ID n rows=([],e) from by unfold ID;rw[he,if_pos h0]);have hb:(e !=0)=true:=by simpa using h0
  clear h0 he;go_enter Tryz.func65,Tryz.ntmps65
  go_wp2_with (go_at_call 124;refine HG.o.mono ?_;rintro e w1⟨rfl,aJ⟩;have aQ:=Aa aJ;clear aJ)
  go_ret2;exact⟨Ok HP.o (ZE _),aQ.o⟩
theorem appd_of{w w':World}{o:Obj}{base:Nat}{e:TypeId}{size:Nat}{v v':Value}{n:Nat}{xs news:List Value}(aB:w.ownsRow base e size v n xs)(aA:w'.ownsRow base e size v' (n+1) (xs++news))
  (hg:((w.alloc o).drew).grownBy w' v.ownBlock) (ha:v'.ownBlock=v.ownBlock∨v'.ownBlock=some ((w.alloc o).drew).heap.size):Bt w w' base e size v v' n xs news:=
 ⟨aA,⟨o,⟨hg.os,hg.tape,hg.output,hg.size,hg.block⟩⟩,by simpa using ha,aB⟩
def Vs(w:World)(base n tb rb gb:Nat)(rr:Nat->Nat)(mb:List Nat)(t:Tw):Prop:=∃gv V,Sz w base n tb rb gb rr gv V mb t
def Hn(n:Nat)(t:Tw)(b:Nat):Nat:=(List.range n).countP fun x=>(t.R b x).isNone
def Tg(n:Nat)(t:Tw)(b:Nat):Nat:=(n-b)*(n+1)+Hn n t b
theorem Tf(n:Nat)(t:Tw)(b:Nat):Hn n t b<=n:=by
 unfold Hn;have:=List.countP_le_length (p:=fun x=>(t.R b x).isNone) (l:=List.range n);simpa using this
theorem G7{t t':Tw}(h:SH t t')(b:Nat):∀n,Hn n t' b<=Hn n t b
 | 0=>Nat.le_refl _
 | n+1=>by
  have ih:=G7 h b n;unfold Hn at *;rw[List.range_succ,List.countP_append,List.countP_append,List.countP_singleton,List.countP_singleton]
  cases h1:t.R b n with
  | none=>simp;split <;> omega
  | some r=>rw[h b n r h1];simp;exact ih
theorem P8{n:Nat}{t t':Tw}(h:SH t t')(b:Nat):Tg n t' b<=Tg n t b:=Nat.add_le_add_left (G7 h b n) _
theorem P6{t:Tw}{b x:Nat}{q:Nat->Nat}(h:t.R b x=none):∀n,(x<n->Hn n (MF t b x q) b+1=Hn n t b)/\(n<=x->Hn n (MF t b x q) b=Hn n t b)
 | 0=>⟨fun h=>by omega,fun _=>rfl⟩
 | n+1=>by
  obtain⟨h1,h2⟩:=P6 (q:=q) h n;unfold Hn at *;have aA:(MF t b x q).R b n=if n=x then some q else t.R b n:=by
   show(if b=b/\n=x then some q else t.R b n)=_
   by_cases e:n=x <;> simp[e]
  rw[List.range_succ,List.countP_append,List.countP_append,List.countP_singleton,List.countP_singleton,aA];constructor
  .intro hx;by_cases e:n=x
   .rw[if_pos e];subst e;rw[h,h2 (Nat.le_refl _)];simp
   .rw[if_neg e];have:=h1 ac;omega
  .intro hx;have e:¬n=x:=by omega
   rw[if_neg e,h2 ac]
theorem ZD{n:Nat}{t:Tw}{b x:Nat}{q:Nat->Nat}(h:t.R b x=none)(hx:x<n):Tg n (MF t b x q) b+1=Tg n t b:=by
 unfold Tg;have:=(P6 (q:=q) h n).1 hx;omega
theorem muT_up{n:Nat}{t:Tw}{b:Nat}(hb:b+1<n):Tg n t (b+1)+1<=Tg n t b:=by
 unfold Tg;have h1:=Tf n t (b+1);rw[show n-b=n-(b+1)+1 by omega,Nat.succ_mul];omega
def P5(n:Nat)(t:Tw)(c:Nat):Nat:=((List.range n).map fun d=>if c<=d then Hn n t d else 0).sum
theorem FU{f g:Nat->Nat}:∀l:List Nat,(∀d∈l,f d<=g d)->(l.map f).sum<=(l.map g).sum
 | [],_=>Nat.le_refl _
 | d :: l,h=>by
  have h1:=h d (List.mem_cons_self ..);have h2:=FU l fun e he=>h e (List.mem_cons_of_mem _ he);simp only[List.map_cons,List.sum_cons];omega
theorem UX{n:Nat}{t t':Tw}(h:SH t t')(c:Nat):P5 n t' c<=P5 n t c:=
 FU _ fun d _=>by
  split
  .exact G7 h d n
  .exact Nat.le_refl _
theorem ZA(n:Nat)(t:Tw)(c:Nat):P5 n t c<=n*n:=by
 have h1:=FU (f:=fun d=>if c<=d then Hn n t d else 0) (g:=fun _=>n) (List.range n) fun d _=>by
  split
  .exact Tf n t d
  .exact Nat.zero_le _
 have h2:((List.range n).map fun _=>n).sum=n*n:=by
  rw[List.map_const',List.sum_replicate_nat,List.length_range]
 unfold P5;omega
theorem KJ{f g:Nat->Nat}:∀l:List Nat,(∀d∈l,f d<=g d)->(l.map g).sum<=(l.map f).sum->∀d∈l,f d=g d
 | [],_,_,d,hd=>absurd hd (List.not_mem_nil)
 | e :: l,h,hs,d,hd=>by
  have h1:=h e (List.mem_cons_self ..);have h2:=FU l fun e he=>h e (List.mem_cons_of_mem _ he);simp only[List.map_cons,List.sum_cons]at hs;rcases List.mem_cons.1 hd with h3|h3
  .subst h3;omega
  .exact KJ l (fun e he=>h e (List.mem_cons_of_mem _ he)) ac d h3
theorem NE{p q:Nat->Bool}:∀l:List Nat,(∀x∈l,q x=true->p x=true)->l.countP p<=l.countP q->∀x∈l,p x=q x
 | [],_,_,x,hx=>absurd hx (List.not_mem_nil)
 | e :: l,h,hs,x,hx=>by
  have h2:l.countP q<=l.countP p:=List.countP_mono_left fun y hy=>h y (List.mem_cons_of_mem _ hy);have h1:=h e (List.mem_cons_self ..);rw[List.countP_cons,List.countP_cons]at hs;have aA:p e=q e/\l.countP p<=l.countP q:=by
   cases hp:p e <;> cases hq:q e <;> simp[hp,hq]at hs h1 ⊢ <;> omega
  rcases List.mem_cons.1 hx with h3|h3
  .subst h3;exact aA.1
  .exact NE l (fun y hy=>h y (List.mem_cons_of_mem _ hy)) aA.2 x h3
theorem Zz{n:Nat}{t t':Tw}(hG:C8 n t)(aA:C8 n t')(h:SH t t'){b:Nat}{p:Nat->Nat}(h1:¬Sf n t.R (n-b) b p)(h2:Sf n t'.R (n-b) b p):P5 n t' b+1<=P5 n t b:=by
 apply Classical.byContradiction;intro hn;refine h1 (Sf.congr (c:=b) (R:=t'.R) (fun c x hc=>?_) (Nat.le_refl _) h2);by_cases hcx:c<n/\x<n
 .have e1:=KJ (f:=fun d=>if b<=d then Hn n t' d else 0) (g:=fun d=>if b<=d then Hn n t d else 0) (List.range n) (fun d _=>by
   split
   .exact G7 h d n
   .exact Nat.le_refl _) (by unfold P5 at hn;omega) c (List.mem_range.2 hcx.1)
  simp only[if_pos hc]at e1;have e2:=NE (p:=fun x=>(t.R c x).isNone) (q:=fun x=>(t'.R c x).isNone) (List.range n) (fun y _ hy=>by
   cases hr:t.R c y with
   | none=>rfl
   | some r=>rw[h c y r hr]at hy;cases hy) (by unfold Hn at e1;omega) x (List.mem_range.2 hcx.2)
  cases hr:t.R c x with
  | some r=>exact h c x r hr
  | none=>
   simp only[hr,Option.isNone]at e2
   cases hr':t'.R c x with
   | none=>rfl
   | some r=>rw[hr']at e2;cases e2
 .cases hr:t.R c x with
  | some r=>exact absurd ⟨(hG.rep _ _ _ hr).1,(hG.rep _ _ _ hr).2.1⟩ hcx
  | none=>
   cases hr':t'.R c x with
   | none=>rfl
   | some r=>exact absurd ⟨(aA.rep _ _ _ hr').1,(aA.rep _ _ _ hr').2.1⟩ hcx
def Rb(n:Nat)(t:Tw)(b:Nat):Prop:=∀c,b<=c->c<n->(t.g c).length+P5 n t c<=n*n
theorem Rb.up{n:Nat}{t:Tw}{b c:Nat}(h:Rb n t b)(hc:b<=c):Rb n t c:=fun d hd=>h d ac
theorem Rb.mono{n:Nat}{t t':Tw}{b:Nat}(h:Rb n t b)(hl:SH t t')(hg:∀c,b<=c->t'.g c=t.g c):Rb n t' b:=fun c hc aA=>by
 rw[hg c hc];have:=h c hc aA;have:=UX (n:=n) hl c;omega
def Ui(base n tb rb gb:Nat)(rr:Nat->Nat)(m:Nat):Prop:=∀(w:World) (mb:List Nat) (t:Tw) (q:Nat->Nat) (u:Value) (b:Nat),Tg n t b<=m->b<n->Vs w base n tb rb gb rr mb t->C8 n t->(∀c,b+1<=c->c<n->DN n t c)->Cz w mb n u q->AY n q->AW b q->base<=w.heap.size->(t.g b).length<=n*n+1->Rb n t (b+1)->
 Calls Tryz.prog 210 #[.pointer (some (tb,0)),u,b] w fun r w'=>(∃z,r= .returned z)/\∃aA t',Vs w' base n tb rb gb rr aA t'/\Ye n b q t t'/\Mx mb aA w w'/\Rb n t' (b+1)
def Ym(base n tb rb gb:Nat)(rr:Nat->Nat)(m:Nat):Prop:=∀(w:World) (mb:List Nat) (t:Tw) (p:Nat->Nat) (u:Value) (b:Nat),(b<n->Tg n t b<=m)->b<=n->Vs w base n tb rb gb rr mb t->C8 n t->(∀c,b<=c->c<n->DN n t c)->Cz w mb n u p->AY n p->AW b p->base<=w.heap.size->Rb n t b->
 Calls Tryz.prog 174 #[.pointer (some (tb,0)),u,b] w fun r w'=>(∃z,r= .returned z)/\∃aA t',Vs w' base n tb rb gb rr aA t'/\Q8 n b p t t'/\Mx mb aA w w'/\Rb n t' b
theorem Mq.one{w:World}{mb:List Nat}{n:Nat}{o:Option (Nat->Nat)}{u:Value}(h:Mq w mb n o u):u.oneCell'=true:=by
 cases o with
 | none=>have h:u= .slice none 0 0:=h;rw[h];rfl
 | some r=>
  have h:Cz w mb n u r:=h;obtain⟨b,o,cap,rfl,_⟩:=h.at_;rfl
theorem LK{base n tb rb gb:Nat}{rr:Nat->Nat}(bJ:1<=n)(hn:n<=64)(m:Nat)(hv:Ui base n tb rb gb rr m):Ym base n tb rb gb rr m:=by
 intro w mb t p u b bV hb aL hG hC hu hP hF cA cB;have HV:=Aa hv;have aZ:=Aa cB;have hnn:n*n<=4096:=Nat.mul_le_mul hn hn;obtain⟨gv,V,hM⟩:=aL;obtain⟨HM,HG,HC,HU,HP,HF,dE,bN⟩:=On hM hG hC hu hP hF bV (Uu w hM hG bJ hn u p b hb hu.sl hP);obtain⟨ub,uo,uc,rfl,_,_,_,_⟩:=hu.at_;obtain⟨E,hE⟩:=nA ((DP n t.R (n-b) b p).2);have HE:=Aa hE;have cL:=Aa (Nf n t.R (n-b) b p);rw[hE]at bN cL;clear hv cB hM hG hC hu hP hF bV hE;by_cases hen:E=n
 .have cS:((E:Int)==(n:Int))=true:=by simp;omega
  have cR:(E==n)=true:=by simpa using hen
  have aN:=Aa (Q8.same HG.o HC.o ((Rl n t.R (n-b) b p).2 (by rw[HE.o];omega)));clear hen;go_enter Tryz.func174,Tryz.ntmps174
  go_wp2_with fail
  refine bN.o.mono ?_;rintro e w1⟨z,rfl,aH⟩;have c0:=aH.cell HM.o.c0;have bD:=Aa aH;clear aH;go_wp2_with fail
  ((try simp only[Exit.inBlock,Exit.then]);refine bodyPost_ret (results_none rfl _ _ _) rfl ?_)
  exact⟨⟨_,rfl⟩,mb,t,⟨gv,V,HM.o.ex bD.o⟩,aN.o,Mx.ofEx bD.o mb,aZ.o⟩
 .have aB:b<n:=by
   apply Classical.byContradiction;intro h;have h1:=cL.o;omega
  have cS:((E:Int)==(n:Int))=false:=aq;have cR:(E==n)=false:=by simpa using hen
  have dI:=Aa (show(t.g b).length<=4096 from by have:=aZ.o b (Nat.le_refl _) aB;omega);have dC:=Aa (show ¬Sf n t.R (n-b) b p from fun h=>hen (by have:=(Rl n t.R (n-b) b p).1 h;rw[HE.o]at this;omega));clear hen;go_enter Tryz.func174,Tryz.ntmps174
  go_wp2_with fail
  refine bN.o.mono ?_;rintro e w1⟨z,rfl,aH⟩;obtain⟨bD,HM,HU,dP⟩:=Eq aH (HM.o.ex aH) (HU.o.ex aH) (Nat.le_trans cA aH.size);clear aH;obtain⟨vals,bX,bW⟩:=HM.o.gro b aB;have bR:=Aa bX;have cK:=Aa bW;clear bX bW;have hgl:=dI.o;have c0:=HM.o.c0;have c2:=HM.o.c2;have c4:=HM.o.go.cell aB;have i1:(0:Int)<=(b:Int):=ac;have i2:(b:Int)<(n:Int):=ac;have EA:=(Ex.refl w1).alloc (.cells #[.slice (some ⟨ub,uo,none⟩) n uc] 22);have cV:=EA.cell c2;have cT:=EA.cell c4;have bQ:=Aa (show(gv b).ownBlock≠some gb from fun e=>(HM.o.gvm b _ aB e).2.1 rfl);have cI:=Aa (show some tb≠(gv b).ownBlock from fun e=>HM.o.tm (HM.o.gvm b tb aB e.symm).1);have cO:=Aa (show base<=((w1.alloc (.cells #[.slice (some ⟨ub,uo,none⟩) n uc] 22)).drew).heap.size from by have:=dP.o;simp;omega);go_upto_region 2 with fail
  go_cut [2] from 23 to 39 (fun s2 wx=>s2= .int .i64 b/\Hia (∃aK,Vs wx base n tb rb gb rr aK (Sy t b p)/\Mx mb aK w1 wx))
  case first=>
   go_region_law
   ((refine Cq br _ _ _ br base 22 (.slice none 0 0) 1 24 Tryz.underlying37 BG rfl ae (gv b) (t.g b).length vals br (Ai bR.o (((Ex.refl w1).alloc (.cells #[.slice (some ⟨ub,uo,none⟩) n uc] 22)).drew)) _ 1 [.slice (some ⟨ub,uo,none⟩) n uc] br (Sl.own (Fy w1 (.slice (some ⟨ub,uo,none⟩) n uc) 22)) aj ai ac (cO.o) ?_;intro v8 w8 aD bY cC;have bH:=Aa (appd_of bR.o aD bY cC);have dN:=(bH.o.arr HM.o.go bQ.o).1.cell aB;have dM:=(bH.o.arr HM.o.go bQ.o).1.frz b;have cU:=bH.o.cell c2 cI.o;obtain⟨va,vc,cP⟩:=Ad aD;subst cP;clear aD bY cC))
   all_goals
   have bO:=Aa (show ∃aK,Vs (w8.setCell (gb,b) (.slice va ((t.g b).length+1) vc)) base n tb rb gb rr aK (Sy t b p)/\Mx mb aK w1 (w8.setCell (gb,b) (.slice va ((t.g b).length+1) vc)) from by
    obtain⟨aK,h1,h2⟩:=HM.o.addGen aB HU.o cK.o bH.o;exact⟨aK,⟨_,_,h1⟩,h2⟩)
   clear dN dM cU;go_wp2_with fail
   go_meet
   exact⟨rfl,bO⟩
  case rest=>
   obtain⟨rfl,aR⟩:=hcut;obtain⟨aM,⟨gv1,V1,cD⟩,aI⟩:=aR.o;have aJ:=Aa cD;have bF:=Aa aI;have cG:=Aa (HU.o.mx aI);clear aR cD aI c0 c2 c4 cV cT bR cK bQ cI cO HM HU EA;have c1:=aJ.o.c1;have c3:=aJ.o.ro b aB;have cM:=Aa (SN wc n (V1 b) _ (aJ.o.row b aB).sl bJ ac (fun j hj=>(aJ.o.rep b j aB hj).one));have bG:=Aa (Kc.start HG.o (fun c h1 h2=>HC.o c ac h2) HP.o HF.o);have dF:=Aa (show Tg n t b<=m from dE.o aB);have cN:=Aa (show Rb n (Sy t b p) (b+1) from(aZ.o.up (by omega:b<=b+1)).mono (fun _ _ _ h=>h) fun c hc=>by
    show(if c=b then t.g c ++ [p] else t.g c)=t.g c
    rw[if_neg ac])
   go_wp2_with (go_at_call 209;refine cM.o.mono ?_;rintro e w9⟨g9,cap9,rfl,aE,bT⟩;have bP:=Aa aE;have aV:=Aa bT;clear aE bT)
   obtain⟨aY,aX,bE,cF,cH,aW⟩:=To (show ∀j,j<n->w9.cell? ⟨g9,j,none⟩=some (V1 b j) from fun j hj=>bP.o.cell hj) (show g9 ∉ aM from fun h=>by have:=aJ.o.low g9 h;have:=bP.o.lt.1;omega) (show ∀y,y<n->Mq w9 aM n (t.R b y) (V1 b y) from fun y hy=>(aJ.o.rep b y aB hy).mx (Mx.ofEx aV.o aM)) (cG.o.ex aV.o) (show Vs w9 base n tb rb gb rr aM (Sy t b p) from⟨_,_,aJ.o.ex aV.o⟩) ((Mx.ofEx bD.o mb).trans (bF.o.trans (Mx.ofEx aV.o aM)));clear c1 c3 cM bP aJ bF cG aV
   go_loopw [48,9] (fun x' r' wr=>∃(x:Nat) (aC:List Nat) (tc:Tw),x<=n/\x'= .int .i64 x/\Hia (Vs wr base n tb rb gb rr aC tc)/\Hia (Kc n b p t tc x)/\Hia (Mx mb aC w wr)/\Hia (∀j,j<n->wr.cell? ⟨g9,j,none⟩=some (V1 b j))/\Hia (g9 ∉ aC)/\Hia (∀y,y<n->Mq wr aC n (t.R b y) (V1 b y))/\Hia (Cz wr aC n (.slice (some ⟨ub,uo,none⟩) n uc) p)/\Hia (Rb n tc (b+1))) (fun x' _ _=>n-(intOf x').toNat)
   case atStart=>exact⟨0,aM,Sy t b p,ac,rfl,cH,bG,aW,aY,aX,bE,cF,cN⟩
   case round=>
    clear cH bG aW aY aX bE cF cN;obtain⟨x,aC,tc,hx,rfl,aL,aF,aI,bC,bK,bB,bA,aT⟩:=hrel;by_cases hxn:x<n
    .have d1:=bC.o x hxn;have aA:=bB.o x hxn;have i3:(0:Int)<=(x:Int):=by omega
     have i4:(x:Int)<(n:Int):=ac
     cases hR:t.R b x with
     | none=>
      rw[hR]at aA;have aA:V1 b x= .slice none 0 0:=aA;rw[aA]at d1;have dK:=Aa (aF.o.skip hR);clear aA hR aF;go_wp2_with fail
      go_roundw
      case rel=>exact⟨x+1,aC,tc,ac,by go_num,aL,dK,aI,bC,bK,bB,bA,aT⟩
      case measure=>simp[intOf];omega
     | some r=>
      rw[hR]at aA;have aA:Cz wr aC n (V1 b x) r:=aA;obtain⟨vb,vo,vc,hV,_,_,_,_⟩:=aA.at_;obtain⟨_,_,bI,bU,cQ⟩:=HG.o.rep _ _ _ hR;have cJ:=Aa aA.sl;rw[hV]at d1 cJ;obtain⟨cZ,cW,dH,dA,bG,bF,aY,aX,bE,cX⟩:=Ha1 (EL wr n r p _ _ cJ.o bA.o.sl ac bI.lt) (fun w2 (aO:Ex wr w2) z (hz:Cz w2 aC n z (Ak r p))=>HV.o w2 aC tc (Ak r p) z b (Nat.le_trans (P8 aF.o.le b) dF.o) aB (by obtain⟨gv',V',h⟩:=aL.o;exact⟨gv',V',h.ex aO⟩) aF.o.good aF.o.comp hz (bI.comp HP.o) (bU.comp HF.o) (Nat.le_trans cA (Nat.le_trans aI.o.size aO.size)) (by have h1:=aZ.o b (Nat.le_refl _) aB;rw[aF.o.gb,List.length_append];simp;omega) aT.o) (show ∀B∈aC,B<wr.heap.size from by obtain⟨gv',V',h⟩:=aL.o;exact h.low) hR aF.o aI.o bC.o bK.o bB.o bA.o;clear aA hR aF aI bC bK bB bA aT hV bI bU cQ aL;go_wp2_with (first|(go_at_call 108;refine cZ.o.mono ?_;rintro e w2⟨g2,rfl,aE,aO⟩;have dD:=Aa (Cz.new bJ aE dH.o);have cE:=Aa aO;clear aE aO)|(go_at_call 210;refine(cW.o _ cE.o _ dD.o).mono ?_;rintro e w3⟨⟨zz,rfl⟩,mb3,t3,aQ,aP,aS,aU⟩;have bS:=Aa aU;clear aU;have bM:=Aa aQ;have bL:=Aa aP;have aG:=Aa ((Mx.ofEx cE.o aC).trans aS);clear aQ aP aS))
      have dJ:=Aa (bG.o.step dA.o bL.o);have dO:=Aa (show ∀j,j<n->w3.cell? ⟨g9,j,none⟩=some (V1 b j) from fun j hj=>aG.o.cell (aY.o j hj) aX.o);have dL:=Aa (show g9 ∉ mb3 from fun h=>by
       rcases aG.o.mb g9 h with h1|h1
       .exact aX.o h1
       .have:=World.block_lt_of_cell? _ _ (aY.o 0 ac);dsimp only at this;omega)
      have dB:=Aa (show ∀y,y<n->Mq w3 mb3 n (t.R b y) (V1 b y) from fun y hy=>(bE.o y hy).mx aG.o);have cY:=Aa (cX.o.mx aG.o);have dG:=Aa (bF.o.trans aG.o);go_roundw
      case rel=>exact⟨x+1,mb3,t3,ac,by go_num,bM,dJ,dG,dO,dL,dB,cY,bS⟩
      case measure=>simp[intOf];omega
    .obtain rfl:x=n:=by omega
     have aN:=Aa (aF.o.fin aB HG.o HC.o HP.o HF.o (Nat.le_refl _));have dQ:=Aa (show Rb x tc b from fun c hc bZ=>by
      by_cases e:c=b
      .subst e;have h1:=aZ.o c (Nat.le_refl _) bZ;have h2:=Zz HG.o aN.o.good aN.o.le dC.o aN.o.mem;rw[aF.o.gb,List.length_append];simp;omega
      .exact aT.o c ac bZ)
     clear aF aT;go_wp2_with fail
     ((try simp only[Exit.inBlock,Exit.then]);first|refine bodyPost_ret (results_none rfl _ _ _) rfl ?_|refine bodyPost_end (results_none rfl _ _ _) rfl ?_)
     exact⟨⟨_,rfl⟩,aC,tc,aL.o,aN.o,aI.o,dQ.o⟩
theorem VF{base n tb rb gb:Nat}{rr:Nat->Nat}(cF:1<=n)(hn:n<=64)(m:Nat)(hv:Ui base n tb rb gb rr m)(hi:Ym base n tb rb gb rr m):Ui base n tb rb gb rr (m+1):=by
 intro w mb t q u b cG aC aQ hG hC hu hP hF aJ bE bF;have hnn:n*n<=4096:=Nat.mul_le_mul hn hn;have HV:=Aa hv;have HI:=Aa hi;obtain⟨gv,V,hM⟩:=aQ;obtain⟨HM,HG,HC,HU,HP,HF,dE,cO⟩:=On hM hG hC hu hP hF bF bE;obtain⟨ub,uo,uc,rfl,_,_,_,bJ⟩:=hu.at_;have bC:=hP.lt b aC;have d1:=bJ b aC;have c1:=hM.c1;have c3:=hM.ro b aC;have d3:=(hM.row b aC).cell bC;have aA:=hM.rep b (q b) aC bC;have i1:(0:Int)<=(b:Int):=ac;have i2:(b:Int)<(n:Int):=ac;have i3:(0:Int)<=(q b:Int):=ac;have i4:(q b:Int)<(n:Int):=ac
 cases hR:t.R b (q b) with
 | some r=>
  rw[hR]at aA;have aA:Cz w mb n (V b (q b)) r:=aA;obtain⟨vb,vo,vc,hV,_,_,_,_⟩:=aA.at_;obtain⟨_,_,bB,cE,cD⟩:=hG.rep _ _ _ hR;have cM:=Aa aA.sl;rw[hV]at d3 cM;obtain⟨cZ,bR,bU,cN,cU⟩:=Of (Ff w n r _ cM.o ac bB) (fun w1 (cP:Ex w w1) z hz=>EL w1 n q (AS n r) _ z (HU.o.sl.ex cP) hz ac hP.lt) hM.low (fun w2 (aD:Ex w w2) z (hz:Cz w2 mb n z (Ak q (AS n r)))=>HI.o w2 mb t (Ak q (AS n r)) z (b+1) (fun h=>by have:=muT_up (t:=t) h;omega) aC ⟨gv,V,HM.o.ex aD⟩ HG.o HC.o hz (hP.comp bB.inv) (hF.div bB cE cD) (Nat.le_trans aJ aD.size) dE.o) hR;have i5:IntKind.i64.wrap ((b:Int)+1)=(b:Int)+1:=IntWalk.i64_in _ ac;have aH:((b+1:Nat):Int)=(b:Int)+1:=by omega
  rw[aH]at cN;clear aA hR hV bB cE cD hG hC hu hP hF bF bE bJ hM hv hi aH cG;go_enter Tryz.func210,Tryz.ntmps210
  go_wp2_with (first|(go_at_call 109;refine cZ.o.mono ?_;rintro e w2⟨g2,rfl,aB,aD⟩;have dB:=Aa aB.li;have aM:=Aa aD;clear aB aD)|(go_at_call 108;refine(bR.o _ aM.o _ dB.o).mono ?_;rintro e w3⟨g3,rfl,aB,cA⟩;have dA:=Aa (Cz.new cF aB (fun B hB=>Nat.lt_of_lt_of_le (bU.o B hB) aM.o.size));have cJ:=Aa (aM.o.trans cA);clear aB cA)|(go_at_call 174;refine(cN.o _ cJ.o _ dA.o).mono ?_;rintro e w4⟨⟨zz,rfl⟩,mb4,t4,aO,aT,aR,aV⟩;have bP:=Aa aO;have bW:=Aa aT;have bT:=Aa ((Mx.ofEx cJ.o mb).trans aR);have bY:=Aa aV;clear aO aT aR aV))
  ((try simp only[Exit.inBlock,Exit.then]);first|refine bodyPost_ret (results_none rfl _ _ _) rfl ?_|refine bodyPost_end (results_none rfl _ _ _) rfl ?_)
  exact⟨⟨_,rfl⟩,mb4,t4,bP.o,bW.o.vis aC HG.o cU.o,bT.o,bY.o⟩
 | none=>
  rw[hR]at aA;have aA:V b (q b)= .slice none 0 0:=aA;rw[aA]at d3;have f3:=(hM.row b aC).frz (q b);obtain⟨cI,aI⟩:=hM.setRep aC bC HU.o;obtain⟨aZ,aL,cK,aX⟩:=Eq (show Vs (w.setCell (rr b,q b) (.slice (some ⟨ub,uo,none⟩) n uc)) base n tb rb gb rr mb (MF t b (q b) q) from⟨_,_,cI⟩) aI (HU.o.mx aI) (O9.start aC hG hC hP hF hR);have bA:=Aa (bF.mono aX.o.le fun _ _=>rfl);have cX:=Aa (show Tg n (MF t b (q b) q) b<=m from by have:=ZD (q:=q) hR bC;omega);have dD:=Aa aJ;clear aA hR hG hC hu hP hF bF bE bJ hM hv hi cG cI aI aJ;go_enter Tryz.func210,Tryz.ntmps210
  go_wp2_with fail
  have cL:=Aa (show base<=(w.setCell (rr b,q b) (.slice (some ⟨ub,uo,none⟩) n uc)).heap.size from Nat.le_trans dD.o aL.o.size);generalize w.setCell (rr b,q b) (.slice (some ⟨ub,uo,none⟩) n uc)=w1 at *;clear d1 c1 c3 d3 f3
  go_loopw [7] (fun k' wr=>∃(k:Nat) (aE:List Nat) (tc:Tw),k<=(t.g b).length/\k'= .int .i64 k/\Hia (Vs wr base n tb rb gb rr aE tc)/\Hia (O9 n b q t tc k)/\Hia (SH (MF t b (q b) q) tc)/\Hia (Mx mb aE w wr)/\Hia (Cz wr aE n (.slice (some ⟨ub,uo,none⟩) n uc) q)/\Hia (Rb n tc (b+1))/\Hia (base<=wr.heap.size)) (fun k' _=>(t.g b).length-(intOf k').toNat)
  case atStart=>exact⟨0,mb,_,ac,rfl,aZ,aX,Aa (fun _ _ _ h=>h),aL,cK,bA,cL⟩
  case round=>
   clear aZ aX aL cK bA cL;obtain⟨k,aE,tc,hk,rfl,aQ,aF,bL,bK,bH,bM,aJ⟩:=hrel;obtain⟨gv,V,hM⟩:=aQ.o;obtain⟨vals,aG,bD⟩:=hM.gro b aC;rw[aF.o.gb]at aG bD;have c2:=hM.c2;have c4:=hM.go.cell aC;have bE:=cO.o;by_cases hkn:k<(t.g b).length
   .obtain⟨s,hs⟩:∃s,(t.g b)[k]?=some s:=⟨_,List.getElem?_eq_getElem hkn⟩;obtain⟨v,bG⟩:∃v,vals[k]?=some v:=⟨_,List.getElem?_eq_getElem (by have:=aG.1;omega)⟩;have bI:=bD k s v hs bG;obtain⟨sb,so,sc,rfl,_,_,_,_⟩:=bI.at_;obtain⟨cR,gc,aU,_,cQ⟩:=Fx aG ac;unfold maxLen at cQ;rw[aU]at aG c4;have d5:wr.cell? (cR,k)=some (.slice (some (sb,so)) n sc):=by
     rw[World.ownsRow.cellAt aG k ac];exact bG
    have i5:(0:Int)<=(k:Int):=ac;have i6:(k:Int)<((t.g b).length:Int):=ac;obtain⟨cB,cC⟩:=HG.o.gen b s (List.mem_of_getElem? hs);obtain⟨bR,bU,cS,aX,HS,cY,cW,cT,bX⟩:=Ty (EL wr n q s _ _ bH.o.sl bI.sl ac HP.o.lt) hM.low (fun w2 (aD:Ex wr w2) z (hz:Cz w2 aE n z (Ak q s))=>HV.o w2 aE tc (Ak q s) z b (Nat.le_trans (P8 bL.o b) cX.o) aC ⟨gv,V,hM.ex aD⟩ aF.o.good aF.o.comp hz (HP.o.comp cB) (HF.o.comp cC) (Nat.le_trans aJ.o aD.size) (by rw[aF.o.gb];exact cO.o) bM.o) aF.o hs bL.o bK.o bH.o aJ.o;clear aF bL bK bH bM aJ hs bG bI aG bD cB cC aQ hM aU;go_wp2_with (first|(go_at_call 108;refine bR.o.mono ?_;rintro e w2⟨g2,rfl,aB,aD⟩;have cV:=Aa (Cz.new cF aB bU.o);have aM:=Aa aD;clear aB aD)|(go_at_call 210;refine(cS.o _ aM.o _ cV.o).mono ?_;rintro e w3⟨⟨zz,rfl⟩,mb3,t3,aP,aN,aS,aW⟩;have bQ:=Aa aP;have aY:=Aa aN;have aK:=Aa ((Mx.ofEx aM.o aE).trans aS);have bZ:=Aa aW;clear aP aN aS aW))
    obtain⟨bN,bV,bS,bO,dF⟩:=Of (aX.o.step HS.o aY.o) (cY.o.trans aY.o.le) (cW.o.trans aK.o) (cT.o.mx aK.o) (Nat.le_trans bX.o aK.o.size);go_roundw
    case rel=>exact⟨k+1,mb3,t3,ac,by go_num,bQ,bN,bV,bS,bO,bZ,dF⟩
    case measure=>simp[intOf];omega
   .obtain rfl:k=(t.g b).length:=by omega
    obtain⟨ga,gc,cH⟩:=Ad aG;rw[cH]at c4;have dC:=Aa (aF.o.fin aC HP.o (Nat.le_refl _));clear aF aG bD cH hM;go_wp2_with fail
    ((try simp only[Exit.inBlock,Exit.then]);first|refine bodyPost_ret (results_none rfl _ _ _) rfl ?_|refine bodyPost_end (results_none rfl _ _ _) rfl ?_)
    exact⟨⟨_,rfl⟩,aE,tc,aQ.o,dC.o,bK.o,bM.o⟩
end Go.Proofs.YtehieobniamagaaGreat
