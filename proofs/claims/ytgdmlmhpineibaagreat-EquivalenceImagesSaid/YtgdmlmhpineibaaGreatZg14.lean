/- slices.IndexFunc and slices.ContainsFunc at the chapter's closures (printed by gen_finde.py). -/
import Derived.Test.YtgdmlmhpineibaaGreatZg13
namespace Go.Proofs.YtgdmlmhpineibaaGreat
set_option linter.unusedVariables false
set_option linter.unusedSimpArgs false
set_option maxRecDepth 100000
set_option maxHeartbeats 1000000
open Go.RowKit
theorem IndexFunc_inj (w:World) (p0:Value) (v:Value) (n:Nat) (us:List Value) (hv:Sl w v n 1 us) (pr:Nat→Bool)
  (hp:∀(w1:World) (i:Nat) (u:Value),Ex w w1→us[i]?=some u→Calls Tryz.prog 138 #[u,p0] w1 fun e w'=> e= .returned (.bool (pr i))∧Ex w1 w'):
  Calls Tryz.prog 90 #[v,.func (.func 138) #[] #[p0]] w fun r w'=> r= .returned (.int .i64 (fstI pr n))∧Ex w w':=by
 obtain ⟨hl,a,cap,rfl,s1,s2,s3⟩:=hv;rw [Nat.mul_one] at hl;have S3:=hid_ s3;have HP:=hid_ hp;have HL:=hid_ hl;unfold maxLen at s2;clear s3 hp hl;go_enter Tryz.func90,Tryz.ntmps90
 go_wp2_with fail
 go_loopg [5,8] n (fun gg _ i' wr=> ∃i:Nat,i≤n∧n - i≤gg∧i'= .int .i64 i∧Hid (Ex w wr)∧Hid (∀j,j < i→pr j=false))
 case atStart=> exact ⟨0,by omega,by omega,rfl,hid_ (Ex.refl _),hid_ (fun j hj=> by omega)⟩
 case round=>
  obtain ⟨i,hi,hg,rfl,hex,hall⟩:=hrel;by_cases hlt:i < n
  ·obtain ⟨u,hu⟩:∃u,us[i]?=some u:=⟨_,List.getElem?_eq_getElem (by rw [HL.out];exact hlt)⟩;obtain ⟨bb,o,rfl,hc⟩:=S3.out (by omega);have c1:=hex.out.cell (hc i u hu);have HC:=hid_ (HP.out wr i u hex.out hu);have hlt':(i:Int) < (n:Int):=by omega
   clear hc hu
   cases hb:pr i with
   | true=>
    rw [hb] at HC;have HF:=hid_ (fstI_hit hlt hb hall.out);clear hb;go_wp2_with (go_at_call 138;refine HC.out.mono ?_;rintro e w' ⟨rfl,hx⟩;have HX:=hid_ (hex.out.trans hx);clear hx)
    go_ret;exact ⟨ret_int HF.out.symm,HX.out⟩
   | false=>
    rw [hb] at HC;have HA:=hid_ (show ∀j,j < i + 1→pr j=false from fun j hj=> by
     by_cases e:j=i
     ·subst e;exact hb
     ·exact hall.out j (by omega))
    clear hb;go_wp2_with (go_at_call 138;refine HC.out.mono ?_;rintro e w' ⟨rfl,hx⟩;have HX:=hid_ (hex.out.trans hx);clear hx)
    go_roundg (n - (i + 1))
    case measure=> omega
    case rel=> exact ⟨i + 1,by omega,by omega,by go_num,HX,HA⟩
  ·obtain rfl:i=n:=by omega
   have HF:=hid_ (fstI_miss hall.out);go_wp2_with fail
   go_ret;exact ⟨ret_int HF.out.symm,hex.out⟩
theorem ContainsFunc_inj (w:World) (p0:Value) (v:Value) (n:Nat) (us:List Value) (hv:Sl w v n 1 us) (pr:Nat→Bool)
  (hp:∀(w1:World) (i:Nat) (u:Value),Ex w w1→us[i]?=some u→Calls Tryz.prog 138 #[u,p0] w1 fun e w'=> e= .returned (.bool (pr i))∧Ex w1 w'):
  Calls Tryz.prog 47 #[v,.func (.func 138) #[] #[p0]] w fun r w'=> r= .returned (.bool ((List.range n).any pr))∧Ex w w':=by
 have HC:=hid_ (IndexFunc_inj w p0 v n us hv pr hp);have HB:=hid_ (fstI_any pr n);obtain ⟨z,hz⟩:∃z,fstI pr n=z:=⟨_,rfl⟩;rw [hz] at HC HB;clear hz hp hv;go_enter Tryz.func47,Tryz.ntmps47
 go_wp2_with (go_at_call 90;refine HC.out.mono ?_;rintro e w' ⟨rfl,hx⟩;have HX:=hid_ hx;clear hx)
 go_ret;exact ⟨ret_bool HB.out.symm,HX.out⟩
theorem IndexFunc_fac (w:World) (p0:Value) (v:Value) (n:Nat) (us:List Value) (hv:Sl w v n 1 us) (pr:Nat→Bool)
  (hp:∀(w1:World) (i:Nat) (u:Value),Ex w w1→us[i]?=some u→Calls Tryz.prog 139 #[u,p0] w1 fun e w'=> e= .returned (.bool (pr i))∧Ex w1 w'):
  Calls Tryz.prog 90 #[v,.func (.func 139) #[] #[p0]] w fun r w'=> r= .returned (.int .i64 (fstI pr n))∧Ex w w':=by
 obtain ⟨hl,a,cap,rfl,s1,s2,s3⟩:=hv;rw [Nat.mul_one] at hl;have S3:=hid_ s3;have HP:=hid_ hp;have HL:=hid_ hl;unfold maxLen at s2;clear s3 hp hl;go_enter Tryz.func90,Tryz.ntmps90
 go_wp2_with fail
 go_loopg [5,8] n (fun gg _ i' wr=> ∃i:Nat,i≤n∧n - i≤gg∧i'= .int .i64 i∧Hid (Ex w wr)∧Hid (∀j,j < i→pr j=false))
 case atStart=> exact ⟨0,by omega,by omega,rfl,hid_ (Ex.refl _),hid_ (fun j hj=> by omega)⟩
 case round=>
  obtain ⟨i,hi,hg,rfl,hex,hall⟩:=hrel;by_cases hlt:i < n
  ·obtain ⟨u,hu⟩:∃u,us[i]?=some u:=⟨_,List.getElem?_eq_getElem (by rw [HL.out];exact hlt)⟩;obtain ⟨bb,o,rfl,hc⟩:=S3.out (by omega);have c1:=hex.out.cell (hc i u hu);have HC:=hid_ (HP.out wr i u hex.out hu);have hlt':(i:Int) < (n:Int):=by omega
   clear hc hu
   cases hb:pr i with
   | true=>
    rw [hb] at HC;have HF:=hid_ (fstI_hit hlt hb hall.out);clear hb;go_wp2_with (go_at_call 139;refine HC.out.mono ?_;rintro e w' ⟨rfl,hx⟩;have HX:=hid_ (hex.out.trans hx);clear hx)
    go_ret;exact ⟨ret_int HF.out.symm,HX.out⟩
   | false=>
    rw [hb] at HC;have HA:=hid_ (show ∀j,j < i + 1→pr j=false from fun j hj=> by
     by_cases e:j=i
     ·subst e;exact hb
     ·exact hall.out j (by omega))
    clear hb;go_wp2_with (go_at_call 139;refine HC.out.mono ?_;rintro e w' ⟨rfl,hx⟩;have HX:=hid_ (hex.out.trans hx);clear hx)
    go_roundg (n - (i + 1))
    case measure=> omega
    case rel=> exact ⟨i + 1,by omega,by omega,by go_num,HX,HA⟩
  ·obtain rfl:i=n:=by omega
   have HF:=hid_ (fstI_miss hall.out);go_wp2_with fail
   go_ret;exact ⟨ret_int HF.out.symm,hex.out⟩
theorem ContainsFunc_fac (w:World) (p0:Value) (v:Value) (n:Nat) (us:List Value) (hv:Sl w v n 1 us) (pr:Nat→Bool)
  (hp:∀(w1:World) (i:Nat) (u:Value),Ex w w1→us[i]?=some u→Calls Tryz.prog 139 #[u,p0] w1 fun e w'=> e= .returned (.bool (pr i))∧Ex w1 w'):
  Calls Tryz.prog 47 #[v,.func (.func 139) #[] #[p0]] w fun r w'=> r= .returned (.bool ((List.range n).any pr))∧Ex w w':=by
 have HC:=hid_ (IndexFunc_fac w p0 v n us hv pr hp);have HB:=hid_ (fstI_any pr n);obtain ⟨z,hz⟩:∃z,fstI pr n=z:=⟨_,rfl⟩;rw [hz] at HC HB;clear hz hp hv;go_enter Tryz.func47,Tryz.ntmps47
 go_wp2_with (go_at_call 90;refine HC.out.mono ?_;rintro e w' ⟨rfl,hx⟩;have HX:=hid_ hx;clear hx)
 go_ret;exact ⟨ret_bool HB.out.symm,HX.out⟩
theorem IndexFunc_wrd (w:World) (p0:Value) (v:Value) (n:Nat) (us:List Value) (hv:Sl w v n 1 us) (pr:Nat→Bool)
  (hp:∀(w1:World) (i:Nat) (u:Value),Ex w w1→us[i]?=some u→Calls Tryz.prog 48 #[u,p0] w1 fun e w'=> e= .returned (.bool (pr i))∧Ex w1 w'):
  Calls Tryz.prog 90 #[v,.func (.func 48) #[] #[p0]] w fun r w'=> r= .returned (.int .i64 (fstI pr n))∧Ex w w':=by
 obtain ⟨hl,a,cap,rfl,s1,s2,s3⟩:=hv;rw [Nat.mul_one] at hl;have S3:=hid_ s3;have HP:=hid_ hp;have HL:=hid_ hl;unfold maxLen at s2;clear s3 hp hl;go_enter Tryz.func90,Tryz.ntmps90
 go_wp2_with fail
 go_loopg [5,8] n (fun gg _ i' wr=> ∃i:Nat,i≤n∧n - i≤gg∧i'= .int .i64 i∧Hid (Ex w wr)∧Hid (∀j,j < i→pr j=false))
 case atStart=> exact ⟨0,by omega,by omega,rfl,hid_ (Ex.refl _),hid_ (fun j hj=> by omega)⟩
 case round=>
  obtain ⟨i,hi,hg,rfl,hex,hall⟩:=hrel;by_cases hlt:i < n
  ·obtain ⟨u,hu⟩:∃u,us[i]?=some u:=⟨_,List.getElem?_eq_getElem (by rw [HL.out];exact hlt)⟩;obtain ⟨bb,o,rfl,hc⟩:=S3.out (by omega);have c1:=hex.out.cell (hc i u hu);have HC:=hid_ (HP.out wr i u hex.out hu);have hlt':(i:Int) < (n:Int):=by omega
   clear hc hu
   cases hb:pr i with
   | true=>
    rw [hb] at HC;have HF:=hid_ (fstI_hit hlt hb hall.out);clear hb;go_wp2_with (go_at_call 48;refine HC.out.mono ?_;rintro e w' ⟨rfl,hx⟩;have HX:=hid_ (hex.out.trans hx);clear hx)
    go_ret;exact ⟨ret_int HF.out.symm,HX.out⟩
   | false=>
    rw [hb] at HC;have HA:=hid_ (show ∀j,j < i + 1→pr j=false from fun j hj=> by
     by_cases e:j=i
     ·subst e;exact hb
     ·exact hall.out j (by omega))
    clear hb;go_wp2_with (go_at_call 48;refine HC.out.mono ?_;rintro e w' ⟨rfl,hx⟩;have HX:=hid_ (hex.out.trans hx);clear hx)
    go_roundg (n - (i + 1))
    case measure=> omega
    case rel=> exact ⟨i + 1,by omega,by omega,by go_num,HX,HA⟩
  ·obtain rfl:i=n:=by omega
   have HF:=hid_ (fstI_miss hall.out);go_wp2_with fail
   go_ret;exact ⟨ret_int HF.out.symm,hex.out⟩
theorem ContainsFunc_wrd (w:World) (p0:Value) (v:Value) (n:Nat) (us:List Value) (hv:Sl w v n 1 us) (pr:Nat→Bool)
  (hp:∀(w1:World) (i:Nat) (u:Value),Ex w w1→us[i]?=some u→Calls Tryz.prog 48 #[u,p0] w1 fun e w'=> e= .returned (.bool (pr i))∧Ex w1 w'):
  Calls Tryz.prog 47 #[v,.func (.func 48) #[] #[p0]] w fun r w'=> r= .returned (.bool ((List.range n).any pr))∧Ex w w':=by
 have HC:=hid_ (IndexFunc_wrd w p0 v n us hv pr hp);have HB:=hid_ (fstI_any pr n);obtain ⟨z,hz⟩:∃z,fstI pr n=z:=⟨_,rfl⟩;rw [hz] at HC HB;clear hz hp hv;go_enter Tryz.func47,Tryz.ntmps47
 go_wp2_with (go_at_call 90;refine HC.out.mono ?_;rintro e w' ⟨rfl,hx⟩;have HX:=hid_ hx;clear hx)
 go_ret;exact ⟨ret_bool HB.out.symm,HX.out⟩
theorem IndexFunc_shw (w:World) (p0:Value) (v:Value) (n:Nat) (us:List Value) (hv:Sl w v n 1 us) (pr:Nat→Bool)
  (hp:∀(w1:World) (i:Nat) (u:Value),Ex w w1→us[i]?=some u→Calls Tryz.prog 111 #[u,p0] w1 fun e w'=> e= .returned (.bool (pr i))∧Ex w1 w'):
  Calls Tryz.prog 90 #[v,.func (.func 111) #[] #[p0]] w fun r w'=> r= .returned (.int .i64 (fstI pr n))∧Ex w w':=by
 obtain ⟨hl,a,cap,rfl,s1,s2,s3⟩:=hv;rw [Nat.mul_one] at hl;have S3:=hid_ s3;have HP:=hid_ hp;have HL:=hid_ hl;unfold maxLen at s2;clear s3 hp hl;go_enter Tryz.func90,Tryz.ntmps90
 go_wp2_with fail
 go_loopg [5,8] n (fun gg _ i' wr=> ∃i:Nat,i≤n∧n - i≤gg∧i'= .int .i64 i∧Hid (Ex w wr)∧Hid (∀j,j < i→pr j=false))
 case atStart=> exact ⟨0,by omega,by omega,rfl,hid_ (Ex.refl _),hid_ (fun j hj=> by omega)⟩
 case round=>
  obtain ⟨i,hi,hg,rfl,hex,hall⟩:=hrel;by_cases hlt:i < n
  ·obtain ⟨u,hu⟩:∃u,us[i]?=some u:=⟨_,List.getElem?_eq_getElem (by rw [HL.out];exact hlt)⟩;obtain ⟨bb,o,rfl,hc⟩:=S3.out (by omega);have c1:=hex.out.cell (hc i u hu);have HC:=hid_ (HP.out wr i u hex.out hu);have hlt':(i:Int) < (n:Int):=by omega
   clear hc hu
   cases hb:pr i with
   | true=>
    rw [hb] at HC;have HF:=hid_ (fstI_hit hlt hb hall.out);clear hb;go_wp2_with (go_at_call 111;refine HC.out.mono ?_;rintro e w' ⟨rfl,hx⟩;have HX:=hid_ (hex.out.trans hx);clear hx)
    go_ret;exact ⟨ret_int HF.out.symm,HX.out⟩
   | false=>
    rw [hb] at HC;have HA:=hid_ (show ∀j,j < i + 1→pr j=false from fun j hj=> by
     by_cases e:j=i
     ·subst e;exact hb
     ·exact hall.out j (by omega))
    clear hb;go_wp2_with (go_at_call 111;refine HC.out.mono ?_;rintro e w' ⟨rfl,hx⟩;have HX:=hid_ (hex.out.trans hx);clear hx)
    go_roundg (n - (i + 1))
    case measure=> omega
    case rel=> exact ⟨i + 1,by omega,by omega,by go_num,HX,HA⟩
  ·obtain rfl:i=n:=by omega
   have HF:=hid_ (fstI_miss hall.out);go_wp2_with fail
   go_ret;exact ⟨ret_int HF.out.symm,hex.out⟩
theorem ContainsFunc_shw (w:World) (p0:Value) (v:Value) (n:Nat) (us:List Value) (hv:Sl w v n 1 us) (pr:Nat→Bool)
  (hp:∀(w1:World) (i:Nat) (u:Value),Ex w w1→us[i]?=some u→Calls Tryz.prog 111 #[u,p0] w1 fun e w'=> e= .returned (.bool (pr i))∧Ex w1 w'):
  Calls Tryz.prog 47 #[v,.func (.func 111) #[] #[p0]] w fun r w'=> r= .returned (.bool ((List.range n).any pr))∧Ex w w':=by
 have HC:=hid_ (IndexFunc_shw w p0 v n us hv pr hp);have HB:=hid_ (fstI_any pr n);obtain ⟨z,hz⟩:∃z,fstI pr n=z:=⟨_,rfl⟩;rw [hz] at HC HB;clear hz hp hv;go_enter Tryz.func47,Tryz.ntmps47
 go_wp2_with (go_at_call 90;refine HC.out.mono ?_;rintro e w' ⟨rfl,hx⟩;have HX:=hid_ hx;clear hx)
 go_ret;exact ⟨ret_bool HB.out.symm,HX.out⟩
theorem IndexFunc_lst (w:World) (p0:Value) (v:Value) (n:Nat) (us:List Value) (hv:Sl w v n 1 us) (pr:Nat→Bool)
  (hp:∀(w1:World) (i:Nat) (u:Value),Ex w w1→us[i]?=some u→Calls Tryz.prog 129 #[u,p0] w1 fun e w'=> e= .returned (.bool (pr i))∧Ex w1 w'):
  Calls Tryz.prog 90 #[v,.func (.func 129) #[] #[p0]] w fun r w'=> r= .returned (.int .i64 (fstI pr n))∧Ex w w':=by
 obtain ⟨hl,a,cap,rfl,s1,s2,s3⟩:=hv;rw [Nat.mul_one] at hl;have S3:=hid_ s3;have HP:=hid_ hp;have HL:=hid_ hl;unfold maxLen at s2;clear s3 hp hl;go_enter Tryz.func90,Tryz.ntmps90
 go_wp2_with fail
 go_loopg [5,8] n (fun gg _ i' wr=> ∃i:Nat,i≤n∧n - i≤gg∧i'= .int .i64 i∧Hid (Ex w wr)∧Hid (∀j,j < i→pr j=false))
 case atStart=> exact ⟨0,by omega,by omega,rfl,hid_ (Ex.refl _),hid_ (fun j hj=> by omega)⟩
 case round=>
  obtain ⟨i,hi,hg,rfl,hex,hall⟩:=hrel;by_cases hlt:i < n
  ·obtain ⟨u,hu⟩:∃u,us[i]?=some u:=⟨_,List.getElem?_eq_getElem (by rw [HL.out];exact hlt)⟩;obtain ⟨bb,o,rfl,hc⟩:=S3.out (by omega);have c1:=hex.out.cell (hc i u hu);have HC:=hid_ (HP.out wr i u hex.out hu);have hlt':(i:Int) < (n:Int):=by omega
   clear hc hu
   cases hb:pr i with
   | true=>
    rw [hb] at HC;have HF:=hid_ (fstI_hit hlt hb hall.out);clear hb;go_wp2_with (go_at_call 129;refine HC.out.mono ?_;rintro e w' ⟨rfl,hx⟩;have HX:=hid_ (hex.out.trans hx);clear hx)
    go_ret;exact ⟨ret_int HF.out.symm,HX.out⟩
   | false=>
    rw [hb] at HC;have HA:=hid_ (show ∀j,j < i + 1→pr j=false from fun j hj=> by
     by_cases e:j=i
     ·subst e;exact hb
     ·exact hall.out j (by omega))
    clear hb;go_wp2_with (go_at_call 129;refine HC.out.mono ?_;rintro e w' ⟨rfl,hx⟩;have HX:=hid_ (hex.out.trans hx);clear hx)
    go_roundg (n - (i + 1))
    case measure=> omega
    case rel=> exact ⟨i + 1,by omega,by omega,by go_num,HX,HA⟩
  ·obtain rfl:i=n:=by omega
   have HF:=hid_ (fstI_miss hall.out);go_wp2_with fail
   go_ret;exact ⟨ret_int HF.out.symm,hex.out⟩
theorem ContainsFunc_lst (w:World) (p0:Value) (v:Value) (n:Nat) (us:List Value) (hv:Sl w v n 1 us) (pr:Nat→Bool)
  (hp:∀(w1:World) (i:Nat) (u:Value),Ex w w1→us[i]?=some u→Calls Tryz.prog 129 #[u,p0] w1 fun e w'=> e= .returned (.bool (pr i))∧Ex w1 w'):
  Calls Tryz.prog 47 #[v,.func (.func 129) #[] #[p0]] w fun r w'=> r= .returned (.bool ((List.range n).any pr))∧Ex w w':=by
 have HC:=hid_ (IndexFunc_lst w p0 v n us hv pr hp);have HB:=hid_ (fstI_any pr n);obtain ⟨z,hz⟩:∃z,fstI pr n=z:=⟨_,rfl⟩;rw [hz] at HC HB;clear hz hp hv;go_enter Tryz.func47,Tryz.ntmps47
 go_wp2_with (go_at_call 90;refine HC.out.mono ?_;rintro e w' ⟨rfl,hx⟩;have HX:=hid_ hx;clear hx)
 go_ret;exact ⟨ret_bool HB.out.symm,HX.out⟩
theorem IndexFunc_spw (w:World) (p0:Value) (v:Value) (n:Nat) (us:List Value) (hv:Sl w v n 1 us) (pr:Nat→Bool)
  (hp:∀(w1:World) (i:Nat) (u:Value),Ex w w1→us[i]?=some u→Calls Tryz.prog 163 #[u,p0] w1 fun e w'=> e= .returned (.bool (pr i))∧Ex w1 w'):
  Calls Tryz.prog 90 #[v,.func (.func 163) #[] #[p0]] w fun r w'=> r= .returned (.int .i64 (fstI pr n))∧Ex w w':=by
 obtain ⟨hl,a,cap,rfl,s1,s2,s3⟩:=hv;rw [Nat.mul_one] at hl;have S3:=hid_ s3;have HP:=hid_ hp;have HL:=hid_ hl;unfold maxLen at s2;clear s3 hp hl;go_enter Tryz.func90,Tryz.ntmps90
 go_wp2_with fail
 go_loopg [5,8] n (fun gg _ i' wr=> ∃i:Nat,i≤n∧n - i≤gg∧i'= .int .i64 i∧Hid (Ex w wr)∧Hid (∀j,j < i→pr j=false))
 case atStart=> exact ⟨0,by omega,by omega,rfl,hid_ (Ex.refl _),hid_ (fun j hj=> by omega)⟩
 case round=>
  obtain ⟨i,hi,hg,rfl,hex,hall⟩:=hrel;by_cases hlt:i < n
  ·obtain ⟨u,hu⟩:∃u,us[i]?=some u:=⟨_,List.getElem?_eq_getElem (by rw [HL.out];exact hlt)⟩;obtain ⟨bb,o,rfl,hc⟩:=S3.out (by omega);have c1:=hex.out.cell (hc i u hu);have HC:=hid_ (HP.out wr i u hex.out hu);have hlt':(i:Int) < (n:Int):=by omega
   clear hc hu
   cases hb:pr i with
   | true=>
    rw [hb] at HC;have HF:=hid_ (fstI_hit hlt hb hall.out);clear hb;go_wp2_with (go_at_call 163;refine HC.out.mono ?_;rintro e w' ⟨rfl,hx⟩;have HX:=hid_ (hex.out.trans hx);clear hx)
    go_ret;exact ⟨ret_int HF.out.symm,HX.out⟩
   | false=>
    rw [hb] at HC;have HA:=hid_ (show ∀j,j < i + 1→pr j=false from fun j hj=> by
     by_cases e:j=i
     ·subst e;exact hb
     ·exact hall.out j (by omega))
    clear hb;go_wp2_with (go_at_call 163;refine HC.out.mono ?_;rintro e w' ⟨rfl,hx⟩;have HX:=hid_ (hex.out.trans hx);clear hx)
    go_roundg (n - (i + 1))
    case measure=> omega
    case rel=> exact ⟨i + 1,by omega,by omega,by go_num,HX,HA⟩
  ·obtain rfl:i=n:=by omega
   have HF:=hid_ (fstI_miss hall.out);go_wp2_with fail
   go_ret;exact ⟨ret_int HF.out.symm,hex.out⟩
theorem ContainsFunc_spw (w:World) (p0:Value) (v:Value) (n:Nat) (us:List Value) (hv:Sl w v n 1 us) (pr:Nat→Bool)
  (hp:∀(w1:World) (i:Nat) (u:Value),Ex w w1→us[i]?=some u→Calls Tryz.prog 163 #[u,p0] w1 fun e w'=> e= .returned (.bool (pr i))∧Ex w1 w'):
  Calls Tryz.prog 47 #[v,.func (.func 163) #[] #[p0]] w fun r w'=> r= .returned (.bool ((List.range n).any pr))∧Ex w w':=by
 have HC:=hid_ (IndexFunc_spw w p0 v n us hv pr hp);have HB:=hid_ (fstI_any pr n);obtain ⟨z,hz⟩:∃z,fstI pr n=z:=⟨_,rfl⟩;rw [hz] at HC HB;clear hz hp hv;go_enter Tryz.func47,Tryz.ntmps47
 go_wp2_with (go_at_call 90;refine HC.out.mono ?_;rintro e w' ⟨rfl,hx⟩;have HX:=hid_ hx;clear hx)
 go_ret;exact ⟨ret_bool HB.out.symm,HX.out⟩
theorem IndexFunc_zro (w:World) (v:Value) (n:Nat) (us:List Value) (hv:Sl w v n 1 us) (pr:Nat→Bool)
  (hp:∀(w1:World) (i:Nat) (u:Value),Ex w w1→us[i]?=some u→Calls Tryz.prog 182 #[u] w1 fun e w'=> e= .returned (.bool (pr i))∧Ex w1 w'):
  Calls Tryz.prog 90 #[v,.func (.func 182) #[] #[]] w fun r w'=> r= .returned (.int .i64 (fstI pr n))∧Ex w w':=by
 obtain ⟨hl,a,cap,rfl,s1,s2,s3⟩:=hv;rw [Nat.mul_one] at hl;have S3:=hid_ s3;have HP:=hid_ hp;have HL:=hid_ hl;unfold maxLen at s2;clear s3 hp hl;go_enter Tryz.func90,Tryz.ntmps90
 go_wp2_with fail
 go_loopg [5,8] n (fun gg _ i' wr=> ∃i:Nat,i≤n∧n - i≤gg∧i'= .int .i64 i∧Hid (Ex w wr)∧Hid (∀j,j < i→pr j=false))
 case atStart=> exact ⟨0,by omega,by omega,rfl,hid_ (Ex.refl _),hid_ (fun j hj=> by omega)⟩
 case round=>
  obtain ⟨i,hi,hg,rfl,hex,hall⟩:=hrel;by_cases hlt:i < n
  ·obtain ⟨u,hu⟩:∃u,us[i]?=some u:=⟨_,List.getElem?_eq_getElem (by rw [HL.out];exact hlt)⟩;obtain ⟨bb,o,rfl,hc⟩:=S3.out (by omega);have c1:=hex.out.cell (hc i u hu);have HC:=hid_ (HP.out wr i u hex.out hu);have hlt':(i:Int) < (n:Int):=by omega
   clear hc hu
   cases hb:pr i with
   | true=>
    rw [hb] at HC;have HF:=hid_ (fstI_hit hlt hb hall.out);clear hb;go_wp2_with (go_at_call 182;refine HC.out.mono ?_;rintro e w' ⟨rfl,hx⟩;have HX:=hid_ (hex.out.trans hx);clear hx)
    go_ret;exact ⟨ret_int HF.out.symm,HX.out⟩
   | false=>
    rw [hb] at HC;have HA:=hid_ (show ∀j,j < i + 1→pr j=false from fun j hj=> by
     by_cases e:j=i
     ·subst e;exact hb
     ·exact hall.out j (by omega))
    clear hb;go_wp2_with (go_at_call 182;refine HC.out.mono ?_;rintro e w' ⟨rfl,hx⟩;have HX:=hid_ (hex.out.trans hx);clear hx)
    go_roundg (n - (i + 1))
    case measure=> omega
    case rel=> exact ⟨i + 1,by omega,by omega,by go_num,HX,HA⟩
  ·obtain rfl:i=n:=by omega
   have HF:=hid_ (fstI_miss hall.out);go_wp2_with fail
   go_ret;exact ⟨ret_int HF.out.symm,hex.out⟩
theorem ContainsFunc_zro (w:World) (v:Value) (n:Nat) (us:List Value) (hv:Sl w v n 1 us) (pr:Nat→Bool)
  (hp:∀(w1:World) (i:Nat) (u:Value),Ex w w1→us[i]?=some u→Calls Tryz.prog 182 #[u] w1 fun e w'=> e= .returned (.bool (pr i))∧Ex w1 w'):
  Calls Tryz.prog 47 #[v,.func (.func 182) #[] #[]] w fun r w'=> r= .returned (.bool ((List.range n).any pr))∧Ex w w':=by
 have HC:=hid_ (IndexFunc_zro w v n us hv pr hp);have HB:=hid_ (fstI_any pr n);obtain ⟨z,hz⟩:∃z,fstI pr n=z:=⟨_,rfl⟩;rw [hz] at HC HB;clear hz hp hv;go_enter Tryz.func47,Tryz.ntmps47
 go_wp2_with (go_at_call 90;refine HC.out.mono ?_;rintro e w' ⟨rfl,hx⟩;have HX:=hid_ hx;clear hx)
 go_ret;exact ⟨ret_bool HB.out.symm,HX.out⟩
theorem IndexFunc_red (w:World) (v:Value) (n:Nat) (us:List Value) (hv:Sl w v n 1 us) (pr:Nat→Bool)
  (hp:∀(w1:World) (i:Nat) (u:Value),Ex w w1→us[i]?=some u→Calls Tryz.prog 173 #[u] w1 fun e w'=> e= .returned (.bool (pr i))∧Ex w1 w'):
  Calls Tryz.prog 90 #[v,.func (.func 173) #[] #[]] w fun r w'=> r= .returned (.int .i64 (fstI pr n))∧Ex w w':=by
 obtain ⟨hl,a,cap,rfl,s1,s2,s3⟩:=hv;rw [Nat.mul_one] at hl;have S3:=hid_ s3;have HP:=hid_ hp;have HL:=hid_ hl;unfold maxLen at s2;clear s3 hp hl;go_enter Tryz.func90,Tryz.ntmps90
 go_wp2_with fail
 go_loopg [5,8] n (fun gg _ i' wr=> ∃i:Nat,i≤n∧n - i≤gg∧i'= .int .i64 i∧Hid (Ex w wr)∧Hid (∀j,j < i→pr j=false))
 case atStart=> exact ⟨0,by omega,by omega,rfl,hid_ (Ex.refl _),hid_ (fun j hj=> by omega)⟩
 case round=>
  obtain ⟨i,hi,hg,rfl,hex,hall⟩:=hrel;by_cases hlt:i < n
  ·obtain ⟨u,hu⟩:∃u,us[i]?=some u:=⟨_,List.getElem?_eq_getElem (by rw [HL.out];exact hlt)⟩;obtain ⟨bb,o,rfl,hc⟩:=S3.out (by omega);have c1:=hex.out.cell (hc i u hu);have HC:=hid_ (HP.out wr i u hex.out hu);have hlt':(i:Int) < (n:Int):=by omega
   clear hc hu
   cases hb:pr i with
   | true=>
    rw [hb] at HC;have HF:=hid_ (fstI_hit hlt hb hall.out);clear hb;go_wp2_with (go_at_call 173;refine HC.out.mono ?_;rintro e w' ⟨rfl,hx⟩;have HX:=hid_ (hex.out.trans hx);clear hx)
    go_ret;exact ⟨ret_int HF.out.symm,HX.out⟩
   | false=>
    rw [hb] at HC;have HA:=hid_ (show ∀j,j < i + 1→pr j=false from fun j hj=> by
     by_cases e:j=i
     ·subst e;exact hb
     ·exact hall.out j (by omega))
    clear hb;go_wp2_with (go_at_call 173;refine HC.out.mono ?_;rintro e w' ⟨rfl,hx⟩;have HX:=hid_ (hex.out.trans hx);clear hx)
    go_roundg (n - (i + 1))
    case measure=> omega
    case rel=> exact ⟨i + 1,by omega,by omega,by go_num,HX,HA⟩
  ·obtain rfl:i=n:=by omega
   have HF:=hid_ (fstI_miss hall.out);go_wp2_with fail
   go_ret;exact ⟨ret_int HF.out.symm,hex.out⟩
theorem IndexFunc_mis (w:World) (p0:Value) (v:Value) (n:Nat) (us:List Value) (hv:Sl w v n 1 us) (pr:Nat→Bool)
  (hp:∀(w1:World) (i:Nat) (u:Value),Ex w w1→us[i]?=some u→Calls Tryz.prog 154 #[u,p0] w1 fun e w'=> e= .returned (.bool (pr i))∧Ex w1 w'):
  Calls Tryz.prog 153 #[v,.func (.func 154) #[] #[p0]] w fun r w'=> r= .returned (.int .i64 (fstI pr n))∧Ex w w':=by
 obtain ⟨hl,a,cap,rfl,s1,s2,s3⟩:=hv;rw [Nat.mul_one] at hl;have S3:=hid_ s3;have HP:=hid_ hp;have HL:=hid_ hl;unfold maxLen at s2;clear s3 hp hl;go_enter Tryz.func153,Tryz.ntmps153
 go_wp2_with fail
 go_loopg [5,8] n (fun gg _ i' wr=> ∃i:Nat,i≤n∧n - i≤gg∧i'= .int .i64 i∧Hid (Ex w wr)∧Hid (∀j,j < i→pr j=false))
 case atStart=> exact ⟨0,by omega,by omega,rfl,hid_ (Ex.refl _),hid_ (fun j hj=> by omega)⟩
 case round=>
  obtain ⟨i,hi,hg,rfl,hex,hall⟩:=hrel;by_cases hlt:i < n
  ·obtain ⟨u,hu⟩:∃u,us[i]?=some u:=⟨_,List.getElem?_eq_getElem (by rw [HL.out];exact hlt)⟩;obtain ⟨bb,o,rfl,hc⟩:=S3.out (by omega);have c1:=hex.out.cell (hc i u hu);have HC:=hid_ (HP.out wr i u hex.out hu);have hlt':(i:Int) < (n:Int):=by omega
   clear hc hu
   cases hb:pr i with
   | true=>
    rw [hb] at HC;have HF:=hid_ (fstI_hit hlt hb hall.out);clear hb;go_wp2_with (go_at_call 154;refine HC.out.mono ?_;rintro e w' ⟨rfl,hx⟩;have HX:=hid_ (hex.out.trans hx);clear hx)
    go_ret;exact ⟨ret_int HF.out.symm,HX.out⟩
   | false=>
    rw [hb] at HC;have HA:=hid_ (show ∀j,j < i + 1→pr j=false from fun j hj=> by
     by_cases e:j=i
     ·subst e;exact hb
     ·exact hall.out j (by omega))
    clear hb;go_wp2_with (go_at_call 154;refine HC.out.mono ?_;rintro e w' ⟨rfl,hx⟩;have HX:=hid_ (hex.out.trans hx);clear hx)
    go_roundg (n - (i + 1))
    case measure=> omega
    case rel=> exact ⟨i + 1,by omega,by omega,by go_num,HX,HA⟩
  ·obtain rfl:i=n:=by omega
   have HF:=hid_ (fstI_miss hall.out);go_wp2_with fail
   go_ret;exact ⟨ret_int HF.out.symm,hex.out⟩
end Go.Proofs.YtgdmlmhpineibaaGreat
