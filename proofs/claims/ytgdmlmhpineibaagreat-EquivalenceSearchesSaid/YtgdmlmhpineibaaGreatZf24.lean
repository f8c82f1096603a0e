/- slices.IndexFunc and slices.ContainsFunc at the chapter's closures (printed by gen_finde.py). -/
import Derived.BigQuiet
import Derived.Test.YtgdmlmhpineibaaGreatZf13
import Derived.Test.YtgdmlmhpineibaaGreatZf23
namespace Go.Proofs.YtgdmlmhpineibaaGreat
set_option linter.unusedVariables false
set_option linter.unusedSimpArgs false
set_option maxRecDepth 100000
set_option maxHeartbeats 8000000
section
open Go.RowKit
theorem IndexFunc_inj (w:World) (p0:Value) (v:Value) (n:Nat) (us:List Value) (hv:Sl w v n 1 us) (pr:Nat→Bool)
  (hp:∀(w1:World) (i:Nat) (u:Value),Ex w w1→us[i]?=some u→Calls Tryz.prog 138 #[u,p0] w1 fun e w'=> e= .returned (.bool (pr i))∧Ex w1 w'):
  Calls Tryz.prog 90 #[v,.func (.func 138) #[] #[p0]] w fun r w'=> r= .returned (.int .i64 (fstI pr n))∧Ex w w':=by
 obtain ⟨hl,a,cap,rfl,s1,s2,s3⟩:=hv;rw [Nat.mul_one] at hl;have S3:=hid_ s3;have HP:=hid_ hp;have HL:=hid_ hl;unfold maxLen at s2;clear s3 hp hl;go_enter Tryz.func90,Tryz.ntmps90
 go_wp2_with fail
 go_loopg [5,8] n (fun gg _ i' wr=> ∃i:Nat,i≤n∧n - i≤gg∧i'= .int .i64 i∧Hid (Ex w wr)∧Hid (∀j,j < i→pr j=false))
 case atStart=> exact ⟨0,by omega,by omega,rfl,hid_ (Ex.refl _),hid_ (fun j hj=> by omega)⟩
 case round=>
  obtain ⟨i,hi,hg,rfl,hex,hall⟩:=hrel;by_cases hlt:i < n
  ·obtain ⟨u,hu⟩:∃u,us[i]?=some u:=⟨_,List.getElem?_eq_getElem (by rw [HL.out];exact hlt)⟩;obtain ⟨bb,o,rfl,hc⟩:=S3.out (by omega);have c1:=hex.out.cell (hc i u hu);have HC:=hid_ (HP.out wr i u hex.out hu);have hlt':(i:Int) < (n:Int):=by omega
   clear hc hu
   cases hb:pr i with
   | true=>
    rw [hb] at HC;have HF:=hid_ (fstI_hit hlt hb hall.out);clear hb;go_wp2_with (go_at_call 138;refine HC.out.mono ?_;rintro e w' ⟨rfl,hx⟩;have HX:=hid_ (hex.out.trans hx);clear hx)
    go_ret;exact ⟨ret_int HF.out.symm,HX.out⟩
   | false=>
    rw [hb] at HC;have HA:=hid_ (show ∀j,j < i + 1→pr j=false from fun j hj=> by
     by_cases e:j=i
     ·subst e;exact hb
     ·exact hall.out j (by omega))
    clear hb;go_wp2_with (go_at_call 138;refine HC.out.mono ?_;rintro e w' ⟨rfl,hx⟩;have HX:=hid_ (hex.out.trans hx);clear hx)
    go_roundg (n - (i + 1))
    case measure=> omega
    case rel=> exact ⟨i + 1,by omega,by omega,by go_num,HX,HA⟩
  ·obtain rfl:i=n:=by omega
   have HF:=hid_ (fstI_miss hall.out);go_wp2_with fail
   go_ret;exact ⟨ret_int HF.out.symm,hex.out⟩
theorem ContainsFunc_inj (w:World) (p0:Value) (v:Value) (n:Nat) (us:List Value) (hv:Sl w v n 1 us) (pr:Nat→Bool)
  (hp:∀(w1:World) (i:Nat) (u:Value),Ex w w1→us[i]?=some u→Calls Tryz.prog 138 #[u,p0] w1 fun e w'=> e= .returned (.bool (pr i))∧Ex w1 w'):
  Calls Tryz.prog 47 #[v,.func (.func 138) #[] #[p0]] w fun r w'=> r= .returned (.bool ((List.range n).any pr))∧Ex w w':=by
 have HC:=hid_ (IndexFunc_inj w p0 v n us hv pr hp);have HB:=hid_ (fstI_any pr n);obtain ⟨z,hz⟩:∃z,fstI pr n=z:=⟨_,rfl⟩;rw [hz] at HC HB;clear hz hp hv;go_enter Tryz.func47,Tryz.ntmps47
 go_wp2_with (go_at_call 90;refine HC.out.mono ?_;rintro e w' ⟨rfl,hx⟩;have HX:=hid_ hx;clear hx)
 go_ret;exact ⟨ret_bool HB.out.symm,HX.out⟩
theorem IndexFunc_fac (w:World) (p0:Value) (v:Value) (n:Nat) (us:List Value) (hv:Sl w v n 1 us) (pr:Nat→Bool)
  (hp:∀(w1:World) (i:Nat) (u:Value),Ex w w1→us[i]?=some u→Calls Tryz.prog 139 #[u,p0] w1 fun e w'=> e= .returned (.bool (pr i))∧Ex w1 w'):
  Calls Tryz.prog 90 #[v,.func (.func 139) #[] #[p0]] w fun r w'=> r= .returned (.int .i64 (fstI pr n))∧Ex w w':=by
 obtain ⟨hl,a,cap,rfl,s1,s2,s3⟩:=hv;rw [Nat.mul_one] at hl;have S3:=hid_ s3;have HP:=hid_ hp;have HL:=hid_ hl;unfold maxLen at s2;clear s3 hp hl;go_enter Tryz.func90,Tryz.ntmps90
 go_wp2_with fail
 go_loopg [5,8] n (fun gg _ i' wr=> ∃i:Nat,i≤n∧n - i≤gg∧i'= .int .i64 i∧Hid (Ex w wr)∧Hid (∀j,j < i→pr j=false))
 case atStart=> exact ⟨0,by omega,by omega,rfl,hid_ (Ex.refl _),hid_ (fun j hj=> by omega)⟩
 case round=>
  obtain ⟨i,hi,hg,rfl,hex,hall⟩:=hrel;by_cases hlt:i < n
  ·obtain ⟨u,hu⟩:∃u,us[i]?=some u:=⟨_,List.getElem?_eq_getElem (by rw [HL.out];exact hlt)⟩;obtain ⟨bb,o,rfl,hc⟩:=S3.out (by omega);have c1:=hex.out.cell (hc i u hu);have HC:=hid_ (HP.out wr i u hex.out hu);have hlt':(i:Int) < (n:Int):=by omega
   clear hc hu
   cases hb:pr i with
   | true=>
    rw [hb] at HC;have HF:=hid_ (fstI_hit hlt hb hall.out);clear hb;go_wp2_with (go_at_call 139;refine HC.out.mono ?_;rintro e w' ⟨rfl,hx⟩;have HX:=hid_ (hex.out.trans hx);clear hx)
    go_ret;exact ⟨ret_int HF.out.symm,HX.out⟩
   | false=>
    rw [hb] at HC;have HA:=hid_ (show ∀j,j < i + 1→pr j=false from fun j hj=> by
     by_cases e:j=i
     ·subst e;exact hb
     ·exact hall.out j (by omega))
    clear hb;go_wp2_with (go_at_call 139;refine HC.out.mono ?_;rintro e w' ⟨rfl,hx⟩;have HX:=hid_ (hex.out.trans hx);clear hx)
    go_roundg (n - (i + 1))
    case measure=> omega
    case rel=> exact ⟨i + 1,by omega,by omega,by go_num,HX,HA⟩
  ·obtain rfl:i=n:=by omega
   have HF:=hid_ (fstI_miss hall.out);go_wp2_with fail
   go_ret;exact ⟨ret_int HF.out.symm,hex.out⟩
theorem ContainsFunc_fac (w:World) (p0:Value) (v:Value) (n:Nat) (us:List Value) (hv:Sl w v n 1 us) (pr:Nat→Bool)
  (hp:∀(w1:World) (i:Nat) (u:Value),Ex w w1→us[i]?=some u→Calls Tryz.prog 139 #[u,p0] w1 fun e w'=> e= .returned (.bool (pr i))∧Ex w1 w'):
  Calls Tryz.prog 47 #[v,.func (.func 139) #[] #[p0]] w fun r w'=> r= .returned (.bool ((List.range n).any pr))∧Ex w w':=by
 have HC:=hid_ (IndexFunc_fac w p0 v n us hv pr hp);have HB:=hid_ (fstI_any pr n);obtain ⟨z,hz⟩:∃z,fstI pr n=z:=⟨_,rfl⟩;rw [hz] at HC HB;clear hz hp hv;go_enter Tryz.func47,Tryz.ntmps47
 go_wp2_with (go_at_call 90;refine HC.out.mono ?_;rintro e w' ⟨rfl,hx⟩;have HX:=hid_ hx;clear hx)
 go_ret;exact ⟨ret_bool HB.out.symm,HX.out⟩
theorem IndexFunc_wrd (w:World) (p0:Value) (v:Value) (n:Nat) (us:List Value) (hv:Sl w v n 1 us) (pr:Nat→Bool)
  (hp:∀(w1:World) (i:Nat) (u:Value),Ex w w1→us[i]?=some u→Calls Tryz.prog 48 #[u,p0] w1 fun e w'=> e= .returned (.bool (pr i))∧Ex w1 w'):
  Calls Tryz.prog 90 #[v,.func (.func 48) #[] #[p0]] w fun r w'=> r= .returned (.int .i64 (fstI pr n))∧Ex w w':=by
 obtain ⟨hl,a,cap,rfl,s1,s2,s3⟩:=hv;rw [Nat.mul_one] at hl;have S3:=hid_ s3;have HP:=hid_ hp;have HL:=hid_ hl;unfold maxLen at s2;clear s3 hp hl;go_enter Tryz.func90,Tryz.ntmps90
 go_wp2_with fail
 go_loopg [5,8] n (fun gg _ i' wr=> ∃i:Nat,i≤n∧n - i≤gg∧i'= .int .i64 i∧Hid (Ex w wr)∧Hid (∀j,j < i→pr j=false))
 case atStart=> exact ⟨0,by omega,by omega,rfl,hid_ (Ex.refl _),hid_ (fun j hj=> by omega)⟩
 case round=>
  obtain ⟨i,hi,hg,rfl,hex,hall⟩:=hrel;by_cases hlt:i < n
  ·obtain ⟨u,hu⟩:∃u,us[i]?=some u:=⟨_,List.getElem?_eq_getElem (by rw [HL.out];exact hlt)⟩;obtain ⟨bb,o,rfl,hc⟩:=S3.out (by omega);have c1:=hex.out.cell (hc i u hu);have HC:=hid_ (HP.out wr i u hex.out hu);have hlt':(i:Int) < (n:Int):=by omega
   clear hc hu
   cases hb:pr i with
   | true=>
    rw [hb] at HC;have HF:=hid_ (fstI_hit hlt hb hall.out);clear hb;go_wp2_with (go_at_call 48;refine HC.out.mono ?_;rintro e w' ⟨rfl,hx⟩;have HX:=hid_ (hex.out.trans hx);clear hx)
    go_ret;exact ⟨ret_int HF.out.symm,HX.out⟩
   | false=>
    rw [hb] at HC;have HA:=hid_ (show ∀j,j < i + 1→pr j=false from fun j hj=> by
     by_cases e:j=i
     ·subst e;exact hb
     ·exact hall.out j (by omega))
    clear hb;go_wp2_with (go_at_call 48;refine HC.out.mono ?_;rintro e w' ⟨rfl,hx⟩;have HX:=hid_ (hex.out.trans hx);clear hx)
    go_roundg (n - (i + 1))
    case measure=> omega
    case rel=> exact ⟨i + 1,by omega,by omega,by go_num,HX,HA⟩
  ·obtain rfl:i=n:=by omega
   have HF:=hid_ (fstI_miss hall.out);go_wp2_with fail
   go_ret;exact ⟨ret_int HF.out.symm,hex.out⟩
theorem ContainsFunc_wrd (w:World) (p0:Value) (v:Value) (n:Nat) (us:List Value) (hv:Sl w v n 1 us) (pr:Nat→Bool)
  (hp:∀(w1:World) (i:Nat) (u:Value),Ex w w1→us[i]?=some u→Calls Tryz.prog 48 #[u,p0] w1 fun e w'=> e= .returned (.bool (pr i))∧Ex w1 w'):
  Calls Tryz.prog 47 #[v,.func (.func 48) #[] #[p0]] w fun r w'=> r= .returned (.bool ((List.range n).any pr))∧Ex w w':=by
 have HC:=hid_ (IndexFunc_wrd w p0 v n us hv pr hp);have HB:=hid_ (fstI_any pr n);obtain ⟨z,hz⟩:∃z,fstI pr n=z:=⟨_,rfl⟩;rw [hz] at HC HB;clear hz hp hv;go_enter Tryz.func47,Tryz.ntmps47
 go_wp2_with (go_at_call 90;refine HC.out.mono ?_;rintro e w' ⟨rfl,hx⟩;have HX:=hid_ hx;clear hx)
 go_ret;exact ⟨ret_bool HB.out.symm,HX.out⟩
theorem IndexFunc_shw (w:World) (p0:Value) (v:Value) (n:Nat) (us:List Value) (hv:Sl w v n 1 us) (pr:Nat→Bool)
  (hp:∀(w1:World) (i:Nat) (u:Value),Ex w w1→us[i]?=some u→Calls Tryz.prog 111 #[u,p0] w1 fun e w'=> e= .returned (.bool (pr i))∧Ex w1 w'):
  Calls Tryz.prog 90 #[v,.func (.func 111) #[] #[p0]] w fun r w'=> r= .returned (.int .i64 (fstI pr n))∧Ex w w':=by
 obtain ⟨hl,a,cap,rfl,s1,s2,s3⟩:=hv;rw [Nat.mul_one] at hl;have S3:=hid_ s3;have HP:=hid_ hp;have HL:=hid_ hl;unfold maxLen at s2;clear s3 hp hl;go_enter Tryz.func90,Tryz.ntmps90
 go_wp2_with fail
 go_loopg [5,8] n (fun gg _ i' wr=> ∃i:Nat,i≤n∧n - i≤gg∧i'= .int .i64 i∧Hid (Ex w wr)∧Hid (∀j,j < i→pr j=false))
 case atStart=> exact ⟨0,by omega,by omega,rfl,hid_ (Ex.refl _),hid_ (fun j hj=> by omega)⟩
 case round=>
  obtain ⟨i,hi,hg,rfl,hex,hall⟩:=hrel;by_cases hlt:i < n
  ·obtain ⟨u,hu⟩:∃u,us[i]?=some u:=⟨_,List.getElem?_eq_getElem (by rw [HL.out];exact hlt)⟩;obtain ⟨bb,o,rfl,hc⟩:=S3.out (by omega);have c1:=hex.out.cell (hc i u hu);have HC:=hid_ (HP.out wr i u hex.out hu);have hlt':(i:Int) < (n:Int):=by omega
   clear hc hu
   cases hb:pr i with
   | true=>
    rw [hb] at HC;have HF:=hid_ (fstI_hit hlt hb hall.out);clear hb;go_wp2_with (go_at_call 111;refine HC.out.mono ?_;rintro e w' ⟨rfl,hx⟩;have HX:=hid_ (hex.out.trans hx);clear hx)
    go_ret;exact ⟨ret_int HF.out.symm,HX.out⟩
   | false=>
    rw [hb] at HC;have HA:=hid_ (show ∀j,j < i + 1→pr j=false from fun j hj=> by
     by_cases e:j=i
     ·subst e;exact hb
     ·exact hall.out j (by omega))
    clear hb;go_wp2_with (go_at_call 111;refine HC.out.mono ?_;rintro e w' ⟨rfl,hx⟩;have HX:=hid_ (hex.out.trans hx);clear hx)
    go_roundg (n - (i + 1))
    case measure=> omega
    case rel=> exact ⟨i + 1,by omega,by omega,by go_num,HX,HA⟩
  ·obtain rfl:i=n:=by omega
   have HF:=hid_ (fstI_miss hall.out);go_wp2_with fail
   go_ret;exact ⟨ret_int HF.out.symm,hex.out⟩
theorem ContainsFunc_shw (w:World) (p0:Value) (v:Value) (n:Nat) (us:List Value) (hv:Sl w v n 1 us) (pr:Nat→Bool)
  (hp:∀(w1:World) (i:Nat) (u:Value),Ex w w1→us[i]?=some u→Calls Tryz.prog 111 #[u,p0] w1 fun e w'=> e= .returned (.bool (pr i))∧Ex w1 w'):
  Calls Tryz.prog 47 #[v,.func (.func 111) #[] #[p0]] w fun r w'=> r= .returned (.bool ((List.range n).any pr))∧Ex w w':=by
 have HC:=hid_ (IndexFunc_shw w p0 v n us hv pr hp);have HB:=hid_ (fstI_any pr n);obtain ⟨z,hz⟩:∃z,fstI pr n=z:=⟨_,rfl⟩;rw [hz] at HC HB;clear hz hp hv;go_enter Tryz.func47,Tryz.ntmps47
 go_wp2_with (go_at_call 90;refine HC.out.mono ?_;rintro e w' ⟨rfl,hx⟩;have HX:=hid_ hx;clear hx)
 go_ret;exact ⟨ret_bool HB.out.symm,HX.out⟩
theorem IndexFunc_red (w:World) (v:Value) (n:Nat) (us:List Value) (hv:Sl w v n 1 us) (pr:Nat→Bool)
  (hp:∀(w1:World) (i:Nat) (u:Value),Ex w w1→us[i]?=some u→Calls Tryz.prog 173 #[u] w1 fun e w'=> e= .returned (.bool (pr i))∧Ex w1 w'):
  Calls Tryz.prog 90 #[v,.func (.func 173) #[] #[]] w fun r w'=> r= .returned (.int .i64 (fstI pr n))∧Ex w w':=by
 obtain ⟨hl,a,cap,rfl,s1,s2,s3⟩:=hv;rw [Nat.mul_one] at hl;have S3:=hid_ s3;have HP:=hid_ hp;have HL:=hid_ hl;unfold maxLen at s2;clear s3 hp hl;go_enter Tryz.func90,Tryz.ntmps90
 go_wp2_with fail
 go_loopg [5,8] n (fun gg _ i' wr=> ∃i:Nat,i≤n∧n - i≤gg∧i'= .int .i64 i∧Hid (Ex w wr)∧Hid (∀j,j < i→pr j=false))
 case atStart=> exact ⟨0,by omega,by omega,rfl,hid_ (Ex.refl _),hid_ (fun j hj=> by omega)⟩
 case round=>
  obtain ⟨i,hi,hg,rfl,hex,hall⟩:=hrel;by_cases hlt:i < n
  ·obtain ⟨u,hu⟩:∃u,us[i]?=some u:=⟨_,List.getElem?_eq_getElem (by rw [HL.out];exact hlt)⟩;obtain ⟨bb,o,rfl,hc⟩:=S3.out (by omega);have c1:=hex.out.cell (hc i u hu);have HC:=hid_ (HP.out wr i u hex.out hu);have hlt':(i:Int) < (n:Int):=by omega
   clear hc hu
   cases hb:pr i with
   | true=>
    rw [hb] at HC;have HF:=hid_ (fstI_hit hlt hb hall.out);clear hb;go_wp2_with (go_at_call 173;refine HC.out.mono ?_;rintro e w' ⟨rfl,hx⟩;have HX:=hid_ (hex.out.trans hx);clear hx)
    go_ret;exact ⟨ret_int HF.out.symm,HX.out⟩
   | false=>
    rw [hb] at HC;have HA:=hid_ (show ∀j,j < i + 1→pr j=false from fun j hj=> by
     by_cases e:j=i
     ·subst e;exact hb
     ·exact hall.out j (by omega))
    clear hb;go_wp2_with (go_at_call 173;refine HC.out.mono ?_;rintro e w' ⟨rfl,hx⟩;have HX:=hid_ (hex.out.trans hx);clear hx)
    go_roundg (n - (i + 1))
    case measure=> omega
    case rel=> exact ⟨i + 1,by omega,by omega,by go_num,HX,HA⟩
  ·obtain rfl:i=n:=by omega
   have HF:=hid_ (fstI_miss hall.out);go_wp2_with fail
   go_ret;exact ⟨ret_int HF.out.symm,hex.out⟩
theorem IndexFunc_mis (w:World) (p0:Value) (v:Value) (n:Nat) (us:List Value) (hv:Sl w v n 1 us) (pr:Nat→Bool)
  (hp:∀(w1:World) (i:Nat) (u:Value),Ex w w1→us[i]?=some u→Calls Tryz.prog 154 #[u,p0] w1 fun e w'=> e= .returned (.bool (pr i))∧Ex w1 w'):
  Calls Tryz.prog 153 #[v,.func (.func 154) #[] #[p0]] w fun r w'=> r= .returned (.int .i64 (fstI pr n))∧Ex w w':=by
 obtain ⟨hl,a,cap,rfl,s1,s2,s3⟩:=hv;rw [Nat.mul_one] at hl;have S3:=hid_ s3;have HP:=hid_ hp;have HL:=hid_ hl;unfold maxLen at s2;clear s3 hp hl;go_enter Tryz.func153,Tryz.ntmps153
 go_wp2_with fail
 go_loopg [5,8] n (fun gg _ i' wr=> ∃i:Nat,i≤n∧n - i≤gg∧i'= .int .i64 i∧Hid (Ex w wr)∧Hid (∀j,j < i→pr j=false))
 case atStart=> exact ⟨0,by omega,by omega,rfl,hid_ (Ex.refl _),hid_ (fun j hj=> by omega)⟩
 case round=>
  obtain ⟨i,hi,hg,rfl,hex,hall⟩:=hrel;by_cases hlt:i < n
  ·obtain ⟨u,hu⟩:∃u,us[i]?=some u:=⟨_,List.getElem?_eq_getElem (by rw [HL.out];exact hlt)⟩;obtain ⟨bb,o,rfl,hc⟩:=S3.out (by omega);have c1:=hex.out.cell (hc i u hu);have HC:=hid_ (HP.out wr i u hex.out hu);have hlt':(i:Int) < (n:Int):=by omega
   clear hc hu
   cases hb:pr i with
   | true=>
    rw [hb] at HC;have HF:=hid_ (fstI_hit hlt hb hall.out);clear hb;go_wp2_with (go_at_call 154;refine HC.out.mono ?_;rintro e w' ⟨rfl,hx⟩;have HX:=hid_ (hex.out.trans hx);clear hx)
    go_ret;exact ⟨ret_int HF.out.symm,HX.out⟩
   | false=>
    rw [hb] at HC;have HA:=hid_ (show ∀j,j < i + 1→pr j=false from fun j hj=> by
     by_cases e:j=i
     ·subst e;exact hb
     ·exact hall.out j (by omega))
    clear hb;go_wp2_with (go_at_call 154;refine HC.out.mono ?_;rintro e w' ⟨rfl,hx⟩;have HX:=hid_ (hex.out.trans hx);clear hx)
    go_roundg (n - (i + 1))
    case measure=> omega
    case rel=> exact ⟨i + 1,by omega,by omega,by go_num,HX,HA⟩
  ·obtain rfl:i=n:=by omega
   have HF:=hid_ (fstI_miss hall.out);go_wp2_with fail
   go_ret;exact ⟨ret_int HF.out.symm,hex.out⟩
end
section
open Go.RowKit
theorem Equal_any (w:World) (l k:List Int) (v u:Value) (hl:ISl w v l) (hk:ISl w u k):
  Calls Tryz.prog 162 #[v,u] w fun r w'=> r= .returned (.bool (decide (l=k)))∧∃n,w'=w.drewN n:=by
 obtain ⟨a,cap,rfl,s1,s2,s3⟩:=hl.open;obtain ⟨c,cc,rfl,t1,t2,t3⟩:=hk.open;have S3:=hid_ s3;have T3:=hid_ t3;unfold maxLen at s2 t2;clear hl hk s3 t3;by_cases hlk:l.length=k.length
 ·have hb:((l.length:Int) !=(k.length:Int))=false:=by simp;omega
  have HLK:=hid_ hlk;clear hlk;go_enter Tryz.func162,Tryz.ntmps162
  go_wp2_with fail
  go_loopw [13] (fun i' wr=> ∃i n:Nat,i≤l.length∧i'= .int .i64 i∧wr=w.drewN n∧Hid (∀j,j < i→l[j]?=k[j]?)) (fun i' _=> l.length - (intOf i').toNat)
  case atStart=> exact ⟨0,0,by omega,rfl,rfl,hid_ (fun j hj=> by omega)⟩
  case round=>
   obtain ⟨i,n,hi,rfl,rfl,hall⟩:=hrel;by_cases hlt:i < l.length
   ·obtain ⟨x,hx⟩:∃x,l[i]?=some x:=⟨_,List.getElem?_eq_getElem hlt⟩;have hik:i < k.length:=by have:=HLK.out;omega
    obtain ⟨y,hy⟩:∃y,k[i]?=some y:=⟨_,List.getElem?_eq_getElem hik⟩;obtain ⟨b,o,rfl,hc⟩:=S3.out (by omega);obtain ⟨b2,o2,rfl,hc2⟩:=T3.out (by omega);have c1:=((Ex.refl w).drewN n).cell (hc i x hx);have c2:=((Ex.refl w).drewN n).cell (hc2 i y hy);have i1:(0:Int)≤(i:Int):=by omega
    have i2:(i:Int) < (l.length:Int):=by omega
    have i3:(i:Int) < (k.length:Int):=by omega
    obtain ⟨W,hW⟩:∃W,w.drewN n=W:=⟨_,rfl⟩;rw [hW] at c1 c2 ⊢;have HWE:=hid_ hW;clear hW;by_cases hxy:x=y
    ·have HA:=hid_ (show ∀j,j < i + 1→l[j]?=k[j]? from fun j hj=> by
      by_cases e:j=i
      ·subst e;rw [hx,hy,hxy]
      ·exact hall.out j (by omega))
     have hbb:(x !=y)=false:=by simpa using hxy
     clear hc hc2 hx hy hxy;go_wp2_with fail
     go_quiet (fail)
     go_wp2_with fail
     go_roundw
     case rel=> exact ⟨i + 1,_,by omega,by go_num,by rw [←HWE.out,World.drewN_drewN],HA⟩
     case measure=> simp [intOf];omega
    ·have HN:=hid_ (show ¬l=k from fun e=> hxy (by rw [e,hy] at hx;injection hx with hx;exact hx.symm));have hbb:(x !=y)=true:=by simpa using hxy
     clear hc hc2 hx hy hxy;go_wp2_with fail
     go_quiet (fail)
     go_wp2_with fail
     go_ret;exact ⟨ret_bool (decide_eq_false HN.out).symm,_,by rw [←HWE.out,World.drewN_drewN]⟩
   ·obtain rfl:i=l.length:=by omega
    have HE:=hid_ (eq_of_get HLK.out hall.out);go_wp2_with fail
    go_ret;exact ⟨ret_bool (decide_eq_true HE.out).symm,n,rfl⟩
 ·have hb:((l.length:Int) !=(k.length:Int))=true:=by simp;omega
  have HN:=hid_ (show ¬l=k from fun e=> hlk (by rw [e]));clear hlk;go_enter Tryz.func162,Tryz.ntmps162
  go_wp2_with fail
  go_ret;exact ⟨ret_bool (decide_eq_false HN.out).symm,0,rfl⟩
theorem EqualFunc_any (w:World) (l k:List (List Int)) (v u:Value) (hl:MSl w v l) (hk:MSl w u k):
  Calls Tryz.prog 161 #[v,u,.func (.func 162) #[] #[]] w fun r w'=> r= .returned (.bool (decide (l=k)))∧∃n,w'=w.drewN n:=by
 obtain ⟨a,cap,rfl,s1,s2,s3⟩:=hl.open;obtain ⟨c,cc,rfl,t1,t2,t3⟩:=hk.open;have S3:=hid_ s3;have T3:=hid_ t3;unfold maxLen at s2 t2;clear hl hk s3 t3;by_cases hlk:l.length=k.length
 ·have hb:((l.length:Int) !=(k.length:Int))=false:=by simp;omega
  have HLK:=hid_ hlk;clear hlk;go_enter Tryz.func161,Tryz.ntmps161
  go_wp2_with fail
  go_loopw [17] (fun i' wr=> ∃i n:Nat,i≤l.length∧i'= .int .i64 i∧wr=w.drewN n∧Hid (∀j,j < i→l[j]?=k[j]?)) (fun i' _=> l.length - (intOf i').toNat)
  case atStart=> exact ⟨0,0,by omega,rfl,rfl,hid_ (fun j hj=> by omega)⟩
  case round=>
   obtain ⟨i,n,hi,rfl,rfl,hall⟩:=hrel;by_cases hlt:i < l.length
   ·obtain ⟨x,hx⟩:∃x,l[i]?=some x:=⟨_,List.getElem?_eq_getElem hlt⟩;have hik:i < k.length:=by have:=HLK.out;omega
    obtain ⟨y,hy⟩:∃y,k[i]?=some y:=⟨_,List.getElem?_eq_getElem hik⟩;obtain ⟨b,o,rfl,hc⟩:=S3.out (by omega);obtain ⟨b2,o2,rfl,hc2⟩:=T3.out (by omega);obtain ⟨u1,e1,hu1⟩:=hc i x hx;obtain ⟨u2,e2,hu2⟩:=hc2 i y hy;have c1:=((Ex.refl w).drewN n).cell e1;have c2:=((Ex.refl w).drewN n).cell e2;have hv1:=hu1.ex ((Ex.refl w).drewN n);have hv2:=hu2.ex ((Ex.refl w).drewN n);have i1:(0:Int)≤(i:Int):=by omega
    have i2:(i:Int) < (l.length:Int):=by omega
    have i3:(i:Int) < (k.length:Int):=by omega
    obtain ⟨W,hW⟩:∃W,w.drewN n=W:=⟨_,rfl⟩;rw [hW] at c1 c2 hv1 hv2 ⊢;have HWE:=hid_ hW;have HSI:=hid_ (Equal_any W x y u1 u2 hv1 hv2);obtain ⟨ua,uc,rfl,_,_,_⟩:=hv1.open;obtain ⟨va,vc,rfl,_,_,_⟩:=hv2.open;by_cases hxy:x=y
    ·have HA:=hid_ (show ∀j,j < i + 1→l[j]?=k[j]? from fun j hj=> by
      by_cases e:j=i
      ·subst e;rw [hx,hy,hxy]
      ·exact hall.out j (by omega))
     rw [decide_eq_true hxy] at HSI;clear hc hc2 hx hy hxy hW hu1 hu2 e1 e2 hv1 hv2;go_wp2_with (go_at_call 162;refine HSI.out.mono ?_;rintro e w5 ⟨rfl,n5,rfl⟩)
     go_roundw
     case rel=> exact ⟨i + 1,_,by omega,by go_num,by rw [←HWE.out,World.drewN_drewN],HA⟩
     case measure=> simp [intOf];omega
    ·have HN:=hid_ (show ¬l=k from fun e=> hxy (by rw [e,hy] at hx;injection hx with hx;exact hx.symm));rw [decide_eq_false hxy] at HSI;clear hc hc2 hx hy hxy hW hu1 hu2 e1 e2 hv1 hv2;go_wp2_with (go_at_call 162;refine HSI.out.mono ?_;rintro e w5 ⟨rfl,n5,rfl⟩)
     go_ret;exact ⟨ret_bool (decide_eq_false HN.out).symm,_,by rw [←HWE.out,World.drewN_drewN]⟩
   ·obtain rfl:i=l.length:=by omega
    have HE:=hid_ (rows_eq_of_get HLK.out hall.out);go_wp2_with fail
    go_ret;exact ⟨ret_bool (decide_eq_true HE.out).symm,n,rfl⟩
 ·have hb:((l.length:Int) !=(k.length:Int))=true:=by simp;omega
  have HN:=hid_ (show ¬l=k from fun e=> hlk (by rw [e]));clear hlk;go_enter Tryz.func161,Tryz.ntmps161
  go_wp2_with fail
  go_ret;exact ⟨ret_bool (decide_eq_false HN.out).symm,0,rfl⟩
theorem boxM2_facts (w:World) (c:Int) (v:Value):(w.alloc (.cells #[.int .i64 c,v] 113)).cell? ⟨w.heap.size,0,none⟩=some (.int .i64 c)∧(w.alloc (.cells #[.int .i64 c,v] 113)).cell? ⟨w.heap.size,1,none⟩=some v∧Ex w (w.alloc (.cells #[.int .i64 c,v] 113)):=⟨by simp,by simp,(Ex.refl _).alloc _⟩
def SpcO (p m:Int) (ml:List Int) (cols:Int) (rows:List (List Int)) (e:Int):Prop:=
 (canE p m ml cols rows≠0∧e=canE p m ml cols rows)∨
 (canE p m ml cols rows=0∧∃(pn mn N:Nat) (piv:List Nat) (a':Nat→Nat→Int),p=pn∧m=mn∧cols=N∧FldB p m ml∧mchkS (pn ^ mn) N rows=0∧ElO pn mn ml N rows.length (rowsF rows) a' piv∧e=if rowsL N piv.length a'=rows then 0 else 5)
structure BxV (w:World) (b:Nat):Prop where
 c0:w.cell? ⟨b,0,none⟩=some (.pointer none)
 c1:w.cell? ⟨b,1,none⟩=some (.int .i64 0)
 c2:w.cell? ⟨b,2,none⟩=some (.slice none 0 0)
 c3:w.cell? ⟨b,3,none⟩=some (.slice none 0 0)
 f0:w.frozen? ⟨b,0,none⟩=false
 f1:w.frozen? ⟨b,1,none⟩=false
 f2:w.frozen? ⟨b,2,none⟩=false
 f3:w.frozen? ⟨b,3,none⟩=false
theorem BxV.new (w:World):BxV (w.alloc (.cells #[.pointer none,.int .i64 0,.slice none 0 0,.slice none 0 0] 166)) w.heap.size:=⟨by simp,by simp,by simp,by simp,by simp,by simp,by simp,by simp⟩
theorem BxV.ex {w w':World} {b:Nat} (h:BxV w b) (hx:Ex w w'):BxV w' b:=⟨hx.cell h.c0,hx.cell h.c1,hx.cell h.c2,hx.cell h.c3,hx.frz h.c0 h.f0,hx.frz h.c1 h.f1,hx.frz h.c2 h.f2,hx.frz h.c3 h.f3⟩
theorem set4_ex {w0 w:World} {q:Nat} (hx:Ex w0 w) (hq:w0.heap.size≤q) (u v z y:Value):Ex w0 ((((w.setCell ⟨q,0,none⟩ u).setCell ⟨q,1,none⟩ v).setCell ⟨q,2,none⟩ z).setCell ⟨q,3,none⟩ y):=
 (((hx.setCell (p:=⟨q,0,none⟩) hq _).setCell (p:=⟨q,1,none⟩) hq _).setCell (p:=⟨q,2,none⟩) hq _).setCell (p:=⟨q,3,none⟩) hq _
theorem spaceOpen_any (w:World) (p m:Int) (ml:List Int) (mv:Value) (hmv:ISl w mv ml) (cols:Int) (rows:List (List Int)) (v:Value) (hv:MSl w v rows) (h0:canE p m ml cols rows=0→1≤cols):
  Calls Tryz.prog 132 #[.agg #[.int .i64 p,.int .i64 m,mv],.agg #[.int .i64 cols,v]] w fun r w'=> (∃(g:Option Addr) (c:Int) (a1 a2:Option Addr) (n1 k1 n2 k2:Nat) (e:Int),r= .returned (.tuple #[.agg #[.pointer g,.int .i64 c,.slice a1 n1 k1,.slice a2 n2 k2],.int .i64 e])∧SpcO p m ml cols rows e)∧Ex w w':=by
 obtain ⟨g0,g1,g2,e0,gsz⟩:=box_facts w p m mv;have HCN:=hid_ (fun (w':World) (h:Ex w w')=> Canonical_any w' p m ml mv (hmv.ex h) cols rows v (hv.ex h) h0);have HNW:=hid_ (fun (w':World) (h:Ex w w')=> New_any p m ml mv w' (hmv.ex h));have HV:=hid_ hv;obtain ⟨za,zc,rfl,z1,z2,z3⟩:=hv.open;clear z1 z3;unfold maxLen at z2;obtain ⟨ma,mc,rfl,-,m2,-⟩:=hmv.open;unfold maxLen at m2;obtain ⟨xb,hxb⟩:∃xb,w.heap.size=xb:=⟨_,rfl⟩;rw [hxb] at g0 g1 g2 gsz;clear hmv hv h0;go_enter Tryz.func132,Tryz.ntmps132
 go_wp2_with fail
 generalize w.alloc (.cells #[.int .i64 p,.int .i64 m,.slice ma ml.length mc] 24)=wA at *;obtain ⟨a0,a1,ea⟩:=boxM2_facts wA cols (.slice za rows.length zc);have asz:(wA.alloc (.cells #[.int .i64 cols,.slice za rows.length zc] 113)).heap.size=xb + 1 + 1:=by simp [gsz]
 rw [gsz] at a0 a1;generalize wA.alloc (.cells #[.int .i64 cols,.slice za rows.length zc] 113)=wB at *;have bq:=BxV.new wB;rw [asz] at bq;have eb:Ex wB _:=(Ex.refl wB).alloc (.cells #[.pointer none,.int .i64 0,.slice none 0 0,.slice none 0 0] 166);have A0:=hid_ (eb.cell a0);have A1:=hid_ (eb.cell a1);have G0:=hid_ ((ea.trans eb).cell g0);have G1:=hid_ ((ea.trans eb).cell g1);have G2:=hid_ ((ea.trans eb).cell g2);have BQ:=hid_ bq;have HE:=hid_ ((e0.trans ea).trans eb);generalize wB.alloc (.cells #[.pointer none,.int .i64 0,.slice none 0 0,.slice none 0 0] 166)=wC at *;refine (HCN.out wC HE.out).mono ?_;clear g0 g1 g2 a0 a1 bq e0 ea eb asz gsz;rintro e w2 ⟨hc,hx2⟩;have HX2:=hid_ (HE.out.trans hx2);have BQ2:=hid_ (BQ.out.ex hx2);have A0:=hid_ (hx2.cell A0.out);have A1:=hid_ (hx2.cell A1.out);have G0:=hid_ (hx2.cell G0.out);have G1:=hid_ (hx2.cell G1.out);have G2:=hid_ (hx2.cell G2.out);have HXB:=hid_ (show w.heap.size≤xb + 1 + 1 from by omega);clear hx2 BQ HE HCN;rcases hc with ⟨hce,pn,mn,N,piv,a',rv,pv,rfl,rfl,rfl,hfb,hmk,rfl,hel,hrv,hpv,-⟩ | ⟨hce,rfl⟩
 ·have HRV:=hid_ hrv;have HSP:=hid_ (fun e (h:e=if rowsL N piv.length a'=rows then 0 else 5)=> show SpcO pn mn ml N rows e from .inr ⟨hce,pn,mn,N,piv,a',rfl,rfl,rfl,hfb,hmk,hel,h⟩);have HFB:=hid_ hfb;obtain ⟨ra,rc,rfl,-,r2,-⟩:=hrv.open;obtain ⟨pa,pc,rfl,-,p2,-⟩:=hpv.open;unfold maxLen at r2 p2;obtain ⟨L,hL⟩:∃L,rowsL N piv.length a'=L:=⟨_,rfl⟩;obtain ⟨PL,hPL⟩:∃PL,pI piv=PL:=⟨_,rfl⟩;rw [hL] at HRV HSP ⊢;rw [hPL];clear hce hfb hmk hel hrv hpv hL hPL;have HX3:=hid_ ((Ex.refl w2).alloc (.cells #[.int .i64 N,.slice ra L.length rc] 113));have l0:(w2.alloc (.cells #[.int .i64 N,.slice ra L.length rc] 113)).cell? ⟨w2.heap.size,1,none⟩=some (.slice ra L.length rc):=by simp
  have a1':=HX3.out.cell A1.out;have HEQ:=hid_ (EqualFunc_any (w2.alloc (.cells #[.int .i64 N,.slice ra L.length rc] 113)) L rows _ _ (HRV.out.ex HX3.out) (HV.out.ex (HX2.out.trans HX3.out)));by_cases hLR:L=rows
  ·rw [decide_eq_true hLR] at HEQ;have HSP2:=hid_ (HSP.out 0 (by rw [if_pos hLR]));clear hLR;go_wp2_with fail
   refine HEQ.out.mono ?_;rintro e w3 ⟨rfl,n3,hw3⟩;have hx3:Ex (w2.alloc (.cells #[.int .i64 N,.slice ra L.length rc] 113)) w3:=by rw [hw3];exact (Ex.refl _).drewN n3
   have HX23:=hid_ (HX3.out.trans hx3);have g0:=HX23.out.cell G0.out;have g1:=HX23.out.cell G1.out;have g2:=HX23.out.cell G2.out;clear hx3 hw3 l0 a1';go_wp2_with fail
   refine (HNW.out w3 (HX2.out.trans HX23.out)).mono ?_;rintro e w4 ⟨hno,hx4⟩;rcases hno with ⟨pn',mn',x,b,e1,e2,rfl,hg,-,-⟩ | ⟨hno,_⟩
   ·have X4:=hid_ (HX23.out.trans hx4);have a0:=X4.out.cell A0.out;have a1:=X4.out.cell A1.out;obtain ⟨q0,q1,q2,q3,qf0,qf1,qf2,qf3⟩:=BQ2.out.ex X4.out;clear e1 e2 hg hx4 g0 g1 g2;go_wp2_with fail
    exact bodyPost_ret (v:= .tuple #[.agg #[.pointer (some ⟨b,0,none⟩),.int .i64 N,.slice za rows.length zc,.slice pa PL.length pc],.int .i64 0]) (by simp [results,Tryz.results132,go_sem,q0,q1,q2,q3]) rfl ⟨⟨_,_,_,_,_,_,_,_,_,rfl,HSP2.out⟩,set4_ex (HX2.out.trans X4.out) HXB.out _ _ _ _⟩
   ·exact absurd HFB.out hno
  ·rw [decide_eq_false hLR] at HEQ;have HSP2:=hid_ (HSP.out 5 (by rw [if_neg hLR]));clear hLR;go_wp2_with fail
   refine HEQ.out.mono ?_;rintro e w3 ⟨rfl,n3,hw3⟩;have hx3:Ex (w2.alloc (.cells #[.int .i64 N,.slice ra L.length rc] 113)) w3:=by rw [hw3];exact (Ex.refl _).drewN n3
   have HX23:=hid_ (HX3.out.trans hx3);obtain ⟨q0,q1,q2,q3,qf0,qf1,qf2,qf3⟩:=BQ2.out.ex HX23.out;clear hx3 hw3 l0 a1';go_wp2_with fail
   exact bodyPost_ret (v:= .tuple #[.agg #[.pointer none,.int .i64 0,.slice none 0 0,.slice none 0 0],.int .i64 5]) (by simp [results,Tryz.results132,go_sem,q0,q1,q2,q3]) rfl ⟨⟨_,_,_,_,_,_,_,_,_,rfl,HSP2.out⟩,set4_ex (HX2.out.trans HX23.out) HXB.out _ _ _ _⟩
 ·have HSP:=hid_ (show SpcO p m ml cols rows (canE p m ml cols rows) from .inl ⟨hce,rfl⟩);obtain ⟨E,hE⟩:∃E,canE p m ml cols rows=E:=⟨_,rfl⟩;rw [hE] at HSP hce ⊢;have hb:(E !=0)=true:=by simpa using hce
  obtain ⟨q0,q1,q2,q3,qf0,qf1,qf2,qf3⟩:=BQ2.out.ex ((Ex.refl w2).alloc (.cells #[.int .i64 0,.slice none 0 0] 113));have HXL:=hid_ (HX2.out.alloc (.cells #[.int .i64 0,.slice none 0 0] 113));clear hE hce;go_wp2_with fail
  exact bodyPost_ret (v:= .tuple #[.agg #[.pointer none,.int .i64 0,.slice none 0 0,.slice none 0 0],.int .i64 E]) (by simp [results,Tryz.results132,go_sem,q0,q1,q2,q3]) rfl ⟨⟨_,_,_,_,_,_,_,_,_,rfl,HSP.out⟩,set4_ex HXL.out HXB.out _ _ _ _⟩
end
end Go.Proofs.YtgdmlmhpineibaaGreat
