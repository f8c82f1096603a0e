/- slices.IndexFunc and slices.ContainsFunc at the chapter's closures (printed by gen_finde.py). -/
import Derived.Test.YtgdmlmhpineibaaGreatZe13
import Derived.Test.YtgdmlmhpineibaaGreatZe17
namespace Go.Proofs.YtgdmlmhpineibaaGreat
set_option linter.unusedVariables false
set_option linter.unusedSimpArgs false
set_option maxRecDepth 100000
set_option maxHeartbeats 4000000
section
open Go.RowKit
theorem IndexFunc_inj (w : World) (p0 : Value) (v : Value) (n : Nat) (us : List Value) (hv : Sl w v n 1 us) (pr : Nat → Bool)
  (hp : ∀ (w1 : World) (i : Nat) (u : Value),Ex w w1 → us[i]? = some u → Calls Tryz.prog 138 #[u,p0] w1 fun e w' => e = .returned (.bool (pr i)) ∧ Ex w1 w') :
  Calls Tryz.prog 90 #[v,.func (.func 138) #[] #[p0]] w fun r w' => r = .returned (.int .i64 (fstI pr n)) ∧ Ex w w' := by
 obtain ⟨hl,a,cap,rfl,s1,s2,s3⟩ := hv;rw [Nat.mul_one] at hl;have S3 := hid_ s3;have HP := hid_ hp;have HL := hid_ hl;unfold maxLen at s2;clear s3 hp hl;go_enter Tryz.func90,Tryz.ntmps90
 go_wp2_with fail
 go_loopg [5,8] n (fun gg _ i' wr => ∃ i : Nat,i ≤ n ∧ n - i ≤ gg ∧ i' = .int .i64 i ∧ Hid (Ex w wr) ∧ Hid (∀ j,j < i → pr j = false))
 case atStart => exact ⟨0,by omega,by omega,rfl,hid_ (Ex.refl _),hid_ (fun j hj => by omega)⟩
 case round =>
  obtain ⟨i,hi,hg,rfl,hex,hall⟩ := hrel;by_cases hlt : i < n
  ·obtain ⟨u,hu⟩ : ∃ u,us[i]? = some u := ⟨_,List.getElem?_eq_getElem (by rw [HL.out];exact hlt)⟩;obtain ⟨bb,o,rfl,hc⟩ := S3.out (by omega);have c1 := hex.out.cell (hc i u hu);have HC := hid_ (HP.out wr i u hex.out hu);have hlt' : (i : Int) < (n : Int) := by omega
   clear hc hu
   cases hb : pr i with
   | true =>
    rw [hb] at HC;have HF := hid_ (fstI_hit hlt hb hall.out);clear hb;go_wp2_with (go_at_call 138;refine HC.out.mono ?_;rintro e w' ⟨rfl,hx⟩;have HX := hid_ (hex.out.trans hx);clear hx)
    go_ret;exact ⟨ret_int HF.out.symm,HX.out⟩
   | false =>
    rw [hb] at HC;have HA := hid_ (show ∀ j,j < i + 1 → pr j = false from fun j hj => by
     by_cases e : j = i
     ·subst e;exact hb
     ·exact hall.out j (by omega))
    clear hb;go_wp2_with (go_at_call 138;refine HC.out.mono ?_;rintro e w' ⟨rfl,hx⟩;have HX := hid_ (hex.out.trans hx);clear hx)
    go_roundg (n - (i + 1))
    case measure => omega
    case rel => exact ⟨i + 1,by omega,by omega,by go_num,HX,HA⟩
  ·obtain rfl : i = n := by omega
   have HF := hid_ (fstI_miss hall.out);go_wp2_with fail
   go_ret;exact ⟨ret_int HF.out.symm,hex.out⟩
theorem ContainsFunc_inj (w : World) (p0 : Value) (v : Value) (n : Nat) (us : List Value) (hv : Sl w v n 1 us) (pr : Nat → Bool)
  (hp : ∀ (w1 : World) (i : Nat) (u : Value),Ex w w1 → us[i]? = some u → Calls Tryz.prog 138 #[u,p0] w1 fun e w' => e = .returned (.bool (pr i)) ∧ Ex w1 w') :
  Calls Tryz.prog 47 #[v,.func (.func 138) #[] #[p0]] w fun r w' => r = .returned (.bool ((List.range n).any pr)) ∧ Ex w w' := by
 have HC := hid_ (IndexFunc_inj w p0 v n us hv pr hp);have HB := hid_ (fstI_any pr n);obtain ⟨z,hz⟩ : ∃ z,fstI pr n = z := ⟨_,rfl⟩;rw [hz] at HC HB;clear hz hp hv;go_enter Tryz.func47,Tryz.ntmps47
 go_wp2_with (go_at_call 90;refine HC.out.mono ?_;rintro e w' ⟨rfl,hx⟩;have HX := hid_ hx;clear hx)
 go_ret;exact ⟨ret_bool HB.out.symm,HX.out⟩
theorem IndexFunc_fac (w : World) (p0 : Value) (v : Value) (n : Nat) (us : List Value) (hv : Sl w v n 1 us) (pr : Nat → Bool)
  (hp : ∀ (w1 : World) (i : Nat) (u : Value),Ex w w1 → us[i]? = some u → Calls Tryz.prog 139 #[u,p0] w1 fun e w' => e = .returned (.bool (pr i)) ∧ Ex w1 w') :
  Calls Tryz.prog 90 #[v,.func (.func 139) #[] #[p0]] w fun r w' => r = .returned (.int .i64 (fstI pr n)) ∧ Ex w w' := by
 obtain ⟨hl,a,cap,rfl,s1,s2,s3⟩ := hv;rw [Nat.mul_one] at hl;have S3 := hid_ s3;have HP := hid_ hp;have HL := hid_ hl;unfold maxLen at s2;clear s3 hp hl;go_enter Tryz.func90,Tryz.ntmps90
 go_wp2_with fail
 go_loopg [5,8] n (fun gg _ i' wr => ∃ i : Nat,i ≤ n ∧ n - i ≤ gg ∧ i' = .int .i64 i ∧ Hid (Ex w wr) ∧ Hid (∀ j,j < i → pr j = false))
 case atStart => exact ⟨0,by omega,by omega,rfl,hid_ (Ex.refl _),hid_ (fun j hj => by omega)⟩
 case round =>
  obtain ⟨i,hi,hg,rfl,hex,hall⟩ := hrel;by_cases hlt : i < n
  ·obtain ⟨u,hu⟩ : ∃ u,us[i]? = some u := ⟨_,List.getElem?_eq_getElem (by rw [HL.out];exact hlt)⟩;obtain ⟨bb,o,rfl,hc⟩ := S3.out (by omega);have c1 := hex.out.cell (hc i u hu);have HC := hid_ (HP.out wr i u hex.out hu);have hlt' : (i : Int) < (n : Int) := by omega
   clear hc hu
   cases hb : pr i with
   | true =>
    rw [hb] at HC;have HF := hid_ (fstI_hit hlt hb hall.out);clear hb;go_wp2_with (go_at_call 139;refine HC.out.mono ?_;rintro e w' ⟨rfl,hx⟩;have HX := hid_ (hex.out.trans hx);clear hx)
    go_ret;exact ⟨ret_int HF.out.symm,HX.out⟩
   | false =>
    rw [hb] at HC;have HA := hid_ (show ∀ j,j < i + 1 → pr j = false from fun j hj => by
     by_cases e : j = i
     ·subst e;exact hb
     ·exact hall.out j (by omega))
    clear hb;go_wp2_with (go_at_call 139;refine HC.out.mono ?_;rintro e w' ⟨rfl,hx⟩;have HX := hid_ (hex.out.trans hx);clear hx)
    go_roundg (n - (i + 1))
    case measure => omega
    case rel => exact ⟨i + 1,by omega,by omega,by go_num,HX,HA⟩
  ·obtain rfl : i = n := by omega
   have HF := hid_ (fstI_miss hall.out);go_wp2_with fail
   go_ret;exact ⟨ret_int HF.out.symm,hex.out⟩
theorem ContainsFunc_fac (w : World) (p0 : Value) (v : Value) (n : Nat) (us : List Value) (hv : Sl w v n 1 us) (pr : Nat → Bool)
  (hp : ∀ (w1 : World) (i : Nat) (u : Value),Ex w w1 → us[i]? = some u → Calls Tryz.prog 139 #[u,p0] w1 fun e w' => e = .returned (.bool (pr i)) ∧ Ex w1 w') :
  Calls Tryz.prog 47 #[v,.func (.func 139) #[] #[p0]] w fun r w' => r = .returned (.bool ((List.range n).any pr)) ∧ Ex w w' := by
 have HC := hid_ (IndexFunc_fac w p0 v n us hv pr hp);have HB := hid_ (fstI_any pr n);obtain ⟨z,hz⟩ : ∃ z,fstI pr n = z := ⟨_,rfl⟩;rw [hz] at HC HB;clear hz hp hv;go_enter Tryz.func47,Tryz.ntmps47
 go_wp2_with (go_at_call 90;refine HC.out.mono ?_;rintro e w' ⟨rfl,hx⟩;have HX := hid_ hx;clear hx)
 go_ret;exact ⟨ret_bool HB.out.symm,HX.out⟩
theorem IndexFunc_wrd (w : World) (p0 : Value) (v : Value) (n : Nat) (us : List Value) (hv : Sl w v n 1 us) (pr : Nat → Bool)
  (hp : ∀ (w1 : World) (i : Nat) (u : Value),Ex w w1 → us[i]? = some u → Calls Tryz.prog 48 #[u,p0] w1 fun e w' => e = .returned (.bool (pr i)) ∧ Ex w1 w') :
  Calls Tryz.prog 90 #[v,.func (.func 48) #[] #[p0]] w fun r w' => r = .returned (.int .i64 (fstI pr n)) ∧ Ex w w' := by
 obtain ⟨hl,a,cap,rfl,s1,s2,s3⟩ := hv;rw [Nat.mul_one] at hl;have S3 := hid_ s3;have HP := hid_ hp;have HL := hid_ hl;unfold maxLen at s2;clear s3 hp hl;go_enter Tryz.func90,Tryz.ntmps90
 go_wp2_with fail
 go_loopg [5,8] n (fun gg _ i' wr => ∃ i : Nat,i ≤ n ∧ n - i ≤ gg ∧ i' = .int .i64 i ∧ Hid (Ex w wr) ∧ Hid (∀ j,j < i → pr j = false))
 case atStart => exact ⟨0,by omega,by omega,rfl,hid_ (Ex.refl _),hid_ (fun j hj => by omega)⟩
 case round =>
  obtain ⟨i,hi,hg,rfl,hex,hall⟩ := hrel;by_cases hlt : i < n
  ·obtain ⟨u,hu⟩ : ∃ u,us[i]? = some u := ⟨_,List.getElem?_eq_getElem (by rw [HL.out];exact hlt)⟩;obtain ⟨bb,o,rfl,hc⟩ := S3.out (by omega);have c1 := hex.out.cell (hc i u hu);have HC := hid_ (HP.out wr i u hex.out hu);have hlt' : (i : Int) < (n : Int) := by omega
   clear hc hu
   cases hb : pr i with
   | true =>
    rw [hb] at HC;have HF := hid_ (fstI_hit hlt hb hall.out);clear hb;go_wp2_with (go_at_call 48;refine HC.out.mono ?_;rintro e w' ⟨rfl,hx⟩;have HX := hid_ (hex.out.trans hx);clear hx)
    go_ret;exact ⟨ret_int HF.out.symm,HX.out⟩
   | false =>
    rw [hb] at HC;have HA := hid_ (show ∀ j,j < i + 1 → pr j = false from fun j hj => by
     by_cases e : j = i
     ·subst e;exact hb
     ·exact hall.out j (by omega))
    clear hb;go_wp2_with (go_at_call 48;refine HC.out.mono ?_;rintro e w' ⟨rfl,hx⟩;have HX := hid_ (hex.out.trans hx);clear hx)
    go_roundg (n - (i + 1))
    case measure => omega
    case rel => exact ⟨i + 1,by omega,by omega,by go_num,HX,HA⟩
  ·obtain rfl : i = n := by omega
   have HF := hid_ (fstI_miss hall.out);go_wp2_with fail
   go_ret;exact ⟨ret_int HF.out.symm,hex.out⟩
theorem ContainsFunc_wrd (w : World) (p0 : Value) (v : Value) (n : Nat) (us : List Value) (hv : Sl w v n 1 us) (pr : Nat → Bool)
  (hp : ∀ (w1 : World) (i : Nat) (u : Value),Ex w w1 → us[i]? = some u → Calls Tryz.prog 48 #[u,p0] w1 fun e w' => e = .returned (.bool (pr i)) ∧ Ex w1 w') :
  Calls Tryz.prog 47 #[v,.func (.func 48) #[] #[p0]] w fun r w' => r = .returned (.bool ((List.range n).any pr)) ∧ Ex w w' := by
 have HC := hid_ (IndexFunc_wrd w p0 v n us hv pr hp);have HB := hid_ (fstI_any pr n);obtain ⟨z,hz⟩ : ∃ z,fstI pr n = z := ⟨_,rfl⟩;rw [hz] at HC HB;clear hz hp hv;go_enter Tryz.func47,Tryz.ntmps47
 go_wp2_with (go_at_call 90;refine HC.out.mono ?_;rintro e w' ⟨rfl,hx⟩;have HX := hid_ hx;clear hx)
 go_ret;exact ⟨ret_bool HB.out.symm,HX.out⟩
theorem IndexFunc_shw (w : World) (p0 : Value) (v : Value) (n : Nat) (us : List Value) (hv : Sl w v n 1 us) (pr : Nat → Bool)
  (hp : ∀ (w1 : World) (i : Nat) (u : Value),Ex w w1 → us[i]? = some u → Calls Tryz.prog 111 #[u,p0] w1 fun e w' => e = .returned (.bool (pr i)) ∧ Ex w1 w') :
  Calls Tryz.prog 90 #[v,.func (.func 111) #[] #[p0]] w fun r w' => r = .returned (.int .i64 (fstI pr n)) ∧ Ex w w' := by
 obtain ⟨hl,a,cap,rfl,s1,s2,s3⟩ := hv;rw [Nat.mul_one] at hl;have S3 := hid_ s3;have HP := hid_ hp;have HL := hid_ hl;unfold maxLen at s2;clear s3 hp hl;go_enter Tryz.func90,Tryz.ntmps90
 go_wp2_with fail
 go_loopg [5,8] n (fun gg _ i' wr => ∃ i : Nat,i ≤ n ∧ n - i ≤ gg ∧ i' = .int .i64 i ∧ Hid (Ex w wr) ∧ Hid (∀ j,j < i → pr j = false))
 case atStart => exact ⟨0,by omega,by omega,rfl,hid_ (Ex.refl _),hid_ (fun j hj => by omega)⟩
 case round =>
  obtain ⟨i,hi,hg,rfl,hex,hall⟩ := hrel;by_cases hlt : i < n
  ·obtain ⟨u,hu⟩ : ∃ u,us[i]? = some u := ⟨_,List.getElem?_eq_getElem (by rw [HL.out];exact hlt)⟩;obtain ⟨bb,o,rfl,hc⟩ := S3.out (by omega);have c1 := hex.out.cell (hc i u hu);have HC := hid_ (HP.out wr i u hex.out hu);have hlt' : (i : Int) < (n : Int) := by omega
   clear hc hu
   cases hb : pr i with
   | true =>
    rw [hb] at HC;have HF := hid_ (fstI_hit hlt hb hall.out);clear hb;go_wp2_with (go_at_call 111;refine HC.out.mono ?_;rintro e w' ⟨rfl,hx⟩;have HX := hid_ (hex.out.trans hx);clear hx)
    go_ret;exact ⟨ret_int HF.out.symm,HX.out⟩
   | false =>
    rw [hb] at HC;have HA := hid_ (show ∀ j,j < i + 1 → pr j = false from fun j hj => by
     by_cases e : j = i
     ·subst e;exact hb
     ·exact hall.out j (by omega))
    clear hb;go_wp2_with (go_at_call 111;refine HC.out.mono ?_;rintro e w' ⟨rfl,hx⟩;have HX := hid_ (hex.out.trans hx);clear hx)
    go_roundg (n - (i + 1))
    case measure => omega
    case rel => exact ⟨i + 1,by omega,by omega,by go_num,HX,HA⟩
  ·obtain rfl : i = n := by omega
   have HF := hid_ (fstI_miss hall.out);go_wp2_with fail
   go_ret;exact ⟨ret_int HF.out.symm,hex.out⟩
theorem ContainsFunc_shw (w : World) (p0 : Value) (v : Value) (n : Nat) (us : List Value) (hv : Sl w v n 1 us) (pr : Nat → Bool)
  (hp : ∀ (w1 : World) (i : Nat) (u : Value),Ex w w1 → us[i]? = some u → Calls Tryz.prog 111 #[u,p0] w1 fun e w' => e = .returned (.bool (pr i)) ∧ Ex w1 w') :
  Calls Tryz.prog 47 #[v,.func (.func 111) #[] #[p0]] w fun r w' => r = .returned (.bool ((List.range n).any pr)) ∧ Ex w w' := by
 have HC := hid_ (IndexFunc_shw w p0 v n us hv pr hp);have HB := hid_ (fstI_any pr n);obtain ⟨z,hz⟩ : ∃ z,fstI pr n = z := ⟨_,rfl⟩;rw [hz] at HC HB;clear hz hp hv;go_enter Tryz.func47,Tryz.ntmps47
 go_wp2_with (go_at_call 90;refine HC.out.mono ?_;rintro e w' ⟨rfl,hx⟩;have HX := hid_ hx;clear hx)
 go_ret;exact ⟨ret_bool HB.out.symm,HX.out⟩
theorem IndexFunc_red (w : World) (v : Value) (n : Nat) (us : List Value) (hv : Sl w v n 1 us) (pr : Nat → Bool)
  (hp : ∀ (w1 : World) (i : Nat) (u : Value),Ex w w1 → us[i]? = some u → Calls Tryz.prog 173 #[u] w1 fun e w' => e = .returned (.bool (pr i)) ∧ Ex w1 w') :
  Calls Tryz.prog 90 #[v,.func (.func 173) #[] #[]] w fun r w' => r = .returned (.int .i64 (fstI pr n)) ∧ Ex w w' := by
 obtain ⟨hl,a,cap,rfl,s1,s2,s3⟩ := hv;rw [Nat.mul_one] at hl;have S3 := hid_ s3;have HP := hid_ hp;have HL := hid_ hl;unfold maxLen at s2;clear s3 hp hl;go_enter Tryz.func90,Tryz.ntmps90
 go_wp2_with fail
 go_loopg [5,8] n (fun gg _ i' wr => ∃ i : Nat,i ≤ n ∧ n - i ≤ gg ∧ i' = .int .i64 i ∧ Hid (Ex w wr) ∧ Hid (∀ j,j < i → pr j = false))
 case atStart => exact ⟨0,by omega,by omega,rfl,hid_ (Ex.refl _),hid_ (fun j hj => by omega)⟩
 case round =>
  obtain ⟨i,hi,hg,rfl,hex,hall⟩ := hrel;by_cases hlt : i < n
  ·obtain ⟨u,hu⟩ : ∃ u,us[i]? = some u := ⟨_,List.getElem?_eq_getElem (by rw [HL.out];exact hlt)⟩;obtain ⟨bb,o,rfl,hc⟩ := S3.out (by omega);have c1 := hex.out.cell (hc i u hu);have HC := hid_ (HP.out wr i u hex.out hu);have hlt' : (i : Int) < (n : Int) := by omega
   clear hc hu
   cases hb : pr i with
   | true =>
    rw [hb] at HC;have HF := hid_ (fstI_hit hlt hb hall.out);clear hb;go_wp2_with (go_at_call 173;refine HC.out.mono ?_;rintro e w' ⟨rfl,hx⟩;have HX := hid_ (hex.out.trans hx);clear hx)
    go_ret;exact ⟨ret_int HF.out.symm,HX.out⟩
   | false =>
    rw [hb] at HC;have HA := hid_ (show ∀ j,j < i + 1 → pr j = false from fun j hj => by
     by_cases e : j = i
     ·subst e;exact hb
     ·exact hall.out j (by omega))
    clear hb;go_wp2_with (go_at_call 173;refine HC.out.mono ?_;rintro e w' ⟨rfl,hx⟩;have HX := hid_ (hex.out.trans hx);clear hx)
    go_roundg (n - (i + 1))
    case measure => omega
    case rel => exact ⟨i + 1,by omega,by omega,by go_num,HX,HA⟩
  ·obtain rfl : i = n := by omega
   have HF := hid_ (fstI_miss hall.out);go_wp2_with fail
   go_ret;exact ⟨ret_int HF.out.symm,hex.out⟩
theorem IndexFunc_mis (w : World) (p0 : Value) (v : Value) (n : Nat) (us : List Value) (hv : Sl w v n 1 us) (pr : Nat → Bool)
  (hp : ∀ (w1 : World) (i : Nat) (u : Value),Ex w w1 → us[i]? = some u → Calls Tryz.prog 154 #[u,p0] w1 fun e w' => e = .returned (.bool (pr i)) ∧ Ex w1 w') :
  Calls Tryz.prog 153 #[v,.func (.func 154) #[] #[p0]] w fun r w' => r = .returned (.int .i64 (fstI pr n)) ∧ Ex w w' := by
 obtain ⟨hl,a,cap,rfl,s1,s2,s3⟩ := hv;rw [Nat.mul_one] at hl;have S3 := hid_ s3;have HP := hid_ hp;have HL := hid_ hl;unfold maxLen at s2;clear s3 hp hl;go_enter Tryz.func153,Tryz.ntmps153
 go_wp2_with fail
 go_loopg [5,8] n (fun gg _ i' wr => ∃ i : Nat,i ≤ n ∧ n - i ≤ gg ∧ i' = .int .i64 i ∧ Hid (Ex w wr) ∧ Hid (∀ j,j < i → pr j = false))
 case atStart => exact ⟨0,by omega,by omega,rfl,hid_ (Ex.refl _),hid_ (fun j hj => by omega)⟩
 case round =>
  obtain ⟨i,hi,hg,rfl,hex,hall⟩ := hrel;by_cases hlt : i < n
  ·obtain ⟨u,hu⟩ : ∃ u,us[i]? = some u := ⟨_,List.getElem?_eq_getElem (by rw [HL.out];exact hlt)⟩;obtain ⟨bb,o,rfl,hc⟩ := S3.out (by omega);have c1 := hex.out.cell (hc i u hu);have HC := hid_ (HP.out wr i u hex.out hu);have hlt' : (i : Int) < (n : Int) := by omega
   clear hc hu
   cases hb : pr i with
   | true =>
    rw [hb] at HC;have HF := hid_ (fstI_hit hlt hb hall.out);clear hb;go_wp2_with (go_at_call 154;refine HC.out.mono ?_;rintro e w' ⟨rfl,hx⟩;have HX := hid_ (hex.out.trans hx);clear hx)
    go_ret;exact ⟨ret_int HF.out.symm,HX.out⟩
   | false =>
    rw [hb] at HC;have HA := hid_ (show ∀ j,j < i + 1 → pr j = false from fun j hj => by
     by_cases e : j = i
     ·subst e;exact hb
     ·exact hall.out j (by omega))
    clear hb;go_wp2_with (go_at_call 154;refine HC.out.mono ?_;rintro e w' ⟨rfl,hx⟩;have HX := hid_ (hex.out.trans hx);clear hx)
    go_roundg (n - (i + 1))
    case measure => omega
    case rel => exact ⟨i + 1,by omega,by omega,by go_num,HX,HA⟩
  ·obtain rfl : i = n := by omega
   have HF := hid_ (fstI_miss hall.out);go_wp2_with fail
   go_ret;exact ⟨ret_int HF.out.symm,hex.out⟩
end
section
open Go.RowKit
theorem infoInts : (Tryz.prog.info? 22).map (fun i => (i.zero,i.size,i.bytes)) = some (some (.slice none 0 0),1,24) := by kernel_rfl
def rowsF (rows : List (List Int)) (i j : Nat) : Int := (rows.getD i []).getD j 0
structure EK (w0 w : World) (g R N : Nat) (blk cap : Nat → Nat) (a : Nat → Nat → Int) (k : Nat) : Prop where
 arr : Own w w0.heap.size 22 g R (fun i => if i < k then rowV blk cap N i else .slice none 0 0)
 row : ∀ i,i < k → OwnC w w0.heap.size 3 (blk i) N (cap i) (iv (a i))
 apart : ∀ i j,i < k → j < k → i ≠ j → blk i ≠ blk j
 off : ∀ i,i < k → blk i ≠ g
 ex : Ex w0 w
theorem EK.later {w0 w w' : World} {g R N : Nat} {blk cap : Nat → Nat} {a : Nat → Nat → Int} {k : Nat} (h : EK w0 w g R N blk cap a k) (hx : Ex w w') : EK w0 w' g R N blk cap a k :=
 ⟨h.arr.ex hx,fun i hi => (h.row i hi).ex hx,h.apart,h.off,h.ex.trans hx⟩
theorem EK.put {w0 w : World} {g R N : Nat} {blk cap : Nat → Nat} {a : Nat → Nat → Int} {k : Nat} (h : EK w0 w g R N blk cap a k) {w' : World} (hx : Ex w w') {nb nc : Nat} (hn : OwnC w' w.heap.size 3 nb N nc (iv (a k))) (hw : w0.heap.size ≤ w.heap.size) :
  EK w0 (w'.setCell ⟨g,k,none⟩ (.slice (some ⟨nb,0,none⟩) N nc)) g R N (upd blk k nb) (upd cap k nc) a (k + 1) := by
 have h1 := h.later hx;have hgl := h.arr.lt.2;have hnl := hn.lt.1;have hng : nb ≠ g := by omega
 refine ⟨(h1.arr.set k _).congr fun i hi => ?_,fun i hi => ?_,fun i j hi hj hij => ?_,fun i hi => ?_,h1.arr.exSet (Nat.le_refl _) h1.ex k _⟩
 ·by_cases e : i = k
  ·subst e;rw [upd_same];show _ = (if i < i + 1 then rowV (upd blk i nb) (upd cap i nc) N i else .slice none 0 0)
   rw [if_pos (by omega)];unfold rowV;rw [upd_same,upd_same]
  ·rw [upd_ne _ _ e];show (if i < k then rowV blk cap N i else .slice none 0 0) = (if i < k + 1 then rowV (upd blk k nb) (upd cap k nc) N i else .slice none 0 0)
   by_cases h : i < k
   ·rw [if_pos h,if_pos (by omega)];unfold rowV;rw [upd_ne _ _ e,upd_ne _ _ e]
   ·rw [if_neg h,if_neg (by omega)]
 ·by_cases e : i = k
  ·subst e;rw [upd_same,upd_same];exact (show OwnC w' w0.heap.size 3 nb N nc (iv (a i)) from ownsRow_mono hn hw).other hng _
  ·rw [upd_ne _ _ e,upd_ne _ _ e];exact (h1.row i (by omega)).other (h.off i (by omega)) _
 ·by_cases e : i = k
  ·subst e;rw [upd_same,upd_ne _ _ (fun e => hij e.symm)];have := (h.row j (by omega)).lt.2;omega
  ·by_cases e2 : j = k
   ·subst e2;rw [upd_same,upd_ne _ _ e];have := (h.row i (by omega)).lt.2;omega
   ·rw [upd_ne _ _ e,upd_ne _ _ e2];exact h.apart i j (by omega) (by omega) hij
 ·by_cases e : i = k
  ·subst e;rw [upd_same];exact hng
  ·rw [upd_ne _ _ e];exact h.off i (by omega)
theorem EK.done {w0 w : World} {g R N : Nat} {blk cap : Nat → Nat} {a : Nat → Nat → Int} (h : EK w0 w g R N blk cap a R) : EM w w0.heap.size g R N blk cap a [] :=
 ⟨h.arr.congr fun i hi => by show (if i < R then rowV blk cap N i else .slice none 0 0) = _;rw [if_pos hi],h.row,h.apart,h.off,fun B hB => by cases hB⟩
theorem clone_any (w : World) (N R : Nat) (rows : List (List Int)) (v : Value) (hv : MSl w v rows) (hR : rows.length = R) (hR2 : R ≤ 256) (hN1 : 1 ≤ N) (hN : N ≤ 256) (hr : ∀ (i : Nat) (r : List Int),rows[i]? = some r → r.length = N) :
  Calls Tryz.prog 158 #[v] w fun r w' => ∃ g blk cap,r = .returned (.slice (some ⟨g,0,none⟩) R R) ∧ EM w' w.heap.size g R N blk cap (rowsF rows) [] ∧ Ex w w' := by
 obtain ⟨za,zc,rfl,z1,z2,z3⟩ := hv.open;rw [hR] at z1 z3 ⊢;unfold maxLen at z2;have Z3 := hid_ z3;have HRN := hid_ hr;have HRR := hid_ hR;clear z3 hr hv hR;go_enter Tryz.func158,Tryz.ntmps158
 go_wp2_with (at_make;refine wpList_make_arr _ rfl _ _ 45 rfl 22 (.slice none 0 0) 24 Tryz.underlying45 infoInts rfl _ R rfl rfl rfl (by omega) (by unfold maxLen;omega) ?_)
 intro w3 hown hx3;obtain ⟨g,hgg⟩ : ∃ g,w.heap.size = g := ⟨_,rfl⟩;have HSZ := hid_ hgg;have HK0 := hid_ (show EK w w3 w.heap.size R N (fun _ => 0) (fun _ => 0) (rowsF rows) 0 from ⟨hown.congr fun i hi => by simp,fun i hi => by omega,fun i j hi => by omega,fun i hi => by omega,hx3⟩);rw [hgg] at HK0
 try simp only [hgg]
 clear hown hx3 hgg;go_wp2_with fail
 go_loopw [11] (fun k' wr => ∃ (k : Nat) (blk cap : Nat → Nat),k ≤ R ∧ k' = .int .i64 k ∧ Hid (EK w wr g R N blk cap (rowsF rows) k)) (fun k' _ => R - (intOf k').toNat)
 case atStart => exact ⟨0,_,_,by omega,rfl,HK0⟩
 case round =>
  clear HK0;obtain ⟨k,blk,cap,hk,rfl,hek⟩ := hrel;by_cases hkR : k < R
  ·obtain ⟨zb,zo,rfl,hzc⟩ := Z3.out (by omega);obtain ⟨r,hrr⟩ : ∃ r,rows[k]? = some r := ⟨_,List.getElem?_eq_getElem (by rw [HRR.out];exact hkR)⟩;obtain ⟨uz,c1,huz⟩ := hzc k r hrr;have c1 := hek.out.ex.cell c1;have hrl := HRN.out k r hrr;have HC := hid_ (Clone_any wr r uz (huz.ex hek.out.ex) (by omega) (by omega));obtain ⟨ua,uc,rfl,_,u2,_⟩ := huz.open;rw [hrl] at HC c1;have i1 : (0 : Int) ≤ (k : Int) := by omega
   have i2 : (k : Int) < (R : Int) := by omega
   have HRF := hid_ (show (fun j => r.getD j 0) = rowsF rows k from by
    funext j;unfold rowsF;rw [List.getD_eq_getElem?_getD (l := rows),hrr];rfl)
   have hcg := hek.out.arr.cell hkR;have hfg := hek.out.arr.frz k;clear hzc huz hrr hrl;go_wp2_with (go_at_call 66;refine HC.out.mono ?_;rintro e w4 ⟨gg,cc,rfl,hown,hx4⟩;have hcg2 := hx4.cell hcg;have hfg2 := hx4.frz hcg hfg)
   rw [HRF.out] at hown;have HP := hid_ (hek.out.put hx4 hown hek.out.ex.size);go_roundw
   case rel => first | exact ⟨k + 1,_,_,by omega,by go_num,HP⟩ | ((repeat apply Exists.intro);exact ⟨⟨k + 1,_,_,by omega,by go_num,HP⟩,rfl⟩)
   case measure => simp [intOf];omega
  ·obtain rfl : R = k := by omega
   have HE := hid_ hek.out.done;have HX := hid_ hek.out.ex;clear hek;go_wp2_with fail
   go_ret;exact ⟨g,blk,cap,rfl,HE.out,HX.out⟩
theorem EM.low {w : World} {base g R N : Nat} {blk cap : Nat → Nat} {a : Nat → Nat → Int} (h : EM w base g R N blk cap a []) {A : Addr} (hA : A.block < base) (u : Value) : EM (w.setCell A u) base g R N blk cap a [] :=
 ⟨h.arr.other (by have := h.arr.lt;omega) u,fun i hi => (h.row i hi).other (by have := (h.row i hi).lt;omega) u,h.apart,h.off,fun B hB => by cases hB⟩
def rowsL (N k : Nat) (a : Nat → Nat → Int) : List (List Int) := (List.range k).map fun i => il N (a i)
theorem rowsL_get {N k i : Nat} {a : Nat → Nat → Int} (h : i < k) : (rowsL N k a)[i]? = some (il N (a i)) := by unfold rowsL;simp [h]
theorem rowsL_len (N k : Nat) (a : Nat → Nat → Int) : (rowsL N k a).length = k := by unfold rowsL;simp
theorem EM.msl {w : World} {base g R N k : Nat} {blk cap : Nat → Nat} {a : Nat → Nat → Int} {avs : List Nat} (h : EM w base g R N blk cap a avs) (hk : k ≤ R) (hR : R ≤ 256) : MSl w (.slice (some ⟨g,0,none⟩) k k) (rowsL N k a) := by
 refine ⟨(List.range k).map fun i => rowV blk cap N i,?_,fun i r u h1 h2 => ?_⟩
 ·rw [rowsL_len];refine ⟨by simp,some ⟨g,0,none⟩,k,rfl,Nat.le_refl _,by unfold maxLen;omega,fun h0 => ⟨g,0,rfl,fun i z hz => ?_⟩⟩;have hi : i < k := by have := (List.getElem?_eq_some_iff.1 hz).1;simpa using this
  simp [hi] at hz;subst hz;rw [Nat.zero_add];exact h.cell (by omega)
 ·have hi : i < k := by have := (List.getElem?_eq_some_iff.1 h1).1;rw [rowsL_len] at this;exact this
  rw [rowsL_get hi] at h1;injection h1 with h1;subst h1;simp [hi] at h2;subst h2;exact (h.row i (by omega)).isl
theorem canon_any2 {p m : Nat} {ml : List Int} {b x0 : Nat} (w : World) (hg : GFat w b p m ml x0) (hx1 : 1 ≤ x0) (hx2 : x0 < p ^ m) (N R : Nat) (rows : List (List Int)) (v : Value) (hv : MSl w v rows) (hR : rows.length = R) (hR2 : R ≤ 256) (hN1 : 1 ≤ N) (hN : N ≤ 256) (hr : ∀ (i : Nat) (r : List Int),rows[i]? = some r → r.length = N ∧ entS (p ^ m) r = 0) :
  Calls Tryz.prog 125 #[.pointer (some ⟨b,0,none⟩),v,.int .i64 N] w fun r w' => ∃ piv pv rv a',r = .returned (.tuple #[rv,pv]) ∧ ElO p m ml N R (rowsF rows) a' piv ∧ MSl w' rv (rowsL N piv.length a') ∧ ISl w' pv (pI piv) ∧ Ex w w' ∧ ∃ g blk cap,rv = .slice (some ⟨g,0,none⟩) piv.length piv.length ∧ EM w' w.heap.size g R N blk cap a' [] ∧ ∀ B,pv.ownBlock = some B → w.heap.size ≤ B := by
 have hrng : Rng p m R N (rowsF rows) := fun i hi j hj => by
  obtain ⟨r,hrr⟩ : ∃ r,rows[i]? = some r := ⟨_,List.getElem?_eq_getElem (by omega)⟩;obtain ⟨h1,h2⟩ := hr i r hrr;have e : rowsF rows i j = r.getD j 0 := by unfold rowsF;rw [List.getD_eq_getElem?_getD (l := rows),hrr];rfl
  rw [e];refine entS_rng h2 _ ?_;rw [List.getD_eq_getElem?_getD,List.getElem?_eq_getElem (by omega)];exact List.getElem_mem _
 have HC := hid_ (clone_any w N R rows v hv hR hR2 hN1 hN fun i r h => (hr i r h).1);have HG := hid_ hg;have HRG := hid_ hrng;clear hv hr hrng hg;go_enter Tryz.func125,Tryz.ntmps125
 go_wp2_with (go_at_call 158;refine HC.out.mono ?_;rintro e w1 ⟨g,blk,cap,rfl,hem,hx1_⟩)
 refine (elim_any w w1 HG.out hx1 hx2 hx1_ hem (Nat.le_refl _) hN hR2 HRG.out).mono ?_;rintro e w2 ⟨piv,pv,det,blk',cap',a',rfl,hem2,hel,hpv,hx2_,hpb⟩;have HEM := hid_ hem2;have HEL := hid_ hel;have HX := hid_ hx2_;have HPV := hid_ hpv;have HPB := hid_ hpb;have hk : piv.length ≤ R := by obtain ⟨c,_,h,_⟩ := hel;exact h.le
 obtain ⟨pa,pc,rfl,_,p2_,_⟩ := hpv.open;rw [pI_len] at HPV HPB ⊢;clear hem hem2 hel hpv hx1_ hx2_ HC hpb;have k1 : (0 : Int) ≤ (piv.length : Int) := by omega
 have k2 : (piv.length : Int) ≤ (R : Int) := by omega
 have HMS := hid_ (HEM.out.msl hk hR2);go_wp2_with fail
 go_ret2;exact ⟨piv,_,_,a',rfl,HEL.out,HMS.out,HPV.out,HX.out,g,blk',cap',rfl,HEM.out,HPB.out⟩
end
end Go.Proofs.YtgdmlmhpineibaaGreat
