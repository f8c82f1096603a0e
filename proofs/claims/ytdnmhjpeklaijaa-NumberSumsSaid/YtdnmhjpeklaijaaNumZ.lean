/- Plain mathematics: the prime powers are unique; Euler's function counts; sums over the divisors. -/
import Derived.Test.YtdnmhjpeklaijaaNumY
namespace Go.Proofs.Ytdnmhjpeklaijaa
set_option linter.unusedVariables false
set_option linter.unusedSimpArgs false

theorem pp_tail {x : Nat × Nat} {l : List (Nat × Nat)} (h : PP (x :: l)) : PP l := fun y hy => h y (List.mem_cons_of_mem _ hy)

theorem pw_uniq : ∀ (l k : List (Nat × Nat)), Asc l → Asc k → PP l → PP k → pw l = pw k → l = k
  | [], [], _, _, _, _, _ => rfl
  | [], y :: k, _, _, _, hk, h => by
    exfalso
    have h1 := (hk y (List.mem_cons_self ..))
    have h2 : y.1 ∣ pw (y :: k) := by
      simp only [pw]
      exact Nat.dvd_trans (by have := Nat.pow_dvd_pow y.1 h1.2; rwa [Nat.pow_one] at this) (Nat.dvd_mul_right _ _)
    rw [← h] at h2
    have := Nat.le_of_dvd (by simp [pw]) h2
    have := h1.1.1
    simp [pw] at *; omega
  | x :: l, [], _, _, hl, _, h => by
    exfalso
    have h1 := (hl x (List.mem_cons_self ..))
    have h2 : x.1 ∣ pw (x :: l) := by
      simp only [pw]
      exact Nat.dvd_trans (by have := Nat.pow_dvd_pow x.1 h1.2; rwa [Nat.pow_one] at this) (Nat.dvd_mul_right _ _)
    rw [h] at h2
    have := Nat.le_of_dvd (by simp [pw]) h2
    have := h1.1.1
    simp [pw] at *; omega
  | x :: l, y :: k, al, ak, hl, hk, h => by
    have hx := hl x (List.mem_cons_self ..)
    have hy := hk y (List.mem_cons_self ..)
    have dx : x.1 ∣ pw (x :: l) := by
      simp only [pw]
      exact Nat.dvd_trans (by have := Nat.pow_dvd_pow x.1 hx.2; rwa [Nat.pow_one] at this) (Nat.dvd_mul_right _ _)
    have dy : y.1 ∣ pw (y :: k) := by
      simp only [pw]
      exact Nat.dvd_trans (by have := Nat.pow_dvd_pow y.1 hy.2; rwa [Nat.pow_one] at this) (Nat.dvd_mul_right _ _)
    have e1 : x.1 = y.1 := by
      rw [h] at dx
      rw [← h] at dy
      obtain ⟨z, hz, e⟩ := hx.1.dvd_pw _ hk dx
      obtain ⟨u, hu, e'⟩ := hy.1.dvd_pw _ hl dy
      rcases List.mem_cons.1 hz with rfl | hz
      · exact e.symm
      · rcases List.mem_cons.1 hu with rfl | hu
        · exact e'
        · have := ak.1 z hz; have := al.1 u hu; omega
    have hp1 : 1 ≤ x.1 := by have := hx.1.1; omega
    have key : ∀ (a b A B : Nat), ¬ x.1 ∣ A → x.1 ^ a * A = x.1 ^ b * B → ¬ a < b := by
      intro a b A B hA hab hlt
      obtain ⟨c, rfl⟩ : ∃ c, b = a + (c + 1) := ⟨b - a - 1, by omega⟩
      rw [Nat.pow_add, Nat.mul_assoc] at hab
      have := Nat.eq_of_mul_eq_mul_left (Nat.pow_pos hp1) hab
      exact hA ⟨x.1 ^ c * B, by rw [this, Nat.pow_succ]; ac_rfl⟩
    have nl := al.not_dvd hl
    have nk := ak.not_dvd hk
    simp only [pw] at h
    rw [← e1] at h nk
    have e2 : x.2 = y.2 := by
      have := key _ _ _ _ nl h
      have := key _ _ _ _ nk h.symm
      omega
    rw [e2] at h
    have h3 := Nat.eq_of_mul_eq_mul_left (Nat.pow_pos hp1) h
    rw [pw_uniq l k al.2 ak.2 (pp_tail hl) (pp_tail hk) h3]
    congr 1
    exact Prod.ext e1 e2

theorem facs_uniq {l : List (Nat × Nat)} {n : Nat} (hn : 1 ≤ n) (ha : Asc l) (hp : PP l) (h : pw l = n) : facs n = l :=
  pw_uniq _ _ (facs_asc n) ha (facs_PP hn) hp (by rw [facs_pw n hn, h])

theorem asc_snoc : ∀ (l : List (Nat × Nat)) (x : Nat × Nat), Asc l → (∀ y ∈ l, y.1 < x.1) → Asc (l ++ [x])
  | [], x, _, _ => by simp [Asc]
  | y :: l, x, h, hx => by
    refine ⟨fun z hz => ?_, asc_snoc l x h.2 fun z hz => hx z (List.mem_cons_of_mem _ hz)⟩
    rcases List.mem_append.1 hz with hz | hz
    · exact h.1 z hz
    · simp at hz; subst hz; exact hx y (List.mem_cons_self ..)

/-- All primes of c lie below p. -/
def Small (p c : Nat) : Prop := 1 ≤ c ∧ ∀ x ∈ facs c, x.1 < p

theorem facs_mul_pow {p c : Nat} (hp : IsP p) (h : Small p c) (j : Nat) : facs (c * p ^ (j + 1)) = facs c ++ [(p, j + 1)] := by
  refine facs_uniq (Nat.mul_pos h.1 (Nat.pow_pos (by have := hp.1; omega))) (asc_snoc _ _ (facs_asc c) h.2) ?_ ?_
  · intro y hy
    rcases List.mem_append.1 hy with hy | hy
    · exact facs_PP h.1 y hy
    · simp at hy; subst hy; exact ⟨hp, by omega⟩
  · rw [pw_append, facs_pw c h.1]; simp [pw]

theorem small_mul_pow {p q c : Nat} (hp : IsP p) (hq : p < q) (h : Small p c) (j : Nat) : Small q (c * p ^ j) := by
  refine ⟨Nat.mul_pos h.1 (Nat.pow_pos (by have := hp.1; omega)), fun x hx => ?_⟩
  rcases j with _ | j
  · simp at hx; have := h.2 x hx; omega
  · rw [facs_mul_pow hp h] at hx
    rcases List.mem_append.1 hx with hx | hx
    · have := h.2 x hx; omega
    · simp at hx; subst hx; exact hq

/-! ### Sums over a list -/
def sm (f : Nat → Int) : List Nat → Int
  | [] => 0
  | x :: l => f x + sm f l
theorem sm_append (f : Nat → Int) : ∀ (l k : List Nat), sm f (l ++ k) = sm f l + sm f k
  | [], k => by simp [sm]
  | x :: l, k => by simp only [List.cons_append, sm]; rw [sm_append f l k]; omega
theorem sm_perm (f : Nat → Int) {l k : List Nat} (h : l.Perm k) : sm f l = sm f k := by
  induction h with
  | nil => rfl
  | cons x _ ih => simp only [sm]; rw [ih]
  | swap x y l => simp only [sm]; omega
  | trans _ _ ih1 ih2 => rw [ih1, ih2]
theorem sm_map {f : Nat → Int} {g : Int} {h : Nat → Nat} : ∀ (l : List Nat), (∀ c ∈ l, f (h c) = f c * g) → sm f (l.map h) = sm f l * g
  | [], _ => by simp [sm]
  | x :: l, hh => by
    simp only [List.map_cons, sm]
    rw [sm_map l fun c hc => hh c (List.mem_cons_of_mem _ hc), hh x (List.mem_cons_self ..), Int.add_mul]

/-- The sum of g over the exponents 0 to e. -/
def gs (g : Nat → Int) : Nat → Int
  | 0 => 1
  | e + 1 => gs g e + g (e + 1)

theorem sm_dvE {f : Nat → Int} {g : Nat → Int} {L : List Nat} {p : Nat} (h : ∀ c ∈ L, ∀ j, f (c * p ^ (j + 1)) = f c * g (j + 1)) : ∀ e, sm f (dvE L p e) = sm f L * gs g e
  | 0 => by simp [dvE, gs]
  | e + 1 => by
    simp only [dvE, gs]
    rw [sm_append, sm_dvE h e, sm_map (g := g (e + 1)) L (fun c hc => h c hc e), Int.mul_add]

/-- The product of the sums. -/
def gp (g : Nat → Nat → Int) : List (Nat × Nat) → Int
  | [] => 1
  | x :: l => gs (g x.1) x.2 * gp g l

theorem sm_dvGo {f : Nat → Int} {g : Nat → Nat → Int} (hf : ∀ p c, IsP p → Small p c → ∀ j, f (c * p ^ (j + 1)) = f c * g p (j + 1)) :
    ∀ (l : List (Nat × Nat)) (L : List Nat), Asc l → PP l → (∀ c ∈ L, ∀ x ∈ l, Small x.1 c) → sm f (dvGo L l) = sm f L * gp g l
  | [], L, _, _, _ => by simp [dvGo, gp]
  | x :: l, L, ha, hp, hs => by
    obtain ⟨hx, _⟩ := hp x (List.mem_cons_self ..)
    simp only [dvGo, gp]
    rw [sm_dvGo hf l _ ha.2 (pp_tail hp) ?_, sm_dvE (g := g x.1) (fun c hc j => hf _ _ hx (hs c hc x (List.mem_cons_self ..)) j), Int.mul_assoc]
    intro c hc y hy
    obtain ⟨j, hj, d, hd, rfl⟩ := (dvE_mem _ _ _ _).1 hc
    exact small_mul_pow hx (ha.1 y hy) (hs d hd x (List.mem_cons_self ..)) j

theorem small_one {p : Nat} : Small p 1 := ⟨Nat.le_refl _, by rw [facs_one (Nat.le_refl _)]; intro x hx; cases hx⟩

theorem sm_dvs {f : Nat → Int} {g : Nat → Nat → Int} (hf : ∀ p c, IsP p → Small p c → ∀ j, f (c * p ^ (j + 1)) = f c * g p (j + 1)) (h1 : f 1 = 1) {n : Nat} (hn : 1 ≤ n) {L : List Nat} (hL : IsDivs n L) :
    sm f L = gp g (facs n) := by
  have hA := dvs_all hn
  have hp : L.Perm (dvs (facs n)) := by
    have hnl : L.Nodup := List.nodup_iff_pairwise_ne.2 (hL.1.imp fun h => by omega)
    exact (List.perm_ext_iff_of_nodup hnl hA.1).2 fun d => (hL.2 d).trans (hA.2 d).symm
  rw [sm_perm f hp]
  unfold dvs
  rw [sm_dvGo hf _ _ (facs_asc n) (facs_PP hn) (by intro c hc x hx; simp at hc; subst hc; exact small_one)]
  simp [sm, h1]

/-! ### Phi over the divisors -/
theorem phiF_append : ∀ (l k : List (Nat × Nat)), phiF (l ++ k) = phiF l * phiF k
  | [], k => by simp [phiF]
  | x :: l, k => by simp only [List.cons_append, phiF]; rw [phiF_append l k]; ac_rfl

def gPhi (p : Nat) : Nat → Int
  | 0 => 1
  | j + 1 => ((p ^ j * (p - 1) : Nat) : Int)
theorem gs_phi {p : Nat} (hp : 1 ≤ p) : ∀ e, gs (gPhi p) e = ((p ^ e : Nat) : Int)
  | 0 => by simp [gs]
  | e + 1 => by
    simp only [gs, gPhi]
    rw [gs_phi hp e, ← Int.natCast_add]
    congr 1
    obtain ⟨q, rfl⟩ : ∃ q, p = q + 1 := ⟨p - 1, by omega⟩
    rw [Nat.pow_succ, Nat.add_sub_cancel, Nat.mul_succ]; omega
theorem gp_phi : ∀ (l : List (Nat × Nat)), PP l → gp gPhi l = ((pw l : Nat) : Int)
  | [], _ => by simp [gp, pw]
  | x :: l, h => by
    simp only [gp, pw]
    rw [gp_phi l (pp_tail h), gs_phi (by have := (h x (List.mem_cons_self ..)).1.1; omega), Int.natCast_mul]

theorem phi_sum {n : Nat} (hn : 1 ≤ n) {L : List Nat} (hL : IsDivs n L) : sm (fun d => (phi d : Int)) L = n := by
  rw [sm_dvs (g := gPhi) ?_ ?_ hn hL, gp_phi _ (facs_PP hn), facs_pw n hn]
  · intro p c hp hc j
    have h1 : 1 ≤ c * p ^ (j + 1) := Nat.mul_pos hc.1 (Nat.pow_pos (by have := hp.1; omega))
    show ((phi (c * p ^ (j + 1)) : Nat) : Int) = _
    rw [phi_F h1, phi_F hc.1, facs_mul_pow hp hc, phiF_append]
    simp only [phiF, gPhi]
    rw [Nat.mul_one, Nat.add_sub_cancel, Int.natCast_mul]
  · show ((phi 1 : Nat) : Int) = 1
    rw [phi_F (Nat.le_refl _), facs_one (Nat.le_refl _)]; rfl

/-! ### Moebius over the divisors -/
theorem moeGo_snoc : ∀ (l : List (Nat × Nat)) (o : Int) (x : Nat × Nat), moeGo o (l ++ [x]) = if 1 < x.2 then 0 else - moeGo o l
  | [], o, x => by simp [moeGo]
  | y :: l, o, x => by
    simp only [List.cons_append, moeGo]
    rw [moeGo_snoc l (-o) x]
    split
    · split <;> simp
    · rfl

def gMoe (_ : Nat) (j : Nat) : Int := if j = 0 then 1 else if j = 1 then -1 else 0
theorem gs_moe (p : Nat) : ∀ e, 1 ≤ e → gs (gMoe p) e = 0
  | 0, h => by omega
  | 1, _ => by simp [gs, gMoe]
  | e + 2, _ => by
    rw [gs, gs_moe p (e + 1) (by omega)]
    simp [gMoe]
theorem gp_moe : ∀ (l : List (Nat × Nat)), PP l → gp gMoe l = if l = [] then 1 else 0
  | [], _ => by simp [gp]
  | x :: l, h => by
    simp only [gp]
    rw [gs_moe _ _ (h x (List.mem_cons_self ..)).2]
    simp

theorem moe_sum {n : Nat} (hn : 1 ≤ n) {L : List Nat} (hL : IsDivs n L) : sm moe L = if n = 1 then 1 else 0 := by
  rw [sm_dvs (g := gMoe) ?_ ?_ hn hL, gp_moe _ (facs_PP hn)]
  · by_cases h : n = 1
    · subst h; rw [facs_one (Nat.le_refl _)]; simp
    · rw [if_neg h, if_neg]
      rw [facs_cons (by omega)]; simp
  · intro p c hp hc j
    unfold moe
    rw [facs_mul_pow hp hc, moeGo_snoc]
    unfold gMoe
    rcases j with _ | j
    · simp
    · rw [if_pos (by show 1 < j + 1 + 1; omega), if_neg (by omega), if_neg (by omega), Int.mul_zero]
  · unfold moe; rw [facs_one (Nat.le_refl _)]; rfl

/-! ### Euler's function counts -/
def cnt (P : Nat → Bool) : Nat → Nat
  | 0 => 0
  | n + 1 => cnt P n + if P (n + 1) then 1 else 0

theorem cnt_congr {P Q : Nat → Bool} : ∀ n, (∀ i, 1 ≤ i → i ≤ n → P i = Q i) → cnt P n = cnt Q n
  | 0, _ => rfl
  | n + 1, h => by
    simp only [cnt]
    rw [cnt_congr n fun i h1 h2 => h i h1 (by omega), h (n + 1) (by omega) (Nat.le_refl _)]

theorem cnt_add (P : Nat → Bool) (m : Nat) : ∀ b, cnt P (m + b) = cnt P m + cnt (fun i => P (m + i)) b
  | 0 => by simp [cnt]
  | b + 1 => by
    rw [← Nat.add_assoc]
    simp only [cnt]
    rw [cnt_add P m b]; simp only [Nat.add_assoc]

theorem cnt_period {P : Nat → Bool} {m : Nat} (h : ∀ i, P (m + i) = P i) : ∀ k, cnt P (m * k) = k * cnt P m
  | 0 => by simp [cnt]
  | k + 1 => by
    rw [Nat.mul_succ, Nat.add_comm, cnt_add, cnt_congr (m * k) (fun i _ _ => h i), cnt_period h k, Nat.succ_mul]; omega

theorem cnt_none {P : Nat → Bool} : ∀ n, (∀ i, 1 ≤ i → i ≤ n → P i = false) → cnt P n = 0
  | 0, _ => rfl
  | n + 1, h => by
    simp only [cnt]
    rw [cnt_none n fun i h1 h2 => h i h1 (by omega), h (n + 1) (by omega) (Nat.le_refl _)]; rfl

theorem cnt_mult {P : Nat → Bool} {p : Nat} (hp : 1 ≤ p) : ∀ m, cnt (fun i => P i && decide (p ∣ i)) (p * m) = cnt (fun j => P (p * j)) m
  | 0 => by simp [cnt]
  | m + 1 => by
    rw [Nat.mul_succ, cnt_add, cnt_mult hp m]
    obtain ⟨q, rfl⟩ : ∃ q, p = q + 1 := ⟨p - 1, by omega⟩
    simp only [cnt]
    rw [cnt_none q]
    · have hd : q + 1 ∣ (q + 1) * m + (q + 1) := ⟨m + 1, by rw [Nat.mul_succ]⟩
      simp [hd, Nat.mul_succ]
    · intro i h1 h2
      have : ¬ q + 1 ∣ (q + 1) * m + i := fun hd => by
        have h3 := (Nat.dvd_add_right (Nat.dvd_mul_right (q + 1) m)).1 hd
        have := Nat.le_of_dvd (by omega) h3
        omega
      simp [this]

theorem cnt_split (P Q : Nat → Bool) : ∀ n, cnt P n = cnt (fun i => P i && Q i) n + cnt (fun i => P i && !Q i) n
  | 0 => rfl
  | n + 1 => by
    simp only [cnt]
    rw [cnt_split P Q n]
    have key : ∀ a b : Bool, (if a = true then 1 else 0 : Nat) = (if (a && b) = true then 1 else 0) + (if (a && !b) = true then 1 else 0) := by decide
    have := key (P (n + 1)) (Q (n + 1))
    omega

def copB (m i : Nat) : Bool := Nat.gcd i m == 1
def cop (n : Nat) : Nat := cnt (copB n) n

theorem copB_period (m i : Nat) : copB m (m + i) = copB m i := by
  unfold copB
  rw [Nat.gcd_self_add_left]

theorem copB_mul {p m : Nat} (hp : IsP p) (hm : 1 ≤ m) (i : Nat) : copB (p * m) i = (copB m i && !decide (p ∣ i)) := by
  unfold copB
  rw [Bool.eq_iff_iff]
  simp only [beq_iff_eq, decide_eq_true_eq, Bool.and_eq_true, Bool.not_eq_true', decide_eq_false_iff_not]
  constructor
  · intro h
    refine ⟨Nat.Coprime.coprime_mul_left_right h, fun hd => ?_⟩
    have := Nat.dvd_gcd hd (Nat.dvd_mul_right p m)
    rw [h] at this
    have := Nat.le_of_dvd (by omega) this
    have := hp.1; omega
  · rintro ⟨h1, h2⟩
    exact Nat.Coprime.mul_right (by rw [Nat.Coprime, Nat.gcd_comm]; exact hp.coprime h2) h1

theorem cop_dvd {p m : Nat} (hp : IsP p) (hm : 1 ≤ m) (hd : p ∣ m) : cop (p * m) = p * cop m := by
  unfold cop
  rw [cnt_congr (P := copB (p * m)) (Q := copB m) (p * m), Nat.mul_comm p m, cnt_period (copB_period m)]
  intro i _ _
  rw [copB_mul hp hm]
  by_cases h : p ∣ i
  · have : copB m i = false := by
      unfold copB
      rw [beq_eq_false_iff_ne]
      intro h1
      have := Nat.dvd_gcd h hd
      rw [h1] at this
      have := Nat.le_of_dvd (by omega) this
      have := hp.1; omega
    rw [this]; rfl
  · simp [h]

theorem cop_not {p m : Nat} (hp : IsP p) (hm : 1 ≤ m) (hd : ¬ p ∣ m) : cop (p * m) = (p - 1) * cop m := by
  have h1 : cnt (copB m) (p * m) = p * cop m := by rw [Nat.mul_comm p m, cnt_period (copB_period m)]; rfl
  have h2 := cnt_split (copB m) (fun i => decide (p ∣ i)) (p * m)
  rw [h1, cnt_mult (by have := hp.1; omega)] at h2
  have h3 : cnt (fun j => copB m (p * j)) m = cop m := by
    refine cnt_congr m fun j _ _ => ?_
    unfold copB
    rw [Nat.Coprime.gcd_mul_left_cancel j (hp.coprime hd)]
  have h4 : cnt (fun i => copB m i && !decide (p ∣ i)) (p * m) = cop (p * m) := cnt_congr _ fun i _ _ => (copB_mul hp hm i).symm
  rw [h3, h4] at h2
  obtain ⟨q, rfl⟩ : ∃ q, p = q + 1 := ⟨p - 1, by have := hp.1; omega⟩
  rw [Nat.add_sub_cancel]
  rw [Nat.succ_mul] at h2
  omega

theorem cop_pow {p m : Nat} (hp : IsP p) (hm : 1 ≤ m) (hd : ¬ p ∣ m) : ∀ e, cop (p ^ (e + 1) * m) = p ^ e * (p - 1) * cop m
  | 0 => by rw [Nat.zero_add, Nat.pow_one, cop_not hp hm hd]; simp
  | e + 1 => by
    have h1 : p ^ (e + 1 + 1) * m = p * (p ^ (e + 1) * m) := by rw [Nat.pow_succ p (e + 1)]; ac_rfl
    rw [h1, cop_dvd hp (Nat.mul_pos (Nat.pow_pos (by have := hp.1; omega)) hm) ⟨p ^ e * m, by rw [Nat.pow_succ]; ac_rfl⟩, cop_pow hp hm hd e, Nat.pow_succ]
    ac_rfl

theorem cop_pw : ∀ (l : List (Nat × Nat)), Asc l → PP l → cop (pw l) = phiF l
  | [], _, _ => by decide
  | x :: l, ha, hp => by
    have hx := hp x (List.mem_cons_self ..)
    simp only [pw, phiF]
    obtain ⟨e, he⟩ : ∃ e, x.2 = e + 1 := ⟨x.2 - 1, by omega⟩
    rw [he, cop_pow hx.1 (pw_pos l (pp_tail hp)) (ha.not_dvd hp), cop_pw l ha.2 (pp_tail hp), Nat.add_sub_cancel]

theorem cop_phi {n : Nat} (hn : 1 ≤ n) : cop n = phi n := by
  rw [phi_F hn, ← cop_pw _ (facs_asc n) (facs_PP hn), facs_pw n hn]
end Go.Proofs.Ytdnmhjpeklaijaa
