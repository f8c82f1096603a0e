/- For each prime power order and each modulus, a generator or a divisor. -/
import Derived.Test.YtpphaicbdeeacaaFldTae
import Derived.Test.YtpphaicbdeeacaaFldA
namespace Go.Proofs.Ytpphaicbdeeacaa
set_option linter.unusedVariables false
set_option linter.unusedSimpArgs false
set_option maxRecDepth 100000

theorem primes_all : ∀ p, p < 257 → prB p = true → p ∈ [2, 3, 5, 7, 11, 13, 17, 19, 23, 29, 31, 37, 41, 43, 47, 53, 59, 61, 67, 71, 73, 79, 83, 89, 97, 101, 103, 107, 109, 113, 127, 131, 137, 139, 149, 151, 157, 163, 167, 173, 179, 181, 191, 193, 197, 199, 211, 223, 227, 229, 233, 239, 241, 251] := by decide +kernel
theorem pairs_b : ((List.range 257).all fun p => (List.range 9).all fun m => !(decide (2 ≤ m)) || (!(prB p) || (!(decide (p ^ m ≤ 256)) || decide ((p, m) ∈ [(2, 2), (2, 3), (2, 4), (2, 5), (2, 6), (2, 7), (2, 8), (3, 2), (3, 3), (3, 4), (3, 5), (5, 2), (5, 3), (7, 2), (11, 2), (13, 2)])))) = true := by decide +kernel
theorem pairs_all (m : Nat) (hm : m < 9) (p : Nat) (hp : p < 257) (h2 : 2 ≤ m) (hpr : prB p = true) (hq : p ^ m ≤ 256) : (p, m) ∈ [(2, 2), (2, 3), (2, 4), (2, 5), (2, 6), (2, 7), (2, 8), (3, 2), (3, 3), (3, 4), (3, 5), (5, 2), (5, 3), (7, 2), (11, 2), (13, 2)] := by
  have h := List.all_eq_true.1 (List.all_eq_true.1 pairs_b p (List.mem_range.2 hp)) m (List.mem_range.2 hm)
  rw [decide_eq_true h2, hpr, decide_eq_true hq] at h
  simpa using h
theorem god_all {p m v : Nat} (hpr : prB p = true) (hp : p ≤ 256) (hm1 : 1 ≤ m) (hm : m ≤ 8) (hq : p ^ m ≤ 256) (hv : v < p ^ m) (h0 : m = 1 → v = 0) : GenOrDiv p m (dgC p m v) := by
  rcases Nat.eq_or_lt_of_le hm1 with e | e
  · subst e
    obtain rfl := h0 rfl
    have hmem := primes_all p (by omega) hpr
    simp only [List.mem_cons, List.not_mem_nil, or_false] at hmem
    rcases hmem with rfl | rfl | rfl | rfl | rfl | rfl | rfl | rfl | rfl | rfl | rfl | rfl | rfl | rfl | rfl | rfl | rfl | rfl | rfl | rfl | rfl | rfl | rfl | rfl | rfl | rfl | rfl | rfl | rfl | rfl | rfl | rfl | rfl | rfl | rfl | rfl | rfl | rfl | rfl | rfl | rfl | rfl | rfl | rfl | rfl | rfl | rfl | rfl | rfl | rfl | rfl | rfl | rfl | rfl
    · exact god_2_1 0 (by omega)
    · exact god_3_1 0 (by omega)
    · exact god_5_1 0 (by omega)
    · exact god_7_1 0 (by omega)
    · exact god_11_1 0 (by omega)
    · exact god_13_1 0 (by omega)
    · exact god_17_1 0 (by omega)
    · exact god_19_1 0 (by omega)
    · exact god_23_1 0 (by omega)
    · exact god_29_1 0 (by omega)
    · exact god_31_1 0 (by omega)
    · exact god_37_1 0 (by omega)
    · exact god_41_1 0 (by omega)
    · exact god_43_1 0 (by omega)
    · exact god_47_1 0 (by omega)
    · exact god_53_1 0 (by omega)
    · exact god_59_1 0 (by omega)
    · exact god_61_1 0 (by omega)
    · exact god_67_1 0 (by omega)
    · exact god_71_1 0 (by omega)
    · exact god_73_1 0 (by omega)
    · exact god_79_1 0 (by omega)
    · exact god_83_1 0 (by omega)
    · exact god_89_1 0 (by omega)
    · exact god_97_1 0 (by omega)
    · exact god_101_1 0 (by omega)
    · exact god_103_1 0 (by omega)
    · exact god_107_1 0 (by omega)
    · exact god_109_1 0 (by omega)
    · exact god_113_1 0 (by omega)
    · exact god_127_1 0 (by omega)
    · exact god_131_1 0 (by omega)
    · exact god_137_1 0 (by omega)
    · exact god_139_1 0 (by omega)
    · exact god_149_1 0 (by omega)
    · exact god_151_1 0 (by omega)
    · exact god_157_1 0 (by omega)
    · exact god_163_1 0 (by omega)
    · exact god_167_1 0 (by omega)
    · exact god_173_1 0 (by omega)
    · exact god_179_1 0 (by omega)
    · exact god_181_1 0 (by omega)
    · exact god_191_1 0 (by omega)
    · exact god_193_1 0 (by omega)
    · exact god_197_1 0 (by omega)
    · exact god_199_1 0 (by omega)
    · exact god_211_1 0 (by omega)
    · exact god_223_1 0 (by omega)
    · exact god_227_1 0 (by omega)
    · exact god_229_1 0 (by omega)
    · exact god_233_1 0 (by omega)
    · exact god_239_1 0 (by omega)
    · exact god_241_1 0 (by omega)
    · exact god_251_1 0 (by omega)
  · have hmem := pairs_all m (by omega) p (by omega) e hpr hq
    simp only [List.mem_cons, List.not_mem_nil, or_false, Prod.mk.injEq] at hmem
    rcases hmem with ⟨rfl, rfl⟩ | ⟨rfl, rfl⟩ | ⟨rfl, rfl⟩ | ⟨rfl, rfl⟩ | ⟨rfl, rfl⟩ | ⟨rfl, rfl⟩ | ⟨rfl, rfl⟩ | ⟨rfl, rfl⟩ | ⟨rfl, rfl⟩ | ⟨rfl, rfl⟩ | ⟨rfl, rfl⟩ | ⟨rfl, rfl⟩ | ⟨rfl, rfl⟩ | ⟨rfl, rfl⟩ | ⟨rfl, rfl⟩ | ⟨rfl, rfl⟩
    · exact god_2_2 v (by simpa using hv)
    · exact god_2_3 v (by simpa using hv)
    · exact god_2_4 v (by simpa using hv)
    · exact god_2_5 v (by simpa using hv)
    · exact god_2_6 v (by simpa using hv)
    · exact god_2_7 v (by simpa using hv)
    · exact god_2_8 v (by simpa using hv)
    · exact god_3_2 v (by simpa using hv)
    · exact god_3_3 v (by simpa using hv)
    · exact god_3_4 v (by simpa using hv)
    · exact god_3_5 v (by simpa using hv)
    · exact god_5_2 v (by simpa using hv)
    · exact god_5_3 v (by simpa using hv)
    · exact god_7_2 v (by simpa using hv)
    · exact god_11_2 v (by simpa using hv)
    · exact god_13_2 v (by simpa using hv)
end Go.Proofs.Ytpphaicbdeeacaa
