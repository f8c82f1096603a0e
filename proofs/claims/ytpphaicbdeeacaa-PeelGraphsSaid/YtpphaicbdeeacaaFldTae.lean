/- For each modulus of an order up to 256 a generator or a divisor (printed by gen_table.py). -/
import Derived.Test.YtpphaicbdeeacaaFldTad
namespace Go.Proofs.Ytpphaicbdeeacaa
set_option linter.unusedVariables false
set_option linter.unusedSimpArgs false
set_option maxRecDepth 100000

theorem god_2_2 (v : Nat) (hv : v < 4) : GenOrDiv 2 2 (dgC 2 2 v) := tab_sound (q := 4) (by omega) (by omega) (by decide +kernel) tab_2_2 (by decide +kernel) (by decide +kernel) (by decide +kernel) (by decide +kernel) v hv
theorem god_2_3 (v : Nat) (hv : v < 8) : GenOrDiv 2 3 (dgC 2 3 v) := tab_sound (q := 8) (by omega) (by omega) (by decide +kernel) tab_2_3 (by decide +kernel) (by decide +kernel) (by decide +kernel) (by decide +kernel) v hv
theorem god_2_4 (v : Nat) (hv : v < 16) : GenOrDiv 2 4 (dgC 2 4 v) := tab_sound (q := 16) (by omega) (by omega) (by decide +kernel) tab_2_4 (by decide +kernel) (by decide +kernel) (by decide +kernel) (by decide +kernel) v hv
theorem god_2_5 (v : Nat) (hv : v < 32) : GenOrDiv 2 5 (dgC 2 5 v) := tab_sound (q := 32) (by omega) (by omega) (by decide +kernel) tab_2_5 (by decide +kernel) (by decide +kernel) (by decide +kernel) (by decide +kernel) v hv
theorem god_2_6 (v : Nat) (hv : v < 64) : GenOrDiv 2 6 (dgC 2 6 v) := tab_sound (q := 64) (by omega) (by omega) (by decide +kernel) tab_2_6 (by decide +kernel) (by decide +kernel) (by decide +kernel) (by decide +kernel) v hv
theorem god_2_7 (v : Nat) (hv : v < 128) : GenOrDiv 2 7 (dgC 2 7 v) := tab_sound (q := 128) (by omega) (by omega) (by decide +kernel) tab_2_7 (by decide +kernel) (by decide +kernel) (by decide +kernel) (by decide +kernel) v hv
theorem god_2_8 (v : Nat) (hv : v < 256) : GenOrDiv 2 8 (dgC 2 8 v) := tab_sound (q := 256) (by omega) (by omega) (by decide +kernel) tab_2_8 (by decide +kernel) (by decide +kernel) (by decide +kernel) (by decide +kernel) v hv
theorem god_3_2 (v : Nat) (hv : v < 9) : GenOrDiv 3 2 (dgC 3 2 v) := tab_sound (q := 9) (by omega) (by omega) (by decide +kernel) tab_3_2 (by decide +kernel) (by decide +kernel) (by decide +kernel) (by decide +kernel) v hv
theorem god_3_3 (v : Nat) (hv : v < 27) : GenOrDiv 3 3 (dgC 3 3 v) := tab_sound (q := 27) (by omega) (by omega) (by decide +kernel) tab_3_3 (by decide +kernel) (by decide +kernel) (by decide +kernel) (by decide +kernel) v hv
theorem god_3_4 (v : Nat) (hv : v < 81) : GenOrDiv 3 4 (dgC 3 4 v) := tab_sound (q := 81) (by omega) (by omega) (by decide +kernel) tab_3_4 (by decide +kernel) (by decide +kernel) (by decide +kernel) (by decide +kernel) v hv
theorem god_3_5 (v : Nat) (hv : v < 243) : GenOrDiv 3 5 (dgC 3 5 v) := tab_sound (q := 243) (by omega) (by omega) (by decide +kernel) tab_3_5 (by decide +kernel) (by decide +kernel) (by decide +kernel) (by decide +kernel) v hv
theorem god_5_2 (v : Nat) (hv : v < 25) : GenOrDiv 5 2 (dgC 5 2 v) := tab_sound (q := 25) (by omega) (by omega) (by decide +kernel) tab_5_2 (by decide +kernel) (by decide +kernel) (by decide +kernel) (by decide +kernel) v hv
theorem god_5_3 (v : Nat) (hv : v < 125) : GenOrDiv 5 3 (dgC 5 3 v) := tab_sound (q := 125) (by omega) (by omega) (by decide +kernel) tab_5_3 (by decide +kernel) (by decide +kernel) (by decide +kernel) (by decide +kernel) v hv
theorem god_7_2 (v : Nat) (hv : v < 49) : GenOrDiv 7 2 (dgC 7 2 v) := tab_sound (q := 49) (by omega) (by omega) (by decide +kernel) tab_7_2 (by decide +kernel) (by decide +kernel) (by decide +kernel) (by decide +kernel) v hv
theorem god_11_2 (v : Nat) (hv : v < 121) : GenOrDiv 11 2 (dgC 11 2 v) := tab_sound (q := 121) (by omega) (by omega) (by decide +kernel) tab_11_2 (by decide +kernel) (by decide +kernel) (by decide +kernel) (by decide +kernel) v hv
theorem god_13_2 (v : Nat) (hv : v < 169) : GenOrDiv 13 2 (dgC 13 2 v) := tab_sound (q := 169) (by omega) (by omega) (by decide +kernel) tab_13_2 (by decide +kernel) (by decide +kernel) (by decide +kernel) (by decide +kernel) v hv
theorem god_2_1 (v : Nat) (hv : v < 1) : GenOrDiv 2 1 (dgC 2 1 v) := by
  obtain rfl : v = 0 := by omega
  exact tab_one (b1 := [true]) (D := []) (g := 1) (by omega) (by omega) (by omega) (by decide +kernel) (by decide +kernel) (by decide +kernel)
theorem god_3_1 (v : Nat) (hv : v < 1) : GenOrDiv 3 1 (dgC 3 1 v) := by
  obtain rfl : v = 0 := by omega
  exact tab_one (b1 := [true, false]) (D := [[true]]) (g := 2) (by omega) (by omega) (by omega) (by decide +kernel) (by decide +kernel) (by decide +kernel)
theorem god_5_1 (v : Nat) (hv : v < 1) : GenOrDiv 5 1 (dgC 5 1 v) := by
  obtain rfl : v = 0 := by omega
  exact tab_one (b1 := [true, false, false]) (D := [[true, false]]) (g := 2) (by omega) (by omega) (by omega) (by decide +kernel) (by decide +kernel) (by decide +kernel)
theorem god_7_1 (v : Nat) (hv : v < 1) : GenOrDiv 7 1 (dgC 7 1 v) := by
  obtain rfl : v = 0 := by omega
  exact tab_one (b1 := [true, true, false]) (D := [[true, true], [true, false]]) (g := 3) (by omega) (by omega) (by omega) (by decide +kernel) (by decide +kernel) (by decide +kernel)
theorem god_11_1 (v : Nat) (hv : v < 1) : GenOrDiv 11 1 (dgC 11 1 v) := by
  obtain rfl : v = 0 := by omega
  exact tab_one (b1 := [true, false, true, false]) (D := [[true, false, true], [true, false]]) (g := 2) (by omega) (by omega) (by omega) (by decide +kernel) (by decide +kernel) (by decide +kernel)
theorem god_13_1 (v : Nat) (hv : v < 1) : GenOrDiv 13 1 (dgC 13 1 v) := by
  obtain rfl : v = 0 := by omega
  exact tab_one (b1 := [true, true, false, false]) (D := [[true, true, false], [true, false, false]]) (g := 2) (by omega) (by omega) (by omega) (by decide +kernel) (by decide +kernel) (by decide +kernel)
theorem god_17_1 (v : Nat) (hv : v < 1) : GenOrDiv 17 1 (dgC 17 1 v) := by
  obtain rfl : v = 0 := by omega
  exact tab_one (b1 := [true, false, false, false, false]) (D := [[true, false, false, false]]) (g := 3) (by omega) (by omega) (by omega) (by decide +kernel) (by decide +kernel) (by decide +kernel)
theorem god_19_1 (v : Nat) (hv : v < 1) : GenOrDiv 19 1 (dgC 19 1 v) := by
  obtain rfl : v = 0 := by omega
  exact tab_one (b1 := [true, false, false, true, false]) (D := [[true, false, false, true], [true, true, false]]) (g := 2) (by omega) (by omega) (by omega) (by decide +kernel) (by decide +kernel) (by decide +kernel)
theorem god_23_1 (v : Nat) (hv : v < 1) : GenOrDiv 23 1 (dgC 23 1 v) := by
  obtain rfl : v = 0 := by omega
  exact tab_one (b1 := [true, false, true, true, false]) (D := [[true, false, true, true], [true, false]]) (g := 5) (by omega) (by omega) (by omega) (by decide +kernel) (by decide +kernel) (by decide +kernel)
theorem god_29_1 (v : Nat) (hv : v < 1) : GenOrDiv 29 1 (dgC 29 1 v) := by
  obtain rfl : v = 0 := by omega
  exact tab_one (b1 := [true, true, true, false, false]) (D := [[true, true, true, false], [true, false, false]]) (g := 2) (by omega) (by omega) (by omega) (by decide +kernel) (by decide +kernel) (by decide +kernel)
theorem god_31_1 (v : Nat) (hv : v < 1) : GenOrDiv 31 1 (dgC 31 1 v) := by
  obtain rfl : v = 0 := by omega
  exact tab_one (b1 := [true, true, true, true, false]) (D := [[true, true, true, true], [true, false, true, false], [true, true, false]]) (g := 3) (by omega) (by omega) (by omega) (by decide +kernel) (by decide +kernel) (by decide +kernel)
theorem god_37_1 (v : Nat) (hv : v < 1) : GenOrDiv 37 1 (dgC 37 1 v) := by
  obtain rfl : v = 0 := by omega
  exact tab_one (b1 := [true, false, false, true, false, false]) (D := [[true, false, false, true, false], [true, true, false, false]]) (g := 2) (by omega) (by omega) (by omega) (by decide +kernel) (by decide +kernel) (by decide +kernel)
theorem god_41_1 (v : Nat) (hv : v < 1) : GenOrDiv 41 1 (dgC 41 1 v) := by
  obtain rfl : v = 0 := by omega
  exact tab_one (b1 := [true, false, true, false, false, false]) (D := [[true, false, true, false, false], [true, false, false, false]]) (g := 6) (by omega) (by omega) (by omega) (by decide +kernel) (by decide +kernel) (by decide +kernel)
theorem god_43_1 (v : Nat) (hv : v < 1) : GenOrDiv 43 1 (dgC 43 1 v) := by
  obtain rfl : v = 0 := by omega
  exact tab_one (b1 := [true, false, true, false, true, false]) (D := [[true, false, true, false, true], [true, true, true, false], [true, true, false]]) (g := 3) (by omega) (by omega) (by omega) (by decide +kernel) (by decide +kernel) (by decide +kernel)
theorem god_47_1 (v : Nat) (hv : v < 1) : GenOrDiv 47 1 (dgC 47 1 v) := by
  obtain rfl : v = 0 := by omega
  exact tab_one (b1 := [true, false, true, true, true, false]) (D := [[true, false, true, true, true], [true, false]]) (g := 5) (by omega) (by omega) (by omega) (by decide +kernel) (by decide +kernel) (by decide +kernel)
theorem god_53_1 (v : Nat) (hv : v < 1) : GenOrDiv 53 1 (dgC 53 1 v) := by
  obtain rfl : v = 0 := by omega
  exact tab_one (b1 := [true, true, false, true, false, false]) (D := [[true, true, false, true, false], [true, false, false]]) (g := 2) (by omega) (by omega) (by omega) (by decide +kernel) (by decide +kernel) (by decide +kernel)
theorem god_59_1 (v : Nat) (hv : v < 1) : GenOrDiv 59 1 (dgC 59 1 v) := by
  obtain rfl : v = 0 := by omega
  exact tab_one (b1 := [true, true, true, false, true, false]) (D := [[true, true, true, false, true], [true, false]]) (g := 2) (by omega) (by omega) (by omega) (by decide +kernel) (by decide +kernel) (by decide +kernel)
theorem god_61_1 (v : Nat) (hv : v < 1) : GenOrDiv 61 1 (dgC 61 1 v) := by
  obtain rfl : v = 0 := by omega
  exact tab_one (b1 := [true, true, true, true, false, false]) (D := [[true, true, true, true, false], [true, false, true, false, false], [true, true, false, false]]) (g := 2) (by omega) (by omega) (by omega) (by decide +kernel) (by decide +kernel) (by decide +kernel)
theorem god_67_1 (v : Nat) (hv : v < 1) : GenOrDiv 67 1 (dgC 67 1 v) := by
  obtain rfl : v = 0 := by omega
  exact tab_one (b1 := [true, false, false, false, false, true, false]) (D := [[true, false, false, false, false, true], [true, false, true, true, false], [true, true, false]]) (g := 2) (by omega) (by omega) (by omega) (by decide +kernel) (by decide +kernel) (by decide +kernel)
theorem god_71_1 (v : Nat) (hv : v < 1) : GenOrDiv 71 1 (dgC 71 1 v) := by
  obtain rfl : v = 0 := by omega
  exact tab_one (b1 := [true, false, false, false, true, true, false]) (D := [[true, false, false, false, true, true], [true, true, true, false], [true, false, true, false]]) (g := 7) (by omega) (by omega) (by omega) (by decide +kernel) (by decide +kernel) (by decide +kernel)
theorem god_73_1 (v : Nat) (hv : v < 1) : GenOrDiv 73 1 (dgC 73 1 v) := by
  obtain rfl : v = 0 := by omega
  exact tab_one (b1 := [true, false, false, true, false, false, false]) (D := [[true, false, false, true, false, false], [true, true, false, false, false]]) (g := 5) (by omega) (by omega) (by omega) (by decide +kernel) (by decide +kernel) (by decide +kernel)
theorem god_79_1 (v : Nat) (hv : v < 1) : GenOrDiv 79 1 (dgC 79 1 v) := by
  obtain rfl : v = 0 := by omega
  exact tab_one (b1 := [true, false, false, true, true, true, false]) (D := [[true, false, false, true, true, true], [true, true, false, true, false], [true, true, false]]) (g := 3) (by omega) (by omega) (by omega) (by decide +kernel) (by decide +kernel) (by decide +kernel)
theorem god_83_1 (v : Nat) (hv : v < 1) : GenOrDiv 83 1 (dgC 83 1 v) := by
  obtain rfl : v = 0 := by omega
  exact tab_one (b1 := [true, false, true, false, false, true, false]) (D := [[true, false, true, false, false, true], [true, false]]) (g := 2) (by omega) (by omega) (by omega) (by decide +kernel) (by decide +kernel) (by decide +kernel)
theorem god_89_1 (v : Nat) (hv : v < 1) : GenOrDiv 89 1 (dgC 89 1 v) := by
  obtain rfl : v = 0 := by omega
  exact tab_one (b1 := [true, false, true, true, false, false, false]) (D := [[true, false, true, true, false, false], [true, false, false, false]]) (g := 3) (by omega) (by omega) (by omega) (by decide +kernel) (by decide +kernel) (by decide +kernel)
theorem god_97_1 (v : Nat) (hv : v < 1) : GenOrDiv 97 1 (dgC 97 1 v) := by
  obtain rfl : v = 0 := by omega
  exact tab_one (b1 := [true, true, false, false, false, false, false]) (D := [[true, true, false, false, false, false], [true, false, false, false, false, false]]) (g := 5) (by omega) (by omega) (by omega) (by decide +kernel) (by decide +kernel) (by decide +kernel)
theorem god_101_1 (v : Nat) (hv : v < 1) : GenOrDiv 101 1 (dgC 101 1 v) := by
  obtain rfl : v = 0 := by omega
  exact tab_one (b1 := [true, true, false, false, true, false, false]) (D := [[true, true, false, false, true, false], [true, false, true, false, false]]) (g := 2) (by omega) (by omega) (by omega) (by decide +kernel) (by decide +kernel) (by decide +kernel)
theorem god_103_1 (v : Nat) (hv : v < 1) : GenOrDiv 103 1 (dgC 103 1 v) := by
  obtain rfl : v = 0 := by omega
  exact tab_one (b1 := [true, true, false, false, true, true, false]) (D := [[true, true, false, false, true, true], [true, false, false, false, true, false], [true, true, false]]) (g := 5) (by omega) (by omega) (by omega) (by decide +kernel) (by decide +kernel) (by decide +kernel)
theorem god_107_1 (v : Nat) (hv : v < 1) : GenOrDiv 107 1 (dgC 107 1 v) := by
  obtain rfl : v = 0 := by omega
  exact tab_one (b1 := [true, true, false, true, false, true, false]) (D := [[true, true, false, true, false, true], [true, false]]) (g := 2) (by omega) (by omega) (by omega) (by decide +kernel) (by decide +kernel) (by decide +kernel)
theorem god_109_1 (v : Nat) (hv : v < 1) : GenOrDiv 109 1 (dgC 109 1 v) := by
  obtain rfl : v = 0 := by omega
  exact tab_one (b1 := [true, true, false, true, true, false, false]) (D := [[true, true, false, true, true, false], [true, false, false, true, false, false]]) (g := 6) (by omega) (by omega) (by omega) (by decide +kernel) (by decide +kernel) (by decide +kernel)
theorem god_113_1 (v : Nat) (hv : v < 1) : GenOrDiv 113 1 (dgC 113 1 v) := by
  obtain rfl : v = 0 := by omega
  exact tab_one (b1 := [true, true, true, false, false, false, false]) (D := [[true, true, true, false, false, false], [true, false, false, false, false]]) (g := 3) (by omega) (by omega) (by omega) (by decide +kernel) (by decide +kernel) (by decide +kernel)
theorem god_127_1 (v : Nat) (hv : v < 1) : GenOrDiv 127 1 (dgC 127 1 v) := by
  obtain rfl : v = 0 := by omega
  exact tab_one (b1 := [true, true, true, true, true, true, false]) (D := [[true, true, true, true, true, true], [true, false, true, false, true, false], [true, false, false, true, false]]) (g := 3) (by omega) (by omega) (by omega) (by decide +kernel) (by decide +kernel) (by decide +kernel)
theorem god_131_1 (v : Nat) (hv : v < 1) : GenOrDiv 131 1 (dgC 131 1 v) := by
  obtain rfl : v = 0 := by omega
  exact tab_one (b1 := [true, false, false, false, false, false, true, false]) (D := [[true, false, false, false, false, false, true], [true, true, false, true, false], [true, false, true, false]]) (g := 2) (by omega) (by omega) (by omega) (by decide +kernel) (by decide +kernel) (by decide +kernel)
theorem god_137_1 (v : Nat) (hv : v < 1) : GenOrDiv 137 1 (dgC 137 1 v) := by
  obtain rfl : v = 0 := by omega
  exact tab_one (b1 := [true, false, false, false, true, false, false, false]) (D := [[true, false, false, false, true, false, false], [true, false, false, false]]) (g := 3) (by omega) (by omega) (by omega) (by decide +kernel) (by decide +kernel) (by decide +kernel)
theorem god_139_1 (v : Nat) (hv : v < 1) : GenOrDiv 139 1 (dgC 139 1 v) := by
  obtain rfl : v = 0 := by omega
  exact tab_one (b1 := [true, false, false, false, true, false, true, false]) (D := [[true, false, false, false, true, false, true], [true, false, true, true, true, false], [true, true, false]]) (g := 2) (by omega) (by omega) (by omega) (by decide +kernel) (by decide +kernel) (by decide +kernel)
theorem god_149_1 (v : Nat) (hv : v < 1) : GenOrDiv 149 1 (dgC 149 1 v) := by
  obtain rfl : v = 0 := by omega
  exact tab_one (b1 := [true, false, false, true, false, true, false, false]) (D := [[true, false, false, true, false, true, false], [true, false, false]]) (g := 2) (by omega) (by omega) (by omega) (by decide +kernel) (by decide +kernel) (by decide +kernel)
theorem god_151_1 (v : Nat) (hv : v < 1) : GenOrDiv 151 1 (dgC 151 1 v) := by
  obtain rfl : v = 0 := by omega
  exact tab_one (b1 := [true, false, false, true, false, true, true, false]) (D := [[true, false, false, true, false, true, true], [true, true, false, false, true, false], [true, true, true, true, false]]) (g := 6) (by omega) (by omega) (by omega) (by decide +kernel) (by decide +kernel) (by decide +kernel)
theorem god_157_1 (v : Nat) (hv : v < 1) : GenOrDiv 157 1 (dgC 157 1 v) := by
  obtain rfl : v = 0 := by omega
  exact tab_one (b1 := [true, false, false, true, true, true, false, false]) (D := [[true, false, false, true, true, true, false], [true, true, false, true, false, false], [true, true, false, false]]) (g := 5) (by omega) (by omega) (by omega) (by decide +kernel) (by decide +kernel) (by decide +kernel)
theorem god_163_1 (v : Nat) (hv : v < 1) : GenOrDiv 163 1 (dgC 163 1 v) := by
  obtain rfl : v = 0 := by omega
  exact tab_one (b1 := [true, false, true, false, false, false, true, false]) (D := [[true, false, true, false, false, false, true], [true, true, false, true, true, false]]) (g := 2) (by omega) (by omega) (by omega) (by decide +kernel) (by decide +kernel) (by decide +kernel)
theorem god_167_1 (v : Nat) (hv : v < 1) : GenOrDiv 167 1 (dgC 167 1 v) := by
  obtain rfl : v = 0 := by omega
  exact tab_one (b1 := [true, false, true, false, false, true, true, false]) (D := [[true, false, true, false, false, true, true], [true, false]]) (g := 5) (by omega) (by omega) (by omega) (by decide +kernel) (by decide +kernel) (by decide +kernel)
theorem god_173_1 (v : Nat) (hv : v < 1) : GenOrDiv 173 1 (dgC 173 1 v) := by
  obtain rfl : v = 0 := by omega
  exact tab_one (b1 := [true, false, true, false, true, true, false, false]) (D := [[true, false, true, false, true, true, false], [true, false, false]]) (g := 2) (by omega) (by omega) (by omega) (by decide +kernel) (by decide +kernel) (by decide +kernel)
theorem god_179_1 (v : Nat) (hv : v < 1) : GenOrDiv 179 1 (dgC 179 1 v) := by
  obtain rfl : v = 0 := by omega
  exact tab_one (b1 := [true, false, true, true, false, false, true, false]) (D := [[true, false, true, true, false, false, true], [true, false]]) (g := 2) (by omega) (by omega) (by omega) (by decide +kernel) (by decide +kernel) (by decide +kernel)
theorem god_181_1 (v : Nat) (hv : v < 1) : GenOrDiv 181 1 (dgC 181 1 v) := by
  obtain rfl : v = 0 := by omega
  exact tab_one (b1 := [true, false, true, true, false, true, false, false]) (D := [[true, false, true, true, false, true, false], [true, true, true, true, false, false], [true, false, false, true, false, false]]) (g := 2) (by omega) (by omega) (by omega) (by decide +kernel) (by decide +kernel) (by decide +kernel)
theorem god_191_1 (v : Nat) (hv : v < 1) : GenOrDiv 191 1 (dgC 191 1 v) := by
  obtain rfl : v = 0 := by omega
  exact tab_one (b1 := [true, false, true, true, true, true, true, false]) (D := [[true, false, true, true, true, true, true], [true, false, false, true, true, false], [true, false, true, false]]) (g := 19) (by omega) (by omega) (by omega) (by decide +kernel) (by decide +kernel) (by decide +kernel)
theorem god_193_1 (v : Nat) (hv : v < 1) : GenOrDiv 193 1 (dgC 193 1 v) := by
  obtain rfl : v = 0 := by omega
  exact tab_one (b1 := [true, true, false, false, false, false, false, false]) (D := [[true, true, false, false, false, false, false], [true, false, false, false, false, false, false]]) (g := 5) (by omega) (by omega) (by omega) (by decide +kernel) (by decide +kernel) (by decide +kernel)
theorem god_197_1 (v : Nat) (hv : v < 1) : GenOrDiv 197 1 (dgC 197 1 v) := by
  obtain rfl : v = 0 := by omega
  exact tab_one (b1 := [true, true, false, false, false, true, false, false]) (D := [[true, true, false, false, false, true, false], [true, true, true, false, false]]) (g := 2) (by omega) (by omega) (by omega) (by decide +kernel) (by decide +kernel) (by decide +kernel)
theorem god_199_1 (v : Nat) (hv : v < 1) : GenOrDiv 199 1 (dgC 199 1 v) := by
  obtain rfl : v = 0 := by omega
  exact tab_one (b1 := [true, true, false, false, false, true, true, false]) (D := [[true, true, false, false, false, true, true], [true, false, false, false, false, true, false], [true, false, false, true, false]]) (g := 3) (by omega) (by omega) (by omega) (by decide +kernel) (by decide +kernel) (by decide +kernel)
theorem god_211_1 (v : Nat) (hv : v < 1) : GenOrDiv 211 1 (dgC 211 1 v) := by
  obtain rfl : v = 0 := by omega
  exact tab_one (b1 := [true, true, false, true, false, false, true, false]) (D := [[true, true, false, true, false, false, true], [true, false, false, false, true, true, false], [true, false, true, false, true, false], [true, true, true, true, false]]) (g := 2) (by omega) (by omega) (by omega) (by decide +kernel) (by decide +kernel) (by decide +kernel)
theorem god_223_1 (v : Nat) (hv : v < 1) : GenOrDiv 223 1 (dgC 223 1 v) := by
  obtain rfl : v = 0 := by omega
  exact tab_one (b1 := [true, true, false, true, true, true, true, false]) (D := [[true, true, false, true, true, true, true], [true, false, false, true, false, true, false], [true, true, false]]) (g := 3) (by omega) (by omega) (by omega) (by decide +kernel) (by decide +kernel) (by decide +kernel)
theorem god_227_1 (v : Nat) (hv : v < 1) : GenOrDiv 227 1 (dgC 227 1 v) := by
  obtain rfl : v = 0 := by omega
  exact tab_one (b1 := [true, true, true, false, false, false, true, false]) (D := [[true, true, true, false, false, false, true], [true, false]]) (g := 2) (by omega) (by omega) (by omega) (by decide +kernel) (by decide +kernel) (by decide +kernel)
theorem god_229_1 (v : Nat) (hv : v < 1) : GenOrDiv 229 1 (dgC 229 1 v) := by
  obtain rfl : v = 0 := by omega
  exact tab_one (b1 := [true, true, true, false, false, true, false, false]) (D := [[true, true, true, false, false, true, false], [true, false, false, true, true, false, false], [true, true, false, false]]) (g := 6) (by omega) (by omega) (by omega) (by decide +kernel) (by decide +kernel) (by decide +kernel)
theorem god_233_1 (v : Nat) (hv : v < 1) : GenOrDiv 233 1 (dgC 233 1 v) := by
  obtain rfl : v = 0 := by omega
  exact tab_one (b1 := [true, true, true, false, true, false, false, false]) (D := [[true, true, true, false, true, false, false], [true, false, false, false]]) (g := 3) (by omega) (by omega) (by omega) (by decide +kernel) (by decide +kernel) (by decide +kernel)
theorem god_239_1 (v : Nat) (hv : v < 1) : GenOrDiv 239 1 (dgC 239 1 v) := by
  obtain rfl : v = 0 := by omega
  exact tab_one (b1 := [true, true, true, false, true, true, true, false]) (D := [[true, true, true, false, true, true, true], [true, false, false, false, true, false], [true, true, true, false]]) (g := 7) (by omega) (by omega) (by omega) (by decide +kernel) (by decide +kernel) (by decide +kernel)
theorem god_241_1 (v : Nat) (hv : v < 1) : GenOrDiv 241 1 (dgC 241 1 v) := by
  obtain rfl : v = 0 := by omega
  exact tab_one (b1 := [true, true, true, true, false, false, false, false]) (D := [[true, true, true, true, false, false, false], [true, false, true, false, false, false, false], [true, true, false, false, false, false]]) (g := 7) (by omega) (by omega) (by omega) (by decide +kernel) (by decide +kernel) (by decide +kernel)
theorem god_251_1 (v : Nat) (hv : v < 1) : GenOrDiv 251 1 (dgC 251 1 v) := by
  obtain rfl : v = 0 := by omega
  exact tab_one (b1 := [true, true, true, true, true, false, true, false]) (D := [[true, true, true, true, true, false, true], [true, true, false, false, true, false]]) (g := 6) (by omega) (by omega) (by omega) (by decide +kernel) (by decide +kernel) (by decide +kernel)
end Go.Proofs.Ytpphaicbdeeacaa
