/- The contract of slices.Sort at ints, laid at this program by the kit. -/
import Derived.Shelf.Sort.Plain
import Derived.Test.YtgfdhclpffakfaaProg
namespace Go.Proofs
open Go.Shelf
def Try.lays189_ren : Go.Shelf.Ren := ⟨fun | 189 => 58 | 125 => 82 | 257 => 81 | 128 => 101 | 129 => 102 | 294 => 92 | 295 => 93 | 296 => 94 | 297 => 95 | 298 => 96 | 299 => 97 | 216 => 98 | 300 => 99 | 301 => 100 | 328 => 103 | 329 => 104 | 330 => 105 | 331 => 106 | 332 => 107 | 215 => 108 | 343 => 109 | n => n, fun | 28 => 22 | 3 => 3 | 46 => 98 | 0 => 0 | 51 => 72 | 53 => 77 | 4 => 4 | 183 => 117 | 182 => 116 | 131 => 122 | 5 => 5 | 9 => 9 | 218 => 126 | 222 => 130 | 228 => 132 | 229 => 133 | n => n, fun | n => n⟩
theorem Try.lays189 : Go.Proofs.Lays.n189 Try.prog Try.lays189_ren := {
  mixed := by kernel_rfl
  f125 := Try.func82.trans (congrArg some (by kernel_rfl))
  f128 := Try.func101.trans (congrArg some (by kernel_rfl))
  f129 := Try.func102.trans (congrArg some (by kernel_rfl))
  f189 := Try.func58.trans (congrArg some (by kernel_rfl))
  f215 := Try.func108.trans (congrArg some (by kernel_rfl))
  f216 := Try.func98.trans (congrArg some (by kernel_rfl))
  f257 := Try.func81.trans (congrArg some (by kernel_rfl))
  f294 := Try.func92.trans (congrArg some (by kernel_rfl))
  f295 := Try.func93.trans (congrArg some (by kernel_rfl))
  f296 := Try.func94.trans (congrArg some (by kernel_rfl))
  f297 := Try.func95.trans (congrArg some (by kernel_rfl))
  f298 := Try.func96.trans (congrArg some (by kernel_rfl))
  f299 := Try.func97.trans (congrArg some (by kernel_rfl))
  f300 := Try.func99.trans (congrArg some (by kernel_rfl))
  f301 := Try.func100.trans (congrArg some (by kernel_rfl))
  f328 := Try.func103.trans (congrArg some (by kernel_rfl))
  f329 := Try.func104.trans (congrArg some (by kernel_rfl))
  f330 := Try.func105.trans (congrArg some (by kernel_rfl))
  f331 := Try.func106.trans (congrArg some (by kernel_rfl))
  f332 := Try.func107.trans (congrArg some (by kernel_rfl))
  f343 := Try.func109.trans (congrArg some (by kernel_rfl))
  t0 := Try.underlying0
  a0 := Try.isAgg0
  z0 := Try.sizeOf0
  v0 := Try.zeroValue0
  t3 := Try.underlying3
  a3 := Try.isAgg3
  z3 := Try.sizeOf3
  v3 := Try.zeroValue3
  t4 := Try.underlying4
  a4 := Try.isAgg4
  z4 := Try.sizeOf4
  v4 := Try.zeroValue4
  t5 := Try.underlying5
  a5 := Try.isAgg5
  z5 := Try.sizeOf5
  v5 := Try.zeroValue5
  t9 := Try.underlying9
  a9 := Try.isAgg9
  z9 := Try.sizeOf9
  v9 := Try.zeroValue9
  t28 := Try.underlying22
  a28 := Try.isAgg22
  z28 := Try.sizeOf22
  v28 := Try.zeroValue22
  t46 := Try.underlying98
  a46 := Try.isAgg98
  z46 := Try.sizeOf98
  v46 := Try.zeroValue98
  t51 := Try.underlying72
  a51 := Try.isAgg72
  z51 := Try.sizeOf72
  v51 := Try.zeroValue72
  t53 := Try.underlying77
  a53 := Try.isAgg77
  z53 := Try.sizeOf77
  v53 := Try.zeroValue77
  t131 := Try.underlying122
  a131 := Try.isAgg122
  z131 := Try.sizeOf122
  v131 := Try.zeroValue122
  t182 := Try.underlying116
  a182 := Try.isAgg116
  z182 := Try.sizeOf116
  v182 := Try.zeroValue116
  t183 := Try.underlying117
  a183 := Try.isAgg117
  z183 := Try.sizeOf117
  v183 := Try.zeroValue117
  t218 := Try.underlying126
  a218 := Try.isAgg126
  z218 := Try.sizeOf126
  v218 := Try.zeroValue126
  t222 := Try.underlying130
  a222 := Try.isAgg130
  z222 := Try.sizeOf130
  v222 := Try.zeroValue130
  t228 := Try.underlying132
  a228 := Try.isAgg132
  z228 := Try.sizeOf132
  v228 := Try.zeroValue132
  t229 := Try.underlying133
  a229 := Try.isAgg133
  z229 := Try.sizeOf133
  v229 := Try.zeroValue133 }
open Go.Sort Go.RowKit in
theorem Try.slices_Sort_int (blk off cap : Nat) (zs : List Int) (w : World) (hH : Holds (Value.int .i64) w blk off zs.toArray) (hblk : blk < w.heap.size) (hsz : zs.length < 4611686018427387904) :
    Calls Try.prog 58 #[.slice (some ⟨blk, off, none⟩) zs.length cap] w fun e w' =>
      e = .returned (.tuple #[]) ∧ ∃ n os, w' = grow (putRow (Value.int .i64) (Sort.ahead w n) blk off (zs.mergeSort fun x y => decide (x ≤ y)).toArray) os := Any.slices_Sort_int Try.lays189 blk off cap zs w hH hblk hsz
end Go.Proofs
