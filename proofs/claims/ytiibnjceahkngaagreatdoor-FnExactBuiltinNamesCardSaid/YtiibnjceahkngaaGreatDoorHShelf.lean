import Derived.Shelf.LaysM
import Derived.Shelf.LaysC
import Derived.Shelf.Sort.Plain
import Derived.Test.YtiibnjceahkngaaGreatDoorProg
namespace Go.Proofs
open Go.Shelf
def Tryz.lays190_ren : Go.Shelf.Ren := ⟨fun | 190 => 10 | 125 => 57 | 258 => 56 | 128 => 99 | 129 => 100 | 302 => 90 | 303 => 91 | 304 => 92 | 305 => 93 | 306 => 94 | 307 => 95 | 308 => 96 | 309 => 97 | 310 => 98 | 333 => 135 | 329 => 136 | 330 => 137 | 334 => 138 | 335 => 139 | 336 => 140 | 344 => 187 | n => n, fun | 31 => 22 | 9 => 9 | 3 => 3 | 46 => 71 | 0 => 0 | 51 => 134 | 53 => 136 | 4 => 4 | 183 => 126 | 182 => 125 | 131 => 131 | 5 => 5 | 218 => 174 | 222 => 178 | 228 => 220 | 229 => 221 | n => n, fun | n => n⟩
theorem Tryz.lays190 : Go.Proofs.Lays.n190 Tryz.prog Tryz.lays190_ren := {
  mixed := by kernel_rfl
  f125 := Tryz.func57.trans (congrArg some (by kernel_rfl))
  f128 := Tryz.func99.trans (congrArg some (by kernel_rfl))
  f129 := Tryz.func100.trans (congrArg some (by kernel_rfl))
  f190 := Tryz.func10.trans (congrArg some (by kernel_rfl))
  f258 := Tryz.func56.trans (congrArg some (by kernel_rfl))
  f302 := Tryz.func90.trans (congrArg some (by kernel_rfl))
  f303 := Tryz.func91.trans (congrArg some (by kernel_rfl))
  f304 := Tryz.func92.trans (congrArg some (by kernel_rfl))
  f305 := Tryz.func93.trans (congrArg some (by kernel_rfl))
  f306 := Tryz.func94.trans (congrArg some (by kernel_rfl))
  f307 := Tryz.func95.trans (congrArg some (by kernel_rfl))
  f308 := Tryz.func96.trans (congrArg some (by kernel_rfl))
  f309 := Tryz.func97.trans (congrArg some (by kernel_rfl))
  f310 := Tryz.func98.trans (congrArg some (by kernel_rfl))
  f329 := Tryz.func136.trans (congrArg some (by kernel_rfl))
  f330 := Tryz.func137.trans (congrArg some (by kernel_rfl))
  f333 := Tryz.func135.trans (congrArg some (by kernel_rfl))
  f334 := Tryz.func138.trans (congrArg some (by kernel_rfl))
  f335 := Tryz.func139.trans (congrArg some (by kernel_rfl))
  f336 := Tryz.func140.trans (congrArg some (by kernel_rfl))
  f344 := Tryz.func187.trans (congrArg some (by kernel_rfl))
  t0 := Tryz.underlying0
  a0 := Tryz.isAgg0
  z0 := Tryz.sizeOf0
  v0 := Tryz.zeroValue0
  t3 := Tryz.underlying3
  a3 := Tryz.isAgg3
  z3 := Tryz.sizeOf3
  v3 := Tryz.zeroValue3
  t4 := Tryz.underlying4
  a4 := Tryz.isAgg4
  z4 := Tryz.sizeOf4
  v4 := Tryz.zeroValue4
  t5 := Tryz.underlying5
  a5 := Tryz.isAgg5
  z5 := Tryz.sizeOf5
  v5 := Tryz.zeroValue5
  t9 := Tryz.underlying9
  a9 := Tryz.isAgg9
  z9 := Tryz.sizeOf9
  v9 := Tryz.zeroValue9
  t31 := Tryz.underlying22
  a31 := Tryz.isAgg22
  z31 := Tryz.sizeOf22
  v31 := Tryz.zeroValue22
  t46 := Tryz.underlying71
  a46 := Tryz.isAgg71
  z46 := Tryz.sizeOf71
  v46 := Tryz.zeroValue71
  t51 := Tryz.underlying134
  a51 := Tryz.isAgg134
  z51 := Tryz.sizeOf134
  v51 := Tryz.zeroValue134
  t53 := Tryz.underlying136
  a53 := Tryz.isAgg136
  z53 := Tryz.sizeOf136
  v53 := Tryz.zeroValue136
  t131 := Tryz.underlying131
  a131 := Tryz.isAgg131
  z131 := Tryz.sizeOf131
  v131 := Tryz.zeroValue131
  t182 := Tryz.underlying125
  a182 := Tryz.isAgg125
  z182 := Tryz.sizeOf125
  v182 := Tryz.zeroValue125
  t183 := Tryz.underlying126
  a183 := Tryz.isAgg126
  z183 := Tryz.sizeOf126
  v183 := Tryz.zeroValue126
  t218 := Tryz.underlying174
  a218 := Tryz.isAgg174
  z218 := Tryz.sizeOf174
  v218 := Tryz.zeroValue174
  t222 := Tryz.underlying178
  a222 := Tryz.isAgg178
  z222 := Tryz.sizeOf178
  v222 := Tryz.zeroValue178
  t228 := Tryz.underlying220
  a228 := Tryz.isAgg220
  z228 := Tryz.sizeOf220
  v228 := Tryz.zeroValue220
  t229 := Tryz.underlying221
  a229 := Tryz.isAgg221
  z229 := Tryz.sizeOf221
  v229 := Tryz.zeroValue221 }
open Go.Sort Go.RowKit in
theorem Tryz.slices_Sort_string (blk off cap : Nat) (ss : List (List UInt8)) (w : World) (hH : Holds encStr w blk off ss.toArray) (hblk : blk < w.heap.size) (hsz : ss.length < 4611686018427387904) :
    Calls Tryz.prog 10 #[.slice (some ⟨blk, off, none⟩) ss.length cap] w fun e w' =>
      e = .returned (.tuple #[]) ∧ ∃ n os, w' = grow (putRow encStr (Sort.ahead w n) blk off (ss.mergeSort fun x y => decide (x ≤ y)).toArray) os := Any.slices_Sort_string Tryz.lays190 blk off cap ss w hH hblk hsz
end Go.Proofs
