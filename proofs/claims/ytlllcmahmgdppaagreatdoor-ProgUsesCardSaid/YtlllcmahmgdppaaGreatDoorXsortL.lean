/- Laid. -/
import Derived.Test.YtlllcmahmgdppaaGreatDoorVmThree
import Derived.KernelRfl
import Derived.Test.YtlllcmahmgdppaaGreatDoorProg
import Derived.Test.YtlllcmahmgdppaaGreatDoorXprogI
import Derived.Shelf.Sort.Plain
section
/- Code. -/
set_option maxRecDepth 100000
set_option linter.unusedSimpArgs false
set_option linter.unusedVariables false
namespace Go.Vm
open Go
end Go.Vm
end
section
/- Walks. -/
set_option maxRecDepth 100000
set_option linter.unusedSimpArgs false
set_option linter.unusedVariables false
namespace Go.Vm
open Go
def sort_ren : Go.Shelf.Ren := ⟨fun | 189 => 54 | 125 => 83 | 257 => 82 | 128 => 122 | 129 => 123 | 294 => 113 | 295 => 114 | 296 => 115 | 297 => 116 | 298 => 117 | 299 => 118 | 216 => 119 | 300 => 120 | 301 => 121 | 328 => 145 | 329 => 146 | 330 => 147 | 331 => 148 | 332 => 149 | 215 => 150 | 343 => 159 | n => n, fun | 28 => 32 | 3 => 3 | 46 => 110 | 0 => 0 | 51 => 151 | 53 => 153 | 4 => 4 | 183 => 143 | 182 => 142 | 131 => 148 | 5 => 5 | 9 => 9 | 218 => 166 | 222 => 170 | 228 => 186 | 229 => 187 | n => n, fun | n => n⟩
theorem sort_lays : Go.Proofs.Lays.n189 Go.Proofs.Tryz.prog sort_ren := {
  mixed := by kernel_rfl,
  f125 := Go.Proofs.Tryz.func83.trans (congrArg some (by kernel_rfl)),
  f128 := Go.Proofs.Tryz.func122.trans (congrArg some (by kernel_rfl)),
  f129 := Go.Proofs.Tryz.func123.trans (congrArg some (by kernel_rfl)),
  f189 := Go.Proofs.Tryz.func54.trans (congrArg some (by kernel_rfl)),
  f215 := Go.Proofs.Tryz.func150.trans (congrArg some (by kernel_rfl)),
  f216 := Go.Proofs.Tryz.func119.trans (congrArg some (by kernel_rfl)),
  f257 := Go.Proofs.Tryz.func82.trans (congrArg some (by kernel_rfl)),
  f294 := Go.Proofs.Tryz.func113.trans (congrArg some (by kernel_rfl)),
  f295 := Go.Proofs.Tryz.func114.trans (congrArg some (by kernel_rfl)),
  f296 := Go.Proofs.Tryz.func115.trans (congrArg some (by kernel_rfl)),
  f297 := Go.Proofs.Tryz.func116.trans (congrArg some (by kernel_rfl)),
  f298 := Go.Proofs.Tryz.func117.trans (congrArg some (by kernel_rfl)),
  f299 := Go.Proofs.Tryz.func118.trans (congrArg some (by kernel_rfl)),
  f300 := Go.Proofs.Tryz.func120.trans (congrArg some (by kernel_rfl)),
  f301 := Go.Proofs.Tryz.func121.trans (congrArg some (by kernel_rfl)),
  f328 := Go.Proofs.Tryz.func145.trans (congrArg some (by kernel_rfl)),
  f329 := Go.Proofs.Tryz.func146.trans (congrArg some (by kernel_rfl)),
  f330 := Go.Proofs.Tryz.func147.trans (congrArg some (by kernel_rfl)),
  f331 := Go.Proofs.Tryz.func148.trans (congrArg some (by kernel_rfl)),
  f332 := Go.Proofs.Tryz.func149.trans (congrArg some (by kernel_rfl)),
  f343 := Go.Proofs.Tryz.func159.trans (congrArg some (by kernel_rfl)),
  t0 := Go.Proofs.Tryz.underlying0,
  a0 := Go.Proofs.Tryz.isAgg0,
  z0 := Go.Proofs.Tryz.sizeOf0,
  v0 := Go.Proofs.Tryz.zeroValue0,
  t3 := Go.Proofs.Tryz.underlying3,
  a3 := Go.Proofs.Tryz.isAgg3,
  z3 := Go.Proofs.Tryz.sizeOf3,
  v3 := Go.Proofs.Tryz.zeroValue3,
  t4 := Go.Proofs.Tryz.underlying4,
  a4 := Go.Proofs.Tryz.isAgg4,
  z4 := Go.Proofs.Tryz.sizeOf4,
  v4 := Go.Proofs.Tryz.zeroValue4,
  t5 := Go.Proofs.Tryz.underlying5,
  a5 := Go.Proofs.Tryz.isAgg5,
  z5 := Go.Proofs.Tryz.sizeOf5,
  v5 := Go.Proofs.Tryz.zeroValue5,
  t9 := Go.Proofs.Tryz.underlying9,
  a9 := Go.Proofs.Tryz.isAgg9,
  z9 := Go.Proofs.Tryz.sizeOf9,
  v9 := Go.Proofs.Tryz.zeroValue9,
  t28 := Go.Proofs.Tryz.underlying32,
  a28 := Go.Proofs.Tryz.isAgg32,
  z28 := Go.Proofs.Tryz.sizeOf32,
  v28 := Go.Proofs.Tryz.zeroValue32,
  t46 := Go.Proofs.Tryz.underlying110,
  a46 := Go.Proofs.Tryz.isAgg110,
  z46 := Go.Proofs.Tryz.sizeOf110,
  v46 := Go.Proofs.Tryz.zeroValue110,
  t51 := Go.Proofs.Tryz.underlying151,
  a51 := Go.Proofs.Tryz.isAgg151,
  z51 := Go.Proofs.Tryz.sizeOf151,
  v51 := Go.Proofs.Tryz.zeroValue151,
  t53 := Go.Proofs.Tryz.underlying153,
  a53 := Go.Proofs.Tryz.isAgg153,
  z53 := Go.Proofs.Tryz.sizeOf153,
  v53 := Go.Proofs.Tryz.zeroValue153,
  t131 := Go.Proofs.Tryz.underlying148,
  a131 := Go.Proofs.Tryz.isAgg148,
  z131 := Go.Proofs.Tryz.sizeOf148,
  v131 := Go.Proofs.Tryz.zeroValue148,
  t182 := Go.Proofs.Tryz.underlying142,
  a182 := Go.Proofs.Tryz.isAgg142,
  z182 := Go.Proofs.Tryz.sizeOf142,
  v182 := Go.Proofs.Tryz.zeroValue142,
  t183 := Go.Proofs.Tryz.underlying143,
  a183 := Go.Proofs.Tryz.isAgg143,
  z183 := Go.Proofs.Tryz.sizeOf143,
  v183 := Go.Proofs.Tryz.zeroValue143,
  t218 := Go.Proofs.Tryz.underlying166,
  a218 := Go.Proofs.Tryz.isAgg166,
  z218 := Go.Proofs.Tryz.sizeOf166,
  v218 := Go.Proofs.Tryz.zeroValue166,
  t222 := Go.Proofs.Tryz.underlying170,
  a222 := Go.Proofs.Tryz.isAgg170,
  z222 := Go.Proofs.Tryz.sizeOf170,
  v222 := Go.Proofs.Tryz.zeroValue170,
  t228 := Go.Proofs.Tryz.underlying186,
  a228 := Go.Proofs.Tryz.isAgg186,
  z228 := Go.Proofs.Tryz.sizeOf186,
  v228 := Go.Proofs.Tryz.zeroValue186,
  t229 := Go.Proofs.Tryz.underlying187,
  a229 := Go.Proofs.Tryz.isAgg187,
  z229 := Go.Proofs.Tryz.sizeOf187,
  v229 := Go.Proofs.Tryz.zeroValue187 }
theorem h_SortAny {gl : Nat → Option PV} {H : Hp} {xs : List Int} (hne : xs ≠ []) (hl : xs.length ≤ 1000000) {b g : Nat} (hb : H.f b = some ⟨g, 1, xs.map pz⟩) : HSpec Go.Proofs.Tryz.prog gl 54 [.ref b g 0 xs.length] H (fun r G => r = .tup [] ∧ G = H.set b ⟨g, 1, (sortL xs).map pz⟩) :=
  h_sort_of (by kernel_rfl) (fun blk off cap zs w hH hb hs => Go.Proofs.Any.slices_Sort_int sort_lays blk off cap zs w hH hb hs) hne hl hb
end Go.Vm
end
