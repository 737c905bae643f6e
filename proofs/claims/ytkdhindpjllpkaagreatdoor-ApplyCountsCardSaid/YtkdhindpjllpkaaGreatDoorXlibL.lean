/- Laid. -/
import Derived.Test.YtkdhindpjllpkaaGreatDoorVmThree
import Derived.KernelRfl
import Derived.Test.YtkdhindpjllpkaaGreatDoorProg
import Derived.Test.YtkdhindpjllpkaaGreatDoorXedit
import Derived.Test.YtkdhindpjllpkaaGreatDoorLDelAll
import Derived.Shelf.Slices.Clone
set_option linter.unusedSimpArgs false
set_option linter.unusedVariables false
set_option maxRecDepth 100000
set_option maxHeartbeats 4000000
set_option exponentiation.threshold 2000
namespace Go.Vm
open Go
def clone_ren : Go.Shelf.Ren := ⟨fun | 15 => 176 | n => n, fun | 22 => 67 | 3 => 3 | 4 => 4 | n => n, fun | n => n⟩
theorem clone_lays : Go.Proofs.Lays2.n15 Go.Proofs.Tryz.prog clone_ren := {
  mixed := by kernel_rfl,
  f15 := Go.Proofs.Tryz.func176.trans (congrArg some (by kernel_rfl)),
  t3 := Go.Proofs.Tryz.underlying3,
  a3 := Go.Proofs.Tryz.isAgg3,
  z3 := Go.Proofs.Tryz.sizeOf3,
  v3 := Go.Proofs.Tryz.zeroValue3,
  t4 := Go.Proofs.Tryz.underlying4,
  a4 := Go.Proofs.Tryz.isAgg4,
  z4 := Go.Proofs.Tryz.sizeOf4,
  v4 := Go.Proofs.Tryz.zeroValue4,
  t22 := Go.Proofs.Tryz.underlying67,
  a22 := Go.Proofs.Tryz.isAgg67,
  z22 := Go.Proofs.Tryz.sizeOf67,
  v22 := Go.Proofs.Tryz.zeroValue67,
  i3 := by kernel_rfl }
def search_ren : Go.Shelf.Ren := ⟨fun | 25 => 178 | 31 => 200 | 32 => 201 | 37 => 218 | n => n, fun | 22 => 67 | 3 => 3 | 4 => 4 | 40 => 111 | 0 => 0 | n => n, fun | n => n⟩
theorem search_lays : Go.Proofs.Lays2.n25 Go.Proofs.Tryz.prog search_ren := {
  mixed := by kernel_rfl,
  f25 := Go.Proofs.Tryz.func178.trans (congrArg some (by kernel_rfl)),
  f31 := Go.Proofs.Tryz.func200.trans (congrArg some (by kernel_rfl)),
  f32 := Go.Proofs.Tryz.func201.trans (congrArg some (by kernel_rfl)),
  f37 := Go.Proofs.Tryz.func218.trans (congrArg some (by kernel_rfl)),
  t0 := Go.Proofs.Tryz.underlying0,
  a0 := Go.Proofs.Tryz.isAgg0,
  z0 := Go.Proofs.Tryz.sizeOf0,
  v0 := Go.Proofs.Tryz.zeroValue0,
  t3 := Go.Proofs.Tryz.underlying3,
  a3 := Go.Proofs.Tryz.isAgg3,
  z3 := Go.Proofs.Tryz.sizeOf3,
  v3 := Go.Proofs.Tryz.zeroValue3,
  t4 := Go.Proofs.Tryz.underlying4,
  a4 := Go.Proofs.Tryz.isAgg4,
  z4 := Go.Proofs.Tryz.sizeOf4,
  v4 := Go.Proofs.Tryz.zeroValue4,
  t22 := Go.Proofs.Tryz.underlying67,
  a22 := Go.Proofs.Tryz.isAgg67,
  z22 := Go.Proofs.Tryz.sizeOf67,
  v22 := Go.Proofs.Tryz.zeroValue67,
  t40 := Go.Proofs.Tryz.underlying111,
  a40 := Go.Proofs.Tryz.isAgg111,
  z40 := Go.Proofs.Tryz.sizeOf111,
  v40 := Go.Proofs.Tryz.zeroValue111 }
def growI_ren : Go.Shelf.Ren := ⟨fun | 4 => 202 | n => n, fun | 22 => 67 | 25 => 3 | 3 => 3 | 4 => 4 | 9 => 9 | 20 => 20 | 0 => 0 | n => n, fun | n => n⟩
theorem growI_lays : Go.Proofs.Lays8.n4 Go.Proofs.Tryz.prog growI_ren := {
  mixed := by kernel_rfl,
  f4 := ⟨"slices.Grow[[]int,int]", by decide, Go.Proofs.Tryz.func202.trans (congrArg some (by kernel_rfl))⟩,
  t0 := Go.Proofs.Tryz.underlying0,
  a0 := Go.Proofs.Tryz.isAgg0,
  z0 := Go.Proofs.Tryz.sizeOf0,
  v0 := Go.Proofs.Tryz.zeroValue0,
  t3 := Go.Proofs.Tryz.underlying3,
  a3 := Go.Proofs.Tryz.isAgg3,
  z3 := Go.Proofs.Tryz.sizeOf3,
  v3 := Go.Proofs.Tryz.zeroValue3,
  t4 := Go.Proofs.Tryz.underlying4,
  a4 := Go.Proofs.Tryz.isAgg4,
  z4 := Go.Proofs.Tryz.sizeOf4,
  v4 := Go.Proofs.Tryz.zeroValue4,
  t9 := Go.Proofs.Tryz.underlying9,
  a9 := Go.Proofs.Tryz.isAgg9,
  z9 := Go.Proofs.Tryz.sizeOf9,
  v9 := Go.Proofs.Tryz.zeroValue9,
  t20 := Go.Proofs.Tryz.underlying20,
  a20 := Go.Proofs.Tryz.isAgg20,
  z20 := Go.Proofs.Tryz.sizeOf20,
  v20 := Go.Proofs.Tryz.zeroValue20,
  t22 := Go.Proofs.Tryz.underlying67,
  a22 := Go.Proofs.Tryz.isAgg67,
  z22 := Go.Proofs.Tryz.sizeOf67,
  v22 := Go.Proofs.Tryz.zeroValue67 }
def growS_ren : Go.Shelf.Ren := ⟨fun | 4 => 180 | n => n, fun | 22 => 66 | 25 => 38 | 3 => 3 | 4 => 4 | 9 => 9 | 20 => 20 | 0 => 0 | n => n, fun | n => n⟩
theorem growS_lays : Go.Proofs.Lays8.n4 Go.Proofs.Tryz.prog growS_ren := {
  mixed := by kernel_rfl,
  f4 := ⟨"slices.Grow[[]bywash/api.Instr,bywash/api.Instr]", by decide, Go.Proofs.Tryz.func180.trans (congrArg some (by kernel_rfl))⟩,
  t0 := Go.Proofs.Tryz.underlying0,
  a0 := Go.Proofs.Tryz.isAgg0,
  z0 := Go.Proofs.Tryz.sizeOf0,
  v0 := Go.Proofs.Tryz.zeroValue0,
  t3 := Go.Proofs.Tryz.underlying3,
  a3 := Go.Proofs.Tryz.isAgg3,
  z3 := Go.Proofs.Tryz.sizeOf3,
  v3 := Go.Proofs.Tryz.zeroValue3,
  t4 := Go.Proofs.Tryz.underlying4,
  a4 := Go.Proofs.Tryz.isAgg4,
  z4 := Go.Proofs.Tryz.sizeOf4,
  v4 := Go.Proofs.Tryz.zeroValue4,
  t9 := Go.Proofs.Tryz.underlying9,
  a9 := Go.Proofs.Tryz.isAgg9,
  z9 := Go.Proofs.Tryz.sizeOf9,
  v9 := Go.Proofs.Tryz.zeroValue9,
  t20 := Go.Proofs.Tryz.underlying20,
  a20 := Go.Proofs.Tryz.isAgg20,
  z20 := Go.Proofs.Tryz.sizeOf20,
  v20 := Go.Proofs.Tryz.zeroValue20,
  t22 := Go.Proofs.Tryz.underlying66,
  a22 := Go.Proofs.Tryz.isAgg66,
  z22 := Go.Proofs.Tryz.sizeOf66,
  v22 := Go.Proofs.Tryz.zeroValue66 }
theorem h_Clone {gl : Nat → Option PV} {xs : List Int} (hne : xs ≠ []) (hl : xs.length ≤ 1000000) : Fresh Go.Proofs.Tryz.prog gl 176 [.sl (xs.map pz)] (.ref 0 0 0 xs.length) (Hp.ofL [some ⟨0, 1, xs.map pz⟩]) :=
  h_clone_of (by kernel_rfl) (clone_ren.t 3) (fun b off n c zs w => Go.Proofs.Any.slices_Clone_int clone_lays b off n c zs w) hne hl
theorem p_CloneNil {gl : Nat → Option PV} : Pure Go.Proofs.Tryz.prog gl 176 [.sl []] (.sl []) :=
  p_clone_nil (by kernel_rfl) (clone_ren.t 3) (fun n c w => Go.Proofs.Any.slices_Clone_int_nil clone_lays n c w) (fun a c w => Go.Proofs.Any.slices_Clone_int_zero clone_lays a c w)
theorem p_Search {gl : Nat → Option PV} {xs : List Int} (hs : xs.Pairwise (· ≤ ·)) (hl : xs.length ≤ 1000000) (x : Int) : Pure Go.Proofs.Tryz.prog gl 178 [.sl (xs.map pz), .int .i64 x] (.tup [.int .i64 (xs.countP (· < x) : Nat), .bool (xs.contains x)]) :=
  p_search_of (by kernel_rfl) (fun b off n c zs x w => Go.Proofs.Any.slices_BinarySearch_int search_lays b off n c zs x w) (fun a c x w => Go.Proofs.Any.slices_BinarySearch_int_empty search_lays a c x w) hs hl x
theorem h_GrowI {gl : Nat → Option PV} {n : Nat} (hn : n ≤ 1000000) {H : Hp} {b0 : Nat} (hb0 : H.n = b0) : HSpec Go.Proofs.Tryz.prog gl 202 [.lit [], .int .i64 n] H (fun r G => r = .ref b0 0 0 0 ∧ G = H.add [⟨0, 1, []⟩]) :=
  h_grow_of (by kernel_rfl) 3 (i0 := Go.Proofs.Tryz.t3) (z := .int .i64 0) rfl rfl (fun base l c n cs w => Go.Proofs.Any8.slices_Grow_grow growI_lays Go.Proofs.Tryz.t3 (.int .i64 0) (by kernel_rfl) rfl (by decide +kernel) base l c n cs w) (fun base l c n w => Go.Proofs.Any8.slices_Grow_room growI_lays base l c n w) rfl (by (have h8 : (Go.Proofs.Tryz.t3).bytes = 8 := by kernel_rfl); rw [h8]; omega) hn hb0
theorem h_GrowS {gl : Nat → Option PV} {n : Nat} (hn : n ≤ 1000000) {H : Hp} {b0 : Nat} (hb0 : H.n = b0) : HSpec Go.Proofs.Tryz.prog gl 180 [.lit [], .int .i64 n] H (fun r G => r = .ref b0 0 0 0 ∧ G = H.add [⟨0, 11, []⟩]) :=
  h_grow_of (by kernel_rfl) 38 (i0 := Go.Proofs.Tryz.t38) (z := .agg #[.int .i64 0, .int .i64 0, .int .i64 0, .int .i64 0, .int .i64 0, .int .i64 0, .int .i64 0, .int .i64 0, .int .i64 0, .int .i64 0, .int .i64 0]) rfl rfl (fun base l c n cs w => Go.Proofs.Any8.slices_Grow_grow growS_lays Go.Proofs.Tryz.t38 (.agg #[.int .i64 0, .int .i64 0, .int .i64 0, .int .i64 0, .int .i64 0, .int .i64 0, .int .i64 0, .int .i64 0, .int .i64 0, .int .i64 0, .int .i64 0]) (by kernel_rfl) rfl (by decide +kernel) base l c n cs w) (fun base l c n w => Go.Proofs.Any8.slices_Grow_room growS_lays base l c n w) rfl (by (have h8 : (Go.Proofs.Tryz.t38).bytes = 88 := by kernel_rfl); rw [h8]; omega) hn hb0
end Go.Vm
